/- Contracts of functions of the program, as shallow functions, and their proofs. -/
import Derived.Test.YtcgdbcfflaphhaaGreatDoorFa
import Derived.Test.YtcgdbcfflaphhaaGreatDoorFaP
open Go.Dn.L renaming int→zC,bool→yX,sl→yM,arr→zH,own→xS,ptr→xQ
open Go.Proofs.Tryz renaming prog→zG
open Int renaming tdiv→zP,tmod→zR,toNat→zF
open List renaming length→zI,set→zO,getD→zE,replicate→zB
open Option renaming isNone→wI
noncomputable section
set_option linter.all false
set_option maxRecDepth 100000
namespace Go.Dn.F
open Go.Proofs
variable {N:Nat} {g0:G} {w0:World} {R:Exit→Act→World→Prop}
structure Zbo where
  Salt:Int
  Period:Int
  Offset:Int
def Zbo.ls (x:Zbo):List L:=[zC .i64 x.Salt,zC .i64 x.Period,zC .i64 x.Offset]
theorem Zbo.bv {st:LL} (x:Zbo):BVs st x.ls x.ls:=(bP (bP (bP bN)))
structure Zbc where
  P:Zak
  Base:LL
  Plan:Zbo
  Size:Int
  Now:Int
def Zbc.ls (x:Zbc):List L:=[zC .i64 x.P.Limit,zC .i64 x.P.Interval,zC .i64 x.P.Spacing,zC .i64 x.P.Future,yX x.P.Easy,yM 2 x.P.Gates,yM 33 x.P.Checks,zH .u64 4 x.P.MinWork,zH .u64 4 x.P.Margin,zC .i64 x.P.Genesis.Version,zH .u8 32 x.P.Genesis.Prev,zH .u8 32 x.P.Genesis.Root,zC .i64 x.P.Genesis.Time,zC .i64 x.P.Genesis.Bits,zC .i64 x.P.Genesis.Nonce,yM 68 x.Base,zC .i64 x.Plan.Salt,zC .i64 x.Plan.Period,zC .i64 x.Plan.Offset,zC .i64 x.Size,zC .i64 x.Now]
structure ZdE where
  Spot:Zat
  Work:List Int
def ZdE.ls (x:ZdE):List L:=[zC .i64 x.Spot.Point.Height,zC .i64 x.Spot.Point.Bits,zC .i64 x.Spot.Point.Time,zC .i64 x.Spot.Point.First,zC .i64 x.Spot.Point.Hard,zH .u8 32 x.Spot.Prev,yM 1 x.Spot.Times,zH .u64 4 x.Work]
structure Zax where
  Plan:Zbo
  words:LL
  given:Int
  met:Int
def Zax.lo (x:Zax):List L:=[zC .i64 x.Plan.Salt,zC .i64 x.Plan.Period,zC .i64 x.Plan.Offset,xS true 1 x.words,zC .i64 x.given,zC .i64 x.met]
def Zbn {α:Type} (l:List L) (k:Zax→Option α):Option α:=match l with
  | [zC .i64 x0,zC .i64 x1,zC .i64 x2,xS true 1 x3,zC .i64 x4,zC .i64 x5]=>k ⟨⟨x0,x1,x2⟩,x3,x4,x5⟩
  | _=>none
theorem Zbw {α:Type} {o:Option (List L)} {k:Zax→Option α} {r:α} (h:getE o Zbn k=some r) : ∃x:Zax,o=some x.lo∧k x=some r:=by
  obtain ⟨l,e,k1⟩:=Zae h;subst e;unfold Zbn at k1;split at k1
  · exact ⟨_,rfl,k1⟩
  · cases k1
@[simp] theorem ZbW {α:Type} (x:Zax) (k:Zax→Option α):Zbn x.lo k=k x:=rfl
structure Zck where
  Height:Int
  Version:Int
def Zck.ls (x:Zck):List L:=[zC .i64 x.Height,zC .i64 x.Version]
def ZdT {α:Type} (l:List L) (k:Zck→Option α):Option α:=match l with
  | [zC .i64 x0,zC .i64 x1]=>k ⟨x0,x1⟩
  | _=>none
theorem ZdX {α:Type} {o:Option (List L)} {k:Zck→Option α} {r:α} (h:getE o ZdT k=some r) : ∃x:Zck,o=some x.ls∧k x=some r:=by
  obtain ⟨l,e,k1⟩:=Zae h;subst e;unfold ZdT at k1;split at k1
  · exact ⟨_,rfl,k1⟩
  · cases k1
@[simp] theorem Zei {α:Type} (x:Zck) (k:Zck→Option α):ZdT x.ls k=k x:=rfl
theorem Zck.bv {st:LL} (x:Zck):BVs st x.ls x.ls:=(bP (bP bN))
structure ZbO where
  Height:Int
  Id:List Int
def ZbO.ls (x:ZbO):List L:=[zC .i64 x.Height,zH .u8 32 x.Id]
def ZdG {α:Type} (l:List L) (k:ZbO→Option α):Option α:=match l with
  | [zC .i64 x0,zH .u8 32 x1]=>k ⟨x0,x1⟩
  | _=>none
theorem ZdP {α:Type} {o:Option (List L)} {k:ZbO→Option α} {r:α} (h:getE o ZdG k=some r) : ∃x:ZbO,o=some x.ls∧k x=some r:=by
  obtain ⟨l,e,k1⟩:=Zae h;subst e;unfold ZdG at k1;split at k1
  · exact ⟨_,rfl,k1⟩
  · cases k1
@[simp] theorem ZdY {α:Type} (x:ZbO) (k:ZbO→Option α):ZdG x.ls k=k x:=rfl
theorem ZbO.bv {st:LL} (x:ZbO):BVs st x.ls x.ls:=(bP (bP bN))
def Zax.ls (x:Zax):List L:=[zC .i64 x.Plan.Salt,zC .i64 x.Plan.Period,zC .i64 x.Plan.Offset,yM 1 x.words,zC .i64 x.given,zC .i64 x.met]
theorem Zax.bv {st:LL} (x:Zax):BVs st x.lo x.ls:=(bP (bP (bP (bW (bP (bP bN))))))
structure ZaH where
  Spot:Zat
  work:List Int
def ZaH.ls (x:ZaH):List L:=[zC .i64 x.Spot.Point.Height,zC .i64 x.Spot.Point.Bits,zC .i64 x.Spot.Point.Time,zC .i64 x.Spot.Point.First,zC .i64 x.Spot.Point.Hard,zH .u8 32 x.Spot.Prev,yM 1 x.Spot.Times,zH .u64 4 x.work]
structure ZaG where
  rules:Zak
  start:ZaH
  point:ZaH
  book:Zax
  phase:Int
  most:Int
  size:Int
  buffer:LL
def ZaG.ls (x:ZaG):List L:=[zC .i64 x.rules.Limit,zC .i64 x.rules.Interval,zC .i64 x.rules.Spacing,zC .i64 x.rules.Future,yX x.rules.Easy,yM 2 x.rules.Gates,yM 33 x.rules.Checks,zH .u64 4 x.rules.MinWork,zH .u64 4 x.rules.Margin,zC .i64 x.rules.Genesis.Version,zH .u8 32 x.rules.Genesis.Prev,zH .u8 32 x.rules.Genesis.Root,zC .i64 x.rules.Genesis.Time,zC .i64 x.rules.Genesis.Bits,zC .i64 x.rules.Genesis.Nonce,zC .i64 x.start.Spot.Point.Height,zC .i64 x.start.Spot.Point.Bits,zC .i64 x.start.Spot.Point.Time,zC .i64 x.start.Spot.Point.First,zC .i64 x.start.Spot.Point.Hard,zH .u8 32 x.start.Spot.Prev,yM 1 x.start.Spot.Times,zH .u64 4 x.start.work,zC .i64 x.point.Spot.Point.Height,zC .i64 x.point.Spot.Point.Bits,zC .i64 x.point.Spot.Point.Time,zC .i64 x.point.Spot.Point.First,zC .i64 x.point.Spot.Point.Hard,zH .u8 32 x.point.Spot.Prev,yM 1 x.point.Spot.Times,zH .u64 4 x.point.work,L.bx 6 x.book.ls,zC .i64 x.phase,zC .i64 x.most,zC .i64 x.size,yM 68 x.buffer]
structure Zbr where
  List_:LL
  Now:Int
  More:Bool
def Zbr.ls (x:Zbr):List L:=[yM 68 x.List_,zC .i64 x.Now,yX x.More]
def ZcN {α:Type} (l:List L) (k:Zbr→Option α):Option α:=match l with
  | [yM 68 x0,zC .i64 x1,yX x2]=>k ⟨x0,x1,x2⟩
  | _=>none
theorem ZdS {α:Type} {o:Option (List L)} {k:Zbr→Option α} {r:α} (h:getE o ZcN k=some r) : ∃x:Zbr,o=some x.ls∧k x=some r:=by
  obtain ⟨l,e,k1⟩:=Zae h;subst e;unfold ZcN at k1;split at k1
  · exact ⟨_,rfl,k1⟩
  · cases k1
@[simp] theorem ZdW {α:Type} (x:Zbr) (k:Zbr→Option α):ZcN x.ls k=k x:=rfl
structure Zab where
  P:Zak
  Base:LL
  Seen:LL
  Twice:LL
  Told:Int
  Salt:Int
  Period:Int
  Offset:Int
  Size:Int
  Most:Int
  Phase:Int
def Zab.lo (x:Zab):List L:=[zC .i64 x.P.Limit,zC .i64 x.P.Interval,zC .i64 x.P.Spacing,zC .i64 x.P.Future,yX x.P.Easy,yM 2 x.P.Gates,yM 33 x.P.Checks,zH .u64 4 x.P.MinWork,zH .u64 4 x.P.Margin,zC .i64 x.P.Genesis.Version,zH .u8 32 x.P.Genesis.Prev,zH .u8 32 x.P.Genesis.Root,zC .i64 x.P.Genesis.Time,zC .i64 x.P.Genesis.Bits,zC .i64 x.P.Genesis.Nonce,yM 68 x.Base,xS true 68 x.Seen,xS false 68 x.Twice,zC .i64 x.Told,zC .i64 x.Salt,zC .i64 x.Period,zC .i64 x.Offset,zC .i64 x.Size,zC .i64 x.Most,zC .i64 x.Phase]
def Zbe {α:Type} (l:List L) (k:Zab→Option α):Option α:=match l with
  | [zC .i64 x0,zC .i64 x1,zC .i64 x2,zC .i64 x3,yX x4,yM 2 x5,yM 33 x6,zH .u64 4 x7,zH .u64 4 x8,zC .i64 x9,zH .u8 32 x10,zH .u8 32 x11,zC .i64 x12,zC .i64 x13,zC .i64 x14,yM 68 x15,xS true 68 x16,xS false 68 x17,zC .i64 x18,zC .i64 x19,zC .i64 x20,zC .i64 x21,zC .i64 x22,zC .i64 x23,zC .i64 x24]=>k ⟨⟨x0,x1,x2,x3,x4,x5,x6,x7,x8,⟨x9,x10,x11,x12,x13,x14⟩⟩,x15,x16,x17,x18,x19,x20,x21,x22,x23,x24⟩
  | _=>none
theorem Zbj {α:Type} {o:Option (List L)} {k:Zab→Option α} {r:α} (h:getE o Zbe k=some r) : ∃x:Zab,o=some x.lo∧k x=some r:=by
  obtain ⟨l,e,k1⟩:=Zae h;subst e;unfold Zbe at k1;split at k1
  · exact ⟨_,rfl,k1⟩
  · cases k1
@[simp] theorem Zbg {α:Type} (x:Zab) (k:Zab→Option α):Zbe x.lo k=k x:=rfl
def Zab.ls (x:Zab):List L:=[zC .i64 x.P.Limit,zC .i64 x.P.Interval,zC .i64 x.P.Spacing,zC .i64 x.P.Future,yX x.P.Easy,yM 2 x.P.Gates,yM 33 x.P.Checks,zH .u64 4 x.P.MinWork,zH .u64 4 x.P.Margin,zC .i64 x.P.Genesis.Version,zH .u8 32 x.P.Genesis.Prev,zH .u8 32 x.P.Genesis.Root,zC .i64 x.P.Genesis.Time,zC .i64 x.P.Genesis.Bits,zC .i64 x.P.Genesis.Nonce,yM 68 x.Base,yM 68 x.Seen,yM 68 x.Twice,zC .i64 x.Told,zC .i64 x.Salt,zC .i64 x.Period,zC .i64 x.Offset,zC .i64 x.Size,zC .i64 x.Most,zC .i64 x.Phase]
theorem Zab.bv {st:LL} (x:Zab):BVs st x.lo x.ls:=(bP (bP (bP (bP (bP (bS (bS (bP (bP (bP (bP (bP (bP (bP (bP (bS (bW (bW (bP (bP (bP (bP (bP (bP (bP bN)))))))))))))))))))))))))
def ZgS {α:Type} (l:List L) (k:(List Int)→Option α):Option α:=match l with
  | [zH .u64 4 x0]=>k x0
  | _=>none
theorem ZjT {α:Type} {o:Option (List L)} {k:(List Int)→Option α} {r:α} (h:getE o ZgS k=some r) : ∃x0,o=some [zH .u64 4 x0]∧k x0=some r:=by
  obtain ⟨l,e,k1⟩:=Zae h;subst e;unfold ZgS at k1;split at k1
  · exact ⟨_,rfl,k1⟩
  · cases k1
@[simp] theorem dec_u64x4_ls {α:Type} (x0:List Int) (k:(List Int)→Option α):ZgS [zH .u64 4 x0] k=k x0:=rfl
def Zbm {α:Type} (l:List L) (k:Int→Int→Int→Int→Bool→LL→LL→(List Int)→(List Int)→Int→(List Int)→(List Int)→Int→Int→Int→Int→Int→Int→Int→Int→(List Int)→LL→(List Int)→Int→Int→Int→Int→Int→(List Int)→LL→(List Int)→(Option Nat)→Int→Int→Int→LL→Option α):Option α:=match l with
  | (zC .i64 x0::zC .i64 x1::zC .i64 x2::zC .i64 x3::yX x4::yM 2 x5::yM 33 x6::zH .u64 4 x7::zH .u64 4 x8::zC .i64 x9::zH .u8 32 x10::zH .u8 32 x11::zC .i64 x12::zC .i64 x13::zC .i64 x14::zC .i64 x15::zC .i64 x16::zC .i64 x17::zC .i64 x18::zC .i64 x19::zH .u8 32 x20::yM 1 x21::zH .u64 4 x22::zC .i64 x23::zC .i64 x24::zC .i64 x25::zC .i64 x26::zC .i64 x27::zH .u8 32 x28::yM 1 x29::zH .u64 4 x30::xQ x31::zC .i64 x32::zC .i64 x33::zC .i64 x34::xS true 68 x35 :: [])=>k x0 x1 x2 x3 x4 x5 x6 x7 x8 x9 x10 x11 x12 x13 x14 x15 x16 x17 x18 x19 x20 x21 x22 x23 x24 x25 x26 x27 x28 x29 x30 x31 x32 x33 x34 x35
  | _=>none
theorem Zbb {α:Type} {o:Option (List L)} {k:Int→Int→Int→Int→Bool→LL→LL→(List Int)→(List Int)→Int→(List Int)→(List Int)→Int→Int→Int→Int→Int→Int→Int→Int→(List Int)→LL→(List Int)→Int→Int→Int→Int→Int→(List Int)→LL→(List Int)→(Option Nat)→Int→Int→Int→LL→Option α} {r:α} (h:getE o Zbm k=some r) : ∃x0 x1 x2 x3 x4 x5 x6 x7 x8 x9 x10 x11 x12 x13 x14 x15 x16 x17 x18 x19 x20 x21 x22 x23 x24 x25 x26 x27 x28 x29 x30 x31 x32 x33 x34 x35,o=some (zC .i64 x0::zC .i64 x1::zC .i64 x2::zC .i64 x3::yX x4::yM 2 x5::yM 33 x6::zH .u64 4 x7::zH .u64 4 x8::zC .i64 x9::zH .u8 32 x10::zH .u8 32 x11::zC .i64 x12::zC .i64 x13::zC .i64 x14::zC .i64 x15::zC .i64 x16::zC .i64 x17::zC .i64 x18::zC .i64 x19::zH .u8 32 x20::yM 1 x21::zH .u64 4 x22::zC .i64 x23::zC .i64 x24::zC .i64 x25::zC .i64 x26::zC .i64 x27::zH .u8 32 x28::yM 1 x29::zH .u64 4 x30::xQ x31::zC .i64 x32::zC .i64 x33::zC .i64 x34::xS true 68 x35 :: [])∧k x0 x1 x2 x3 x4 x5 x6 x7 x8 x9 x10 x11 x12 x13 x14 x15 x16 x17 x18 x19 x20 x21 x22 x23 x24 x25 x26 x27 x28 x29 x30 x31 x32 x33 x34 x35=some r:=by
  obtain ⟨l,e,k1⟩:=Zae h;subst e;unfold Zbm at k1;split at k1
  · exact ⟨_,_,_,_,_,_,_,_,_,_,_,_,_,_,_,_,_,_,_,_,_,_,_,_,_,_,_,_,_,_,_,_,_,_,_,_,rfl,k1⟩
  · cases k1
@[simp] theorem Zlp {α:Type} (x0:Int) (x1:Int) (x2:Int) (x3:Int) (x4:Bool) (x5:LL) (x6:LL) (x7:List Int) (x8:List Int) (x9:Int) (x10:List Int) (x11:List Int) (x12:Int) (x13:Int) (x14:Int) (x15:Int) (x16:Int) (x17:Int) (x18:Int) (x19:Int) (x20:List Int) (x21:LL) (x22:List Int) (x23:Int) (x24:Int) (x25:Int) (x26:Int) (x27:Int) (x28:List Int) (x29:LL) (x30:List Int) (x31:Option Nat) (x32:Int) (x33:Int) (x34:Int) (x35:LL) (k:Int→Int→Int→Int→Bool→LL→LL→(List Int)→(List Int)→Int→(List Int)→(List Int)→Int→Int→Int→Int→Int→Int→Int→Int→(List Int)→LL→(List Int)→Int→Int→Int→Int→Int→(List Int)→LL→(List Int)→(Option Nat)→Int→Int→Int→LL→Option α):Zbm (zC .i64 x0::zC .i64 x1::zC .i64 x2::zC .i64 x3::yX x4::yM 2 x5::yM 33 x6::zH .u64 4 x7::zH .u64 4 x8::zC .i64 x9::zH .u8 32 x10::zH .u8 32 x11::zC .i64 x12::zC .i64 x13::zC .i64 x14::zC .i64 x15::zC .i64 x16::zC .i64 x17::zC .i64 x18::zC .i64 x19::zH .u8 32 x20::yM 1 x21::zH .u64 4 x22::zC .i64 x23::zC .i64 x24::zC .i64 x25::zC .i64 x26::zC .i64 x27::zH .u8 32 x28::yM 1 x29::zH .u64 4 x30::xQ x31::zC .i64 x32::zC .i64 x33::zC .i64 x34::xS true 68 x35 :: []) k=k x0 x1 x2 x3 x4 x5 x6 x7 x8 x9 x10 x11 x12 x13 x14 x15 x16 x17 x18 x19 x20 x21 x22 x23 x24 x25 x26 x27 x28 x29 x30 x31 x32 x33 x34 x35:=rfl
def Zgu {α:Type} (l:List L) (k:Int→Option α):Option α:=match l with
  | [zC .u64 x0]=>k x0
  | _=>none
theorem Zgt {α:Type} {o:Option (List L)} {k:Int→Option α} {r:α} (h:getE o Zgu k=some r) : ∃x0,o=some [zC .u64 x0]∧k x0=some r:=by
  obtain ⟨l,e,k1⟩:=Zae h;subst e;unfold Zgu at k1;split at k1
  · exact ⟨_,rfl,k1⟩
  · cases k1
@[simp] theorem Zjl {α:Type} (x0:Int) (k:Int→Option α):Zgu [zC .u64 x0] k=k x0:=rfl
def ZnD {α:Type} (l:List L) (k:Bool→Option α):Option α:=match l with
  | [yX x0]=>k x0
  | _=>none
theorem ZkU {α:Type} {o:Option (List L)} {k:Bool→Option α} {r:α} (h:getE o ZnD k=some r) : ∃x0,o=some [yX x0]∧k x0=some r:=by
  obtain ⟨l,e,k1⟩:=Zae h;subst e;unfold ZnD at k1;split at k1
  · exact ⟨_,rfl,k1⟩
  · cases k1
@[simp] theorem Zmd {α:Type} (x0:Bool) (k:Bool→Option α):ZnD [yX x0] k=k x0:=rfl
theorem slices_Sort_int.snd:SortC zG 195:=slices_Sort_int.holds
theorem Zds.snd {x y z:Int} {r:Int×Int} (h:Zds N x y z=some r):ExtI zG 205 [(.u64,x),(.u64,y),(.u64,z)] [(.u64,r.1),(.u64,r.2)]:=ZiN Tryz.func205 (by kernel_rfl) (by kernel_rfl) (by kernel_rfl) (by kernel_rfl) h
theorem Zen.snd {x y z:Int} {r:Int×Int} (h:Zen N x y z=some r):ExtI zG 223 [(.u64,x),(.u64,y),(.u64,z)] [(.u64,r.1),(.u64,r.2)]:=ZiM Tryz.func223 (by kernel_rfl) (by kernel_rfl) (by kernel_rfl) (by kernel_rfl) h
def ZcF.B:Code:=Tryz.f68.body.getD .skip
def ZcF.rs (r:Bool):List CV:=[oB r]
def ZcF (N:Nat) (p_0:Zbo):Option Bool:=
 if (decide (p_0.Period≥1))=true then
  if (decide (p_0.Period≤64))=true then
   if (decide (p_0.Offset≥0))=true then
    some (decide (p_0.Offset<p_0.Period))
   else
   some false
  else
  some false
 else
 some false
theorem ZcF.snd {p_0:Zbo} {r:Bool} (h:ZcF N p_0=some r):SndQ zG 68 [.agg p_0.ls] (ZcF.rs r):=fun st=>
 sO ZcF.B Tryz.func68 fun g0 w0 R hE=>by
  unfold ZcF at h
  refine iteB h (fun c1 h1=>?_) (fun c1 h2=>?_)
  ·refine iteB h1 (fun c2 h3=>?_) (fun c2 h4=>?_)
   ·refine iteB h3 (fun c3 h5=>?_) (fun c3 h6=>?_)
    ·obtain rfl:=Zac h5
     exact af fol hE [.r [],.r []] [] 0 [] (aO c1 c1 c1 c1 c2 c2 c2 (aN c2 c3 c3 c3 c3 c3 c3))
    ·obtain rfl:=Zac h6
     exact af fol hE [.r [],.r [(14,wF),(15,wF),(16,wF),(17,wF),(18,wF),(19,yF)]] [] 0 [] (aO c1 c1 c1 c1 c2 c2 c2 (aN c2 c3 c3 c3 c3 c3 c3))
   ·obtain rfl:=Zac h4
    exact af fol hE [.r [],.r [(9,wF),(10,wF),(11,wF),(12,yF),(14,wF),(15,wF),(16,wF),(17,wF),(18,wF),(19,yF)]] [] 0 [] (aO c1 c1 c1 c1 c2 c2 c2 (aN c2 eF eF eF eF eF eF))
  ·obtain rfl:=Zac h2
   exact af fol hE [.r [],.r [(4,wF),(5,wF),(6,wF),(7,yF),(9,wF),(10,wF),(11,wF),(12,yF),(14,wF),(15,wF),(16,wF),(17,wF),(18,wF),(19,yF)]] [] 0 [] (aO c1 c1 c1 c1 eF eF eF (aN eF eF eF eF eF eF eF))
def Zea.B:Code:=Tryz.f161.body.getD .skip
def Zea.rs (r:(Option Nat)×Int×LL):List CV:=[.one (xQ r.1),oI r.2.1]
def Zea (N:Nat) (p_0:Zbo) (st:LL):Option ((Option Nat)×Int×LL):=
 optE (ZcF N p_0) fun x1=>
 if (!x1)=true then
  some (none,1,st)
 else
 some ((some (zI st)),0,st ++ [Zax.lo (Zax.mk p_0 [] 0 0)])
theorem Zea.snd {p_0:Zbo} {st:LL} {r:(Option Nat)×Int×LL} (h:Zea N p_0 st=some r):Snd zG 161 [.agg p_0.ls] st (Zea.rs r) r.2.2:=
 sO Zea.B Tryz.func161 fun g0 w0 R hE=>by
  unfold Zea at h
  obtain ⟨x1,c1,h1⟩:=Zae h
  let o1:List PS:=[.r [],.r [(1,q1 [oB x1])]]
  refine iteB h1 (fun c2 h2=>?_) (fun c2 h3=>?_)
  ·obtain rfl:=Zac h2
   exact af fol hE (o1 ++ [.c true,.r []]) [] 0 [] (aI (ZcF.snd c1) c2)
  ·obtain rfl:=Zac h3
   exact af fol hE (o1 ++ [.c false,.r [(1,{ns:=[3]}),(2,{m:=1})]]) [] 0 [] (aI (ZcF.snd c1) c2)
def ZcW.B:Code:=Tryz.f176.body.getD .skip
def ZcW.rs (r:(List Int)):List CV:=[.agg [zH .u64 4 r]]
def ZcW (N:Nat) (n_0:Int):Option (List Int):=
 some [n_0,0,0,0]
theorem ZcW.snd {n_0:Int} {r:(List Int)} (h:ZcW N n_0=some r):SndQ zG 176 [.one (zC .u64 n_0)] (ZcW.rs r):=fun st=>
 sO ZcW.B Tryz.func176 fun g0 w0 R hE=>by
  unfold ZcW at h
  obtain rfl:=Zac h
  exact af fol hE [.r [],.r [(1,{m:=3})]] [] 0 [] trivial
def Zbi.B:Code:=Tryz.f177.body.getD .skip
def Zbi.rs (r:(List Int)):List CV:=[.agg [zH .u64 4 r]]
def Zbi.p2 (N:Nat) (c1_:(Int×(List Int))→Option (List Int)) (n_1 v1:Int) (a_0_0 out_4:List Int):Option (List Int):=
 c1_ (w64 (v1+1),out_4)
def Zbi.p1 (N:Nat) (n_1:Int) (a_0_0:List Int) (c1_:(Int×(List Int))→Option (List Int)):(Int×(List Int))→Option (List Int):=fun (v1,out_3)=>
 if (decide (v1<(w64 (4-(w64 (zP (if (0:Int)>n_1 then 0 else n_1) 64))))))=true then
  chk (0≤(w64 (v1+(w64 (zP (if (0:Int)>n_1 then 0 else n_1) 64)))))<|
  chk ((w64 (v1+(w64 (zP (if (0:Int)>n_1 then 0 else n_1) 64))))<4)<|
  chk (0≤(zR (if (0:Int)>n_1 then 0 else n_1) 64))<|
  chk (0≤v1)<|
  chk (v1<4)<|
  if (decide ((w64 ((w64 (v1+(w64 (zP (if (0:Int)>n_1 then 0 else n_1) 64))))+1))<4))=true then
   chk (0≤(w64 ((w64 (v1+(w64 (zP (if (0:Int)>n_1 then 0 else n_1) 64))))+1)))<|
   chk (0≤(w64 (64-(zR (if (0:Int)>n_1 then 0 else n_1) 64))))<|
   Zbi.p2 N c1_ n_1 v1 a_0_0 (zO (zO out_3 (zF v1) (shrOf .u64 (zE a_0_0 (zF (w64 (v1+(w64 (zP (if (0:Int)>n_1 then 0 else n_1) 64))))) 0) (zR (if (0:Int)>n_1 then 0 else n_1) 64))) (zF v1) (bitsOf .or .u64 (zE (zO out_3 (zF v1) (shrOf .u64 (zE a_0_0 (zF (w64 (v1+(w64 (zP (if (0:Int)>n_1 then 0 else n_1) 64))))) 0) (zR (if (0:Int)>n_1 then 0 else n_1) 64))) (zF v1) 0) (shlOf .u64 (zE a_0_0 (zF (w64 ((w64 (v1+(w64 (zP (if (0:Int)>n_1 then 0 else n_1) 64))))+1))) 0) (w64 (64-(zR (if (0:Int)>n_1 then 0 else n_1) 64))))))
  else
  Zbi.p2 N c1_ n_1 v1 a_0_0 (zO out_3 (zF v1) (shrOf .u64 (zE a_0_0 (zF (w64 (v1+(w64 (zP (if (0:Int)>n_1 then 0 else n_1) 64))))) 0) (zR (if (0:Int)>n_1 then 0 else n_1) 64)))
 else
 some out_3
def Zbi (N:Nat) (a_0_0:List Int) (n_1:Int):Option (List Int):=
 if (decide (n_1≥256))=true then
  some (zB 4 0)
 else
 loopN (Zbi.p1 N n_1 a_0_0) N (0,zB 4 0)
def Zbi.p2.S (n_1 v1:Int) (a_0_0 out_4:List Int) (st:LL):S:=mkS 53 [(2,sA 2),(4,sA 4),(5,sA 5),(6,sI (w64 (zP (if (0:Int)>n_1 then 0 else n_1) 64))),(7,sI (zR (if (0:Int)>n_1 then 0 else n_1) 64)),(19,sI (w64 (4-(w64 (zP (if (0:Int)>n_1 then 0 else n_1) 64))))),(20,sI v1)] [(2,.cells [zH .u64 4 a_0_0]),(4,.cells [zH .u64 4 (zB 4 0)]),(5,.cells [zH .u64 4 out_4])] st
def Zbi.p1.S (n_1 v1:Int) (a_0_0 out_3:List Int) (st:LL):S:=mkS 53 [(2,sA 2),(4,sA 4),(5,sA 5),(6,sI (w64 (zP (if (0:Int)>n_1 then 0 else n_1) 64))),(7,sI (zR (if (0:Int)>n_1 then 0 else n_1) 64)),(19,sI (w64 (4-(w64 (zP (if (0:Int)>n_1 then 0 else n_1) 64))))),(20,sI v1)] [(2,.cells [zH .u64 4 a_0_0]),(4,.cells [zH .u64 4 (zB 4 0)]),(5,.cells [zH .u64 4 out_3])] st
theorem Zbi.p2_ok {n_1 v1 a_0_0 out_4 st r c1_ J1} (h:Zbi.p2 N c1_ n_1 v1 a_0_0 out_4=some r) (hE:En Tryz.f177 g0 w0 (Zbi.rs r) st R) (hc1 : ∀v1 out_3,c1_ (v1,out_3)=some r→At g0 w0 (Zbi.p1.S n_1 v1 a_0_0 out_3 st) J1):At g0 w0 (Zbi.p2.S n_1 v1 a_0_0 out_4 st) (XK zG R [.c (csub Zbi.B [1,1,1,1,0,1,0,0,1,1,1]),.h J1,.b 0,.c (csub Zbi.B [1,1,1,1,1])]):=by
 unfold Zbi.p2 at h
 exact an fol [.r []] [2,4,5,6,7,19,20] [2,4,5] trivial (hc1 (w64 (v1+1)) out_4 h)
theorem Zbi.p1_ok {n_1 v1 a_0_0 out_3 st r c1_ J1} (h:Zbi.p1 N n_1 a_0_0 c1_ (v1,out_3)=some r) (hE:En Tryz.f177 g0 w0 (Zbi.rs r) st R) (hc1 : ∀v1 out_3,c1_ (v1,out_3)=some r→At g0 w0 (Zbi.p1.S n_1 v1 a_0_0 out_3 st) J1):At g0 w0 (Zbi.p1.S n_1 v1 a_0_0 out_3 st) (XK zG R (.c (csub Zbi.B [1,1,1,1,0,1,0,0]) :: .h J1 :: [.b 0,.c (csub Zbi.B [1,1,1,1,1])])):=by
 unfold Zbi.p1 at h
 refine iteB h (fun c11 h1=>?_) (fun c11 h2=>?_)
 ·obtain ⟨c12,c13,c14,c15,c16,h3⟩:=ck5 h1
  let o1:List PS:=[.r [],.c true,.r [],.r [],.r []]
  refine iteB h3 (fun c17 h4=>?_) (fun c17 h5=>?_)
  ·obtain ⟨c18,c19,h6⟩:=ck2 h4
   exact aqd fol (o1 ++ [.c true,.d {ds:=[],hv:=16384,Hs:=[16384]},.s 4]) [2,4,5,6,7,19,20] [2,4,5] (aO c11 c12 c13 c14 c15 c16 c17 (aN c15 c16 c18 (oD c17) c19 c15 c16)) (Zbi.p2_ok h6 hE hc1)
  ·exact aq fol (o1 ++ [.c false,.s 4]) [2,4,5,6,7,19,20] [2,4,5] (aN c11 c12 c13 c14 c15 c16 c17) (Zbi.p2_ok h5 hE hc1)
 ·obtain rfl:=Zac h2
  exact af fol hE [.r [],.c false,.r []] [] 0 [] c11
theorem Zbi.snd {a_0_0:List Int} {n_1:Int} {r:(List Int)} (h:Zbi N a_0_0 n_1=some r):SndQ zG 177 [.agg [zH .u64 4 a_0_0],oI n_1] (Zbi.rs r):=fun st=>
 sO Zbi.B Tryz.func177 fun g0 w0 R hE=>by
  unfold Zbi at h
  refine iteB h (fun c1 h7=>?_) (fun c1 h8=>?_)
  ·obtain rfl:=Zac h7
   exact af fol hE [.r [],.r [],.c true,.r []] [] 0 [] c1
  ·exact aq fol [.r [],.r [],.c false,.r [],.r [],.r []] [2,4,5,6,7,19,20] [2,4,5] (aJ c1 (neI 64) (neI 64)) (At.loop N (At.loopN (fun y:Int×(List Int)=>Zbi.p1.S n_1 y.1 a_0_0 y.2 st) (fun c J hc y h=>Zbi.p1_ok (v1:=y.1) (out_3:=y.2) h hE (fun v1 out_3=>hc (v1,out_3))) N (0,zB 4 0) h8))
def ZbF.B:Code:=Tryz.f178.body.getD .skip
def ZbF.rs (r:(List Int)):List CV:=[.agg [zH .u64 4 r]]
def ZbF.p2 (N:Nat) (c1_:(Int×(List Int))→Option (List Int)) (n_1 i_1:Int) (a_0_0 out_4:List Int):Option (List Int):=
 c1_ (w64 (i_1+1),out_4)
def ZbF.p1 (N:Nat) (n_1:Int) (a_0_0:List Int) (c1_:(Int×(List Int))→Option (List Int)):(Int×(List Int))→Option (List Int):=fun (i_1,out_3)=>
 if (decide (i_1<4))=true then
  chk (0≤(w64 (i_1-(w64 (zP (if (0:Int)>n_1 then 0 else n_1) 64)))))<|
  chk ((w64 (i_1-(w64 (zP (if (0:Int)>n_1 then 0 else n_1) 64))))<4)<|
  chk (0≤(zR (if (0:Int)>n_1 then 0 else n_1) 64))<|
  chk (0≤i_1)<|
  if (decide (i_1>(w64 (zP (if (0:Int)>n_1 then 0 else n_1) 64))))=true then
   chk (0≤(w64 ((w64 (i_1-(w64 (zP (if (0:Int)>n_1 then 0 else n_1) 64))))-1)))<|
   chk ((w64 ((w64 (i_1-(w64 (zP (if (0:Int)>n_1 then 0 else n_1) 64))))-1))<4)<|
   chk (0≤(w64 (64-(zR (if (0:Int)>n_1 then 0 else n_1) 64))))<|
   ZbF.p2 N c1_ n_1 i_1 a_0_0 (zO (zO out_3 (zF i_1) (shlOf .u64 (zE a_0_0 (zF (w64 (i_1-(w64 (zP (if (0:Int)>n_1 then 0 else n_1) 64))))) 0) (zR (if (0:Int)>n_1 then 0 else n_1) 64))) (zF i_1) (bitsOf .or .u64 (zE (zO out_3 (zF i_1) (shlOf .u64 (zE a_0_0 (zF (w64 (i_1-(w64 (zP (if (0:Int)>n_1 then 0 else n_1) 64))))) 0) (zR (if (0:Int)>n_1 then 0 else n_1) 64))) (zF i_1) 0) (shrOf .u64 (zE a_0_0 (zF (w64 ((w64 (i_1-(w64 (zP (if (0:Int)>n_1 then 0 else n_1) 64))))-1))) 0) (w64 (64-(zR (if (0:Int)>n_1 then 0 else n_1) 64))))))
  else
  ZbF.p2 N c1_ n_1 i_1 a_0_0 (zO out_3 (zF i_1) (shlOf .u64 (zE a_0_0 (zF (w64 (i_1-(w64 (zP (if (0:Int)>n_1 then 0 else n_1) 64))))) 0) (zR (if (0:Int)>n_1 then 0 else n_1) 64)))
 else
 some out_3
def ZbF (N:Nat) (a_0_0:List Int) (n_1:Int):Option (List Int):=
 if (decide (n_1≥256))=true then
  some (zB 4 0)
 else
 loopN (ZbF.p1 N n_1 a_0_0) N (w64 (zP (if (0:Int)>n_1 then 0 else n_1) 64),zB 4 0)
def ZbF.p2.S (n_1 i_1:Int) (a_0_0 out_4:List Int) (st:LL):S:=mkS 50 [(2,sA 2),(4,sA 4),(5,sA 5),(6,sI (w64 (zP (if (0:Int)>n_1 then 0 else n_1) 64))),(7,sI (zR (if (0:Int)>n_1 then 0 else n_1) 64)),(8,sI i_1)] [(2,.cells [zH .u64 4 a_0_0]),(4,.cells [zH .u64 4 (zB 4 0)]),(5,.cells [zH .u64 4 out_4])] st
def ZbF.p1.S (n_1 i_1:Int) (a_0_0 out_3:List Int) (st:LL):S:=mkS 50 [(2,sA 2),(4,sA 4),(5,sA 5),(6,sI (w64 (zP (if (0:Int)>n_1 then 0 else n_1) 64))),(7,sI (zR (if (0:Int)>n_1 then 0 else n_1) 64)),(8,sI i_1)] [(2,.cells [zH .u64 4 a_0_0]),(4,.cells [zH .u64 4 (zB 4 0)]),(5,.cells [zH .u64 4 out_3])] st
theorem ZbF.p2_ok {n_1 i_1 a_0_0 out_4 st r c1_ J1} (h:ZbF.p2 N c1_ n_1 i_1 a_0_0 out_4=some r) (hE:En Tryz.f178 g0 w0 (ZbF.rs r) st R) (hc1 : ∀i_1 out_3,c1_ (i_1,out_3)=some r→At g0 w0 (ZbF.p1.S n_1 i_1 a_0_0 out_3 st) J1):At g0 w0 (ZbF.p2.S n_1 i_1 a_0_0 out_4 st) (XK zG R [.c (csub ZbF.B [1,1,1,1,0,1,0,0,1,1]),.h J1,.b 0,.c (csub ZbF.B [1,1,1,1,1])]):=by
 unfold ZbF.p2 at h
 exact an fol [.r []] [2,4,5,6,7,8] [2,4,5] trivial (hc1 (w64 (i_1+1)) out_4 h)
theorem ZbF.p1_ok {n_1 i_1 a_0_0 out_3 st r c1_ J1} (h:ZbF.p1 N n_1 a_0_0 c1_ (i_1,out_3)=some r) (hE:En Tryz.f178 g0 w0 (ZbF.rs r) st R) (hc1 : ∀i_1 out_3,c1_ (i_1,out_3)=some r→At g0 w0 (ZbF.p1.S n_1 i_1 a_0_0 out_3 st) J1):At g0 w0 (ZbF.p1.S n_1 i_1 a_0_0 out_3 st) (XK zG R (.c (csub ZbF.B [1,1,1,1,0,1,0,0]) :: .h J1 :: [.b 0,.c (csub ZbF.B [1,1,1,1,1])])):=by
 unfold ZbF.p1 at h
 refine iteB h (fun c11 h1=>?_) (fun c11 h2=>?_)
 ·obtain ⟨c12,c13,c14,c15,h3⟩:=ck4 h1
  refine iteB h3 (fun c16 h4=>?_) (fun c16 h5=>?_)
  ·obtain ⟨c17,c18,c19,h6⟩:=ck3 h4
   exact aqd fol [.r [],.c true,.r [],.r [],.c true,.d {ds:=[],hv:=16384,Hs:=[16384]},.s 4] [2,4,5,6,7,8] [2,4,5] (aO c11 c12 c13 c14 c15 (oD c11) c16 (aN c15 (oD c11) c17 c18 c19 c15 (oD c11))) (ZbF.p2_ok h6 hE hc1)
  ·exact aq fol [.r [],.c true,.r [],.r [],.c false,.s 4] [2,4,5,6,7,8] [2,4,5] (aN c11 c12 c13 c14 c15 (oD c11) c16) (ZbF.p2_ok h5 hE hc1)
 ·obtain rfl:=Zac h2
  exact af fol hE [.r [],.c false,.r []] [] 0 [] c11
theorem ZbF.snd {a_0_0:List Int} {n_1:Int} {r:(List Int)} (h:ZbF N a_0_0 n_1=some r):SndQ zG 178 [.agg [zH .u64 4 a_0_0],oI n_1] (ZbF.rs r):=fun st=>
 sO ZbF.B Tryz.func178 fun g0 w0 R hE=>by
  unfold ZbF at h
  refine iteB h (fun c1 h7=>?_) (fun c1 h8=>?_)
  ·obtain rfl:=Zac h7
   exact af fol hE [.r [],.r [],.c true,.r []] [] 0 [] c1
  ·exact aq fol [.r [],.r [],.c false,.r [],.r [],.r []] [2,4,5,6,7,8] [2,4,5] (aJ c1 (neI 64) (neI 64)) (At.loop N (At.loopN (fun y:Int×(List Int)=>ZbF.p1.S n_1 y.1 a_0_0 y.2 st) (fun c J hc y h=>ZbF.p1_ok (i_1:=y.1) (out_3:=y.2) h hE (fun i_1 out_3=>hc (i_1,out_3))) N (w64 (zP (if (0:Int)>n_1 then 0 else n_1) 64),zB 4 0) h8))
def ZaK.B:Code:=Tryz.f116.body.getD .skip
def ZaK.rs (r:(List Int)×Bool×Bool):List CV:=[.agg [zH .u64 4 r.1],oB r.2.1,oB r.2.2]
def ZaK.p2 (N:Nat) (bits_0:Int) (below_6:Bool) (n_5:List Int):Option ((List Int)×Bool×Bool):=
 if ((bitsOf .and .i64 bits_0 8388607) != 0)=true then
  if (decide ((shrOf .i64 bits_0 24)>34))=true then
   some (n_5,below_6,true)
  else
  if (decide ((bitsOf .and .i64 bits_0 8388607)>255))=true then
   if (decide ((shrOf .i64 bits_0 24)>33))=true then
    some (n_5,below_6,true)
   else
   if (decide ((bitsOf .and .i64 bits_0 8388607)>65535))=true then
    some (n_5,below_6,decide ((shrOf .i64 bits_0 24)>32))
   else
   some (n_5,below_6,false)
  else
  if (decide ((bitsOf .and .i64 bits_0 8388607)>65535))=true then
   some (n_5,below_6,decide ((shrOf .i64 bits_0 24)>32))
  else
  some (n_5,below_6,false)
 else
 some (n_5,below_6,false)
def ZaK.p1 (N:Nat) (bits_0:Int) (n_5:List Int):Option ((List Int)×Bool×Bool):=
 if ((bitsOf .and .i64 bits_0 8388607) != 0)=true then
  ZaK.p2 N bits_0 ((bitsOf .and .i64 bits_0 8388608) != 0) n_5
 else
 ZaK.p2 N bits_0 false n_5
def ZaK (N:Nat) (bits_0:Int):Option ((List Int)×Bool×Bool):=
 optE (ZcV N bits_0) fun x1=>
 if (!x1)=true then
  some (zB 4 0,false,false)
 else
 optE (ZcW N (v64 (bitsOf .and .i64 bits_0 8388607))) fun x2=>
 if (decide ((shrOf .i64 bits_0 24)≤3))=true then
  optE (Zbi N x2 (w64 (8*(w64 (3-(shrOf .i64 bits_0 24)))))) fun x3=>
  ZaK.p1 N bits_0 x3
 else
 optE (ZbF N x2 (w64 (8*(w64 ((shrOf .i64 bits_0 24)-3))))) fun x4=>
 ZaK.p1 N bits_0 x4
def ZaK.p2.S (bits_0:Int) (below_6:Bool) (n_5:List Int) (st:LL):S:=mkS 65 [(2,sA 2),(5,sI (shrOf .i64 bits_0 24)),(6,sI (bitsOf .and .i64 bits_0 8388607)),(7,sA 7),(8,.one (.l (yX below_6)))] [(2,.cells [zH .u64 4 (zB 4 0)]),(7,.cells [zH .u64 4 n_5])] st
def ZaK.p1.S (bits_0:Int) (n_5:List Int) (st:LL):S:=mkS 65 [(0,sI bits_0),(2,sA 2),(5,sI (shrOf .i64 bits_0 24)),(6,sI (bitsOf .and .i64 bits_0 8388607)),(7,sA 7)] [(2,.cells [zH .u64 4 (zB 4 0)]),(7,.cells [zH .u64 4 n_5])] st
theorem ZaK.p2_ok {bits_0 below_6 n_5 st r} (h:ZaK.p2 N bits_0 below_6 n_5=some r) (hE:En Tryz.f116 g0 w0 (ZaK.rs r) st R):At g0 w0 (ZaK.p2.S bits_0 below_6 n_5 st) (XK zG R [.c (csub ZaK.B [1,1,1,1,1,1])]):=by
 unfold ZaK.p2 at h
 refine iteB h (fun c8 h1=>?_) (fun c8 h2=>?_)
 ·have t1 {Q:Prop} (q:Q):=aK c8 c8 c8 q
  refine iteB h1 (fun c9 h3=>?_) (fun c9 h4=>?_)
  ·obtain rfl:=Zac h3
   exact af fol hE [.r [(6,wF),(7,wF),(8,wF),(11,wF),(14,wF),(15,wF),(16,wF),(19,wF)],.r []] [] 0 [] (t1 (aO c9 c9 c9 c9 c8 c9 c8 (aN eT eT eT eT c8 eT c8)))
  ·have t2 {Q:Prop} (q:Q):=t1 (aK c9 c9 c9 q)
   refine iteB h4 (fun c10 h5=>?_) (fun c10 h6=>?_)
   ·have t3 {Q:Prop} (q:Q):=t2 (aO c10 c10 c9 c10 c8 c9 c8 q)
    refine iteB h5 (fun c11 h7=>?_) (fun c11 h8=>?_)
    ·obtain rfl:=Zac h7
     exact af fol hE [.r [(12,yF),(14,wF),(15,wF),(16,wF),(19,wF)],.r []] [] 0 [] (t3 (aN c11 c11 c11 c11 c8 c11 c8))
    ·refine iteB h8 (fun c12 h9=>?_) (fun c12 h10=>?_)
     ·obtain rfl:=Zac h9
      exact af fol hE [.r [(12,yF),(20,yF)],.r []] [] 0 [] (t3 (aO c11 c11 c11 c12 c12 c11 c12 (aJ c8 c11 c8)))
     ·obtain rfl:=Zac h10
      exact af fol hE [.r [(12,yF),(17,wF),(18,wF),(19,yF),(20,yF)],.r []] [] 0 [] (t3 (aO c11 c11 c11 c12 c12 c11 c12 (aJ c8 c11 c8)))
   ·have t4 {Q:Prop} (q:Q):=t2 (aO c10 c10 c9 c10 c8 c9 c8 (aK eF eF eF q))
    refine iteB h6 (fun c13 h11=>?_) (fun c13 h12=>?_)
    ·obtain rfl:=Zac h11
     exact af fol hE [.r [(9,wF),(10,wF),(11,yF),(12,yF),(20,yF)],.r []] [] 0 [] (t4 (aN c13 c13 eF c13 c8 eF c8))
    ·obtain rfl:=Zac h12
     exact af fol hE [.r [(9,wF),(10,wF),(11,yF),(12,yF),(17,wF),(18,wF),(19,yF),(20,yF)],.r []] [] 0 [] (t4 (aN c13 c13 eF c13 c8 eF c8))
 ·obtain rfl:=Zac h2
  exact af fol hE [.r [(3,wF),(4,wF),(5,wF),(12,wF),(13,wF),(20,wF),(21,yF)],.r []] [] 0 [] (aN c8 c8 c8 c8 c8 c8 c8)
theorem ZaK.p1_ok {bits_0 n_5 st r} (h:ZaK.p1 N bits_0 n_5=some r) (hE:En Tryz.f116 g0 w0 (ZaK.rs r) st R):At g0 w0 (ZaK.p1.S bits_0 n_5 st) (XK zG R [.c (csub ZaK.B [1,1,1,1,1])]):=by
 unfold ZaK.p1 at h
 refine iteB h (fun c7 h13=>?_) (fun c7 h14=>?_)
 ·exact aq fol [.r [],.s 1] [2,5,6,7,8] [2,7] (aK c7 c7 c7 c7) (ZaK.p2_ok h13 hE)
 ·exact aq fol [.r [(3,wF),(4,wF),(5,wF),(6,yF)],.s 1] [2,5,6,7,8] [2,7] (aK c7 c7 c7 c7) (ZaK.p2_ok h14 hE)
theorem ZaK.snd {bits_0:Int} {r:(List Int)×Bool×Bool} (h:ZaK N bits_0=some r):SndQ zG 116 [oI bits_0] (ZaK.rs r):=fun st=>
 sO ZaK.B Tryz.func116 fun g0 w0 R hE=>by
  unfold ZaK at h
  obtain ⟨x1,c1,h15⟩:=Zae h
  let o1:List PS:=[.r [],.r [(1,q1 [oB x1])]]
  have t5 {Q:Prop} (q:Q):=aI (ZcV.snd c1) q
  refine iteB h15 (fun c2 h16=>?_) (fun c2 h17=>?_)
  ·obtain rfl:=Zac h16
   exact af fol hE (o1 ++ [.c true,.r []]) [] 0 [] (t5 c2)
  ·obtain ⟨x2,c3,h18⟩:=Zae h17
   let o2:List PS:=o1 ++ [.c false,.r [],.r [(2,q1 [.agg [zH .u64 4 x2]])],.r []]
   refine iteB h18 (fun c4 h19=>?_) (fun c4 h20=>?_)
   ·obtain ⟨x3,c5,h21⟩:=Zae h19
    exact aq fol (o2 ++ [.c true,.r [(4,q1 [.agg [zH .u64 4 x3]])],.s 1]) [0,2,5,6,7] [2,7] (t5 (aL c2 (leI 0 24) (ZcW.snd c3) c4 (Zbi.snd c5))) (ZaK.p1_ok h21 hE)
   ·obtain ⟨x4,c6,h22⟩:=Zae h20
    exact aq fol (o2 ++ [.c false,.r [(4,q1 [.agg [zH .u64 4 x4]])],.s 1]) [0,2,5,6,7] [2,7] (t5 (aL c2 (leI 0 24) (ZcW.snd c3) c4 (ZbF.snd c6))) (ZaK.p1_ok h22 hE)
def ZcI.B:Code:=Tryz.f117.body.getD .skip
def ZcI.rs (r:Bool):List CV:=[oB r]
def ZcI (N:Nat) (a_0_0:List Int):Option Bool:=
 some (a_0_0==(zB 4 0))
theorem ZcI.snd {a_0_0:List Int} {r:Bool} (h:ZcI N a_0_0=some r):SndQ zG 117 [.agg [zH .u64 4 a_0_0]] (ZcI.rs r):=fun st=>
 sO ZcI.B Tryz.func117 fun g0 w0 R hE=>by
  unfold ZcI at h
  obtain rfl:=Zac h
  exact af fol hE [.r [],.r []] [] 0 [] trivial
def Zbt.B:Code:=Tryz.f95.body.getD .skip
def Zbt.rs (r:Int):List CV:=[oI r]
def Zbt.p1 (N:Nat) (a_0_0 b_1_0:List Int) (c1_:Int→Option Int):Int→Option Int:=fun i_1=>
 if (decide (i_1≥0))=true then
  chk (0≤i_1)<|
  chk (i_1<4)<|
  if (decide ((zE a_0_0 (zF i_1) 0)<(zE b_1_0 (zF i_1) 0)))=true then
   some (-1)
  else
  if (decide ((zE a_0_0 (zF i_1) 0)>(zE b_1_0 (zF i_1) 0)))=true then
   some 1
  else
  c1_ (w64 (i_1-1))
 else
 some 0
def Zbt (N:Nat) (a_0_0 b_1_0:List Int):Option Int:=
 loopN (Zbt.p1 N a_0_0 b_1_0) N 3
def Zbt.p1.S (i_1:Int) (a_0_0 b_1_0:List Int) (st:LL):S:=mkS 26 [(2,sA 2),(3,sA 3),(5,sI i_1)] [(2,.cells [zH .u64 4 a_0_0]),(3,.cells [zH .u64 4 b_1_0])] st
theorem Zbt.p1_ok {i_1 a_0_0 b_1_0 st r c1_ J1} (h:Zbt.p1 N a_0_0 b_1_0 c1_ i_1=some r) (hE:En Tryz.f95 g0 w0 (Zbt.rs r) st R) (hc1 : ∀i_1,c1_ i_1=some r→At g0 w0 (Zbt.p1.S i_1 a_0_0 b_1_0 st) J1):At g0 w0 (Zbt.p1.S i_1 a_0_0 b_1_0 st) (XK zG R (.c (csub Zbt.B [1,0,1,0,0]) :: .h J1 :: [.b 0,.c (csub Zbt.B [1,1])])):=by
 unfold Zbt.p1 at h
 refine iteB h (fun c1 h1=>?_) (fun c1 h2=>?_)
 ·obtain ⟨c2,c3,h3⟩:=ck2 h1
  let o1:List PS:=[.r [],.c true,.d {ds:=[],hv:=0,Hs:=[]}]
  refine iteB h3 (fun c4 h4=>?_) (fun c4 h5=>?_)
  ·obtain rfl:=Zac h4
   exact afd fol hE (o1 ++ [.c true,.r []]) [] 0 [] (aM c1 c2 c3 c2 c3 c4)
  ·let o2:List PS:=o1 ++ [.c false,.d {ds:=[],hv:=0,Hs:=[]}]
   refine iteB h5 (fun c5 h6=>?_) (fun c5 h7=>?_)
   ·obtain rfl:=Zac h6
    exact afd fol hE (o2 ++ [.c true,.r []]) [] 0 [] (aO c1 c2 c3 c2 c3 c4 c2 (aK c3 c2 c3 c5))
   ·exact and_ fol (o2 ++ [.c false,.r []]) [2,3,5] [2,3] (aO c1 c2 c3 c2 c3 c4 c2 (aK c3 c2 c3 c5)) (hc1 (w64 (i_1-1)) h7)
 ·obtain rfl:=Zac h2
  exact af fol hE [.r [],.c false,.r []] [] 0 [] c1
theorem Zbt.snd {a_0_0 b_1_0:List Int} {r:Int} (h:Zbt N a_0_0 b_1_0=some r):SndQ zG 95 [.agg [zH .u64 4 a_0_0],.agg [zH .u64 4 b_1_0]] (Zbt.rs r):=fun st=>
 sO Zbt.B Tryz.func95 fun g0 w0 R hE=>by
  unfold Zbt at h
  exact aq fol [.r [],.r []] [2,3,5] [2,3] trivial (At.loop N (At.loopN (fun y:Int=>Zbt.p1.S y a_0_0 b_1_0 st) (fun c J hc y h=>Zbt.p1_ok h hE (fun i_1=>hc i_1)) N 3 h))
def ZcB.B:Code:=Tryz.f202.body.getD .skip
def ZcB.rs (r:Bool):List CV:=[oB r]
def ZcB (N:Nat) (a_0_0 b_1_0:List Int):Option Bool:=
 optE (Zbt N a_0_0 b_1_0) fun x1=>
 some (decide (x1<0))
theorem ZcB.snd {a_0_0 b_1_0:List Int} {r:Bool} (h:ZcB N a_0_0 b_1_0=some r):SndQ zG 202 [.agg [zH .u64 4 a_0_0],.agg [zH .u64 4 b_1_0]] (ZcB.rs r):=fun st=>
 sO ZcB.B Tryz.func202 fun g0 w0 R hE=>by
  unfold ZcB at h
  obtain ⟨x1,c1,h1⟩:=Zae h
  obtain rfl:=Zac h1
  exact af fol hE [.r [],.r [(2,q1 [oI x1])]] [] 0 [] (Zbt.snd c1)
def Zci.B:Code:=Tryz.f185.body.getD .skip
def Zci.rs (r:(List Int)×Bool):List CV:=[.agg [zH .u64 4 r.1],oB r.2]
def Zci (N:Nat) (bits_0 limit_1:Int):Option ((List Int)×Bool):=
 optE (ZaK N bits_0) fun (x1,x2,x3)=>
 optE (ZaK N limit_1) fun (x4,x5,x6)=>
 if x2=true then
  some (zB 4 0,false)
 else
 if x3=true then
  some (zB 4 0,false)
 else
 if x5=true then
  some (zB 4 0,false)
 else
 if x6=true then
  some (zB 4 0,false)
 else
 optE (ZcI N x1) fun x7=>
 if x7=true then
  some (zB 4 0,false)
 else
 optE (ZcB N x4 x1) fun x8=>
 if x8=true then
  some (zB 4 0,false)
 else
 some (x1,true)
theorem Zci.snd {bits_0 limit_1:Int} {r:(List Int)×Bool} (h:Zci N bits_0 limit_1=some r):SndQ zG 185 [oI bits_0,oI limit_1] (Zci.rs r):=fun st=>
 sO Zci.B Tryz.func185 fun g0 w0 R hE=>by
  unfold Zci at h
  obtain ⟨⟨x1,x2,x3⟩,c1,h1⟩:=Zae h
  obtain ⟨⟨x4,x5,x6⟩,c2,h2⟩:=Zae h1
  let o1:List PS:=[.r [],.r [(1,q1 [.agg [zH .u64 4 x1],oB x2,oB x3])],.r [(1,q1 [.agg [zH .u64 4 x4],oB x5,oB x6])]]
  have t1 {Q:Prop} (q:Q):=aJ (ZaK.snd c1) (ZaK.snd c2) q
  refine iteB h2 (fun c3 h3=>?_) (fun c3 h4=>?_)
  ·obtain rfl:=Zac h3
   exact af fol hE (o1 ++ [.r [(2,wF),(5,wF),(8,wF),(11,wF),(12,wF),(15,wF),(16,wF),(17,wF)],.c true,.r []]) [] 0 [] (t1 (aO c3 c3 eT eT eT eT eT (aN eT eT eT eT eT eT eT)))
  ·refine iteB h4 (fun c4 h5=>?_) (fun c4 h6=>?_)
   ·obtain rfl:=Zac h5
    exact af fol hE (o1 ++ [.r [(3,yF),(5,wF),(8,wF),(11,wF),(12,wF),(15,wF),(16,wF),(17,wF)],.c true,.r []]) [] 0 [] (t1 (aO c3 c3 c4 c4 eT eT eT (aN eT eT eT eT eT eT eT)))
   ·have t2 {Q:Prop} (q:Q):=t1 (aL c3 c3 c4 c4 q)
    refine iteB h6 (fun c5 h7=>?_) (fun c5 h8=>?_)
    ·obtain rfl:=Zac h7
     exact af fol hE (o1 ++ [.r [(3,yF),(6,yF),(8,wF),(11,wF),(12,wF),(15,wF),(16,wF),(17,wF)],.c true,.r []]) [] 0 [] (t2 (aO c5 c5 eT eT eT eT eT (aJ eT eT eT)))
    ·refine iteB h8 (fun c6 h9=>?_) (fun c6 h10=>?_)
     ·obtain rfl:=Zac h9
      exact af fol hE (o1 ++ [.r [(3,yF),(6,yF),(9,yF),(11,wF),(12,wF),(15,wF),(16,wF),(17,wF)],.c true,.r []]) [] 0 [] (t2 (aO c5 c5 c6 c6 c6 eT eT (aJ eT eT eT)))
     ·obtain ⟨x7,c7,h11⟩:=Zae h10
      have t3 {Q:Prop} (q:Q):=t2 (aN c5 c5 c6 c6 (ZcI.snd c7) c6 q)
      refine iteB h11 (fun c8 h12=>?_) (fun c8 h13=>?_)
      ·obtain rfl:=Zac h12
       exact af fol hE (o1 ++ [.r [(3,yF),(6,yF),(9,yF),(12,q1 [oB x7]),(13,yF),(15,wF),(16,wF),(17,wF)],.c true,.r []]) [] 0 [] (t3 (aL c8 c8 c8 c8 eT))
      ·obtain ⟨x8,c9,h14⟩:=Zae h13
       let o2:List PS:=o1 ++ [.r [(3,yF),(6,yF),(9,yF),(12,q1 [oB x7]),(13,yF),(17,q1 [oB x8]),(18,yF)]]
       refine iteB h14 (fun c10 h15=>?_) (fun c10 h16=>?_)
       ·obtain rfl:=Zac h15
        exact af fol hE (o2 ++ [.c true,.r []]) [] 0 [] (t3 (aM c8 c8 c8 (ZcB.snd c9) c8 c10))
       ·obtain rfl:=Zac h16
        exact af fol hE (o2 ++ [.c false,.r []]) [] 0 [] (t3 (aM c8 c8 c8 (ZcB.snd c9) c8 c10))
def ZdL.B:Code:=Tryz.f145.body.getD .skip
def ZdL.rs (r:Bool):List CV:=[oB r]
def ZdL (N:Nat) (p_0:Zak):Option Bool:=
 optE (Zci N p_0.Limit p_0.Limit) fun (x1,x2)=>
 if x2=true then
  if (decide (p_0.Interval≥2))=true then
   if (decide (p_0.Interval≤64))=true then
    if (decide (p_0.Spacing≥1))=true then
     if (decide (p_0.Spacing≤10000))=true then
      if (decide (p_0.Future≥0))=true then
       some (decide (p_0.Future<4294967296))
      else
      some false
     else
     some false
    else
    some false
   else
   some false
  else
  some false
 else
 some false
theorem ZdL.snd {p_0:Zak} {r:Bool} (h:ZdL N p_0=some r):SndQ zG 145 [.agg p_0.ls] (ZdL.rs r):=fun st=>
 sO ZdL.B Tryz.func145 fun g0 w0 R hE=>by
  unfold ZdL at h
  obtain ⟨⟨x1,x2⟩,c1,h1⟩:=Zae h
  let o1:List PS:=[.r [],.r [(4,q1 [.agg [zH .u64 4 x1],oB x2])]]
  have t1 {Q:Prop} (q:Q):=aI (Zci.snd c1) q
  refine iteB h1 (fun c2 h2=>?_) (fun c2 h3=>?_)
  ·have t2 {Q:Prop} (q:Q):=t1 (aL c2 c2 c2 c2 q)
   refine iteB h2 (fun c3 h4=>?_) (fun c3 h5=>?_)
   ·have t3 {Q:Prop} (q:Q):=t2 (aL c3 c3 c3 c3 q)
    refine iteB h4 (fun c4 h6=>?_) (fun c4 h7=>?_)
    ·have t4 {Q:Prop} (q:Q):=t3 (aL c4 c4 c4 c4 q)
     refine iteB h6 (fun c5 h8=>?_) (fun c5 h9=>?_)
     ·refine iteB h8 (fun c6 h10=>?_) (fun c6 h11=>?_)
      ·refine iteB h10 (fun c7 h12=>?_) (fun c7 h13=>?_)
       ·obtain rfl:=Zac h12
        exact af fol hE (o1 ++ [.r []]) [] 0 [] (t4 (aO c5 c5 c5 c5 c6 c6 c6 (aL c6 c7 c7 c7 c7)))
       ·obtain rfl:=Zac h13
        exact af fol hE (o1 ++ [.r [(27,wF),(28,wF),(29,wF),(30,yF)]]) [] 0 [] (t4 (aO c5 c5 c5 c5 c6 c6 c6 (aL c6 c7 c7 c7 c7)))
      ·obtain rfl:=Zac h11
       exact af fol hE (o1 ++ [.r [(22,wF),(23,wF),(24,wF),(25,yF),(27,wF),(28,wF),(29,wF),(30,yF)]]) [] 0 [] (t4 (aO c5 c5 c5 c5 c6 c6 c6 (aL c6 eF eF eF eF)))
     ·obtain rfl:=Zac h9
      exact af fol hE (o1 ++ [.r [(17,wF),(18,wF),(19,wF),(20,yF),(22,wF),(23,wF),(24,wF),(25,yF),(27,wF),(28,wF),(29,wF),(30,yF)]]) [] 0 [] (t4 (aO c5 c5 c5 c5 eF eF eF (aL eF eF eF eF eF)))
    ·obtain rfl:=Zac h7
     exact af fol hE (o1 ++ [.r [(12,wF),(13,wF),(14,wF),(15,yF),(17,wF),(18,wF),(19,wF),(20,yF),(22,wF),(23,wF),(24,wF),(25,yF),(27,wF),(28,wF),(29,wF),(30,yF)]]) [] 0 [] (t3 (aO c4 c4 c4 c4 eF eF eF (aO eF eF eF eF eF eF eF (aI eF eF))))
   ·obtain rfl:=Zac h5
    exact af fol hE (o1 ++ [.r [(7,wF),(8,wF),(9,wF),(10,yF),(12,wF),(13,wF),(14,wF),(15,yF),(17,wF),(18,wF),(19,wF),(20,yF),(22,wF),(23,wF),(24,wF),(25,yF),(27,wF),(28,wF),(29,wF),(30,yF)]]) [] 0 [] (t2 (aO c3 c3 c3 c3 eF eF eF (aO eF eF eF eF eF eF eF (aM eF eF eF eF eF eF))))
  ·obtain rfl:=Zac h3
   exact af fol hE (o1 ++ [.r [(2,wF),(3,wF),(4,wF),(5,yF),(7,wF),(8,wF),(9,wF),(10,yF),(12,wF),(13,wF),(14,wF),(15,yF),(17,wF),(18,wF),(19,wF),(20,yF),(22,wF),(23,wF),(24,wF),(25,yF),(27,wF),(28,wF),(29,wF),(30,yF)]]) [] 0 [] (t1 (aO c2 c2 c2 c2 eF eF eF (aO eF eF eF eF eF eF eF (aO eF eF eF eF eF eF eF (aJ eF eF eF)))))
def ZbG.B:Code:=Tryz.f87.body.getD .skip
def ZbG.rs (r:Bool):List CV:=[oB r]
def ZbG.p2 (N:Nat) (p_0:Zak) (c2_:Int→Option Bool):Int→Option Bool:=fun v6=>
 if (decide (v6<(len p_0.Checks)))=true then
  chk (0≤v6)<|
  getE (p_0.Checks[zF v6]?) ZdG fun x7=>
  if (decide (x7.Height<1))=true then
   some false
  else
  if (decide (v6>0))=true then
   chk (0≤(w64 (v6-1)))<|
   chk ((w64 (v6-1))<(len p_0.Checks))<|
   getE (p_0.Checks[zF (w64 (v6-1))]?) ZdG fun x8=>
   if (decide (x7.Height≤x8.Height))=true then
    some false
   else
   c2_ (w64 (v6+1))
  else
  c2_ (w64 (v6+1))
 else
 some true
def ZbG.p1 (N:Nat) (p_0:Zak) (c1_:Int→Option Bool):Int→Option Bool:=fun v3=>
 if (decide (v3<(len p_0.Gates)))=true then
  chk (0≤v3)<|
  getE (p_0.Gates[zF v3]?) ZdT fun x4=>
  if (decide (x4.Height<0))=true then
   some false
  else
  if (decide (v3>0))=true then
   chk (0≤(w64 (v3-1)))<|
   chk ((w64 (v3-1))<(len p_0.Gates))<|
   getE (p_0.Gates[zF (w64 (v3-1))]?) ZdT fun x5=>
   if (decide (x4.Height≤x5.Height))=true then
    some false
   else
   c1_ (w64 (v3+1))
  else
  c1_ (w64 (v3+1))
 else
 loopN (ZbG.p2 N p_0) N 0
def ZbG (N:Nat) (p_0:Zak):Option Bool:=
 optE (ZdL N p_0) fun x1=>
 if (!x1)=true then
  some false
 else
 optE (Zcs N p_0.Genesis) fun x2=>
 if (!x2)=true then
  some false
 else
 loopN (ZbG.p1 N p_0) N 0
def ZbG.p2.S (p_0:Zak) (v6:Int) (st:LL):S:=mkS 72 [(1,sA 1),(45,sV 33 p_0.Checks),(46,sI (len p_0.Checks)),(47,sI v6)] [(1,.cells p_0.ls)] st
def ZbG.p1.S (p_0:Zak) (v3:Int) (st:LL):S:=mkS 72 [(1,sA 1),(17,sV 2 p_0.Gates),(18,sI (len p_0.Gates)),(19,sI v3)] [(1,.cells p_0.ls)] st
theorem ZbG.p2_ok {p_0 v6 st r c2_ J2} (h:ZbG.p2 N p_0 c2_ v6=some r) (hE:En Tryz.f87 g0 w0 (ZbG.rs r) st R) (hc2 : ∀v6,c2_ v6=some r→At g0 w0 (ZbG.p2.S p_0 v6 st) J2):At g0 w0 (ZbG.p2.S p_0 v6 st) (XK zG R (.c (csub ZbG.B [1,1,1,0,1,0,0]) :: .h J2 :: [.b 2,.c (csub ZbG.B [1,1,1,1])])):=by
 unfold ZbG.p2 at h
 refine iteB h (fun c14 h1=>?_) (fun c14 h2=>?_)
 ·obtain ⟨c15,h3⟩:=ZaN h1
  obtain ⟨x7,c16,h4⟩:=ZdP h3
  let o1:List PS:=[.r [],.c true,.r [(2,{oe:=x7.ls})]]
  have t1 {Q:Prop} (q:Q):=aL c14 c15 (oD c14) c16 q
  refine iteB h4 (fun c17 h5=>?_) (fun c17 h6=>?_)
  ·obtain rfl:=Zac h5
   exact afd fol hE (o1 ++ [.d {ds:=[(4,wF),(5,wF),(6,wF),(17,wF)],hv:=0,Hs:=[]},.c true,.r []]) [] 0 [] (t1 (aM c17 c17 c17 c17 c17 eT))
  ·refine iteB h6 (fun c18 h7=>?_) (fun c18 h8=>?_)
   ·obtain ⟨c19,c20,h9⟩:=ck2 h7
    obtain ⟨x8,c21,h10⟩:=ZdP h9
    let o2:List PS:=o1 ++ [.d {ds:=[(15,{oe:=x8.ls}),(18,yF)],hv:=0,Hs:=[]}]
    have t2 {Q:Prop} (q:Q):=t1 (aO c17 c17 c17 c18 c18 c18 c18 (aO c18 c18 c18 c19 c20 c18 c18 (aM c21 c18 c17 c18 c17 q)))
    refine iteB h10 (fun c22 h11=>?_) (fun c22 h12=>?_)
    ·obtain rfl:=Zac h11
     exact afd fol hE (o2 ++ [.c true,.r []]) [] 0 [] (t2 c22)
    ·exact and_ fol (o2 ++ [.c false,.r []]) [1,45,46,47] [1] (t2 c22) (hc2 (w64 (v6+1)) h12)
   ·exact and_ fol (o1 ++ [.d {ds:=[(7,wF),(8,wF),(9,wF),(10,wF),(11,wF),(12,wF),(13,wF),(14,wF),(15,wF),(16,wF),(17,yF),(18,yF)],hv:=0,Hs:=[]},.c false,.r []]) [1,45,46,47] [1] (t1 (aO c17 c17 c17 c18 c18 c18 c18 (aO c18 c18 c18 c18 c18 c18 c17 (aJ c18 c17 eF)))) (hc2 (w64 (v6+1)) h8)
 ·obtain rfl:=Zac h2
  exact af fol hE [.r [],.c false,.r []] [] 0 [] c14
theorem ZbG.p1_ok {p_0 v3 st r c1_ J1} (h:ZbG.p1 N p_0 c1_ v3=some r) (hE:En Tryz.f87 g0 w0 (ZbG.rs r) st R) (hc1 : ∀v3,c1_ v3=some r→At g0 w0 (ZbG.p1.S p_0 v3 st) J1):At g0 w0 (ZbG.p1.S p_0 v3 st) (XK zG R (.c (csub ZbG.B [1,1,0,1,0,0]) :: .h J1 :: [.b 0,.c (csub ZbG.B [1,1,1])])):=by
 unfold ZbG.p1 at h
 refine iteB h (fun c5 h13=>?_) (fun c5 h14=>?_)
 ·obtain ⟨c6,h15⟩:=ZaN h13
  obtain ⟨x4,c7,h16⟩:=ZdX h15
  let o3:List PS:=[.r [],.c true,.r [(2,{oe:=x4.ls})]]
  have t3 {Q:Prop} (q:Q):=aL c5 c6 (oD c5) c7 q
  refine iteB h16 (fun c8 h17=>?_) (fun c8 h18=>?_)
  ·obtain rfl:=Zac h17
   exact afd fol hE (o3 ++ [.d {ds:=[(4,wF),(5,wF),(6,wF),(17,wF)],hv:=0,Hs:=[]},.c true,.r []]) [] 0 [] (t3 (aM c8 c8 c8 c8 c8 eT))
  ·refine iteB h18 (fun c9 h19=>?_) (fun c9 h20=>?_)
   ·obtain ⟨c10,c11,h21⟩:=ck2 h19
    obtain ⟨x5,c12,h22⟩:=ZdX h21
    let o4:List PS:=o3 ++ [.d {ds:=[(15,{oe:=x5.ls}),(18,yF)],hv:=0,Hs:=[]}]
    have t4 {Q:Prop} (q:Q):=t3 (aO c8 c8 c8 c9 c9 c9 c9 (aO c9 c9 c9 c10 c11 c9 c9 (aM c12 c9 c8 c9 c8 q)))
    refine iteB h22 (fun c13 h23=>?_) (fun c13 h24=>?_)
    ·obtain rfl:=Zac h23
     exact afd fol hE (o4 ++ [.c true,.r []]) [] 0 [] (t4 c13)
    ·exact and_ fol (o4 ++ [.c false,.r []]) [1,17,18,19] [1] (t4 c13) (hc1 (w64 (v3+1)) h24)
   ·exact and_ fol (o3 ++ [.d {ds:=[(7,wF),(8,wF),(9,wF),(10,wF),(11,wF),(12,wF),(13,wF),(14,wF),(15,wF),(16,wF),(17,yF),(18,yF)],hv:=0,Hs:=[]},.c false,.r []]) [1,17,18,19] [1] (t3 (aO c8 c8 c8 c9 c9 c9 c9 (aO c9 c9 c9 c9 c9 c9 c8 (aJ c9 c8 eF)))) (hc1 (w64 (v3+1)) h20)
 ·exact aq fol [.r [],.c false,.r []] [1,45,46,47] [1] c5 (At.loop N (At.loopN (fun y:Int=>ZbG.p2.S p_0 y st) (fun c J hc y h=>ZbG.p2_ok h hE (fun v6=>hc v6)) N 0 h14))
theorem ZbG.snd {p_0:Zak} {r:Bool} (h:ZbG N p_0=some r):SndQ zG 87 [.agg p_0.ls] (ZbG.rs r):=fun st=>
 sO ZbG.B Tryz.func87 fun g0 w0 R hE=>by
  unfold ZbG at h
  obtain ⟨x1,c1,h25⟩:=Zae h
  have t5 {Q:Prop} (q:Q):=aI (ZdL.snd c1) q
  refine iteB h25 (fun c2 h26=>?_) (fun c2 h27=>?_)
  ·obtain rfl:=Zac h26
   exact af fol hE [.r [],.r [(1,q1 [oB x1]),(4,wF),(5,wF),(6,wF),(7,wF)],.c true,.r []] [] 0 [] (t5 (aM (not_false (ZaX c2)) (not_false (ZaX c2)) (not_false (ZaX c2)) (not_false (ZaX c2)) (not_false (ZaX c2)) eT))
  ·obtain ⟨x2,c3,h28⟩:=Zae h27
   let o5:List PS:=[.r [],.r [(1,q1 [oB x1]),(6,q1 [oB x2]),(8,yF)]]
   have t6 {Q:Prop} (q:Q):=t5 (aN (not_true (ZaU c2)) (not_true (ZaU c2)) (not_true (ZaU c2)) (Zcs.snd c3) (not_true (ZaU c2)) (not_true (ZaU c2)) q)
   refine iteB h28 (fun c4 h29=>?_) (fun c4 h30=>?_)
   ·obtain rfl:=Zac h29
    exact af fol hE (o5 ++ [.c true,.r []]) [] 0 [] (t6 c4)
   ·exact aq fol (o5 ++ [.c false,.r []]) [1,17,18,19] [1] (t6 c4) (At.loop N (At.loopN (fun y:Int=>ZbG.p1.S p_0 y st) (fun c J hc y h=>ZbG.p1_ok h hE (fun v3=>hc v3)) N 0 h30))
def ZdM.B:Code:=Tryz.f162.body.getD .skip
def ZdM.rs (r:Int):List CV:=[oI r]
def ZdM (N:Nat) (times_0:LL):Option Int:=
 chk (0≤(if (11:Int)<(len times_0) then 11 else (len times_0)))<|
 chk ((zF (if (11:Int)<(len times_0) then 11 else (len times_0)))≤(zI times_0))<|
 optE (ZbB N (List.take (zF (if (11:Int)<(len times_0) then 11 else (len times_0))) (List.drop 0 times_0))) fun x1=>
 if ((len x1)==0)=true then
  some 0
 else
 chk (isI x1=true)<|
 chk (zI x1<4611686018427387904)<|
 chk (0≤(w64 (zP (len x1) 2)))<|
 chk ((w64 (zP (len x1) 2))<(len x1))<|
 getE ((sortR x1)[0+(zF (w64 (zP (len x1) 2)))]?) ZeD fun x2=>
 some x2
theorem ZdM.snd {times_0:LL} {r:Int} (h:ZdM N times_0=some r):SndQ zG 162 [.one (yM 1 times_0)] (ZdM.rs r):=fun st=>
 sO ZdM.B Tryz.func162 fun g0 w0 R hE=>by
  unfold ZdM at h
  obtain ⟨c1,c2,h1⟩:=ck2 h
  obtain ⟨x1,c3,h2⟩:=Zae h1
  let o1:List PS:=[.r [],.r [(5,{rs:=[.row true 1 x1],ns:=[9],m:=1})],.r []]
  have t1 {Q:Prop} (q:Q):=aL c1 (Nat.zero_le (zF (if (11:Int)<(len times_0) then 11 else (len times_0)))) c2 (ZbB.snd c3) q
  refine iteB h2 (fun c4 h3=>?_) (fun c4 h4=>?_)
  ·obtain rfl:=Zac h3
   exact af fol hE (o1 ++ [.c true,.r []]) [] 0 [] (t1 c4)
  ·obtain ⟨c5,c6,c7,c8,h5⟩:=ck4 h4
   obtain ⟨x2,c9,h6⟩:=ZdA h5
   obtain rfl:=Zac h6
   exact af fol hE (o1 ++ [.c false,.r [(1,{m:=7})],.r [(5,{oe:=[zC .i64 x2]})]]) [] 0 [] (t1 (aO c4 z0 (@rfl _ (zI x1):(zI x1)=(zI x1)) c5 c6 slices_Sort_int.snd (neI 2) (aJ c7 c8 c9)))
def ZcE.B:Code:=Tryz.f103.body.getD .skip
def ZcE.rs (r:Int):List CV:=[oI r]
def ZcE (N:Nat) (plan_0:Zbo) (seconds_1:Int):Option Int:=
 optE (ZcF N plan_0) fun x1=>
 if (!x1)=true then
  some 0
 else
 if (decide (seconds_1<0))=true then
  some 0
 else
 chk (plan_0.Period≠0)<|
 some (w64 ((w64 (zP (w64 (6*(if (8589934592:Int)<seconds_1 then 8589934592 else seconds_1))) plan_0.Period))+1))
theorem ZcE.snd {plan_0:Zbo} {seconds_1:Int} {r:Int} (h:ZcE N plan_0 seconds_1=some r):SndQ zG 103 [.agg plan_0.ls,oI seconds_1] (ZcE.rs r):=fun st=>
 sO ZcE.B Tryz.func103 fun g0 w0 R hE=>by
  unfold ZcE at h
  obtain ⟨x1,c1,h1⟩:=Zae h
  have t1 {Q:Prop} (q:Q):=aI (ZcF.snd c1) q
  refine iteB h1 (fun c2 h2=>?_) (fun c2 h3=>?_)
  ·obtain rfl:=Zac h2
   exact af fol hE [.r [],.r [(1,q1 [oB x1]),(4,wF),(5,wF)],.c true,.r []] [] 0 [] (t1 (aK (not_false (ZaX c2)) (not_false (ZaX c2)) (not_false (ZaX c2)) eT))
  ·let o1:List PS:=[.r [],.r [(1,q1 [oB x1]),(6,yF)]]
   have t2 {Q:Prop} (q:Q):=t1 (aK (not_true (ZaU c2)) (not_true (ZaU c2)) (not_true (ZaU c2)) q)
   refine iteB h3 (fun c3 h4=>?_) (fun c3 h5=>?_)
   ·obtain rfl:=Zac h4
    exact af fol hE (o1 ++ [.c true,.r []]) [] 0 [] (t2 c3)
   ·obtain ⟨c4,h6⟩:=ZaN h5
    obtain rfl:=Zac h6
    exact af fol hE (o1 ++ [.c false,.r []]) [] 0 [] (t2 (aI c3 c4))
def ZcR.B:Code:=Tryz.f102.body.getD .skip
def ZcR.rs (r:(Option Nat)×Int×LL):List CV:=[.one (xQ r.1),oI r.2.1]
def ZcR (N:Nat) (p_0:Zak) (from_1:ZdE) (plan_2:Zbo) (size_3 now_4:Int) (st:LL):Option ((Option Nat)×Int×LL):=
 optE (Zea N plan_2 st) fun (x1,x2,st3)=>
 if (x2 != 0)=true then
  some (none,1,st3)
 else
 if (decide (size_3<1))=true then
  some (none,1,st3)
 else
 if (decide (size_3>64))=true then
  some (none,1,st3)
 else
 if (decide (now_4<0))=true then
  some (none,1,st3)
 else
 if (decide (now_4>4294967296))=true then
  some (none,1,st3)
 else
 optE (ZbG N p_0) fun x4=>
 if (!x4)=true then
  some (none,1,st3)
 else
 chk (zI ([]++p_0.Gates)*16≤140737488355328)<|
 chk (zI ([]++p_0.Checks)*40≤140737488355328)<|
 chk (zI ([]++from_1.Spot.Times)*8≤140737488355328)<|
 optE (ZdM N from_1.Spot.Times) fun x5=>
 optE (ZcE N plan_2 (if (0:Int)>(w64 ((w64 (now_4+p_0.Future))-x5)) then 0 else (w64 ((w64 (now_4+p_0.Future))-x5)))) fun x6=>
 some ((some (zI st3)),0,zO (zO (zO (st3 ++ [[zC .i64 p_0.Limit,zC .i64 p_0.Interval,zC .i64 p_0.Spacing,zC .i64 p_0.Future,yX p_0.Easy,yM 2 ([]++p_0.Gates),yM 33 ([]++p_0.Checks),zH .u64 4 p_0.MinWork,zH .u64 4 p_0.Margin,zC .i64 p_0.Genesis.Version,zH .u8 32 p_0.Genesis.Prev,zH .u8 32 p_0.Genesis.Root,zC .i64 p_0.Genesis.Time,zC .i64 p_0.Genesis.Bits,zC .i64 p_0.Genesis.Nonce,zC .i64 from_1.Spot.Point.Height,zC .i64 from_1.Spot.Point.Bits,zC .i64 from_1.Spot.Point.Time,zC .i64 from_1.Spot.Point.First,zC .i64 from_1.Spot.Point.Hard,zH .u8 32 from_1.Spot.Prev,yM 1 from_1.Spot.Times,zH .u64 4 from_1.Work,zC .i64 0,zC .i64 0,zC .i64 0,zC .i64 0,zC .i64 0,zH .u8 32 (zB 32 0),yM 1 [],zH .u64 4 (zB 4 0),xQ x1,zC .i64 1,zC .i64 0,zC .i64 size_3,xS true 68 []]]) (zI st3) [zC .i64 p_0.Limit,zC .i64 p_0.Interval,zC .i64 p_0.Spacing,zC .i64 p_0.Future,yX p_0.Easy,yM 2 ([]++p_0.Gates),yM 33 ([]++p_0.Checks),zH .u64 4 p_0.MinWork,zH .u64 4 p_0.Margin,zC .i64 p_0.Genesis.Version,zH .u8 32 p_0.Genesis.Prev,zH .u8 32 p_0.Genesis.Root,zC .i64 p_0.Genesis.Time,zC .i64 p_0.Genesis.Bits,zC .i64 p_0.Genesis.Nonce,zC .i64 from_1.Spot.Point.Height,zC .i64 from_1.Spot.Point.Bits,zC .i64 from_1.Spot.Point.Time,zC .i64 from_1.Spot.Point.First,zC .i64 from_1.Spot.Point.Hard,zH .u8 32 from_1.Spot.Prev,yM 1 ([]++from_1.Spot.Times),zH .u64 4 from_1.Work,zC .i64 0,zC .i64 0,zC .i64 0,zC .i64 0,zC .i64 0,zH .u8 32 (zB 32 0),yM 1 [],zH .u64 4 (zB 4 0),xQ x1,zC .i64 1,zC .i64 0,zC .i64 size_3,xS true 68 []]) (zI st3) [zC .i64 p_0.Limit,zC .i64 p_0.Interval,zC .i64 p_0.Spacing,zC .i64 p_0.Future,yX p_0.Easy,yM 2 ([]++p_0.Gates),yM 33 ([]++p_0.Checks),zH .u64 4 p_0.MinWork,zH .u64 4 p_0.Margin,zC .i64 p_0.Genesis.Version,zH .u8 32 p_0.Genesis.Prev,zH .u8 32 p_0.Genesis.Root,zC .i64 p_0.Genesis.Time,zC .i64 p_0.Genesis.Bits,zC .i64 p_0.Genesis.Nonce,zC .i64 from_1.Spot.Point.Height,zC .i64 from_1.Spot.Point.Bits,zC .i64 from_1.Spot.Point.Time,zC .i64 from_1.Spot.Point.First,zC .i64 from_1.Spot.Point.Hard,zH .u8 32 from_1.Spot.Prev,yM 1 ([]++from_1.Spot.Times),zH .u64 4 from_1.Work,zC .i64 from_1.Spot.Point.Height,zC .i64 from_1.Spot.Point.Bits,zC .i64 from_1.Spot.Point.Time,zC .i64 from_1.Spot.Point.First,zC .i64 from_1.Spot.Point.Hard,zH .u8 32 from_1.Spot.Prev,yM 1 ([]++from_1.Spot.Times),zH .u64 4 from_1.Work,xQ x1,zC .i64 1,zC .i64 0,zC .i64 size_3,xS true 68 []]) (zI st3) [zC .i64 p_0.Limit,zC .i64 p_0.Interval,zC .i64 p_0.Spacing,zC .i64 p_0.Future,yX p_0.Easy,yM 2 ([]++p_0.Gates),yM 33 ([]++p_0.Checks),zH .u64 4 p_0.MinWork,zH .u64 4 p_0.Margin,zC .i64 p_0.Genesis.Version,zH .u8 32 p_0.Genesis.Prev,zH .u8 32 p_0.Genesis.Root,zC .i64 p_0.Genesis.Time,zC .i64 p_0.Genesis.Bits,zC .i64 p_0.Genesis.Nonce,zC .i64 from_1.Spot.Point.Height,zC .i64 from_1.Spot.Point.Bits,zC .i64 from_1.Spot.Point.Time,zC .i64 from_1.Spot.Point.First,zC .i64 from_1.Spot.Point.Hard,zH .u8 32 from_1.Spot.Prev,yM 1 ([]++from_1.Spot.Times),zH .u64 4 from_1.Work,zC .i64 from_1.Spot.Point.Height,zC .i64 from_1.Spot.Point.Bits,zC .i64 from_1.Spot.Point.Time,zC .i64 from_1.Spot.Point.First,zC .i64 from_1.Spot.Point.Hard,zH .u8 32 from_1.Spot.Prev,yM 1 ([]++from_1.Spot.Times),zH .u64 4 from_1.Work,xQ x1,zC .i64 1,zC .i64 x6,zC .i64 size_3,xS true 68 []])
theorem ZcR.snd {p_0:Zak} {from_1:ZdE} {plan_2:Zbo} {size_3 now_4:Int} {st:LL} {r:(Option Nat)×Int×LL} (h:ZcR N p_0 from_1 plan_2 size_3 now_4 st=some r):Snd zG 102 [.agg p_0.ls,.agg from_1.ls,.agg plan_2.ls,oI size_3,oI now_4] st (ZcR.rs r) r.2.2:=
 sO ZcR.B Tryz.func102 fun g0 w0 R hE=>by
  unfold ZcR at h
  obtain ⟨⟨x1,x2,st3⟩,c1,h1⟩:=Zae h
  let o1:List PS:=[.r [],.r [(1,{rs:=[.one (xQ x1),oI x2],st:=st3})]]
  have t1 {Q:Prop} (q:Q):=aI (Zea.snd c1) q
  refine iteB h1 (fun c2 h2=>?_) (fun c2 h3=>?_)
  ·obtain rfl:=Zac h2
   exact af fol hE (o1 ++ [.r [(3,wF),(4,wF),(7,wF),(8,wF),(11,wF),(12,wF),(15,wF),(16,wF),(19,wF),(20,wF),(21,wF)],.c true,.r []]) [] 0 [] (t1 (aO c2 c2 c2 eT eT eT eT (aO eT eT eT eT eT eT eT (aJ eT eT eT))))
  ·have t2 {Q:Prop} (q:Q):=t1 (aK c2 c2 c2 q)
   refine iteB h3 (fun c3 h4=>?_) (fun c3 h5=>?_)
   ·obtain rfl:=Zac h4
    exact af fol hE (o1 ++ [.r [(5,yF),(7,wF),(8,wF),(11,wF),(12,wF),(15,wF),(16,wF),(19,wF),(20,wF),(21,wF)],.c true,.r []]) [] 0 [] (t2 (aO c3 c3 c3 eT eT eT eT (aN eT eT eT eT eT eT eT)))
   ·have t3 {Q:Prop} (q:Q):=t2 (aK c3 c3 c3 q)
    refine iteB h5 (fun c4 h6=>?_) (fun c4 h7=>?_)
    ·obtain rfl:=Zac h6
     exact af fol hE (o1 ++ [.r [(5,yF),(9,yF),(11,wF),(12,wF),(15,wF),(16,wF),(19,wF),(20,wF),(21,wF)],.c true,.r []]) [] 0 [] (t3 (aO c4 c4 c4 eT eT eT eT (aK eT eT eT eT)))
    ·refine iteB h7 (fun c5 h8=>?_) (fun c5 h9=>?_)
     ·obtain rfl:=Zac h8
      exact af fol hE (o1 ++ [.r [(5,yF),(9,yF),(13,yF),(15,wF),(16,wF),(19,wF),(20,wF),(21,wF)],.c true,.r []]) [] 0 [] (t3 (aO c4 c4 c4 c5 c5 c5 eT (aK eT eT eT eT)))
     ·have t4 {Q:Prop} (q:Q):=t3 (aN c4 c4 c4 c5 c5 c5 q)
      refine iteB h9 (fun c6 h10=>?_) (fun c6 h11=>?_)
      ·obtain rfl:=Zac h10
       exact af fol hE (o1 ++ [.r [(5,yF),(9,yF),(13,yF),(17,yF),(19,wF),(20,wF),(21,wF)],.c true,.r []]) [] 0 [] (t4 (aL c6 c6 c6 c6 eT))
      ·obtain ⟨x4,c7,h12⟩:=Zae h11
       let o2:List PS:=o1 ++ [.r [(5,yF),(9,yF),(13,yF),(17,yF),(20,q1 [oB x4]),(22,yF)]]
       refine iteB h12 (fun c8 h13=>?_) (fun c8 h14=>?_)
       ·obtain rfl:=Zac h13
        exact af fol hE (o2 ++ [.c true,.r []]) [] 0 [] (t4 (aM c6 c6 (ZbG.snd c7) c6 c6 c8))
       ·obtain ⟨c9,c10,c11,h15⟩:=ck3 h14
        obtain ⟨x5,c12,h16⟩:=Zae h15
        obtain ⟨x6,c13,h17⟩:=Zae h16
        obtain rfl:=Zac h17
        exact afd fol hE (o2 ++ [.c false,.d {ds:=[(7,{fz:=[45]}),(9,{fz:=[48]})],hv:=676,Hs:=[4,36,164,676]},.r [(8,{ns:=[35]}),(9,{m:=1})],.r [(9,{oc:=(qla p_0.Limit p_0.Interval p_0.Spacing p_0.Future p_0.Easy ([]++p_0.Gates) ([]++p_0.Checks) p_0.MinWork p_0.Margin p_0.Genesis.Version p_0.Genesis.Prev p_0.Genesis.Root p_0.Genesis.Time p_0.Genesis.Bits p_0.Genesis.Nonce from_1.Spot.Point.Height from_1.Spot.Point.Bits from_1.Spot.Point.Time from_1.Spot.Point.First from_1.Spot.Point.Hard from_1.Spot.Prev from_1.Spot.Times from_1.Work 0 0 0 0 0 (zB 32 0) [] (zB 4 0) x1 1 0 size_3 []),fz:=[65]})],.r [(4,{oc:=(qla p_0.Limit p_0.Interval p_0.Spacing p_0.Future p_0.Easy ([]++p_0.Gates) ([]++p_0.Checks) p_0.MinWork p_0.Margin p_0.Genesis.Version p_0.Genesis.Prev p_0.Genesis.Root p_0.Genesis.Time p_0.Genesis.Bits p_0.Genesis.Nonce from_1.Spot.Point.Height from_1.Spot.Point.Bits from_1.Spot.Point.Time from_1.Spot.Point.First from_1.Spot.Point.Hard from_1.Spot.Prev ([]++from_1.Spot.Times) from_1.Work 0 0 0 0 0 (zB 32 0) [] (zB 4 0) x1 1 0 size_3 [])}),(7,{oc:=(qla p_0.Limit p_0.Interval p_0.Spacing p_0.Future p_0.Easy ([]++p_0.Gates) ([]++p_0.Checks) p_0.MinWork p_0.Margin p_0.Genesis.Version p_0.Genesis.Prev p_0.Genesis.Root p_0.Genesis.Time p_0.Genesis.Bits p_0.Genesis.Nonce from_1.Spot.Point.Height from_1.Spot.Point.Bits from_1.Spot.Point.Time from_1.Spot.Point.First from_1.Spot.Point.Hard from_1.Spot.Prev ([]++from_1.Spot.Times) from_1.Work 0 0 0 0 0 (zB 32 0) [] (zB 4 0) x1 1 0 size_3 [])})],.d {ds:=[(9,q1 [oI x5]),(12,q1 [oI x6]),(15,{oc:=(qla p_0.Limit p_0.Interval p_0.Spacing p_0.Future p_0.Easy ([]++p_0.Gates) ([]++p_0.Checks) p_0.MinWork p_0.Margin p_0.Genesis.Version p_0.Genesis.Prev p_0.Genesis.Root p_0.Genesis.Time p_0.Genesis.Bits p_0.Genesis.Nonce from_1.Spot.Point.Height from_1.Spot.Point.Bits from_1.Spot.Point.Time from_1.Spot.Point.First from_1.Spot.Point.Hard from_1.Spot.Prev ([]++from_1.Spot.Times) from_1.Work from_1.Spot.Point.Height from_1.Spot.Point.Bits from_1.Spot.Point.Time from_1.Spot.Point.First from_1.Spot.Point.Hard from_1.Spot.Prev ([]++from_1.Spot.Times) from_1.Work x1 1 0 size_3 [])})],hv:=32768,Hs:=[32768]},.r []]) [] 0 [] (t4 (aO c6 c6 (ZbG.snd c7) c6 c6 c8 c9 (aO c10 z0 (eN (zI ([]++p_0.Gates))) z0 (eN (zI ([]++p_0.Checks))) c11 (ZlH st3 (qla p_0.Limit p_0.Interval p_0.Spacing p_0.Future p_0.Easy ([]++p_0.Gates) ([]++p_0.Checks) p_0.MinWork p_0.Margin p_0.Genesis.Version p_0.Genesis.Prev p_0.Genesis.Root p_0.Genesis.Time p_0.Genesis.Bits p_0.Genesis.Nonce from_1.Spot.Point.Height from_1.Spot.Point.Bits from_1.Spot.Point.Time from_1.Spot.Point.First from_1.Spot.Point.Hard from_1.Spot.Prev from_1.Spot.Times from_1.Work 0 0 0 0 0 (zB 32 0) [] (zB 4 0) x1 1 0 size_3 [])) (aN z0 (eN (zI ([]++from_1.Spot.Times))) (ZaO (ZlH st3 (qla p_0.Limit p_0.Interval p_0.Spacing p_0.Future p_0.Easy ([]++p_0.Gates) ([]++p_0.Checks) p_0.MinWork p_0.Margin p_0.Genesis.Version p_0.Genesis.Prev p_0.Genesis.Root p_0.Genesis.Time p_0.Genesis.Bits p_0.Genesis.Nonce from_1.Spot.Point.Height from_1.Spot.Point.Bits from_1.Spot.Point.Time from_1.Spot.Point.First from_1.Spot.Point.Hard from_1.Spot.Prev from_1.Spot.Times from_1.Work 0 0 0 0 0 (zB 32 0) [] (zB 4 0) x1 1 0 size_3 [])) (qla p_0.Limit p_0.Interval p_0.Spacing p_0.Future p_0.Easy ([]++p_0.Gates) ([]++p_0.Checks) p_0.MinWork p_0.Margin p_0.Genesis.Version p_0.Genesis.Prev p_0.Genesis.Root p_0.Genesis.Time p_0.Genesis.Bits p_0.Genesis.Nonce from_1.Spot.Point.Height from_1.Spot.Point.Bits from_1.Spot.Point.Time from_1.Spot.Point.First from_1.Spot.Point.Hard from_1.Spot.Prev ([]++from_1.Spot.Times) from_1.Work 0 0 0 0 0 (zB 32 0) [] (zB 4 0) x1 1 0 size_3 [])) (ZaO (ZlH st3 (qla p_0.Limit p_0.Interval p_0.Spacing p_0.Future p_0.Easy ([]++p_0.Gates) ([]++p_0.Checks) p_0.MinWork p_0.Margin p_0.Genesis.Version p_0.Genesis.Prev p_0.Genesis.Root p_0.Genesis.Time p_0.Genesis.Bits p_0.Genesis.Nonce from_1.Spot.Point.Height from_1.Spot.Point.Bits from_1.Spot.Point.Time from_1.Spot.Point.First from_1.Spot.Point.Hard from_1.Spot.Prev from_1.Spot.Times from_1.Work 0 0 0 0 0 (zB 32 0) [] (zB 4 0) x1 1 0 size_3 [])) (qla p_0.Limit p_0.Interval p_0.Spacing p_0.Future p_0.Easy ([]++p_0.Gates) ([]++p_0.Checks) p_0.MinWork p_0.Margin p_0.Genesis.Version p_0.Genesis.Prev p_0.Genesis.Root p_0.Genesis.Time p_0.Genesis.Bits p_0.Genesis.Nonce from_1.Spot.Point.Height from_1.Spot.Point.Bits from_1.Spot.Point.Time from_1.Spot.Point.First from_1.Spot.Point.Hard from_1.Spot.Prev ([]++from_1.Spot.Times) from_1.Work 0 0 0 0 0 (zB 32 0) [] (zB 4 0) x1 1 0 size_3 [])) (ZdM.snd c12) (ZcE.snd c13) (ZaO (ZaO (ZlH st3 (qla p_0.Limit p_0.Interval p_0.Spacing p_0.Future p_0.Easy ([]++p_0.Gates) ([]++p_0.Checks) p_0.MinWork p_0.Margin p_0.Genesis.Version p_0.Genesis.Prev p_0.Genesis.Root p_0.Genesis.Time p_0.Genesis.Bits p_0.Genesis.Nonce from_1.Spot.Point.Height from_1.Spot.Point.Bits from_1.Spot.Point.Time from_1.Spot.Point.First from_1.Spot.Point.Hard from_1.Spot.Prev from_1.Spot.Times from_1.Work 0 0 0 0 0 (zB 32 0) [] (zB 4 0) x1 1 0 size_3 [])) (qla p_0.Limit p_0.Interval p_0.Spacing p_0.Future p_0.Easy ([]++p_0.Gates) ([]++p_0.Checks) p_0.MinWork p_0.Margin p_0.Genesis.Version p_0.Genesis.Prev p_0.Genesis.Root p_0.Genesis.Time p_0.Genesis.Bits p_0.Genesis.Nonce from_1.Spot.Point.Height from_1.Spot.Point.Bits from_1.Spot.Point.Time from_1.Spot.Point.First from_1.Spot.Point.Hard from_1.Spot.Prev ([]++from_1.Spot.Times) from_1.Work 0 0 0 0 0 (zB 32 0) [] (zB 4 0) x1 1 0 size_3 [])) (qla p_0.Limit p_0.Interval p_0.Spacing p_0.Future p_0.Easy ([]++p_0.Gates) ([]++p_0.Checks) p_0.MinWork p_0.Margin p_0.Genesis.Version p_0.Genesis.Prev p_0.Genesis.Root p_0.Genesis.Time p_0.Genesis.Bits p_0.Genesis.Nonce from_1.Spot.Point.Height from_1.Spot.Point.Bits from_1.Spot.Point.Time from_1.Spot.Point.First from_1.Spot.Point.Hard from_1.Spot.Prev ([]++from_1.Spot.Times) from_1.Work from_1.Spot.Point.Height from_1.Spot.Point.Bits from_1.Spot.Point.Time from_1.Spot.Point.First from_1.Spot.Point.Hard from_1.Spot.Prev ([]++from_1.Spot.Times) from_1.Work x1 1 0 size_3 []))))))
def Zeg.B:Code:=Tryz.f213.body.getD .skip
def Zeg.rs (r:Int):List CV:=[oI r]
def Zeg (N:Nat) (p_0:Zak) (from_1 to_2:Int):Option Int:=
 some (if (w64 ((w64 (p_0.Interval*p_0.Spacing))*4))<(if (w64 (zP (w64 (p_0.Interval*p_0.Spacing)) 4))>(w64 (to_2-from_1)) then (w64 (zP (w64 (p_0.Interval*p_0.Spacing)) 4)) else (w64 (to_2-from_1))) then (w64 ((w64 (p_0.Interval*p_0.Spacing))*4)) else (if (w64 (zP (w64 (p_0.Interval*p_0.Spacing)) 4))>(w64 (to_2-from_1)) then (w64 (zP (w64 (p_0.Interval*p_0.Spacing)) 4)) else (w64 (to_2-from_1))))
theorem Zeg.snd {p_0:Zak} {from_1 to_2:Int} {r:Int} (h:Zeg N p_0 from_1 to_2=some r):SndQ zG 213 [.agg p_0.ls,oI from_1,oI to_2] (Zeg.rs r):=fun st=>
 sO Zeg.B Tryz.func213 fun g0 w0 R hE=>by
  unfold Zeg at h
  obtain rfl:=Zac h
  exact af fol hE [.r [],.r [],.r []] [] 0 [] (neI 4)
def Zaz.B:Code:=Tryz.f222.body.getD .skip
def Zaz.rs (r:Int):List CV:=[oI r]
def Zaz.p3 (N:Nat) (x_5 n_6:Int):Option Int:=
 chk (0≤(v8 (x_5)))<|
 chk ((v8 (x_5))<((ByteArray.size (ByteArray.mk #[0,1,2,2,3,3,3,3,4,4,4,4,4,4,4,4,5,5,5,5,5,5,5,5,5,5,5,5,5,5,5,5,6,6,6,6,6,6,6,6,6,6,6,6,6,6,6,6,6,6,6,6,6,6,6,6,6,6,6,6,6,6,6,6,7,7,7,7,7,7,7,7,7,7,7,7,7,7,7,7,7,7,7,7,7,7,7,7,7,7,7,7,7,7,7,7,7,7,7,7,7,7,7,7,7,7,7,7,7,7,7,7,7,7,7,7,7,7,7,7,7,7,7,7,7,7,7,7,8,8,8,8,8,8,8,8,8,8,8,8,8,8,8,8,8,8,8,8,8,8,8,8,8,8,8,8,8,8,8,8,8,8,8,8,8,8,8,8,8,8,8,8,8,8,8,8,8,8,8,8,8,8,8,8,8,8,8,8,8,8,8,8,8,8,8,8,8,8,8,8,8,8,8,8,8,8,8,8,8,8,8,8,8,8,8,8,8,8,8,8,8,8,8,8,8,8,8,8,8,8,8,8,8,8,8,8,8,8,8,8,8,8,8,8,8,8,8,8,8,8,8,8,8,8,8,8]):Nat):Int))<|
 some (w64 (n_6+(w64 (((UInt8.toNat (zE (Array.toList (ByteArray.data (ByteArray.mk #[0,1,2,2,3,3,3,3,4,4,4,4,4,4,4,4,5,5,5,5,5,5,5,5,5,5,5,5,5,5,5,5,6,6,6,6,6,6,6,6,6,6,6,6,6,6,6,6,6,6,6,6,6,6,6,6,6,6,6,6,6,6,6,6,7,7,7,7,7,7,7,7,7,7,7,7,7,7,7,7,7,7,7,7,7,7,7,7,7,7,7,7,7,7,7,7,7,7,7,7,7,7,7,7,7,7,7,7,7,7,7,7,7,7,7,7,7,7,7,7,7,7,7,7,7,7,7,7,8,8,8,8,8,8,8,8,8,8,8,8,8,8,8,8,8,8,8,8,8,8,8,8,8,8,8,8,8,8,8,8,8,8,8,8,8,8,8,8,8,8,8,8,8,8,8,8,8,8,8,8,8,8,8,8,8,8,8,8,8,8,8,8,8,8,8,8,8,8,8,8,8,8,8,8,8,8,8,8,8,8,8,8,8,8,8,8,8,8,8,8,8,8,8,8,8,8,8,8,8,8,8,8,8,8,8,8,8,8,8,8,8,8,8,8,8,8,8,8,8,8,8,8,8,8,8,8]))) (zF (v8 (x_5))) 0):Nat):Int)))))
def Zaz.p2 (N:Nat) (x_3 n_4:Int):Option Int:=
 if (decide (x_3≥256))=true then
  Zaz.p3 N (shrOf .u64 x_3 8) (w64 (n_4+8))
 else
 Zaz.p3 N x_3 n_4
def Zaz.p1 (N:Nat) (x_1 n_2:Int):Option Int:=
 if (decide (x_1≥65536))=true then
  Zaz.p2 N (shrOf .u64 x_1 16) (w64 (n_2+16))
 else
 Zaz.p2 N x_1 n_2
def Zaz (N:Nat) (x_0:Int):Option Int:=
 if (decide (x_0≥4294967296))=true then
  Zaz.p1 N (shrOf .u64 x_0 32) 32
 else
 Zaz.p1 N x_0 0
def Zaz.p3.S (x_5 n_6:Int) (st:LL):S:=mkS 25 [(0,.one (.l (zC .u64 x_5))),(2,sI n_6)] [] st
def Zaz.p2.S (x_3 n_4:Int) (st:LL):S:=mkS 25 [(0,.one (.l (zC .u64 x_3))),(2,sI n_4)] [] st
def Zaz.p1.S (x_1 n_2:Int) (st:LL):S:=mkS 25 [(0,.one (.l (zC .u64 x_1))),(2,sI n_2)] [] st
theorem Zaz.p3_ok {x_5 n_6 st r} (h:Zaz.p3 N x_5 n_6=some r) (hE:En Tryz.f222 g0 w0 (Zaz.rs r) st R):At g0 w0 (Zaz.p3.S x_5 n_6 st) (XK zG R [.c (csub Zaz.B [1,1,1,1])]):=by
 unfold Zaz.p3 at h
 obtain ⟨c4,c5,h1⟩:=ck2 h
 obtain rfl:=Zac h1
 exact af fol hE [.r []] [] 0 [] (aI c4 c5)
theorem Zaz.p2_ok {x_3 n_4 st r} (h:Zaz.p2 N x_3 n_4=some r) (hE:En Tryz.f222 g0 w0 (Zaz.rs r) st R):At g0 w0 (Zaz.p2.S x_3 n_4 st) (XK zG R [.c (csub Zaz.B [1,1,1])]):=by
 unfold Zaz.p2 at h
 refine iteB h (fun c3 h2=>?_) (fun c3 h3=>?_)
 ·exact aq fol [.r [],.c true,.r [],.r [],.s 1] [0,2] [] (aI c3 (leI 0 8)) (Zaz.p3_ok h2 hE)
 ·exact aq fol [.r [],.c false,.s 1] [0,2] [] c3 (Zaz.p3_ok h3 hE)
theorem Zaz.p1_ok {x_1 n_2 st r} (h:Zaz.p1 N x_1 n_2=some r) (hE:En Tryz.f222 g0 w0 (Zaz.rs r) st R):At g0 w0 (Zaz.p1.S x_1 n_2 st) (XK zG R [.c (csub Zaz.B [1,1])]):=by
 unfold Zaz.p1 at h
 refine iteB h (fun c2 h4=>?_) (fun c2 h5=>?_)
 ·exact aq fol [.r [],.c true,.r [],.r [],.s 1] [0,2] [] (aI c2 (leI 0 16)) (Zaz.p2_ok h4 hE)
 ·exact aq fol [.r [],.c false,.s 1] [0,2] [] c2 (Zaz.p2_ok h5 hE)
theorem Zaz.snd {x_0:Int} {r:Int} (h:Zaz N x_0=some r):SndQ zG 222 [.one (zC .u64 x_0)] (Zaz.rs r):=fun st=>
 sO Zaz.B Tryz.func222 fun g0 w0 R hE=>by
  unfold Zaz at h
  refine iteB h (fun c1 h6=>?_) (fun c1 h7=>?_)
  ·exact aq fol [.r [],.r [],.c true,.r [],.r [],.s 1] [0,2] [] (aI c1 (leI 0 32)) (Zaz.p1_ok h6 hE)
  ·exact aq fol [.r [],.r [],.c false,.s 1] [0,2] [] c1 (Zaz.p1_ok h7 hE)
def ZbH.B:Code:=Tryz.f238.body.getD .skip
def ZbH.rs (r:Int):List CV:=[oI r]
def ZbH (N:Nat) (x_0:Int):Option Int:=
 optE (Zaz N x_0) fun x1=>
 some (w64 (64-x1))
theorem ZbH.snd {x_0:Int} {r:Int} (h:ZbH N x_0=some r):SndQ zG 238 [.one (zC .u64 x_0)] (ZbH.rs r):=fun st=>
 sO ZbH.B Tryz.func238 fun g0 w0 R hE=>by
  unfold ZbH at h
  obtain ⟨x1,c1,h1⟩:=Zae h
  obtain rfl:=Zac h1
  exact af fol hE [.r [],.r [(1,q1 [oI x1])]] [] 0 [] (Zaz.snd c1)
def Zaj.B:Code:=Tryz.f225.body.getD .skip
def Zaj.rs (r:Int×Int):List CV:=[.one (zC .u64 r.1),.one (zC .u64 r.2)]
def Zaj.p6 (N:Nat) (y_2 x1 lo_1 q1_4 hi_0 q0_7:Int):Option (Int×Int):=
 chk (0≤(v64 (x1)))<|
 some (v64 ((v64 (q1_4*4294967296))+q0_7),shrOf .u64 (v64 ((v64 ((v64 ((v64 ((v64 ((v64 ((bitsOf .or .u64 (shlOf .u64 hi_0 (v64 (x1))) (shrOf .u64 lo_1 (v64 (64-(v64 (x1))))))*4294967296))+(shrOf .u64 (shlOf .u64 lo_1 (v64 (x1))) 32)))-(v64 (q1_4*(shlOf .u64 y_2 (v64 (x1)))))))*4294967296))+(bitsOf .and .u64 (shlOf .u64 lo_1 (v64 (x1))) 4294967295)))-(v64 (q0_7*(shlOf .u64 y_2 (v64 (x1))))))) (v64 (x1)))
def Zaj.p5 (N:Nat) (c4_:(Int×Int)→Option (Int×Int)) (y_2 x1 lo_1 q1_4 rhat_5 hi_0 q0_6:Int):Option (Int×Int):=
 if (decide ((v64 (rhat_5+(shrOf .u64 (shlOf .u64 y_2 (v64 (x1))) 32)))≥4294967296))=true then
  Zaj.p6 N y_2 x1 lo_1 q1_4 hi_0 (v64 (q0_6-1))
 else
 c4_ (v64 (rhat_5+(shrOf .u64 (shlOf .u64 y_2 (v64 (x1))) 32)),v64 (q0_6-1))
def Zaj.p4 (N:Nat) (y_2 x1 lo_1 q1_4 hi_0:Int) (c4_:(Int×Int)→Option (Int×Int)):(Int×Int)→Option (Int×Int):=fun (rhat_5,q0_6)=>
 if (decide (q0_6≥4294967296))=true then
  Zaj.p5 N c4_ y_2 x1 lo_1 q1_4 rhat_5 hi_0 q0_6
 else
 if (decide ((v64 (q0_6*(bitsOf .and .u64 (shlOf .u64 y_2 (v64 (x1))) 4294967295)))>(v64 ((v64 (4294967296*rhat_5))+(bitsOf .and .u64 (shlOf .u64 lo_1 (v64 (x1))) 4294967295)))))=true then
  Zaj.p5 N c4_ y_2 x1 lo_1 q1_4 rhat_5 hi_0 q0_6
 else
 Zaj.p6 N y_2 x1 lo_1 q1_4 hi_0 q0_6
def Zaj.p3 (N:Nat) (y_2 x1 hi_0 lo_1 q1_4:Int):Option (Int×Int):=
 chk ((shrOf .u64 (shlOf .u64 y_2 (v64 (x1))) 32)≠0)<|
 loopN (Zaj.p4 N y_2 x1 lo_1 q1_4 hi_0) N (v64 ((v64 ((v64 ((v64 ((bitsOf .or .u64 (shlOf .u64 hi_0 (v64 (x1))) (shrOf .u64 lo_1 (v64 (64-(v64 (x1))))))*4294967296))+(shrOf .u64 (shlOf .u64 lo_1 (v64 (x1))) 32)))-(v64 (q1_4*(shlOf .u64 y_2 (v64 (x1)))))))-(v64 ((v64 (zP (v64 ((v64 ((v64 ((bitsOf .or .u64 (shlOf .u64 hi_0 (v64 (x1))) (shrOf .u64 lo_1 (v64 (64-(v64 (x1))))))*4294967296))+(shrOf .u64 (shlOf .u64 lo_1 (v64 (x1))) 32)))-(v64 (q1_4*(shlOf .u64 y_2 (v64 (x1))))))) (shrOf .u64 (shlOf .u64 y_2 (v64 (x1))) 32)))*(shrOf .u64 (shlOf .u64 y_2 (v64 (x1))) 32)))),v64 (zP (v64 ((v64 ((v64 ((bitsOf .or .u64 (shlOf .u64 hi_0 (v64 (x1))) (shrOf .u64 lo_1 (v64 (64-(v64 (x1))))))*4294967296))+(shrOf .u64 (shlOf .u64 lo_1 (v64 (x1))) 32)))-(v64 (q1_4*(shlOf .u64 y_2 (v64 (x1))))))) (shrOf .u64 (shlOf .u64 y_2 (v64 (x1))) 32)))
def Zaj.p2 (N:Nat) (c1_:(Int×Int)→Option (Int×Int)) (y_2 x1 hi_0 lo_1 q1_2 rhat_3:Int):Option (Int×Int):=
 if (decide ((v64 (rhat_3+(shrOf .u64 (shlOf .u64 y_2 (v64 (x1))) 32)))≥4294967296))=true then
  Zaj.p3 N y_2 x1 hi_0 lo_1 (v64 (q1_2-1))
 else
 c1_ (v64 (q1_2-1),v64 (rhat_3+(shrOf .u64 (shlOf .u64 y_2 (v64 (x1))) 32)))
def Zaj.p1 (N:Nat) (y_2 x1 hi_0 lo_1:Int) (c1_:(Int×Int)→Option (Int×Int)):(Int×Int)→Option (Int×Int):=fun (q1_2,rhat_3)=>
 if (decide (q1_2≥4294967296))=true then
  Zaj.p2 N c1_ y_2 x1 hi_0 lo_1 q1_2 rhat_3
 else
 if (decide ((v64 (q1_2*(bitsOf .and .u64 (shlOf .u64 y_2 (v64 (x1))) 4294967295)))>(v64 ((v64 (4294967296*rhat_3))+(shrOf .u64 (shlOf .u64 lo_1 (v64 (x1))) 32)))))=true then
  Zaj.p2 N c1_ y_2 x1 hi_0 lo_1 q1_2 rhat_3
 else
 Zaj.p3 N y_2 x1 hi_0 lo_1 q1_2
def Zaj (N:Nat) (hi_0 lo_1 y_2:Int):Option (Int×Int):=
 if (y_2==0)=true then
  none
 else
 if (decide (y_2≤hi_0))=true then
  none
 else
 if (hi_0==0)=true then
  chk (y_2≠0)<|
  some (v64 (zP lo_1 y_2),zR lo_1 y_2)
 else
 optE (ZbH N y_2) fun x1=>
 chk (0≤(v64 (x1)))<|
 chk (0≤(v64 (64-(v64 (x1)))))<|
 chk ((shrOf .u64 (shlOf .u64 y_2 (v64 (x1))) 32)≠0)<|
 loopN (Zaj.p1 N y_2 x1 hi_0 lo_1) N (v64 (zP (bitsOf .or .u64 (shlOf .u64 hi_0 (v64 (x1))) (shrOf .u64 lo_1 (v64 (64-(v64 (x1)))))) (shrOf .u64 (shlOf .u64 y_2 (v64 (x1))) 32)),v64 ((bitsOf .or .u64 (shlOf .u64 hi_0 (v64 (x1))) (shrOf .u64 lo_1 (v64 (64-(v64 (x1))))))-(v64 ((v64 (zP (bitsOf .or .u64 (shlOf .u64 hi_0 (v64 (x1))) (shrOf .u64 lo_1 (v64 (64-(v64 (x1)))))) (shrOf .u64 (shlOf .u64 y_2 (v64 (x1))) 32)))*(shrOf .u64 (shlOf .u64 y_2 (v64 (x1))) 32)))))
def Zaj.p6.S (y_2 x1 lo_1 q1_4 hi_0 q0_7:Int) (st:LL):S:=mkS 135 [(2,.one (.l (zC .u64 (shlOf .u64 y_2 (v64 (x1)))))),(8,.one (.l (zC .u64 (v64 (x1))))),(14,.one (.l (zC .u64 (bitsOf .and .u64 (shlOf .u64 lo_1 (v64 (x1))) 4294967295)))),(15,.one (.l (zC .u64 q1_4))),(17,.one (.l (zC .u64 (v64 ((v64 ((v64 ((bitsOf .or .u64 (shlOf .u64 hi_0 (v64 (x1))) (shrOf .u64 lo_1 (v64 (64-(v64 (x1))))))*4294967296))+(shrOf .u64 (shlOf .u64 lo_1 (v64 (x1))) 32)))-(v64 (q1_4*(shlOf .u64 y_2 (v64 (x1)))))))))),(18,.one (.l (zC .u64 q0_7)))] [] st
def Zaj.p5.S (y_2 x1 lo_1 q1_4 rhat_5 hi_0 q0_6:Int) (st:LL):S:=mkS 135 [(2,.one (.l (zC .u64 (shlOf .u64 y_2 (v64 (x1)))))),(8,.one (.l (zC .u64 (v64 (x1))))),(9,.one (.l (zC .u64 (shrOf .u64 (shlOf .u64 y_2 (v64 (x1))) 32)))),(10,.one (.l (zC .u64 (bitsOf .and .u64 (shlOf .u64 y_2 (v64 (x1))) 4294967295)))),(14,.one (.l (zC .u64 (bitsOf .and .u64 (shlOf .u64 lo_1 (v64 (x1))) 4294967295)))),(15,.one (.l (zC .u64 q1_4))),(16,.one (.l (zC .u64 rhat_5))),(17,.one (.l (zC .u64 (v64 ((v64 ((v64 ((bitsOf .or .u64 (shlOf .u64 hi_0 (v64 (x1))) (shrOf .u64 lo_1 (v64 (64-(v64 (x1))))))*4294967296))+(shrOf .u64 (shlOf .u64 lo_1 (v64 (x1))) 32)))-(v64 (q1_4*(shlOf .u64 y_2 (v64 (x1)))))))))),(18,.one (.l (zC .u64 q0_6)))] [] st
def Zaj.p4.S (y_2 x1 lo_1 q1_4 rhat_5 hi_0 q0_6:Int) (st:LL):S:=mkS 135 [(2,.one (.l (zC .u64 (shlOf .u64 y_2 (v64 (x1)))))),(8,.one (.l (zC .u64 (v64 (x1))))),(9,.one (.l (zC .u64 (shrOf .u64 (shlOf .u64 y_2 (v64 (x1))) 32)))),(10,.one (.l (zC .u64 (bitsOf .and .u64 (shlOf .u64 y_2 (v64 (x1))) 4294967295)))),(14,.one (.l (zC .u64 (bitsOf .and .u64 (shlOf .u64 lo_1 (v64 (x1))) 4294967295)))),(15,.one (.l (zC .u64 q1_4))),(16,.one (.l (zC .u64 rhat_5))),(17,.one (.l (zC .u64 (v64 ((v64 ((v64 ((bitsOf .or .u64 (shlOf .u64 hi_0 (v64 (x1))) (shrOf .u64 lo_1 (v64 (64-(v64 (x1))))))*4294967296))+(shrOf .u64 (shlOf .u64 lo_1 (v64 (x1))) 32)))-(v64 (q1_4*(shlOf .u64 y_2 (v64 (x1)))))))))),(18,.one (.l (zC .u64 q0_6)))] [] st
def Zaj.p3.S (y_2 x1 hi_0 lo_1 q1_4:Int) (st:LL):S:=mkS 135 [(2,.one (.l (zC .u64 (shlOf .u64 y_2 (v64 (x1)))))),(8,.one (.l (zC .u64 (v64 (x1))))),(9,.one (.l (zC .u64 (shrOf .u64 (shlOf .u64 y_2 (v64 (x1))) 32)))),(10,.one (.l (zC .u64 (bitsOf .and .u64 (shlOf .u64 y_2 (v64 (x1))) 4294967295)))),(11,.one (.l (zC .u64 (bitsOf .or .u64 (shlOf .u64 hi_0 (v64 (x1))) (shrOf .u64 lo_1 (v64 (64-(v64 (x1))))))))),(13,.one (.l (zC .u64 (shrOf .u64 (shlOf .u64 lo_1 (v64 (x1))) 32)))),(14,.one (.l (zC .u64 (bitsOf .and .u64 (shlOf .u64 lo_1 (v64 (x1))) 4294967295)))),(15,.one (.l (zC .u64 q1_4)))] [] st
def Zaj.p2.S (y_2 x1 hi_0 lo_1 q1_2 rhat_3:Int) (st:LL):S:=mkS 135 [(2,.one (.l (zC .u64 (shlOf .u64 y_2 (v64 (x1)))))),(8,.one (.l (zC .u64 (v64 (x1))))),(9,.one (.l (zC .u64 (shrOf .u64 (shlOf .u64 y_2 (v64 (x1))) 32)))),(10,.one (.l (zC .u64 (bitsOf .and .u64 (shlOf .u64 y_2 (v64 (x1))) 4294967295)))),(11,.one (.l (zC .u64 (bitsOf .or .u64 (shlOf .u64 hi_0 (v64 (x1))) (shrOf .u64 lo_1 (v64 (64-(v64 (x1))))))))),(13,.one (.l (zC .u64 (shrOf .u64 (shlOf .u64 lo_1 (v64 (x1))) 32)))),(14,.one (.l (zC .u64 (bitsOf .and .u64 (shlOf .u64 lo_1 (v64 (x1))) 4294967295)))),(15,.one (.l (zC .u64 q1_2))),(16,.one (.l (zC .u64 rhat_3)))] [] st
def Zaj.p1.S (y_2 x1 hi_0 lo_1 q1_2 rhat_3:Int) (st:LL):S:=mkS 135 [(2,.one (.l (zC .u64 (shlOf .u64 y_2 (v64 (x1)))))),(8,.one (.l (zC .u64 (v64 (x1))))),(9,.one (.l (zC .u64 (shrOf .u64 (shlOf .u64 y_2 (v64 (x1))) 32)))),(10,.one (.l (zC .u64 (bitsOf .and .u64 (shlOf .u64 y_2 (v64 (x1))) 4294967295)))),(11,.one (.l (zC .u64 (bitsOf .or .u64 (shlOf .u64 hi_0 (v64 (x1))) (shrOf .u64 lo_1 (v64 (64-(v64 (x1))))))))),(13,.one (.l (zC .u64 (shrOf .u64 (shlOf .u64 lo_1 (v64 (x1))) 32)))),(14,.one (.l (zC .u64 (bitsOf .and .u64 (shlOf .u64 lo_1 (v64 (x1))) 4294967295)))),(15,.one (.l (zC .u64 q1_2))),(16,.one (.l (zC .u64 rhat_3)))] [] st
theorem Zaj.p6_ok {y_2 x1 lo_1 q1_4 hi_0 q0_7 st r} (h:Zaj.p6 N y_2 x1 lo_1 q1_4 hi_0 q0_7=some r) (hE:En Tryz.f225 g0 w0 (Zaj.rs r) st R):At g0 w0 (Zaj.p6.S y_2 x1 lo_1 q1_4 hi_0 q0_7 st) (XK zG R [.c (csub Zaj.B [1,1,1,1,1,1,1,1,1,1,1,1,1,1,1,1,1,1,1])]):=by
 unfold Zaj.p6 at h
 obtain ⟨c16,h1⟩:=ZaN h
 obtain rfl:=Zac h1
 exact af fol hE [.r []] [] 0 [] c16
theorem Zaj.p5_ok {y_2 x1 lo_1 q1_4 rhat_5 hi_0 q0_6 st r c4_ J4} (h:Zaj.p5 N c4_ y_2 x1 lo_1 q1_4 rhat_5 hi_0 q0_6=some r) (hE:En Tryz.f225 g0 w0 (Zaj.rs r) st R) (hc4 : ∀rhat_5 q0_6,c4_ (rhat_5,q0_6)=some r→At g0 w0 (Zaj.p4.S y_2 x1 lo_1 q1_4 rhat_5 hi_0 q0_6 st) J4):At g0 w0 (Zaj.p5.S y_2 x1 lo_1 q1_4 rhat_5 hi_0 q0_6 st) (XK zG R [.c (csub Zaj.B [1,1,1,1,1,1,1,1,1,1,1,1,1,1,1,1,1,1,0,0,0,1]),.h J4,.b 2,.c (csub Zaj.B [1,1,1,1,1,1,1,1,1,1,1,1,1,1,1,1,1,1,1])]):=by
 unfold Zaj.p5 at h
 refine iteB h (fun c15 h2=>?_) (fun c15 h3=>?_)
 ·exact aq fol [.r [],.r [],.r [],.c true,.s 1] [2,8,14,15,17,18] [] c15 (Zaj.p6_ok h2 hE)
 ·exact an fol [.r [],.r [],.r [],.c false] [2,8,9,10,14,15,16,17,18] [] c15 (hc4 (v64 (rhat_5+(shrOf .u64 (shlOf .u64 y_2 (v64 (x1))) 32))) (v64 (q0_6-1)) h3)
theorem Zaj.p4_ok {y_2 x1 lo_1 q1_4 rhat_5 hi_0 q0_6 st r c4_ J4} (h:Zaj.p4 N y_2 x1 lo_1 q1_4 hi_0 c4_ (rhat_5,q0_6)=some r) (hE:En Tryz.f225 g0 w0 (Zaj.rs r) st R) (hc4 : ∀rhat_5 q0_6,c4_ (rhat_5,q0_6)=some r→At g0 w0 (Zaj.p4.S y_2 x1 lo_1 q1_4 rhat_5 hi_0 q0_6 st) J4):At g0 w0 (Zaj.p4.S y_2 x1 lo_1 q1_4 rhat_5 hi_0 q0_6 st) (XK zG R (.c (csub Zaj.B [1,1,1,1,1,1,1,1,1,1,1,1,1,1,1,1,1,1,0,0,0]) :: .h J4 :: [.b 2,.c (csub Zaj.B [1,1,1,1,1,1,1,1,1,1,1,1,1,1,1,1,1,1,1])])):=by
 unfold Zaj.p4 at h
 refine iteB h (fun c13 h4=>?_) (fun c13 h5=>?_)
 ·exact aq fol [.r [(3,wF),(4,wF),(5,wF),(6,wF),(7,wF),(8,wF),(9,wF),(10,wF)],.c true,.s 4] [2,8,9,10,14,15,16,17,18] [] (aO c13 c13 c13 c13 c13 c13 c13 (aJ c13 c13 eT)) (Zaj.p5_ok h4 hE hc4)
 ·have t1 {Q:Prop} (q:Q):=aO c13 c13 c13 c13 c13 c13 c13 (aJ c13 c13 q)
  refine iteB h5 (fun c14 h6=>?_) (fun c14 h7=>?_)
  ·exact aq fol [.r [(11,yF)],.c true,.s 4] [2,8,9,10,14,15,16,17,18] [] (t1 c14) (Zaj.p5_ok h6 hE hc4)
  ·exact aq fol [.r [(11,yF)],.c false,.s 1] [2,8,14,15,17,18] [] (t1 c14) (Zaj.p6_ok h7 hE)
theorem Zaj.p3_ok {y_2 x1 hi_0 lo_1 q1_4 st r} (h:Zaj.p3 N y_2 x1 hi_0 lo_1 q1_4=some r) (hE:En Tryz.f225 g0 w0 (Zaj.rs r) st R):At g0 w0 (Zaj.p3.S y_2 x1 hi_0 lo_1 q1_4 st) (XK zG R [.c (csub Zaj.B [1,1,1,1,1,1,1,1,1,1,1,1,1,1,1])]):=by
 unfold Zaj.p3 at h
 obtain ⟨c12,h8⟩:=ZaN h
 exact aq fol [.r [],.r [],.r []] [2,8,9,10,14,15,16,17,18] [] c12 (At.loop N (At.loopN (fun y:Int×Int=>Zaj.p4.S y_2 x1 lo_1 q1_4 y.1 hi_0 y.2 st) (fun c J hc y h=>Zaj.p4_ok (rhat_5:=y.1) (q0_6:=y.2) h hE (fun rhat_5 q0_6=>hc (rhat_5,q0_6))) N (v64 ((v64 ((v64 ((v64 ((bitsOf .or .u64 (shlOf .u64 hi_0 (v64 (x1))) (shrOf .u64 lo_1 (v64 (64-(v64 (x1))))))*4294967296))+(shrOf .u64 (shlOf .u64 lo_1 (v64 (x1))) 32)))-(v64 (q1_4*(shlOf .u64 y_2 (v64 (x1)))))))-(v64 ((v64 (zP (v64 ((v64 ((v64 ((bitsOf .or .u64 (shlOf .u64 hi_0 (v64 (x1))) (shrOf .u64 lo_1 (v64 (64-(v64 (x1))))))*4294967296))+(shrOf .u64 (shlOf .u64 lo_1 (v64 (x1))) 32)))-(v64 (q1_4*(shlOf .u64 y_2 (v64 (x1))))))) (shrOf .u64 (shlOf .u64 y_2 (v64 (x1))) 32)))*(shrOf .u64 (shlOf .u64 y_2 (v64 (x1))) 32)))),v64 (zP (v64 ((v64 ((v64 ((bitsOf .or .u64 (shlOf .u64 hi_0 (v64 (x1))) (shrOf .u64 lo_1 (v64 (64-(v64 (x1))))))*4294967296))+(shrOf .u64 (shlOf .u64 lo_1 (v64 (x1))) 32)))-(v64 (q1_4*(shlOf .u64 y_2 (v64 (x1))))))) (shrOf .u64 (shlOf .u64 y_2 (v64 (x1))) 32))) h8))
theorem Zaj.p2_ok {y_2 x1 hi_0 lo_1 q1_2 rhat_3 st r c1_ J1} (h:Zaj.p2 N c1_ y_2 x1 hi_0 lo_1 q1_2 rhat_3=some r) (hE:En Tryz.f225 g0 w0 (Zaj.rs r) st R) (hc1 : ∀q1_2 rhat_3,c1_ (q1_2,rhat_3)=some r→At g0 w0 (Zaj.p1.S y_2 x1 hi_0 lo_1 q1_2 rhat_3 st) J1):At g0 w0 (Zaj.p2.S y_2 x1 hi_0 lo_1 q1_2 rhat_3 st) (XK zG R [.c (csub Zaj.B [1,1,1,1,1,1,1,1,1,1,1,1,1,1,0,0,0,1]),.h J1,.b 0,.c (csub Zaj.B [1,1,1,1,1,1,1,1,1,1,1,1,1,1,1])]):=by
 unfold Zaj.p2 at h
 refine iteB h (fun c11 h9=>?_) (fun c11 h10=>?_)
 ·exact aq fol [.r [],.r [],.r [],.c true,.s 1] [2,8,9,10,11,13,14,15] [] c11 (Zaj.p3_ok h9 hE)
 ·exact an fol [.r [],.r [],.r [],.c false] [2,8,9,10,11,13,14,15,16] [] c11 (hc1 (v64 (q1_2-1)) (v64 (rhat_3+(shrOf .u64 (shlOf .u64 y_2 (v64 (x1))) 32))) h10)
theorem Zaj.p1_ok {y_2 x1 hi_0 lo_1 q1_2 rhat_3 st r c1_ J1} (h:Zaj.p1 N y_2 x1 hi_0 lo_1 c1_ (q1_2,rhat_3)=some r) (hE:En Tryz.f225 g0 w0 (Zaj.rs r) st R) (hc1 : ∀q1_2 rhat_3,c1_ (q1_2,rhat_3)=some r→At g0 w0 (Zaj.p1.S y_2 x1 hi_0 lo_1 q1_2 rhat_3 st) J1):At g0 w0 (Zaj.p1.S y_2 x1 hi_0 lo_1 q1_2 rhat_3 st) (XK zG R (.c (csub Zaj.B [1,1,1,1,1,1,1,1,1,1,1,1,1,1,0,0,0]) :: .h J1 :: [.b 0,.c (csub Zaj.B [1,1,1,1,1,1,1,1,1,1,1,1,1,1,1])])):=by
 unfold Zaj.p1 at h
 refine iteB h (fun c9 h11=>?_) (fun c9 h12=>?_)
 ·exact aq fol [.r [(3,wF),(4,wF),(5,wF),(6,wF),(7,wF),(8,wF),(9,wF),(10,wF)],.c true,.s 4] [2,8,9,10,11,13,14,15,16] [] (aO c9 c9 c9 c9 c9 c9 c9 (aJ c9 c9 eT)) (Zaj.p2_ok h11 hE hc1)
 ·refine iteB h12 (fun c10 h13=>?_) (fun c10 h14=>?_)
  ·exact aq fol [.r [(11,yF)],.c true,.s 4] [2,8,9,10,11,13,14,15,16] [] (aO c9 c9 c9 c9 c9 c9 c9 (aJ c9 c9 c10)) (Zaj.p2_ok h13 hE hc1)
  ·exact aq fol [.r [(11,yF)],.c false,.s 1] [2,8,9,10,11,13,14,15] [] (aO c9 c9 c9 c9 c9 c9 c9 (aJ c9 c9 c10)) (Zaj.p3_ok h14 hE)
theorem Zaj.snd {hi_0 lo_1 y_2:Int} {r:Int×Int} (h:Zaj N hi_0 lo_1 y_2=some r):SndQ zG 225 [.one (zC .u64 hi_0),.one (zC .u64 lo_1),.one (zC .u64 y_2)] (Zaj.rs r):=fun st=>
 sO Zaj.B Tryz.func225 fun g0 w0 R hE=>by
  unfold Zaj at h
  let o1:List PS:=[.r [],.r [],.c false,.r [],.c false,.r []]
  refine iteB h (fun c1 h15=>?_) (fun c1 h16=>?_)
  ·cases h15
  ·refine iteB h16 (fun c2 h17=>?_) (fun c2 h18=>?_)
   ·cases h17
   ·refine iteB h18 (fun c3 h19=>?_) (fun c3 h20=>?_)
    ·obtain ⟨c4,h21⟩:=ZaN h19
     obtain rfl:=Zac h21
     exact afd fol hE (o1 ++ [.c true,.d {ds:=[],hv:=0,Hs:=[]}]) [] 0 [] (aL c1 c2 c3 c4 c4)
    ·obtain ⟨x1,c5,h22⟩:=Zae h20
     obtain ⟨c6,c7,c8,h23⟩:=ck3 h22
     exact aq fol (o1 ++ [.c false,.r [(1,q1 [oI x1])],.r [],.r [],.r [],.r [],.r [],.r [],.r [],.r [],.r []]) [2,8,9,10,11,13,14,15,16] [] (aO c1 c2 c3 (ZbH.snd c5) c6 (leI 0 32) c6 (aK c7 c6 (leI 0 32) c8)) (At.loop N (At.loopN (fun y:Int×Int=>Zaj.p1.S y_2 x1 hi_0 lo_1 y.1 y.2 st) (fun c J hc y h=>Zaj.p1_ok (q1_2:=y.1) (rhat_3:=y.2) h hE (fun q1_2 rhat_3=>hc (q1_2,rhat_3))) N (v64 (zP (bitsOf .or .u64 (shlOf .u64 hi_0 (v64 (x1))) (shrOf .u64 lo_1 (v64 (64-(v64 (x1)))))) (shrOf .u64 (shlOf .u64 y_2 (v64 (x1))) 32)),v64 ((bitsOf .or .u64 (shlOf .u64 hi_0 (v64 (x1))) (shrOf .u64 lo_1 (v64 (64-(v64 (x1))))))-(v64 ((v64 (zP (bitsOf .or .u64 (shlOf .u64 hi_0 (v64 (x1))) (shrOf .u64 lo_1 (v64 (64-(v64 (x1)))))) (shrOf .u64 (shlOf .u64 y_2 (v64 (x1))) 32)))*(shrOf .u64 (shlOf .u64 y_2 (v64 (x1))) 32))))) h23))
def Zcf.B:Code:=Tryz.f214.body.getD .skip
def Zcf.rs (r:(List Int)×Int):List CV:=[.agg [zH .u64 4 r.1],.one (zC .u64 r.2)]
def Zcf.p1 (N:Nat) (by_1:Int) (c1_:(Int×Int×(List Int))→Option ((List Int)×Int)):(Int×Int×(List Int))→Option ((List Int)×Int):=fun (r_1,i_2,a_5)=>
 if (decide (i_2≥0))=true then
  chk (0≤i_2)<|
  chk (i_2<4)<|
  optE (Zaj N r_1 (zE a_5 (zF i_2) 0) by_1) fun (x6,x7)=>
  c1_ (x7,w64 (i_2-1),zO a_5 (zF i_2) x6)
 else
 some (a_5,r_1)
def Zcf (N:Nat) (a_0_0:List Int) (by_1:Int):Option ((List Int)×Int):=
 if (by_1==0)=true then
  some (zB 4 0,0)
 else
 loopN (Zcf.p1 N by_1) N (0,3,a_0_0)
def Zcf.p1.S (by_1 r_1 i_2:Int) (a_5:List Int) (st:LL):S:=mkS 28 [(1,.one (.l (zC .u64 by_1))),(2,sA 2),(4,sA 4),(6,.one (.l (zC .u64 r_1))),(7,sI i_2)] [(2,.cells [zH .u64 4 a_5]),(4,.cells [zH .u64 4 (zB 4 0)])] st
theorem Zcf.p1_ok {by_1 r_1 i_2 a_5 st r c1_ J1} (h:Zcf.p1 N by_1 c1_ (r_1,i_2,a_5)=some r) (hE:En Tryz.f214 g0 w0 (Zcf.rs r) st R) (hc1 : ∀r_1 i_2 a_5,c1_ (r_1,i_2,a_5)=some r→At g0 w0 (Zcf.p1.S by_1 r_1 i_2 a_5 st) J1):At g0 w0 (Zcf.p1.S by_1 r_1 i_2 a_5 st) (XK zG R (.c (csub Zcf.B [1,1,1,0,1,0,0]) :: .h J1 :: [.b 0,.c (csub Zcf.B [1,1,1,1])])):=by
 unfold Zcf.p1 at h
 refine iteB h (fun c6 h1=>?_) (fun c6 h2=>?_)
 ·obtain ⟨c7,c8,h3⟩:=ck2 h1
  obtain ⟨⟨x6,x7⟩,c9,h4⟩:=Zae h3
  exact an fol [.r [],.c true,.r [(6,q1 [.one (zC .u64 x6),.one (zC .u64 x7)])],.r []] [1,2,4,6,7] [2,4] (aM c6 c7 c8 (Zaj.snd c9) c7 c8) (hc1 x7 (w64 (i_2-1)) (zO a_5 (zF i_2) x6) h4)
 ·obtain rfl:=Zac h2
  exact af fol hE [.r [],.c false,.r []] [] 0 [] c6
theorem Zcf.snd {a_0_0:List Int} {by_1:Int} {r:(List Int)×Int} (h:Zcf N a_0_0 by_1=some r):SndQ zG 214 [.agg [zH .u64 4 a_0_0],.one (zC .u64 by_1)] (Zcf.rs r):=fun st=>
 sO Zcf.B Tryz.func214 fun g0 w0 R hE=>by
  unfold Zcf at h
  refine iteB h (fun c1 h5=>?_) (fun c1 h6=>?_)
  ·obtain rfl:=Zac h5
   exact af fol hE [.r [],.r [],.c true,.r []] [] 0 [] c1
  ·exact aq fol [.r [],.r [],.c false,.r [],.r []] [1,2,4,6,7] [2,4] c1 (At.loop N (At.loopN (fun y:Int×Int×(List Int)=>Zcf.p1.S by_1 y.1 y.2.1 y.2.2 st) (fun c J hc y h=>Zcf.p1_ok (r_1:=y.1) (i_2:=y.2.1) (a_5:=y.2.2) h hE (fun r_1 i_2 a_5=>hc (r_1,i_2,a_5))) N (0,3,a_0_0) h6))
def Zcu.B:Code:=Tryz.f226.body.getD .skip
def Zcu.rs (r:Int×Int):List CV:=[.one (zC .u64 r.1),.one (zC .u64 r.2)]
def Zcu (N:Nat) (x_0 y_1:Int):Option (Int×Int):=
 some (v64 ((v64 ((v64 ((shrOf .u64 x_0 32)*(shrOf .u64 y_1 32)))+(shrOf .u64 (v64 ((v64 ((shrOf .u64 x_0 32)*(bitsOf .and .u64 y_1 4294967295)))+(shrOf .u64 (v64 ((bitsOf .and .u64 x_0 4294967295)*(bitsOf .and .u64 y_1 4294967295))) 32))) 32)))+(shrOf .u64 (v64 ((bitsOf .and .u64 (v64 ((v64 ((shrOf .u64 x_0 32)*(bitsOf .and .u64 y_1 4294967295)))+(shrOf .u64 (v64 ((bitsOf .and .u64 x_0 4294967295)*(bitsOf .and .u64 y_1 4294967295))) 32))) 4294967295)+(v64 ((bitsOf .and .u64 x_0 4294967295)*(shrOf .u64 y_1 32))))) 32)),v64 (x_0*y_1))
theorem Zcu.snd {x_0 y_1:Int} {r:Int×Int} (h:Zcu N x_0 y_1=some r):SndQ zG 226 [.one (zC .u64 x_0),.one (zC .u64 y_1)] (Zcu.rs r):=fun st=>
 sO Zcu.B Tryz.func226 fun g0 w0 R hE=>by
  unfold Zcu at h
  obtain rfl:=Zac h
  exact af fol hE [.r [],.r [],.r [],.r [],.r [],.r [],.r [],.r [],.r [],.r [],.r [],.r []] [] 0 [] (aL (leI 0 32) (leI 0 32) (leI 0 32) (leI 0 32) (leI 0 32))
def ZbP.B:Code:=Tryz.f215.body.getD .skip
def ZbP.rs (r:(List Int)×Bool):List CV:=[.agg [zH .u64 4 r.1],oB r.2]
def ZbP.p1 (N:Nat) (by_1:Int) (c1_:(Int×Int×(List Int))→Option ((List Int)×Bool)):(Int×Int×(List Int))→Option ((List Int)×Bool):=fun (c_1,v2,a_7)=>
 if (decide (v2<4))=true then
  chk (0≤v2)<|
  optE (Zcu N (zE a_7 (zF v2) 0) by_1) fun (x8,x9)=>
  optE (Zds N x9 c_1 0) fun (x10,x11)=>
  c1_ (v64 (x8+x11),w64 (v2+1),zO a_7 (zF v2) x10)
 else
 some (a_7,c_1 != 0)
def ZbP (N:Nat) (a_0_0:List Int) (by_1:Int):Option ((List Int)×Bool):=
 loopN (ZbP.p1 N by_1) N (0,0,a_0_0)
def ZbP.p1.S (by_1 c_1 v2:Int) (a_7:List Int) (st:LL):S:=mkS 37 [(1,.one (.l (zC .u64 by_1))),(2,sA 2),(4,sA 4),(6,.one (.l (zC .u64 c_1))),(11,sI v2)] [(2,.cells [zH .u64 4 a_7]),(4,.cells [zH .u64 4 (zB 4 0)])] st
theorem ZbP.p1_ok {by_1 c_1 v2 a_7 st r c1_ J1} (h:ZbP.p1 N by_1 c1_ (c_1,v2,a_7)=some r) (hE:En Tryz.f215 g0 w0 (ZbP.rs r) st R) (hc1 : ∀c_1 v2 a_7,c1_ (c_1,v2,a_7)=some r→At g0 w0 (ZbP.p1.S by_1 c_1 v2 a_7 st) J1):At g0 w0 (ZbP.p1.S by_1 c_1 v2 a_7 st) (XK zG R (.c (csub ZbP.B [1,1,0,1,0,0]) :: .h J1 :: [.b 0,.c (csub ZbP.B [1,1,1])])):=by
 unfold ZbP.p1 at h
 refine iteB h (fun c5 h1=>?_) (fun c5 h2=>?_)
 ·obtain ⟨c6,h3⟩:=ZaN h1
  obtain ⟨⟨x8,x9⟩,c7,h4⟩:=Zae h3
  obtain ⟨⟨x10,x11⟩,c8,h5⟩:=Zae h4
  exact an fol [.r [],.c true,.r [],.r [(4,q1 [.one (zC .u64 x8),.one (zC .u64 x9)])],.r [],.r [(3,{rs:=[.one (zC .u64 x10),.one (zC .u64 x11)],m:=4})],.r [],.r []] [1,2,4,6,11] [2,4] (aN c5 c6 (oD c5) (Zcu.snd c7) (Zds.snd c8) c6 (oD c5)) (hc1 (v64 (x8+x11)) (w64 (v2+1)) (zO a_7 (zF v2) x10) h5)
 ·obtain rfl:=Zac h2
  exact af fol hE [.r [],.c false,.r []] [] 0 [] c5
theorem ZbP.snd {a_0_0:List Int} {by_1:Int} {r:(List Int)×Bool} (h:ZbP N a_0_0 by_1=some r):SndQ zG 215 [.agg [zH .u64 4 a_0_0],.one (zC .u64 by_1)] (ZbP.rs r):=fun st=>
 sO ZbP.B Tryz.func215 fun g0 w0 R hE=>by
  unfold ZbP at h
  exact aq fol [.r [],.r [],.r []] [1,2,4,6,11] [2,4] trivial (At.loop N (At.loopN (fun y:Int×Int×(List Int)=>ZbP.p1.S by_1 y.1 y.2.1 y.2.2 st) (fun c J hc y h=>ZbP.p1_ok (c_1:=y.1) (v2:=y.2.1) (a_7:=y.2.2) h hE (fun c_1 v2 a_7=>hc (c_1,v2,a_7))) N (0,0,a_0_0) h))
def ZbK.B:Code:=Tryz.f174.body.getD .skip
def ZbK.rs (r:(List Int)×Bool):List CV:=[.agg [zH .u64 4 r.1],oB r.2]
def ZbK.p1 (N:Nat) (b_1_0:List Int) (c1_:(Int×Int×(List Int))→Option ((List Int)×Bool)):(Int×Int×(List Int))→Option ((List Int)×Bool):=fun (c_1,v2,a_5)=>
 if (decide (v2<4))=true then
  chk (0≤v2)<|
  optE (Zds N (zE a_5 (zF v2) 0) (zE b_1_0 (zF v2) 0) c_1) fun (x6,x7)=>
  c1_ (x7,w64 (v2+1),zO a_5 (zF v2) x6)
 else
 some (a_5,c_1 != 0)
def ZbK (N:Nat) (a_0_0 b_1_0:List Int):Option ((List Int)×Bool):=
 loopN (ZbK.p1 N b_1_0) N (0,0,a_0_0)
def ZbK.p1.S (c_1 v2:Int) (a_5 b_1_0:List Int) (st:LL):S:=mkS 28 [(2,sA 2),(3,sA 3),(4,sA 4),(6,.one (.l (zC .u64 c_1))),(8,sI v2)] [(2,.cells [zH .u64 4 a_5]),(3,.cells [zH .u64 4 b_1_0]),(4,.cells [zH .u64 4 (zB 4 0)])] st
theorem ZbK.p1_ok {c_1 v2 a_5 b_1_0 st r c1_ J1} (h:ZbK.p1 N b_1_0 c1_ (c_1,v2,a_5)=some r) (hE:En Tryz.f174 g0 w0 (ZbK.rs r) st R) (hc1 : ∀c_1 v2 a_5,c1_ (c_1,v2,a_5)=some r→At g0 w0 (ZbK.p1.S c_1 v2 a_5 b_1_0 st) J1):At g0 w0 (ZbK.p1.S c_1 v2 a_5 b_1_0 st) (XK zG R (.c (csub ZbK.B [1,1,0,1,0,0]) :: .h J1 :: [.b 0,.c (csub ZbK.B [1,1,1])])):=by
 unfold ZbK.p1 at h
 refine iteB h (fun c4 h1=>?_) (fun c4 h2=>?_)
 ·obtain ⟨c5,h3⟩:=ZaN h1
  obtain ⟨⟨x6,x7⟩,c6,h4⟩:=Zae h3
  exact and_ fol [.r [],.c true,.r [],.d {ds:=[(8,{rs:=[.one (zC .u64 x6),.one (zC .u64 x7)],m:=4})],hv:=8192,Hs:=[8192]},.r []] [2,3,4,6,8] [2,3,4] (aO c4 c5 (oD c4) c5 (oD c4) (Zds.snd c6) c5 (oD c4)) (hc1 x7 (w64 (v2+1)) (zO a_5 (zF v2) x6) h4)
 ·obtain rfl:=Zac h2
  exact af fol hE [.r [],.c false,.r []] [] 0 [] c4
theorem ZbK.snd {a_0_0 b_1_0:List Int} {r:(List Int)×Bool} (h:ZbK N a_0_0 b_1_0=some r):SndQ zG 174 [.agg [zH .u64 4 a_0_0],.agg [zH .u64 4 b_1_0]] (ZbK.rs r):=fun st=>
 sO ZbK.B Tryz.func174 fun g0 w0 R hE=>by
  unfold ZbK at h
  exact aq fol [.r [],.r [],.r []] [2,3,4,6,8] [2,3,4] trivial (At.loop N (At.loopN (fun y:Int×Int×(List Int)=>ZbK.p1.S y.1 y.2.1 y.2.2 b_1_0 st) (fun c J hc y h=>ZbK.p1_ok (c_1:=y.1) (v2:=y.2.1) (a_5:=y.2.2) h hE (fun c_1 v2 a_5=>hc (c_1,v2,a_5))) N (0,0,a_0_0) h))
def Zcm.B:Code:=Tryz.f206.body.getD .skip
def Zcm.rs (r:Int):List CV:=[oI r]
def Zcm.p1 (N:Nat) (a_0_0:List Int) (c1_:Int→Option Int):Int→Option Int:=fun i_1=>
 if (decide (i_1≥0))=true then
  chk (0≤i_1)<|
  chk (i_1<4)<|
  if ((zE a_0_0 (zF i_1) 0) != 0)=true then
   optE (Zaz N (zE a_0_0 (zF i_1) 0)) fun x2=>
   some (w64 ((w64 (64*i_1))+x2))
  else
  c1_ (w64 (i_1-1))
 else
 some 0
def Zcm (N:Nat) (a_0_0:List Int):Option Int:=
 loopN (Zcm.p1 N a_0_0) N 3
def Zcm.p1.S (i_1:Int) (a_0_0:List Int) (st:LL):S:=mkS 19 [(1,sA 1),(3,sI i_1)] [(1,.cells [zH .u64 4 a_0_0])] st
theorem Zcm.p1_ok {i_1 a_0_0 st r c1_ J1} (h:Zcm.p1 N a_0_0 c1_ i_1=some r) (hE:En Tryz.f206 g0 w0 (Zcm.rs r) st R) (hc1 : ∀i_1,c1_ i_1=some r→At g0 w0 (Zcm.p1.S i_1 a_0_0 st) J1):At g0 w0 (Zcm.p1.S i_1 a_0_0 st) (XK zG R (.c (csub Zcm.B [1,0,1,0,0]) :: .h J1 :: [.b 0,.c (csub Zcm.B [1,1])])):=by
 unfold Zcm.p1 at h
 refine iteB h (fun c1 h1=>?_) (fun c1 h2=>?_)
 ·obtain ⟨c2,c3,h3⟩:=ck2 h1
  refine iteB h3 (fun c4 h4=>?_) (fun c4 h5=>?_)
  ·obtain ⟨x2,c5,h6⟩:=Zae h4
   obtain rfl:=Zac h6
   exact af fol hE [.r [],.c true,.r [],.c true,.r [(5,q1 [oI x2])]] [] 0 [] (aN c1 c2 c3 c4 c2 c3 (Zaz.snd c5))
  ·exact an fol [.r [],.c true,.r [],.c false,.r []] [1,3] [1] (aK c1 c2 c3 c4) (hc1 (w64 (i_1-1)) h5)
 ·obtain rfl:=Zac h2
  exact af fol hE [.r [],.c false,.r []] [] 0 [] c1
theorem Zcm.snd {a_0_0:List Int} {r:Int} (h:Zcm N a_0_0=some r):SndQ zG 206 [.agg [zH .u64 4 a_0_0]] (Zcm.rs r):=fun st=>
 sO Zcm.B Tryz.func206 fun g0 w0 R hE=>by
  unfold Zcm at h
  exact aq fol [.r [],.r []] [1,3] [1] trivial (At.loop N (At.loopN (fun y:Int=>Zcm.p1.S y a_0_0 st) (fun c J hc y h=>Zcm.p1_ok h hE (fun i_1=>hc i_1)) N 3 h))
def ZaR.B:Code:=Tryz.f216.body.getD .skip
def ZaR.rs (r:Int):List CV:=[oI r]
def ZaR.p2 (N:Nat) (size_5 word_6:Int):Option Int:=
 some (bitsOf .or .i64 (shlOf .i64 size_5 24) word_6)
def ZaR.p1 (N:Nat) (x1 word_4:Int):Option Int:=
 if ((bitsOf .and .i64 word_4 8388608) != 0)=true then
  ZaR.p2 N (w64 ((w64 (zP (w64 (x1+7)) 8))+1)) (shrOf .i64 word_4 8)
 else
 ZaR.p2 N (w64 (zP (w64 (x1+7)) 8)) word_4
def ZaR (N:Nat) (n_0_0:List Int):Option Int:=
 optE (Zcm N n_0_0) fun x1=>
 if (decide ((w64 (zP (w64 (x1+7)) 8))≤3))=true then
  optE (ZbF N n_0_0 (w64 (8*(w64 (3-(w64 (zP (w64 (x1+7)) 8))))))) fun x2=>
  ZaR.p1 N x1 (w64 (zE x2 0 0))
 else
 optE (Zbi N n_0_0 (w64 (8*(w64 ((w64 (zP (w64 (x1+7)) 8))-3))))) fun x3=>
 ZaR.p1 N x1 (w64 (zE x3 0 0))
def ZaR.p2.S (size_5 word_6:Int) (st:LL):S:=mkS 36 [(3,sI size_5),(4,sI word_6)] [] st
def ZaR.p1.S (x1 word_4:Int) (st:LL):S:=mkS 36 [(3,sI (w64 (zP (w64 (x1+7)) 8))),(4,sI word_4)] [] st
theorem ZaR.p2_ok {size_5 word_6 st r} (h:ZaR.p2 N size_5 word_6=some r) (hE:En Tryz.f216 g0 w0 (ZaR.rs r) st R):At g0 w0 (ZaR.p2.S size_5 word_6 st) (XK zG R [.c (csub ZaR.B [1,1,1,1,1])]):=by
 unfold ZaR.p2 at h
 obtain rfl:=Zac h
 exact af fol hE [.r []] [] 0 [] (leI 0 24)
theorem ZaR.p1_ok {x1 word_4 st r} (h:ZaR.p1 N x1 word_4=some r) (hE:En Tryz.f216 g0 w0 (ZaR.rs r) st R):At g0 w0 (ZaR.p1.S x1 word_4 st) (XK zG R [.c (csub ZaR.B [1,1,1,1])]):=by
 unfold ZaR.p1 at h
 refine iteB h (fun c5 h1=>?_) (fun c5 h2=>?_)
 ·exact aq fol [.r [],.c true,.r [],.r [],.s 1] [3,4] [] (aI c5 (leI 0 8)) (ZaR.p2_ok h1 hE)
 ·exact aq fol [.r [],.c false,.s 1] [3,4] [] c5 (ZaR.p2_ok h2 hE)
theorem ZaR.snd {n_0_0:List Int} {r:Int} (h:ZaR N n_0_0=some r):SndQ zG 216 [.agg [zH .u64 4 n_0_0]] (ZaR.rs r):=fun st=>
 sO ZaR.B Tryz.func216 fun g0 w0 R hE=>by
  unfold ZaR at h
  obtain ⟨x1,c1,h3⟩:=Zae h
  let o1:List PS:=[.r [],.r [(1,q1 [oI x1])],.r [],.r []]
  refine iteB h3 (fun c2 h4=>?_) (fun c2 h5=>?_)
  ·obtain ⟨x2,c3,h6⟩:=Zae h4
   exact aq fol (o1 ++ [.c true,.r [(4,q1 [.agg [zH .u64 4 x2]])],.s 1]) [3,4] [] (aM (Zcm.snd c1) (neI 8) c2 (ZbF.snd c3) (leI 0 0) (ltI 0 4)) (ZaR.p1_ok h6 hE)
  ·obtain ⟨x3,c4,h7⟩:=Zae h5
   exact aq fol (o1 ++ [.c false,.r [(4,q1 [.agg [zH .u64 4 x3]])],.s 1]) [3,4] [] (aM (Zcm.snd c1) (neI 8) c2 (Zbi.snd c4) (leI 0 0) (ltI 0 4)) (ZaR.p1_ok h7 hE)
def ZbC.B:Code:=Tryz.f189.body.getD .skip
def ZbC.rs (r:Int):List CV:=[oI r]
def ZbC.p1 (N:Nat) (n_17:List Int):Option Int:=
 optE (ZaR N n_17) fun x18=>
 some x18
def ZbC (N:Nat) (p_0:Zak) (bits_1 from_2 to_3:Int):Option Int:=
 optE (Zci N bits_1 p_0.Limit) fun (x1,x2)=>
 optE (ZdL N p_0) fun x3=>
 if (!x3)=true then
  some p_0.Limit
 else
 if (!x2)=true then
  some p_0.Limit
 else
 optE (Zeg N p_0 from_2 to_3) fun x4=>
 optE (Zcf N x1 (v64 (w64 (p_0.Interval*p_0.Spacing)))) fun (x5,x6)=>
 optE (ZbP N x5 (v64 (x4))) fun (x7,x8)=>
 chk ((v64 (w64 (p_0.Interval*p_0.Spacing)))≠0)<|
 optE (ZcW N (v64 (zP (v64 (x6*(v64 (x4)))) (v64 (w64 (p_0.Interval*p_0.Spacing)))))) fun x9=>
 optE (ZbK N x7 x9) fun (x10,x11)=>
 optE (Zci N p_0.Limit p_0.Limit) fun (x12,x13)=>
 if x8=true then
  some p_0.Limit
 else
 if x11=true then
  some p_0.Limit
 else
 optE (ZcB N x12 x10) fun x14=>
 if x14=true then
  some p_0.Limit
 else
 optE (ZcI N x10) fun x15=>
 if x15=true then
  optE (ZcW N 1) fun x16=>
  ZbC.p1 N x16
 else
 ZbC.p1 N x10
def ZbC.p1.S (n_17:List Int) (st:LL):S:=mkS 94 [(15,sA 15)] [(15,.cells [zH .u64 4 n_17])] st
theorem ZbC.p1_ok {n_17 st r} (h:ZbC.p1 N n_17=some r) (hE:En Tryz.f189 g0 w0 (ZbC.rs r) st R):At g0 w0 (ZbC.p1.S n_17 st) (XK zG R [.c (csub ZbC.B [1,1,1,1,1,1,1,1,1,1,1])]):=by
 unfold ZbC.p1 at h
 obtain ⟨x18,c19,h1⟩:=Zae h
 obtain rfl:=Zac h1
 exact af fol hE [.r [(1,q1 [oI x18])]] [] 0 [] (ZaR.snd c19)
theorem ZbC.snd {p_0:Zak} {bits_1 from_2 to_3:Int} {r:Int} (h:ZbC N p_0 bits_1 from_2 to_3=some r):SndQ zG 189 [.agg p_0.ls,oI bits_1,oI from_2,oI to_3] (ZbC.rs r):=fun st=>
 sO ZbC.B Tryz.func189 fun g0 w0 R hE=>by
  unfold ZbC at h
  obtain ⟨⟨x1,x2⟩,c1,h2⟩:=Zae h
  obtain ⟨x3,c2,h3⟩:=Zae h2
  let o1:List PS:=[.r [],.r [(3,q1 [.agg [zH .u64 4 x1],oB x2])]]
  have t1 {Q:Prop} (q:Q):=aJ (Zci.snd c1) (ZdL.snd c2) q
  refine iteB h3 (fun c3 h4=>?_) (fun c3 h5=>?_)
  ·obtain rfl:=Zac h4
   exact af fol hE (o1 ++ [.r [(1,q1 [oB x3]),(4,wF),(5,wF)],.c true,.r []]) [] 0 [] (t1 (aK (not_false (ZaX c3)) (not_false (ZaX c3)) (not_false (ZaX c3)) eT))
  ·let o2:List PS:=o1 ++ [.r [(1,q1 [oB x3]),(6,yF)]]
   have t2 {Q:Prop} (q:Q):=t1 (aK (not_true (ZaU c3)) (not_true (ZaU c3)) (not_true (ZaU c3)) q)
   refine iteB h5 (fun c4 h6=>?_) (fun c4 h7=>?_)
   ·obtain rfl:=Zac h6
    exact af fol hE (o2 ++ [.c true,.r []]) [] 0 [] (t2 c4)
   ·obtain ⟨x4,c5,h8⟩:=Zae h7
    obtain ⟨⟨x5,x6⟩,c6,h9⟩:=Zae h8
    obtain ⟨⟨x7,x8⟩,c7,h10⟩:=Zae h9
    obtain ⟨c8,h11⟩:=ZaN h10
    obtain ⟨x9,c9,h12⟩:=Zae h11
    obtain ⟨⟨x10,x11⟩,c10,h13⟩:=Zae h12
    obtain ⟨⟨x12,x13⟩,c11,h14⟩:=Zae h13
    let o3:List PS:=o2 ++ [.c false,.r [],.r [(3,q1 [oI x4])],.r [(2,q1 [.agg [zH .u64 4 x5],.one (zC .u64 x6)])],.r [(2,q1 [.agg [zH .u64 4 x7],oB x8])],.d {ds:=[(6,q1 [.agg [zH .u64 4 x9]]),(7,q1 [.agg [zH .u64 4 x10],oB x11])],hv:=2048,Hs:=[2048]},.r [(4,q1 [.agg [zH .u64 4 x12],oB x13])]]
    have t3 {Q:Prop} (q:Q):=t2 (aO c4 (Zeg.snd c5) (Zcf.snd c6) (ZbP.snd c7) c8 (ZcW.snd c9) (ZbK.snd c10) (aI (Zci.snd c11) q))
    refine iteB h14 (fun c12 h15=>?_) (fun c12 h16=>?_)
    ·obtain rfl:=Zac h15
     exact afd fol hE (o3 ++ [.r [(2,wF),(5,wF),(6,wF),(7,wF)],.c true,.r []]) [] 0 [] (t3 (aN c12 c12 eT eT eT eT eT))
    ·refine iteB h16 (fun c13 h17=>?_) (fun c13 h18=>?_)
     ·obtain rfl:=Zac h17
      exact afd fol hE (o3 ++ [.r [(3,yF),(5,wF),(6,wF),(7,wF)],.c true,.r []]) [] 0 [] (t3 (aN c12 c12 c13 c13 c13 c13 eT))
     ·obtain ⟨x14,c14,h19⟩:=Zae h18
      let o4:List PS:=o3 ++ [.r [(3,yF),(7,q1 [oB x14]),(8,yF)]]
      have t4 {Q:Prop} (q:Q):=t3 (aO c12 c12 c13 c13 c13 (ZcB.snd c14) c13 q)
      refine iteB h19 (fun c15 h20=>?_) (fun c15 h21=>?_)
      ·obtain rfl:=Zac h20
       exact afd fol hE (o4 ++ [.c true,.r []]) [] 0 [] (t4 c15)
      ·obtain ⟨x15,c16,h22⟩:=Zae h21
       let o5:List PS:=o4 ++ [.c false,.r [(1,q1 [oB x15])]]
       refine iteB h22 (fun c17 h23=>?_) (fun c17 h24=>?_)
       ·obtain ⟨x16,c18,h25⟩:=Zae h23
        exact aqd fol (o5 ++ [.c true,.r [(0,q1 [.agg [zH .u64 4 x16]])],.s 1]) [15] [15] (t4 (aK c15 (ZcI.snd c16) c17 (ZcW.snd c18))) (ZbC.p1_ok h25 hE)
       ·exact aqd fol (o5 ++ [.c false,.s 1]) [15] [15] (t4 (aJ c15 (ZcI.snd c16) c17)) (ZbC.p1_ok h24 hE)
def Zeh.B:Code:=Tryz.f149.body.getD .skip
def Zeh.rs (r:Int):List CV:=[oI r]
def Zeh (N:Nat) (p_0:Zak) (at_1:ZaQ) (time_2:Int):Option Int:=
 if (decide (at_1.Height≤0))=true then
  some p_0.Limit
 else
 optE (ZcS N p_0 at_1.Height) fun x1=>
 if x1=true then
  optE (ZbC N p_0 at_1.Bits at_1.First at_1.Time) fun x2=>
  some x2
 else
 if (!p_0.Easy)=true then
  some at_1.Bits
 else
 if (decide ((w64 (time_2-at_1.Time))>(w64 (2*p_0.Spacing))))=true then
  some p_0.Limit
 else
 some at_1.Hard
theorem Zeh.snd {p_0:Zak} {at_1:ZaQ} {time_2:Int} {r:Int} (h:Zeh N p_0 at_1 time_2=some r):SndQ zG 149 [.agg p_0.ls,.agg at_1.ls,oI time_2] (Zeh.rs r):=fun st=>
 sO Zeh.B Tryz.func149 fun g0 w0 R hE=>by
  unfold Zeh at h
  refine iteB h (fun c1 h1=>?_) (fun c1 h2=>?_)
  ·obtain rfl:=Zac h1
   exact af fol hE [.r [],.r [],.c true,.r []] [] 0 [] c1
  ·obtain ⟨x1,c2,h3⟩:=Zae h2
   let o1:List PS:=[.r [],.r [],.c false,.r [(3,q1 [oB x1])]]
   have t1 {Q:Prop} (q:Q):=aJ c1 (ZcS.snd c2) q
   refine iteB h3 (fun c3 h4=>?_) (fun c3 h5=>?_)
   ·obtain ⟨x2,c4,h6⟩:=Zae h4
    obtain rfl:=Zac h6
    exact af fol hE (o1 ++ [.c true,.r [(7,q1 [oI x2])]]) [] 0 [] (t1 (aI c3 (ZbC.snd c4)))
   ·refine iteB h5 (fun c5 h7=>?_) (fun c5 h8=>?_)
    ·obtain rfl:=Zac h7
     exact af fol hE (o1 ++ [.c false,.r [],.c true,.r []]) [] 0 [] (t1 (aI c3 c5))
    ·refine iteB h8 (fun c6 h9=>?_) (fun c6 h10=>?_)
     ·obtain rfl:=Zac h9
      exact af fol hE (o1 ++ [.c false,.r [],.c false,.r [],.c true,.r []]) [] 0 [] (t1 (aJ c3 c5 c6))
     ·obtain rfl:=Zac h10
      exact af fol hE (o1 ++ [.c false,.r [],.c false,.r [],.c false,.r []]) [] 0 [] (t1 (aJ c3 c5 c6))
def Zbx.B:Code:=Tryz.f217.body.getD .skip
def Zbx.rs (r:(List Int)):List CV:=[.agg [zH .u64 4 r]]
def Zbx.p1 (N:Nat) (h_0_0:List Int) (c1_:(Int×(List Int))→Option (List Int)):(Int×(List Int))→Option (List Int):=fun (v1,out_2)=>
 if (decide (v1<32))=true then
  chk (0≤v1)<|
  chk (0≤(w64 (zP v1 8)))<|
  chk ((w64 (zP v1 8))<4)<|
  chk (0≤(w64 (8*(zR v1 8))))<|
  c1_ (w64 (v1+1),zO out_2 (zF (w64 (zP v1 8))) (bitsOf .or .u64 (zE out_2 (zF (w64 (zP v1 8))) 0) (shlOf .u64 (v64 (zE h_0_0 (zF v1) 0)) (w64 (8*(zR v1 8))))))
 else
 some out_2
def Zbx (N:Nat) (h_0_0:List Int):Option (List Int):=
 loopN (Zbx.p1 N h_0_0) N (0,zB 4 0)
def Zbx.p1.S (h_0_0:List Int) (v1:Int) (out_2:List Int) (st:LL):S:=mkS 25 [(2,sA 2),(3,sA 3),(6,.agg [.l (zH .u8 32 h_0_0)]),(7,sI v1)] [(2,.cells [zH .u64 4 (zB 4 0)]),(3,.cells [zH .u64 4 out_2])] st
theorem Zbx.p1_ok {h_0_0 v1 out_2 st r c1_ J1} (h:Zbx.p1 N h_0_0 c1_ (v1,out_2)=some r) (hE:En Tryz.f217 g0 w0 (Zbx.rs r) st R) (hc1 : ∀v1 out_2,c1_ (v1,out_2)=some r→At g0 w0 (Zbx.p1.S h_0_0 v1 out_2 st) J1):At g0 w0 (Zbx.p1.S h_0_0 v1 out_2 st) (XK zG R (.c (csub Zbx.B [1,1,0,1,0,0]) :: .h J1 :: [.b 0,.c (csub Zbx.B [1,1,1])])):=by
 unfold Zbx.p1 at h
 refine iteB h (fun c6 h1=>?_) (fun c6 h2=>?_)
 ·obtain ⟨c7,c8,c9,c10,h3⟩:=ck4 h1
  exact and_ fol [.r [],.c true,.r [],.d {ds:=[],hv:=4096,Hs:=[4096]},.r []] [2,3,6,7] [2,3] (aO c6 c7 (oD c6) (neI 8) c8 c9 (neI 8) (aJ c10 c8 c9)) (hc1 (w64 (v1+1)) (zO out_2 (zF (w64 (zP v1 8))) (bitsOf .or .u64 (zE out_2 (zF (w64 (zP v1 8))) 0) (shlOf .u64 (v64 (zE h_0_0 (zF v1) 0)) (w64 (8*(zR v1 8)))))) h3)
 ·obtain rfl:=Zac h2
  exact af fol hE [.r [],.c false,.r []] [] 0 [] c6
theorem Zbx.snd {h_0_0:List Int} {r:(List Int)} (h:Zbx N h_0_0=some r):SndQ zG 217 [.agg [zH .u8 32 h_0_0]] (Zbx.rs r):=fun st=>
 sO Zbx.B Tryz.func217 fun g0 w0 R hE=>by
  unfold Zbx at h
  exact aq fol [.r [],.r [],.r []] [2,3,6,7] [2,3] trivial (At.loop N (At.loopN (fun y:Int×(List Int)=>Zbx.p1.S h_0_0 y.1 y.2 st) (fun c J hc y h=>Zbx.p1_ok (v1:=y.1) (out_2:=y.2) h hE (fun v1 out_2=>hc (v1,out_2))) N (0,zB 4 0) h))
def ZcY.B:Code:=Tryz.f190.body.getD .skip
def ZcY.rs (r:Bool):List CV:=[oB r]
def ZcY (N:Nat) (h_0_0 target_1_0:List Int):Option Bool:=
 optE (Zbx N h_0_0) fun x1=>
 optE (ZcB N target_1_0 x1) fun x2=>
 some (!x2)
theorem ZcY.snd {h_0_0 target_1_0:List Int} {r:Bool} (h:ZcY N h_0_0 target_1_0=some r):SndQ zG 190 [.agg [zH .u8 32 h_0_0],.agg [zH .u64 4 target_1_0]] (ZcY.rs r):=fun st=>
 sO ZcY.B Tryz.func190 fun g0 w0 R hE=>by
  unfold ZcY at h
  obtain ⟨x1,c1,h1⟩:=Zae h
  obtain ⟨x2,c2,h2⟩:=Zae h1
  obtain rfl:=Zac h2
  exact afd fol hE [.r [],.d {ds:=[(2,q1 [.agg [zH .u64 4 x1]]),(3,q1 [oB x2])],hv:=0,Hs:=[]}] [] 0 [] (aI (Zbx.snd c1) (ZcB.snd c2))
def Zdw.B:Code:=Tryz.f150.body.getD .skip
def Zdw.rs (r:Int):List CV:=[oI r]
def Zdw (N:Nat) (p_0:Zak) (h_1:Zaa):Option Int:=
 optE (Zcs N h_1) fun x1=>
 if (!x1)=true then
  some 1
 else
 optE (Zci N h_1.Bits p_0.Limit) fun (x2,x3)=>
 if (!x3)=true then
  some 4
 else
 optE (Zdj N h_1) fun x4=>
 optE (ZcY N x4 x2) fun x5=>
 if (!x5)=true then
  some 4
 else
 some 0
theorem Zdw.snd {p_0:Zak} {h_1:Zaa} {r:Int} (h:Zdw N p_0 h_1=some r):SndQ zG 150 [.agg p_0.ls,.agg h_1.ls] (Zdw.rs r):=fun st=>
 sO Zdw.B Tryz.func150 fun g0 w0 R hE=>by
  unfold Zdw at h
  obtain ⟨x1,c1,h1⟩:=Zae h
  let o1:List PS:=[.r [],.r [(1,q1 [oB x1])]]
  have t1 {Q:Prop} (q:Q):=aI (Zcs.snd c1) q
  refine iteB h1 (fun c2 h2=>?_) (fun c2 h3=>?_)
  ·obtain rfl:=Zac h2
   exact af fol hE (o1 ++ [.c true,.r []]) [] 0 [] (t1 c2)
  ·obtain ⟨⟨x2,x3⟩,c3,h4⟩:=Zae h3
   let o2:List PS:=o1 ++ [.c false,.r [(4,q1 [.agg [zH .u64 4 x2],oB x3])]]
   have t2 {Q:Prop} (q:Q):=t1 (aJ c2 (Zci.snd c3) q)
   refine iteB h4 (fun c4 h5=>?_) (fun c4 h6=>?_)
   ·obtain rfl:=Zac h5
    exact afd fol hE (o2 ++ [.d {ds:=[(3,wF),(4,wF),(5,wF),(6,wF),(7,wF)],hv:=0,Hs:=[]},.c true,.r []]) [] 0 [] (t2 (aN (not_false (ZaX c4)) (not_false (ZaX c4)) (not_false (ZaX c4)) (not_false (ZaX c4)) (not_false (ZaX c4)) (not_false (ZaX c4)) eT))
   ·obtain ⟨x4,c5,h7⟩:=Zae h6
    obtain ⟨x5,c6,h8⟩:=Zae h7
    let o3:List PS:=o2 ++ [.d {ds:=[(4,q1 [.agg [zH .u8 32 x4]]),(6,q1 [oB x5]),(8,yF)],hv:=0,Hs:=[]}]
    have t3 {Q:Prop} (q:Q):=t2 (aO (not_true (ZaU c4)) (not_true (ZaU c4)) (Zdj.snd c5) (not_true (ZaU c4)) (not_true (ZaU c4)) (ZcY.snd c6) (not_true (ZaU c4)) (aI (not_true (ZaU c4)) q))
    refine iteB h8 (fun c7 h9=>?_) (fun c7 h10=>?_)
    ·obtain rfl:=Zac h9
     exact afd fol hE (o3 ++ [.c true,.r []]) [] 0 [] (t3 c7)
    ·obtain rfl:=Zac h10
     exact afd fol hE (o3 ++ [.c false,.r []]) [] 0 [] (t3 c7)
def Zde.B:Code:=Tryz.f151.body.getD .skip
def Zde.rs (r:Bool):List CV:=[oB r]
def Zde (N:Nat) (time_0:Int) (times_1:LL):Option Bool:=
 if ((len times_1)==0)=true then
  some true
 else
 optE (ZdM N times_1) fun x1=>
 some (decide (time_0>x1))
theorem Zde.snd {time_0:Int} {times_1:LL} {r:Bool} (h:Zde N time_0 times_1=some r):SndQ zG 151 [oI time_0,.one (yM 1 times_1)] (Zde.rs r):=fun st=>
 sO Zde.B Tryz.func151 fun g0 w0 R hE=>by
  unfold Zde at h
  refine iteB h (fun c1 h1=>?_) (fun c1 h2=>?_)
  ·obtain rfl:=Zac h1
   exact af fol hE [.r [],.r [(4,wF),(5,wF),(6,wF),(7,wF)]] [] 0 [] (aL c1 c1 c1 c1 c1)
  ·obtain ⟨x1,c2,h3⟩:=Zae h2
   obtain rfl:=Zac h3
   exact af fol hE [.r [],.r [(6,q1 [oI x1]),(8,yF)]] [] 0 [] (aM c1 c1 c1 (ZdM.snd c2) c1 c1)
def Zdz.B:Code:=Tryz.f152.body.getD .skip
def Zdz.rs (r:Bool):List CV:=[oB r]
def Zdz (N:Nat) (time_0 now_1 future_2:Int):Option Bool:=
 if (decide (future_2≥0))=true then
  if (decide (time_0≤now_1))=true then
   some true
  else
  some (decide ((w64 (time_0-now_1))≤future_2))
 else
 some false
theorem Zdz.snd {time_0 now_1 future_2:Int} {r:Bool} (h:Zdz N time_0 now_1 future_2=some r):SndQ zG 152 [oI time_0,oI now_1,oI future_2] (Zdz.rs r):=fun st=>
 sO Zdz.B Tryz.func152 fun g0 w0 R hE=>by
  unfold Zdz at h
  refine iteB h (fun c1 h1=>?_) (fun c1 h2=>?_)
  ·refine iteB h1 (fun c2 h3=>?_) (fun c2 h4=>?_)
   ·obtain rfl:=Zac h3
    exact af fol hE [.r [],.r [(7,wF),(8,wF),(9,wF),(10,wF),(11,wF)]] [] 0 [] (aO c1 c1 c1 c1 c2 c2 c2 (aL c2 c2 c1 c2 c1))
   ·obtain rfl:=Zac h4
    exact af fol hE [.r [],.r [(12,yF)]] [] 0 [] (aO c1 c1 c1 c1 c2 c2 c2 (aL c2 c2 c1 c2 c1))
  ·obtain rfl:=Zac h2
   exact af fol hE [.r [],.r [(3,wF),(4,wF),(5,wF),(6,wF),(12,wF),(13,yF)]] [] 0 [] (aM c1 c1 c1 c1 c1 c1)
def ZaW.B:Code:=Tryz.f153.body.getD .skip
def ZaW.rs (r:Int):List CV:=[oI r]
def ZaW.p2 (N:Nat) (c1_:(Int×Int)→Option Int) (height_0 least_4:Int) (gates_1:LL) (v2:Int):Option Int:=
 c1_ (least_4,w64 (v2+1))
def ZaW.p1 (N:Nat) (height_0:Int) (gates_1:LL) (c1_:(Int×Int)→Option Int):(Int×Int)→Option Int:=fun (least_1,v2)=>
 if (decide (v2<(len gates_1)))=true then
  chk (0≤v2)<|
  getE (gates_1[zF v2]?) ZdT fun x3=>
  if (decide (height_0≥x3.Height))=true then
   ZaW.p2 N c1_ height_0 (if x3.Version>least_1 then x3.Version else least_1) gates_1 v2
  else
  ZaW.p2 N c1_ height_0 least_1 gates_1 v2
 else
 some least_1
def ZaW (N:Nat) (height_0:Int) (gates_1:LL):Option Int:=
 loopN (ZaW.p1 N height_0 gates_1) N ((-2147483648),0)
def ZaW.p2.S (height_0 least_4:Int) (gates_1:LL) (v2:Int) (st:LL):S:=mkS 24 [(0,sI height_0),(5,sI least_4),(8,sV 2 gates_1),(9,sI (len gates_1)),(10,sI v2)] [] st
def ZaW.p1.S (height_0 least_1:Int) (gates_1:LL) (v2:Int) (st:LL):S:=mkS 24 [(0,sI height_0),(5,sI least_1),(8,sV 2 gates_1),(9,sI (len gates_1)),(10,sI v2)] [] st
theorem ZaW.p2_ok {height_0 least_4 gates_1 v2 st r c1_ J1} (h:ZaW.p2 N c1_ height_0 least_4 gates_1 v2=some r) (hE:En Tryz.f153 g0 w0 (ZaW.rs r) st R) (hc1 : ∀least_1 v2,c1_ (least_1,v2)=some r→At g0 w0 (ZaW.p1.S height_0 least_1 gates_1 v2 st) J1):At g0 w0 (ZaW.p2.S height_0 least_4 gates_1 v2 st) (XK zG R [.c (csub ZaW.B [1,1,0,1,0,0,1,1,1]),.h J1,.b 0,.c (csub ZaW.B [1,1,1])]):=by
 unfold ZaW.p2 at h
 exact an fol [.r []] [0,5,8,9,10] [] trivial (hc1 least_4 (w64 (v2+1)) h)
theorem ZaW.p1_ok {height_0 least_1 gates_1 v2 st r c1_ J1} (h:ZaW.p1 N height_0 gates_1 c1_ (least_1,v2)=some r) (hE:En Tryz.f153 g0 w0 (ZaW.rs r) st R) (hc1 : ∀least_1 v2,c1_ (least_1,v2)=some r→At g0 w0 (ZaW.p1.S height_0 least_1 gates_1 v2 st) J1):At g0 w0 (ZaW.p1.S height_0 least_1 gates_1 v2 st) (XK zG R (.c (csub ZaW.B [1,1,0,1,0,0]) :: .h J1 :: [.b 0,.c (csub ZaW.B [1,1,1])])):=by
 unfold ZaW.p1 at h
 refine iteB h (fun c1 h1=>?_) (fun c1 h2=>?_)
 ·obtain ⟨c2,h3⟩:=ZaN h1
  obtain ⟨x3,c3,h4⟩:=ZdX h3
  let o1:List PS:=[.r [],.c true,.r [(1,{oe:=x3.ls})],.r []]
  refine iteB h4 (fun c4 h5=>?_) (fun c4 h6=>?_)
  ·exact aq fol (o1 ++ [.c true,.r [],.s 4]) [0,5,8,9,10] [] (aL c1 c2 (oD c1) c3 c4) (ZaW.p2_ok h5 hE hc1)
  ·exact aq fol (o1 ++ [.c false,.s 4]) [0,5,8,9,10] [] (aL c1 c2 (oD c1) c3 c4) (ZaW.p2_ok h6 hE hc1)
 ·obtain rfl:=Zac h2
  exact af fol hE [.r [],.c false,.r []] [] 0 [] c1
theorem ZaW.snd {height_0:Int} {gates_1:LL} {r:Int} (h:ZaW N height_0 gates_1=some r):SndQ zG 153 [oI height_0,.one (yM 2 gates_1)] (ZaW.rs r):=fun st=>
 sO ZaW.B Tryz.func153 fun g0 w0 R hE=>by
  unfold ZaW at h
  exact aq fol [.r [],.r [],.r []] [0,5,8,9,10] [] trivial (At.loop N (At.loopN (fun y:Int×Int=>ZaW.p1.S height_0 y.1 gates_1 y.2 st) (fun c J hc y h=>ZaW.p1_ok (least_1:=y.1) (v2:=y.2) h hE (fun least_1 v2=>hc (least_1,v2))) N ((-2147483648),0) h))
def ZbN.B:Code:=Tryz.f154.body.getD .skip
def ZbN.rs (r:Bool):List CV:=[oB r]
def ZbN.p1 (N:Nat) (height_0:Int) (checks_2:LL) (id_1_0:List Int) (c1_:Int→Option Bool):Int→Option Bool:=fun v1=>
 if (decide (v1<(len checks_2)))=true then
  chk (0≤v1)<|
  getE (checks_2[zF v1]?) ZdG fun x2=>
  if (x2.Height==height_0)=true then
   if (!(x2.Id==id_1_0))=true then
    some false
   else
   c1_ (w64 (v1+1))
  else
  c1_ (w64 (v1+1))
 else
 some true
def ZbN (N:Nat) (height_0:Int) (id_1_0:List Int) (checks_2:LL):Option Bool:=
 loopN (ZbN.p1 N height_0 checks_2 id_1_0) N 0
def ZbN.p1.S (height_0:Int) (checks_2:LL) (v1:Int) (id_1_0:List Int) (st:LL):S:=mkS 26 [(0,sI height_0),(4,sA 4),(9,sV 33 checks_2),(10,sI (len checks_2)),(11,sI v1)] [(4,.cells [zH .u8 32 id_1_0])] st
theorem ZbN.p1_ok {height_0 checks_2 v1 id_1_0 st r c1_ J1} (h:ZbN.p1 N height_0 checks_2 id_1_0 c1_ v1=some r) (hE:En Tryz.f154 g0 w0 (ZbN.rs r) st R) (hc1 : ∀v1,c1_ v1=some r→At g0 w0 (ZbN.p1.S height_0 checks_2 v1 id_1_0 st) J1):At g0 w0 (ZbN.p1.S height_0 checks_2 v1 id_1_0 st) (XK zG R (.c (csub ZbN.B [1,0,1,0,0]) :: .h J1 :: [.b 0,.c (csub ZbN.B [1,1])])):=by
 unfold ZbN.p1 at h
 refine iteB h (fun c1 h1=>?_) (fun c1 h2=>?_)
 ·obtain ⟨c2,h3⟩:=ZaN h1
  obtain ⟨x2,c3,h4⟩:=ZdP h3
  let o1:List PS:=[.r [],.c true,.r [(1,{oe:=x2.ls})]]
  refine iteB h4 (fun c4 h5=>?_) (fun c4 h6=>?_)
  ·have t1 {Q:Prop} (q:Q):=aO c1 c2 (oD c1) c3 c4 c4 c4 (aJ c4 c4 q)
   refine iteB h5 (fun c5 h7=>?_) (fun c5 h8=>?_)
   ·obtain rfl:=Zac h7
    exact af fol hE (o1 ++ [.r [],.c true,.r []]) [] 0 [] (t1 c5)
   ·exact an fol (o1 ++ [.r [],.c false,.r []]) [0,4,9,10,11] [4] (t1 c5) (hc1 (w64 (v1+1)) h8)
  ·exact an fol (o1 ++ [.r [(5,wF),(6,wF),(7,wF),(8,wF),(9,yF)],.c false,.r []]) [0,4,9,10,11] [4] (aO c1 c2 (oD c1) c3 c4 c4 c4 (aJ c4 c4 eF)) (hc1 (w64 (v1+1)) h6)
 ·obtain rfl:=Zac h2
  exact af fol hE [.r [],.c false,.r []] [] 0 [] c1
theorem ZbN.snd {height_0:Int} {id_1_0:List Int} {checks_2:LL} {r:Bool} (h:ZbN N height_0 id_1_0 checks_2=some r):SndQ zG 154 [oI height_0,.agg [zH .u8 32 id_1_0],.one (yM 33 checks_2)] (ZbN.rs r):=fun st=>
 sO ZbN.B Tryz.func154 fun g0 w0 R hE=>by
  unfold ZbN at h
  exact aq fol [.r [],.r []] [0,4,9,10,11] [4] trivial (At.loop N (At.loopN (fun y:Int=>ZbN.p1.S height_0 checks_2 y id_1_0 st) (fun c J hc y h=>ZbN.p1_ok h hE (fun v1=>hc v1)) N 0 h))
def Zdq.B:Code:=Tryz.f92.body.getD .skip
def Zdq.rs (r:Int):List CV:=[oI r]
def Zdq (N:Nat) (p_0:Zak) (at_1:Zat) (h_2:Zaa) (now_3:Int):Option Int:=
 optE (Zcs N h_2) fun x1=>
 if (!x1)=true then
  some 1
 else
 if (!(h_2.Prev==at_1.Prev))=true then
  some 2
 else
 optE (Zeh N p_0 at_1.Point h_2.Time) fun x2=>
 if (h_2.Bits != x2)=true then
  some 3
 else
 optE (Zdw N p_0 h_2) fun x3=>
 if (x3 != 0)=true then
  some 4
 else
 optE (Zde N h_2.Time at_1.Times) fun x4=>
 if (!x4)=true then
  some 5
 else
 optE (Zdz N h_2.Time now_3 p_0.Future) fun x5=>
 if (!x5)=true then
  some 6
 else
 optE (ZaW N at_1.Point.Height p_0.Gates) fun x6=>
 if (decide (h_2.Version<x6))=true then
  some 7
 else
 optE (Zdj N h_2) fun x7=>
 optE (ZbN N at_1.Point.Height x7 p_0.Checks) fun x8=>
 if (!x8)=true then
  some 8
 else
 some 0
theorem Zdq.snd {p_0:Zak} {at_1:Zat} {h_2:Zaa} {now_3:Int} {r:Int} (h:Zdq N p_0 at_1 h_2 now_3=some r):SndQ zG 92 [.agg p_0.ls,.agg at_1.ls,.agg h_2.ls,oI now_3] (Zdq.rs r):=fun st=>
 sO Zdq.B Tryz.func92 fun g0 w0 R hE=>by
  unfold Zdq at h
  obtain ⟨x1,c1,h1⟩:=Zae h
  let o1:List PS:=[.r [],.r [(1,q1 [oB x1])]]
  have t1 {Q:Prop} (q:Q):=aI (Zcs.snd c1) q
  refine iteB h1 (fun c2 h2=>?_) (fun c2 h3=>?_)
  ·obtain rfl:=Zac h2
   exact af fol hE (o1 ++ [.c true,.r []]) [] 0 [] (t1 c2)
  ·let o2:List PS:=o1 ++ [.c false,.r []]
   refine iteB h3 (fun c3 h4=>?_) (fun c3 h5=>?_)
   ·obtain rfl:=Zac h4
    exact af fol hE (o2 ++ [.c true,.r []]) [] 0 [] (t1 (aI c2 c3))
   ·obtain ⟨x2,c4,h6⟩:=Zae h5
    let o3:List PS:=o2 ++ [.c false,.d {ds:=[(7,q1 [oI x2])],hv:=0,Hs:=[]}]
    have t2 {Q:Prop} (q:Q):=t1 (aK c2 c3 (Zeh.snd c4) q)
    refine iteB h6 (fun c5 h7=>?_) (fun c5 h8=>?_)
    ·obtain rfl:=Zac h7
     exact afd fol hE (o3 ++ [.c true,.r []]) [] 0 [] (t2 c5)
    ·obtain ⟨x3,c6,h9⟩:=Zae h8
     let o4:List PS:=o3 ++ [.c false,.r [(2,q1 [oI x3])]]
     have t3 {Q:Prop} (q:Q):=t2 (aJ c5 (Zdw.snd c6) q)
     refine iteB h9 (fun c7 h10=>?_) (fun c7 h11=>?_)
     ·obtain rfl:=Zac h10
      exact afd fol hE (o4 ++ [.c true,.r []]) [] 0 [] (t3 c7)
     ·obtain ⟨x4,c8,h12⟩:=Zae h11
      let o5:List PS:=o4 ++ [.c false,.r [(4,q1 [oB x4])]]
      have t4 {Q:Prop} (q:Q):=t3 (aJ c7 (Zde.snd c8) q)
      refine iteB h12 (fun c9 h13=>?_) (fun c9 h14=>?_)
      ·obtain rfl:=Zac h13
       exact afd fol hE (o5 ++ [.c true,.r []]) [] 0 [] (t4 c9)
      ·obtain ⟨x5,c10,h15⟩:=Zae h14
       let o6:List PS:=o5 ++ [.c false,.r [(5,q1 [oB x5])]]
       have t5 {Q:Prop} (q:Q):=t4 (aJ c9 (Zdz.snd c10) q)
       refine iteB h15 (fun c11 h16=>?_) (fun c11 h17=>?_)
       ·obtain rfl:=Zac h16
        exact afd fol hE (o6 ++ [.c true,.r []]) [] 0 [] (t5 c11)
       ·obtain ⟨x6,c12,h18⟩:=Zae h17
        let o7:List PS:=o6 ++ [.c false,.d {ds:=[(7,q1 [oI x6])],hv:=0,Hs:=[]}]
        have t6 {Q:Prop} (q:Q):=t5 (aJ c11 (ZaW.snd c12) q)
        refine iteB h18 (fun c13 h19=>?_) (fun c13 h20=>?_)
        ·obtain rfl:=Zac h19
         exact afd fol hE (o7 ++ [.c true,.r []]) [] 0 [] (t6 c13)
        ·obtain ⟨x7,c14,h21⟩:=Zae h20
         obtain ⟨x8,c15,h22⟩:=Zae h21
         let o8:List PS:=o7 ++ [.c false,.d {ds:=[(4,q1 [.agg [zH .u8 32 x7]]),(7,q1 [oB x8])],hv:=0,Hs:=[]}]
         have t7 {Q:Prop} (q:Q):=t6 (aK c13 (Zdj.snd c14) (ZbN.snd c15) q)
         refine iteB h22 (fun c16 h23=>?_) (fun c16 h24=>?_)
         ·obtain rfl:=Zac h23
          exact afd fol hE (o8 ++ [.c true,.r []]) [] 0 [] (t7 c16)
         ·obtain rfl:=Zac h24
          exact afd fol hE (o8 ++ [.c false,.r []]) [] 0 [] (t7 c16)
def Zce.B:Code:=Tryz.f175.body.getD .skip
def Zce.rs (r:(List Int)):List CV:=[.agg [zH .u64 4 r]]
def Zce.p1 (N:Nat) (c1_:(Int×(List Int))→Option (List Int)):(Int×(List Int))→Option (List Int):=fun (v1,a_2)=>
 if (decide (v1<4))=true then
  chk (0≤v1)<|
  c1_ (w64 (v1+1),zO a_2 (zF v1) (bitsOf .xor .u64 (IntKind.max IntKind.u64) (zE a_2 (zF v1) 0)))
 else
 some a_2
def Zce (N:Nat) (a_0_0:List Int):Option (List Int):=
 loopN (Zce.p1 N) N (0,a_0_0)
def Zce.p1.S (v1:Int) (a_2:List Int) (st:LL):S:=mkS 15 [(1,sA 1),(2,sA 2),(4,sI v1)] [(1,.cells [zH .u64 4 a_2]),(2,.cells [zH .u64 4 (zB 4 0)])] st
theorem Zce.p1_ok {v1 a_2 st r c1_ J1} (h:Zce.p1 N c1_ (v1,a_2)=some r) (hE:En Tryz.f175 g0 w0 (Zce.rs r) st R) (hc1 : ∀v1 a_2,c1_ (v1,a_2)=some r→At g0 w0 (Zce.p1.S v1 a_2 st) J1):At g0 w0 (Zce.p1.S v1 a_2 st) (XK zG R (.c (csub Zce.B [1,0,1,0,0]) :: .h J1 :: [.b 0,.c (csub Zce.B [1,1])])):=by
 unfold Zce.p1 at h
 refine iteB h (fun c3 h1=>?_) (fun c3 h2=>?_)
 ·obtain ⟨c4,h3⟩:=ZaN h1
  exact an fol [.r [],.c true,.r [],.r [],.r []] [1,2,4] [1,2] (aL c3 c4 (oD c3) c4 (oD c3)) (hc1 (w64 (v1+1)) (zO a_2 (zF v1) (bitsOf .xor .u64 (IntKind.max IntKind.u64) (zE a_2 (zF v1) 0))) h3)
 ·obtain rfl:=Zac h2
  exact af fol hE [.r [],.c false,.r []] [] 0 [] c3
theorem Zce.snd {a_0_0:List Int} {r:(List Int)} (h:Zce N a_0_0=some r):SndQ zG 175 [.agg [zH .u64 4 a_0_0]] (Zce.rs r):=fun st=>
 sO Zce.B Tryz.func175 fun g0 w0 R hE=>by
  unfold Zce at h
  exact aq fol [.r [],.r []] [1,2,4] [1,2] trivial (At.loop N (At.loopN (fun y:Int×(List Int)=>Zce.p1.S y.1 y.2 st) (fun c J hc y h=>Zce.p1_ok (v1:=y.1) (a_2:=y.2) h hE (fun v1 a_2=>hc (v1,a_2))) N (0,a_0_0) h))
def Zcp.B:Code:=Tryz.f207.body.getD .skip
def Zcp.rs (r:(List Int)×Bool):List CV:=[.agg [zH .u64 4 r.1],oB r.2]
def Zcp.p1 (N:Nat) (b_1_0:List Int) (c1_:(Int×Int×(List Int))→Option ((List Int)×Bool)):(Int×Int×(List Int))→Option ((List Int)×Bool):=fun (c_1,v2,a_5)=>
 if (decide (v2<4))=true then
  chk (0≤v2)<|
  optE (Zen N (zE a_5 (zF v2) 0) (zE b_1_0 (zF v2) 0) c_1) fun (x6,x7)=>
  c1_ (x7,w64 (v2+1),zO a_5 (zF v2) x6)
 else
 some (a_5,c_1 != 0)
def Zcp (N:Nat) (a_0_0 b_1_0:List Int):Option ((List Int)×Bool):=
 loopN (Zcp.p1 N b_1_0) N (0,0,a_0_0)
def Zcp.p1.S (c_1 v2:Int) (a_5 b_1_0:List Int) (st:LL):S:=mkS 28 [(2,sA 2),(3,sA 3),(4,sA 4),(6,.one (.l (zC .u64 c_1))),(8,sI v2)] [(2,.cells [zH .u64 4 a_5]),(3,.cells [zH .u64 4 b_1_0]),(4,.cells [zH .u64 4 (zB 4 0)])] st
theorem Zcp.p1_ok {c_1 v2 a_5 b_1_0 st r c1_ J1} (h:Zcp.p1 N b_1_0 c1_ (c_1,v2,a_5)=some r) (hE:En Tryz.f207 g0 w0 (Zcp.rs r) st R) (hc1 : ∀c_1 v2 a_5,c1_ (c_1,v2,a_5)=some r→At g0 w0 (Zcp.p1.S c_1 v2 a_5 b_1_0 st) J1):At g0 w0 (Zcp.p1.S c_1 v2 a_5 b_1_0 st) (XK zG R (.c (csub Zcp.B [1,1,0,1,0,0]) :: .h J1 :: [.b 0,.c (csub Zcp.B [1,1,1])])):=by
 unfold Zcp.p1 at h
 refine iteB h (fun c4 h1=>?_) (fun c4 h2=>?_)
 ·obtain ⟨c5,h3⟩:=ZaN h1
  obtain ⟨⟨x6,x7⟩,c6,h4⟩:=Zae h3
  exact and_ fol [.r [],.c true,.r [],.d {ds:=[(8,{rs:=[.one (zC .u64 x6),.one (zC .u64 x7)],m:=4})],hv:=8192,Hs:=[8192]},.r []] [2,3,4,6,8] [2,3,4] (aO c4 c5 (oD c4) c5 (oD c4) (Zen.snd c6) c5 (oD c4)) (hc1 x7 (w64 (v2+1)) (zO a_5 (zF v2) x6) h4)
 ·obtain rfl:=Zac h2
  exact af fol hE [.r [],.c false,.r []] [] 0 [] c4
theorem Zcp.snd {a_0_0 b_1_0:List Int} {r:(List Int)×Bool} (h:Zcp N a_0_0 b_1_0=some r):SndQ zG 207 [.agg [zH .u64 4 a_0_0],.agg [zH .u64 4 b_1_0]] (Zcp.rs r):=fun st=>
 sO Zcp.B Tryz.func207 fun g0 w0 R hE=>by
  unfold Zcp at h
  exact aq fol [.r [],.r [],.r []] [2,3,4,6,8] [2,3,4] trivial (At.loop N (At.loopN (fun y:Int×Int×(List Int)=>Zcp.p1.S y.1 y.2.1 y.2.2 b_1_0 st) (fun c J hc y h=>Zcp.p1_ok (c_1:=y.1) (v2:=y.2.1) (a_5:=y.2.2) h hE (fun c_1 v2 a_5=>hc (c_1,v2,a_5))) N (0,0,a_0_0) h))
def Zby.B:Code:=Tryz.f179.body.getD .skip
def Zby.rs (r:(List Int)×(List Int)):List CV:=[.agg [zH .u64 4 r.1],.agg [zH .u64 4 r.2]]
def Zby.p2 (N:Nat) (c1_:(Int×(List Int)×(List Int))→Option ((List Int)×(List Int))) (i_3:Int) (a_0_0 by_1_0 out_21 rest_20:List Int):Option ((List Int)×(List Int)):=
 c1_ (w64 (i_3-1),out_21,rest_20)
def Zby.p1 (N:Nat) (a_0_0 by_1_0:List Int) (c1_:(Int×(List Int)×(List Int))→Option ((List Int)×(List Int))):(Int×(List Int)×(List Int))→Option ((List Int)×(List Int)):=fun (i_3,out_12,rest_13)=>
 if (decide (i_3≥0))=true then
  optE (ZbF N rest_13 1) fun x14=>
  chk (0≤(w64 (zP i_3 64)))<|
  chk ((w64 (zP i_3 64))<4)<|
  chk (0≤(zR i_3 64))<|
  if ((shrOf .u64 (zE rest_13 3 0) 63)==1)=true then
   optE (Zcp N (zO x14 0 (bitsOf .or .u64 (zE x14 0 0) (bitsOf .and .u64 (shrOf .u64 (zE a_0_0 (zF (w64 (zP i_3 64))) 0) (zR i_3 64)) 1))) by_1_0) fun (x15,x16)=>
   Zby.p2 N c1_ i_3 a_0_0 by_1_0 (zO out_12 (zF (w64 (zP i_3 64))) (bitsOf .or .u64 (zE out_12 (zF (w64 (zP i_3 64))) 0) (shlOf .u64 1 (zR i_3 64)))) x15
  else
  optE (ZcB N (zO x14 0 (bitsOf .or .u64 (zE x14 0 0) (bitsOf .and .u64 (shrOf .u64 (zE a_0_0 (zF (w64 (zP i_3 64))) 0) (zR i_3 64)) 1))) by_1_0) fun x17=>
  if (!x17)=true then
   optE (Zcp N (zO x14 0 (bitsOf .or .u64 (zE x14 0 0) (bitsOf .and .u64 (shrOf .u64 (zE a_0_0 (zF (w64 (zP i_3 64))) 0) (zR i_3 64)) 1))) by_1_0) fun (x18,x19)=>
   Zby.p2 N c1_ i_3 a_0_0 by_1_0 (zO out_12 (zF (w64 (zP i_3 64))) (bitsOf .or .u64 (zE out_12 (zF (w64 (zP i_3 64))) 0) (shlOf .u64 1 (zR i_3 64)))) x18
  else
  Zby.p2 N c1_ i_3 a_0_0 by_1_0 out_12 (zO x14 0 (bitsOf .or .u64 (zE x14 0 0) (bitsOf .and .u64 (shrOf .u64 (zE a_0_0 (zF (w64 (zP i_3 64))) 0) (zR i_3 64)) 1)))
 else
 some (out_12,rest_13)
def Zby (N:Nat) (a_0_0 by_1_0:List Int):Option ((List Int)×(List Int)):=
 optE (ZcI N by_1_0) fun x1=>
 if x1=true then
  some (zB 4 0,zB 4 0)
 else
 optE (Zcm N a_0_0) fun x2=>
 loopN (Zby.p1 N a_0_0 by_1_0) N (w64 (x2-1),zB 4 0,zB 4 0)
def Zby.p2.S (i_3:Int) (a_0_0 by_1_0 out_21 rest_20:List Int) (st:LL):S:=mkS 63 [(2,sA 2),(3,sA 3),(4,sA 4),(5,sA 5),(6,sA 6),(7,sA 7),(8,sI i_3)] [(2,.cells [zH .u64 4 a_0_0]),(3,.cells [zH .u64 4 by_1_0]),(4,.cells [zH .u64 4 (zB 4 0)]),(5,.cells [zH .u64 4 (zB 4 0)]),(6,.cells [zH .u64 4 out_21]),(7,.cells [zH .u64 4 rest_20])] st
def Zby.p1.S (i_3:Int) (a_0_0 by_1_0 out_12 rest_13:List Int) (st:LL):S:=mkS 63 [(2,sA 2),(3,sA 3),(4,sA 4),(5,sA 5),(6,sA 6),(7,sA 7),(8,sI i_3)] [(2,.cells [zH .u64 4 a_0_0]),(3,.cells [zH .u64 4 by_1_0]),(4,.cells [zH .u64 4 (zB 4 0)]),(5,.cells [zH .u64 4 (zB 4 0)]),(6,.cells [zH .u64 4 out_12]),(7,.cells [zH .u64 4 rest_13])] st
theorem Zby.p2_ok {i_3 a_0_0 by_1_0 out_21 rest_20 st r c1_ J1} (h:Zby.p2 N c1_ i_3 a_0_0 by_1_0 out_21 rest_20=some r) (hE:En Tryz.f179 g0 w0 (Zby.rs r) st R) (hc1 : ∀i_3 out_12 rest_13,c1_ (i_3,out_12,rest_13)=some r→At g0 w0 (Zby.p1.S i_3 a_0_0 by_1_0 out_12 rest_13 st) J1):At g0 w0 (Zby.p2.S i_3 a_0_0 by_1_0 out_21 rest_20 st) (XK zG R [.c (csub Zby.B [1,1,1,0,1,0,0,1,1]),.h J1,.b 0,.c (csub Zby.B [1,1,1,1])]):=by
 unfold Zby.p2 at h
 exact an fol [.r []] [2,3,4,5,6,7,8] [2,3,4,5,6,7] trivial (hc1 (w64 (i_3-1)) out_21 rest_20 h)
theorem Zby.p1_ok {i_3 a_0_0 by_1_0 out_12 rest_13 st r c1_ J1} (h:Zby.p1 N a_0_0 by_1_0 c1_ (i_3,out_12,rest_13)=some r) (hE:En Tryz.f179 g0 w0 (Zby.rs r) st R) (hc1 : ∀i_3 out_12 rest_13,c1_ (i_3,out_12,rest_13)=some r→At g0 w0 (Zby.p1.S i_3 a_0_0 by_1_0 out_12 rest_13 st) J1):At g0 w0 (Zby.p1.S i_3 a_0_0 by_1_0 out_12 rest_13 st) (XK zG R (.c (csub Zby.B [1,1,1,0,1,0,0]) :: .h J1 :: [.b 0,.c (csub Zby.B [1,1,1,1])])):=by
 unfold Zby.p1 at h
 refine iteB h (fun c14 h1=>?_) (fun c14 h2=>?_)
 ·obtain ⟨x14,c15,h3⟩:=Zae h1
  obtain ⟨c16,c17,c18,h4⟩:=ck3 h3
  let o1:List PS:=[.r [],.c true,.r [],.r [(1,q1 [.agg [zH .u64 4 x14]])],.d {ds:=[],hv:=4096,Hs:=[4096]}]
  have t1 {Q:Prop} (q:Q):=aI c14 (ix 3 4 (aJ (leI 0 63) (ZbF.snd c15) (ix 0 4 (aM (neI 64) c16 c17 (neI 64) c18 (ix 0 4 q)))))
  refine iteB h4 (fun c19 h5=>?_) (fun c19 h6=>?_)
  ·obtain ⟨⟨x15,x16⟩,c20,h7⟩:=Zae h5
   exact aqd fol (o1 ++ [.r [(2,wF),(3,wF),(4,wF),(5,wF)],.c true,.r [(2,q1 [.agg [zH .u64 4 x15],oB x16])],.d {ds:=[],hv:=512,Hs:=[512]},.s 4]) [2,3,4,5,6,7,8] [2,3,4,5,6,7] (t1 (aO c19 c19 c19 c19 c19 eT (Zcp.snd c20) (aN (neI 64) c16 c17 (neI 64) c18 c16 c17))) (Zby.p2_ok h7 hE hc1)
  ·obtain ⟨x17,c21,h8⟩:=Zae h6
   let o2:List PS:=o1 ++ [.r [(4,q1 [oB x17]),(6,yF)]]
   have t2 {Q:Prop} (q:Q):=t1 (aN c19 c19 c19 (ZcB.snd c21) c19 c19 q)
   refine iteB h8 (fun c22 h9=>?_) (fun c22 h10=>?_)
   ·obtain ⟨⟨x18,x19⟩,c23,h11⟩:=Zae h9
    exact aqd fol (o2 ++ [.c true,.r [(2,q1 [.agg [zH .u64 4 x18],oB x19])],.d {ds:=[],hv:=512,Hs:=[512]},.s 4]) [2,3,4,5,6,7,8] [2,3,4,5,6,7] (t2 (aO c22 (Zcp.snd c23) (neI 64) c16 c17 (neI 64) c18 (aI c16 c17))) (Zby.p2_ok h11 hE hc1)
   ·exact aqd fol (o2 ++ [.c false,.s 4]) [2,3,4,5,6,7,8] [2,3,4,5,6,7] (t2 c22) (Zby.p2_ok h10 hE hc1)
 ·obtain rfl:=Zac h2
  exact afd fol hE [.r [],.c false,.d {ds:=[],hv:=12,Hs:=[4,12]}] [] 0 [] c14
theorem Zby.snd {a_0_0 by_1_0:List Int} {r:(List Int)×(List Int)} (h:Zby N a_0_0 by_1_0=some r):SndQ zG 179 [.agg [zH .u64 4 a_0_0],.agg [zH .u64 4 by_1_0]] (Zby.rs r):=fun st=>
 sO Zby.B Tryz.func179 fun g0 w0 R hE=>by
  unfold Zby at h
  obtain ⟨x1,c1,h12⟩:=Zae h
  let o3:List PS:=[.r [],.r [],.r [(1,q1 [oB x1])]]
  refine iteB h12 (fun c2 h13=>?_) (fun c2 h14=>?_)
  ·obtain rfl:=Zac h13
   exact afd fol hE (o3 ++ [.c true,.d {ds:=[],hv:=12,Hs:=[4,12]}]) [] 0 [] (aI (ZcI.snd c1) c2)
  ·obtain ⟨x2,c3,h15⟩:=Zae h14
   exact aq fol (o3 ++ [.c false,.r [(1,q1 [oI x2])]]) [2,3,4,5,6,7,8] [2,3,4,5,6,7] (aJ (ZcI.snd c1) c2 (Zcm.snd c3)) (At.loop N (At.loopN (fun y:Int×(List Int)×(List Int)=>Zby.p1.S y.1 a_0_0 by_1_0 y.2.1 y.2.2 st) (fun c J hc y h=>Zby.p1_ok (i_3:=y.1) (out_12:=y.2.1) (rest_13:=y.2.2) h hE (fun i_3 out_12 rest_13=>hc (i_3,out_12,rest_13))) N (w64 (x2-1),zB 4 0,zB 4 0) h15))
def Zdp.B:Code:=Tryz.f115.body.getD .skip
def Zdp.rs (r:(List Int)):List CV:=[.agg [zH .u64 4 r]]
def Zdp (N:Nat):Option (List Int):=
 optE (Zce N (zB 4 0)) fun x1=>
 some x1
theorem Zdp.snd {r:(List Int)} (h:Zdp N=some r):SndQ zG 115 [] (Zdp.rs r):=fun st=>
 sO Zdp.B Tryz.func115 fun g0 w0 R hE=>by
  unfold Zdp at h
  obtain ⟨x1,c1,h1⟩:=Zae h
  obtain rfl:=Zac h1
  exact af fol hE [.r [],.r [(1,q1 [.agg [zH .u64 4 x1]])]] [] 0 [] (Zce.snd c1)
def ZeX.B:Code:=Tryz.f118.body.getD .skip
def ZeX.rs (r:(List Int)):List CV:=[.agg [zH .u64 4 r]]
def ZeX (N:Nat) (target_0_0:List Int):Option (List Int):=
 optE (ZcW N 1) fun x1=>
 optE (ZbK N target_0_0 x1) fun (x2,x3)=>
 if x3=true then
  some x1
 else
 optE (Zce N target_0_0) fun x4=>
 optE (Zby N x4 x2) fun (x5,x6)=>
 optE (ZbK N x5 x1) fun (x7,x8)=>
 if x8=true then
  optE (Zdp N ) fun x9=>
  some x9
 else
 some x7
theorem ZeX.snd {target_0_0:List Int} {r:(List Int)} (h:ZeX N target_0_0=some r):SndQ zG 118 [.agg [zH .u64 4 target_0_0]] (ZeX.rs r):=fun st=>
 sO ZeX.B Tryz.func118 fun g0 w0 R hE=>by
  unfold ZeX at h
  obtain ⟨x1,c1,h1⟩:=Zae h
  obtain ⟨⟨x2,x3⟩,c2,h2⟩:=Zae h1
  let o1:List PS:=[.r [],.d {ds:=[(1,q1 [.agg [zH .u64 4 x1]]),(2,q1 [.agg [zH .u64 4 x2],oB x3])],hv:=192,Hs:=[64,192]},.r []]
  have t1 {Q:Prop} (q:Q):=aL (ZcW.snd c1) (ZcW.snd c1) (ZbK.snd c2) (ZbK.snd c2) q
  refine iteB h2 (fun c3 h3=>?_) (fun c3 h4=>?_)
  ·obtain rfl:=Zac h3
   exact afd fol hE (o1 ++ [.c true,.r [(0,q1 [.agg [zH .u64 4 x1]])]]) [] 0 [] (t1 (aI c3 (ZcW.snd c1)))
  ·obtain ⟨x4,c4,h5⟩:=Zae h4
   obtain ⟨⟨x5,x6⟩,c5,h6⟩:=Zae h5
   obtain ⟨⟨x7,x8⟩,c6,h7⟩:=Zae h6
   let o2:List PS:=o1 ++ [.c false,.d {ds:=[(1,q1 [.agg [zH .u64 4 x4]]),(3,q1 [.agg [zH .u64 4 x5],.agg [zH .u64 4 x6]])],hv:=1920,Hs:=[128,256,384,896,1920]},.d {ds:=[(1,q1 [.agg [zH .u64 4 x1]]),(2,q1 [.agg [zH .u64 4 x7],oB x8])],hv:=192,Hs:=[64,192]},.r []]
   have t2 {Q:Prop} (q:Q):=t1 (aO c3 (Zce.snd c4) (Zce.snd c4) (Zce.snd c4) (Zce.snd c4) (Zby.snd c5) (Zby.snd c5) (aN (Zby.snd c5) (Zby.snd c5) (ZcW.snd c1) (ZcW.snd c1) (ZbK.snd c6) (ZbK.snd c6) q))
   refine iteB h7 (fun c7 h8=>?_) (fun c7 h9=>?_)
   ·obtain ⟨x9,c8,h10⟩:=Zae h8
    obtain rfl:=Zac h10
    exact afd fol hE (o2 ++ [.c true,.r [(0,q1 [.agg [zH .u64 4 x9]])]]) [] 0 [] (t2 (aI c7 (Zdp.snd c8)))
   ·obtain rfl:=Zac h9
    exact afd fol hE (o2 ++ [.c false,.r []]) [] 0 [] (t2 c7)
def Zdk.B:Code:=Tryz.f64.body.getD .skip
def Zdk.rs (r:(List Int)):List CV:=[.agg [zH .u64 4 r]]
def Zdk (N:Nat) (bits_0:Int):Option (List Int):=
 optE (ZaK N bits_0) fun (x1,x2,x3)=>
 if x2=true then
  some (zB 4 0)
 else
 if x3=true then
  some (zB 4 0)
 else
 optE (ZcI N x1) fun x4=>
 if x4=true then
  some (zB 4 0)
 else
 optE (ZeX N x1) fun x5=>
 some x5
theorem Zdk.snd {bits_0:Int} {r:(List Int)} (h:Zdk N bits_0=some r):SndQ zG 64 [oI bits_0] (Zdk.rs r):=fun st=>
 sO Zdk.B Tryz.func64 fun g0 w0 R hE=>by
  unfold Zdk at h
  obtain ⟨⟨x1,x2,x3⟩,c1,h1⟩:=Zae h
  let o1:List PS:=[.r [],.r [(1,q1 [.agg [zH .u64 4 x1],oB x2,oB x3])]]
  have t1 {Q:Prop} (q:Q):=aI (ZaK.snd c1) q
  refine iteB h1 (fun c2 h2=>?_) (fun c2 h3=>?_)
  ·obtain rfl:=Zac h2
   exact af fol hE (o1 ++ [.r [(2,wF),(5,wF),(6,wF)],.c true,.r []]) [] 0 [] (t1 (aM c2 c2 eT eT eT eT))
  ·refine iteB h3 (fun c3 h4=>?_) (fun c3 h5=>?_)
   ·obtain rfl:=Zac h4
    exact af fol hE (o1 ++ [.r [(3,yF),(5,wF),(6,wF)],.c true,.r []]) [] 0 [] (t1 (aM c2 c2 c3 c3 c3 eT))
   ·obtain ⟨x4,c4,h6⟩:=Zae h5
    let o2:List PS:=o1 ++ [.r [(3,yF),(6,q1 [oB x4]),(7,yF)]]
    refine iteB h6 (fun c5 h7=>?_) (fun c5 h8=>?_)
    ·obtain rfl:=Zac h7
     exact af fol hE (o2 ++ [.c true,.r []]) [] 0 [] (t1 (aN c2 c2 c3 c3 (ZcI.snd c4) c3 c5))
    ·obtain ⟨x5,c6,h9⟩:=Zae h8
     obtain rfl:=Zac h9
     exact af fol hE (o2 ++ [.c false,.r [(1,q1 [.agg [zH .u64 4 x5]])]]) [] 0 [] (t1 (aO c2 c2 c3 c3 (ZcI.snd c4) c3 c5 (ZeX.snd c6)))
def Zcl.B:Code:=Tryz.f114.body.getD .skip
def Zcl.rs (r:(List Int)×Bool):List CV:=[.agg [zH .u64 4 r.1],oB r.2]
def Zcl.p1 (N:Nat) (list_0:LL) (c1_:(Bool×Int×(List Int))→Option ((List Int)×Bool)):(Bool×Int×(List Int))→Option ((List Int)×Bool):=fun (over_1,v2,out_6)=>
 if (decide (v2<(len list_0)))=true then
  chk (0≤v2)<|
  getE (list_0[zF v2]?) ZgS fun x7=>
  optE (ZbK N out_6 x7) fun (x8,x9)=>
  if over_1=true then
   c1_ (true,w64 (v2+1),x8)
  else
  c1_ (x9,w64 (v2+1),x8)
 else
 some (out_6,over_1)
def Zcl (N:Nat) (list_0:LL):Option ((List Int)×Bool):=
 loopN (Zcl.p1 N list_0) N (false,0,zB 4 0)
def Zcl.p1.S (over_1:Bool) (list_0:LL) (v2:Int) (out_6:List Int) (st:LL):S:=mkS 28 [(2,sA 2),(4,sA 4),(5,.one (.l (yX over_1))),(9,sV 4 list_0),(10,sI (len list_0)),(11,sI v2)] [(2,.cells [zH .u64 4 (zB 4 0)]),(4,.cells [zH .u64 4 out_6])] st
theorem Zcl.p1_ok {over_1 list_0 v2 out_6 st r c1_ J1} (h:Zcl.p1 N list_0 c1_ (over_1,v2,out_6)=some r) (hE:En Tryz.f114 g0 w0 (Zcl.rs r) st R) (hc1 : ∀over_1 v2 out_6,c1_ (over_1,v2,out_6)=some r→At g0 w0 (Zcl.p1.S over_1 list_0 v2 out_6 st) J1):At g0 w0 (Zcl.p1.S over_1 list_0 v2 out_6 st) (XK zG R (.c (csub Zcl.B [1,1,1,0,1,0,0]) :: .h J1 :: [.b 0,.c (csub Zcl.B [1,1,1,1])])):=by
 unfold Zcl.p1 at h
 refine iteB h (fun c6 h1=>?_) (fun c6 h2=>?_)
 ·obtain ⟨c7,h3⟩:=ZaN h1
  obtain ⟨x7,c8,h4⟩:=ZjT h3
  obtain ⟨⟨x8,x9⟩,c9,h5⟩:=Zae h4
  let o1:List PS:=[.r [],.c true,.r [(1,{oe:=[zH .u64 4 x7]})],.r [],.r [(2,q1 [.agg [zH .u64 4 x8],oB x9])]]
  refine iteB h5 (fun c10 h6=>?_) (fun c10 h7=>?_)
  ·exact an fol (o1 ++ [.r [(2,wF)],.r []]) [2,4,5,9,10,11] [2,4] (aN c6 c7 (oD c6) c8 (ZbK.snd c9) c10 c10) (hc1 true (w64 (v2+1)) x8 h6)
  ·exact an fol (o1 ++ [.r [(3,yF)],.r []]) [2,4,5,9,10,11] [2,4] (aN c6 c7 (oD c6) c8 (ZbK.snd c9) c10 c10) (hc1 x9 (w64 (v2+1)) x8 h7)
 ·obtain rfl:=Zac h2
  exact af fol hE [.r [],.c false,.r []] [] 0 [] c6
theorem Zcl.snd {list_0:LL} {r:(List Int)×Bool} (h:Zcl N list_0=some r):SndQ zG 114 [.one (yM 4 list_0)] (Zcl.rs r):=fun st=>
 sO Zcl.B Tryz.func114 fun g0 w0 R hE=>by
  unfold Zcl at h
  exact aq fol [.r [],.r [],.r [],.r []] [2,4,5,9,10,11] [2,4] trivial (At.loop N (At.loopN (fun y:Bool×Int×(List Int)=>Zcl.p1.S y.1 list_0 y.2.1 y.2.2 st) (fun c J hc y h=>Zcl.p1_ok (over_1:=y.1) (v2:=y.2.1) (out_6:=y.2.2) h hE (fun over_1 v2 out_6=>hc (over_1,v2,out_6))) N (false,0,zB 4 0) h))
def Zer.B:Code:=Tryz.f63.body.getD .skip
def Zer.rs (r:(List Int)):List CV:=[.agg [zH .u64 4 r]]
def Zer (N:Nat) (list_0:LL):Option (List Int):=
 optE (Zcl N list_0) fun (x1,x2)=>
 if x2=true then
  optE (Zdp N ) fun x3=>
  some x3
 else
 some x1
theorem Zer.snd {list_0:LL} {r:(List Int)} (h:Zer N list_0=some r):SndQ zG 63 [.one (yM 4 list_0)] (Zer.rs r):=fun st=>
 sO Zer.B Tryz.func63 fun g0 w0 R hE=>by
  unfold Zer at h
  obtain ⟨⟨x1,x2⟩,c1,h1⟩:=Zae h
  let o1:List PS:=[.r [],.r [(1,q1 [.agg [zH .u64 4 x1],oB x2])],.r []]
  refine iteB h1 (fun c2 h2=>?_) (fun c2 h3=>?_)
  ·obtain ⟨x3,c3,h4⟩:=Zae h2
   obtain rfl:=Zac h4
   exact af fol hE (o1 ++ [.c true,.r [(0,q1 [.agg [zH .u64 4 x3]])]]) [] 0 [] (aJ (Zcl.snd c1) c2 (Zdp.snd c3))
  ·obtain rfl:=Zac h3
   exact af fol hE (o1 ++ [.c false,.r []]) [] 0 [] (aI (Zcl.snd c1) c2)
def Zcn.B:Code:=Tryz.f167.body.getD .skip
def Zcn.rs (r:Bool×LL):List CV:=[oB r.1]
def Zcn (N:Nat) (s_0:Option Nat) (h_1:Zaa) (now_2:Int) (st:LL):Option (Bool×LL):=
 optE s_0 fun i1=>
 getE (st[i1]?) Zbm fun x2 x3 x4 x5 x6 x7 x8 x9 x10 x11 x12 x13 x14 x15 x16 x17 x18 x19 x20 x21 x22 x23 x24 x25 x26 x27 x28 x29 x30 x31 x32 x33 x34 x35 x36 x37=>
 optE (Zdq N (Zak.mk x2 x3 x4 x5 x6 x7 x8 x9 x10 (Zaa.mk x11 x12 x13 x14 x15 x16)) (Zat.mk (ZaQ.mk x25 x26 x27 x28 x29) x30 x31) h_1 now_2) fun x38=>
 if (x38 != 0)=true then
  some (false,st)
 else
 optE (ZcQ N (Zak.mk x2 x3 x4 x5 x6 x7 x8 x9 x10 (Zaa.mk x11 x12 x13 x14 x15 x16)) (Zat.mk (ZaQ.mk x25 x26 x27 x28 x29) x30 x31) h_1) fun x39=>
 optE (Zdk N h_1.Bits) fun x40=>
 optE (Zer N [[zH .u64 4 x32],[zH .u64 4 x40]]) fun x41=>
 some (true,zO st i1 [zC .i64 x2,zC .i64 x3,zC .i64 x4,zC .i64 x5,yX x6,yM 2 x7,yM 33 x8,zH .u64 4 x9,zH .u64 4 x10,zC .i64 x11,zH .u8 32 x12,zH .u8 32 x13,zC .i64 x14,zC .i64 x15,zC .i64 x16,zC .i64 x17,zC .i64 x18,zC .i64 x19,zC .i64 x20,zC .i64 x21,zH .u8 32 x22,yM 1 x23,zH .u64 4 x24,zC .i64 x39.Point.Height,zC .i64 x39.Point.Bits,zC .i64 x39.Point.Time,zC .i64 x39.Point.First,zC .i64 x39.Point.Hard,zH .u8 32 x39.Prev,yM 1 x39.Times,zH .u64 4 x41,xQ x33,zC .i64 x34,zC .i64 x35,zC .i64 x36,xS true 68 x37])
theorem Zcn.snd {s_0:Option Nat} {h_1:Zaa} {now_2:Int} {st:LL} {r:Bool×LL} (h:Zcn N s_0 h_1 now_2 st=some r):Snd zG 167 [.one (xQ s_0),.agg h_1.ls,oI now_2] st (Zcn.rs r) r.2:=
 sO Zcn.B Tryz.func167 fun g0 w0 R hE=>by
  unfold Zcn at h
  obtain ⟨i1,rfl,h1⟩:=Zae h
  obtain ⟨x2,x3,x4,x5,x6,x7,x8,x9,x10,x11,x12,x13,x14,x15,x16,x17,x18,x19,x20,x21,x22,x23,x24,x25,x26,x27,x28,x29,x30,x31,x32,x33,x34,x35,x36,x37,c2,h2⟩:=Zbb h1
  obtain ⟨x38,c3,h3⟩:=Zae h2
  let o1:List PS:=[.r [],.d {ds:=[(3,{oc:=(qla x2 x3 x4 x5 x6 x7 x8 x9 x10 x11 x12 x13 x14 x15 x16 x17 x18 x19 x20 x21 x22 x23 x24 x25 x26 x27 x28 x29 x30 x31 x32 x33 x34 x35 x36 x37)}),(8,{oc:=(qla x2 x3 x4 x5 x6 x7 x8 x9 x10 x11 x12 x13 x14 x15 x16 x17 x18 x19 x20 x21 x22 x23 x24 x25 x26 x27 x28 x29 x30 x31 x32 x33 x34 x35 x36 x37)}),(11,q1 [oI x38])],hv:=0,Hs:=[]}]
  refine iteB h3 (fun c4 h4=>?_) (fun c4 h5=>?_)
  ·obtain rfl:=Zac h4
   exact afd fol hE (o1 ++ [.c true,.r []]) [] 0 [] (aK c2 c2 (Zdq.snd c3) c4)
  ·obtain ⟨x39,c5,h6⟩:=Zae h5
   obtain ⟨x40,c6,h7⟩:=Zae h6
   obtain ⟨x41,c7,h8⟩:=Zae h7
   obtain rfl:=Zac h8
   exact afd fol hE (o1 ++ [.c false,.d {ds:=[(4,{oc:=(qla x2 x3 x4 x5 x6 x7 x8 x9 x10 x11 x12 x13 x14 x15 x16 x17 x18 x19 x20 x21 x22 x23 x24 x25 x26 x27 x28 x29 x30 x31 x32 x33 x34 x35 x36 x37)}),(9,{oc:=(qla x2 x3 x4 x5 x6 x7 x8 x9 x10 x11 x12 x13 x14 x15 x16 x17 x18 x19 x20 x21 x22 x23 x24 x25 x26 x27 x28 x29 x30 x31 x32 x33 x34 x35 x36 x37)}),(11,q1 [.agg x39.ls]),(16,{oc:=(qla x2 x3 x4 x5 x6 x7 x8 x9 x10 x11 x12 x13 x14 x15 x16 x17 x18 x19 x20 x21 x22 x23 x24 x25 x26 x27 x28 x29 x30 x31 x32 x33 x34 x35 x36 x37)}),(19,q1 [.agg [zH .u64 4 x40]]),(21,{rs:=[.agg [zH .u64 4 x41]],m:=2}),(25,{oc:=(qla x2 x3 x4 x5 x6 x7 x8 x9 x10 x11 x12 x13 x14 x15 x16 x17 x18 x19 x20 x21 x22 x23 x24 x25 x26 x27 x28 x29 x30 x31 x32 x33 x34 x35 x36 x37)})],hv:=34603008,Hs:=[1048576,34603008]},.r []]) [] 0 [] (aO c2 c2 (Zdq.snd c3) c4 c2 c2 (ZcQ.snd c5) (aM c2 (Zdk.snd c6) z0 (eN (2)) (Zer.snd c7) c2))
def Zct.B:Code:=Tryz.f200.body.getD .skip
def Zct.rs (r:Bool):List CV:=[oB r]
def Zct (N:Nat) (p_0:Zbo) (height_1:Int):Option Bool:=
 optE (ZcF N p_0) fun x1=>
 if x1=true then
  if (decide (height_1≥0))=true then
   chk (p_0.Period≠0)<|
   some ((zR height_1 p_0.Period)==p_0.Offset)
  else
  some false
 else
 some false
theorem Zct.snd {p_0:Zbo} {height_1:Int} {r:Bool} (h:Zct N p_0 height_1=some r):SndQ zG 200 [.agg p_0.ls,oI height_1] (Zct.rs r):=fun st=>
 sO Zct.B Tryz.func200 fun g0 w0 R hE=>by
  unfold Zct at h
  obtain ⟨x1,c1,h1⟩:=Zae h
  have t1 {Q:Prop} (q:Q):=aI (ZcF.snd c1) q
  refine iteB h1 (fun c2 h2=>?_) (fun c2 h3=>?_)
  ·refine iteB h2 (fun c3 h4=>?_) (fun c3 h5=>?_)
   ·obtain ⟨c4,h6⟩:=ZaN h4
    obtain rfl:=Zac h6
    exact afd fol hE [.r [],.d {ds:=[(1,q1 [oB x1])],hv:=0,Hs:=[]}] [] 0 [] (t1 (aO c2 c2 c2 c3 c3 c3 c3 (aL c4 c3 c3 c3 c3)))
   ·obtain rfl:=Zac h5
    exact afd fol hE [.r [],.d {ds:=[(1,q1 [oB x1]),(7,wF),(8,wF),(9,wF),(10,wF),(11,wF),(12,wF),(13,wF),(14,yF)],hv:=0,Hs:=[]}] [] 0 [] (t1 (aO c2 c2 c2 c3 c3 c3 c3 (aK c3 c3 c3 c3)))
  ·obtain rfl:=Zac h3
   exact afd fol hE [.r [],.d {ds:=[(1,q1 [oB x1]),(3,wF),(4,wF),(5,yF),(7,wF),(8,wF),(9,wF),(10,wF),(11,wF),(12,wF),(13,wF),(14,yF)],hv:=0,Hs:=[]}] [] 0 [] (t1 (aO c2 c2 c2 eF eF eF eF (aK eF eF eF eF)))
def ZbQ.B:Code:=Tryz.f201.body.getD .skip
def ZbQ.rs (r:Bool×LL):List CV:=[oB r.1]
def ZbQ (N:Nat) (p_0:Zbo) (id_1_0:List Int) (st:LL):Option (Bool×LL):=
 optE (ZaJ N (some (zI st)) 8 [[zC .i64 p_0.Salt]] (st ++ [[xS true 1 []]])) fun st1=>
 optE (Zbf N (some (zI st)) [[zH .u8 32 id_1_0]] st1) fun st2=>
 getE (st2[zI st]?) Zgm fun x3=>
 optE (Zcj N x3) fun x4=>
 optE (ZcM N [[L.str x4]] st2) fun (x5,st6)=>
 some ((bitsOf .and .u8 (zE x5 0 0) 1)==1,st6)
theorem ZbQ.snd {p_0:Zbo} {id_1_0:List Int} {st:LL} {r:Bool×LL} (h:ZbQ N p_0 id_1_0 st=some r):Snd zG 201 [.agg p_0.ls,.agg [zH .u8 32 id_1_0]] st (ZbQ.rs r) r.2:=
 sO ZbQ.B Tryz.func201 fun g0 w0 R hE=>by
  unfold ZbQ at h
  obtain ⟨st1,c1,h1⟩:=Zae h
  obtain ⟨st2,c2,h2⟩:=Zae h1
  obtain ⟨x3,c3,h3⟩:=ZeI h2
  obtain ⟨x4,c4,h4⟩:=Zae h3
  obtain ⟨⟨x5,st6⟩,c5,h5⟩:=Zae h4
  obtain rfl:=Zac h5
  exact af fol hE [.r [],.r [(0,{ns:=[0]}),(1,{m:=1})],.r [(4,{st:=st1,fz:=[12]})],.r [(3,{st:=st2,fz:=[16]})],.r [(1,{rs:=[.one (L.str x4)],m:=10,cv:=[.one (L.bx 1 [yM 1 x3])]}),(3,{rs:=[.agg [zH .u8 32 x5]],st:=st6,fz:=[20]})],.r []] [] 0 [] (aO z0 (eN (1)) (ZaJ.snd c1) z0 (eN (1)) (Zbf.snd c2) (bO 1 c3 ((bW bN):BVs st2 [xS true 1 x3] [yM 1 x3])) (aM (Zcj.snd c4) z0 (eN (1)) (ZcM.snd c5) (leI 0 0) (ltI 0 32)))
def Zam.B:Code:=Tryz.f168.body.getD .skip
def Zam.rs (r:Int×LL):List CV:=[oI r.1]
def Zam.p4 (N:Nat) (c1_:((Option Nat)×Int×Int×LL)→Option (Int×LL)) (i20:Nat) (height_1 n_31:Int) (names_2:LL) (v2:Int) (st32:LL):Option (Int×LL):=
 c1_ ((some i20),n_31,w64 (v2+1),st32)
def Zam.p3 (N:Nat) (c1_:((Option Nat)×Int×Int×LL)→Option (Int×LL)) (i20:Nat) (height_1 n_1:Int) (names_2:LL) (v2:Int) (st29:LL):Option (Int×LL):=
 getE (st29[i20]?) Zbn fun x30=>
 Zam.p4 N c1_ i20 height_1 (w64 (n_1+1)) names_2 v2 (zO st29 i20 (Zax.lo {x30 with given:=w64 (x30.given+1)}))
def Zam.p2 (N:Nat) (c1_:((Option Nat)×Int×Int×LL)→Option (Int×LL)) (i20:Nat) (height_1 n_1:Int) (names_2:LL) (v2:Int) (x19:List Int) (st23:LL):Option (Int×LL):=
 getE (st23[i20]?) Zbn fun x24=>
 optE (ZbQ N x24.Plan x19 st23) fun (x25,st26)=>
 if x25=true then
  getE (st26[i20]?) Zbn fun x27=>
  chk (0≤(w64 (zP x27.given 64)))<|
  chk ((w64 (zP x27.given 64))<(len x27.words))<|
  getE (x27.words[0+(zF (w64 (zP x27.given 64)))]?) Zgu fun x28=>
  chk (0≤(zR x27.given 64))<|
  Zam.p3 N c1_ i20 height_1 n_1 names_2 v2 (zO st26 i20 (Zax.lo {x27 with words:=zO x27.words (0+(zF (w64 (zP x27.given 64)))) [zC .u64 (bitsOf .or .u64 x28 (shlOf .u64 1 (zR x27.given 64)))]}))
 else
 Zam.p3 N c1_ i20 height_1 n_1 names_2 v2 st26
def Zam.p1 (N:Nat) (height_1:Int) (names_2:LL) (c1_:((Option Nat)×Int×Int×LL)→Option (Int×LL)):((Option Nat)×Int×Int×LL)→Option (Int×LL):=fun (b_17,n_1,v2,st18)=>
 if (decide (v2<(len names_2)))=true then
  chk (0≤v2)<|
  getE (names_2[zF v2]?) ZfW fun x19=>
  optE b_17 fun i20=>
  getE (st18[i20]?) Zbn fun x21=>
  optE (Zct N x21.Plan (w64 (height_1+v2))) fun x22=>
  if (!x22)=true then
   Zam.p4 N c1_ i20 height_1 n_1 names_2 v2 st18
  else
  if ((zR x21.given 64)==0)=true then
   chk (zI (x21.words ++ [[zC .u64 0]])*8≤140737488355328)<|
   Zam.p2 N c1_ i20 height_1 n_1 names_2 v2 x19 (zO (zO st18 i20 (gs x21.lo 3)) i20 (Zax.lo {x21 with words:=x21.words ++ [[zC .u64 0]]}))
  else
  Zam.p2 N c1_ i20 height_1 n_1 names_2 v2 x19 st18
 else
 some (n_1,st18)
def Zam (N:Nat) (b_0:Option Nat) (height_1:Int) (names_2 st:LL):Option (Int×LL):=
 if (wI b_0)=true then
  some (0,st)
 else
 loopN (Zam.p1 N height_1 names_2) N (b_0,0,0,st)
def Zam.p4.S (i20:Nat) (height_1 n_31:Int) (names_2:LL) (v2:Int) (st32:LL):S:=mkS 79 [(0,sP (some i20)),(1,sI height_1),(7,sI n_31),(12,sV 32 names_2),(13,sI (len names_2)),(14,sI v2)] [] st32
def Zam.p3.S (i20:Nat) (height_1 n_1:Int) (names_2:LL) (v2:Int) (st29:LL):S:=mkS 79 [(0,sP (some i20)),(1,sI height_1),(7,sI n_1),(12,sV 32 names_2),(13,sI (len names_2)),(14,sI v2)] [] st29
def Zam.p2.S (i20:Nat) (height_1 n_1:Int) (names_2:LL) (v2:Int) (x19:List Int) (st23:LL):S:=mkS 79 [(0,sP (some i20)),(1,sI height_1),(7,sI n_1),(9,sA 9),(12,sV 32 names_2),(13,sI (len names_2)),(14,sI v2)] [(9,.cells [zH .u8 32 x19])] st23
def Zam.p1.S (b_17:Option Nat) (height_1 n_1:Int) (names_2:LL) (v2:Int) (st18:LL):S:=mkS 79 [(0,sP b_17),(1,sI height_1),(7,sI n_1),(12,sV 32 names_2),(13,sI (len names_2)),(14,sI v2)] [] st18
theorem Zam.p4_ok {i20 height_1 n_31 names_2 v2 st32 r c1_ J1} (h:Zam.p4 N c1_ i20 height_1 n_31 names_2 v2 st32=some r) (hE:En Tryz.f168 g0 w0 (Zam.rs r) r.2 R) (hc1 : ∀b_17 n_1 v2 st18,c1_ (b_17,n_1,v2,st18)=some r→At g0 w0 (Zam.p1.S b_17 height_1 n_1 names_2 v2 st18) J1):At g0 w0 (Zam.p4.S i20 height_1 n_31 names_2 v2 st32) (XK zG R [.c (csub Zam.B [1,1,1,0,1,0,0,1,1,1]),.h J1,.b 0,.c (csub Zam.B [1,1,1,1])]):=by
 unfold Zam.p4 at h
 exact an fol [.r []] [0,1,7,12,13,14] [] trivial (hc1 (some i20) n_31 (w64 (v2+1)) st32 h)
theorem Zam.p3_ok {i20 height_1 n_1 names_2 v2 st29 r c1_ J1} (h:Zam.p3 N c1_ i20 height_1 n_1 names_2 v2 st29=some r) (hE:En Tryz.f168 g0 w0 (Zam.rs r) r.2 R) (hc1 : ∀b_17 n_1 v2 st18,c1_ (b_17,n_1,v2,st18)=some r→At g0 w0 (Zam.p1.S b_17 height_1 n_1 names_2 v2 st18) J1):At g0 w0 (Zam.p3.S i20 height_1 n_1 names_2 v2 st29) (XK zG R [.c (csub Zam.B [1,1,1,0,1,0,0,1,1,0,0,1,1,1,1]),.b 1,.c (csub Zam.B [1,1,1,0,1,0,0,1,1,1]),.h J1,.b 0,.c (csub Zam.B [1,1,1,1])]):=by
 unfold Zam.p3 at h
 obtain ⟨x30,c37,h1⟩:=Zbw h
 exact aq fol [.r [(3,{oc:=x30.lo}),(7,{oc:=x30.lo})],.r [],.s 4] [0,1,7,12,13,14] [] (aI c37 c37) (Zam.p4_ok h1 hE hc1)
theorem Zam.p2_ok {i20 height_1 n_1 names_2 v2 x19 st23 r c1_ J1} (h:Zam.p2 N c1_ i20 height_1 n_1 names_2 v2 x19 st23=some r) (hE:En Tryz.f168 g0 w0 (Zam.rs r) r.2 R) (hc1 : ∀b_17 n_1 v2 st18,c1_ (b_17,n_1,v2,st18)=some r→At g0 w0 (Zam.p1.S b_17 height_1 n_1 names_2 v2 st18) J1):At g0 w0 (Zam.p2.S i20 height_1 n_1 names_2 v2 x19 st23) (XK zG R [.c (csub Zam.B [1,1,1,0,1,0,0,1,1,0,0,1,1,1]),.b 1,.c (csub Zam.B [1,1,1,0,1,0,0,1,1,1]),.h J1,.b 0,.c (csub Zam.B [1,1,1,1])]):=by
 unfold Zam.p2 at h
 obtain ⟨x24,c29,h2⟩:=Zbw h
 obtain ⟨⟨x25,st26⟩,c30,h3⟩:=Zae h2
 let o1:List PS:=[.d {ds:=[(3,{oc:=x24.lo}),(5,{rs:=[oB x25],st:=st26})],hv:=32,Hs:=[32]}]
 refine iteB h3 (fun c31 h4=>?_) (fun c31 h5=>?_)
 ·obtain ⟨x27,c32,h6⟩:=Zbw h4
  obtain ⟨c33,c34,h7⟩:=ck2 h6
  obtain ⟨x28,c35,h8⟩:=Zgt h7
  obtain ⟨c36,h9⟩:=ZaN h8
  exact aqd fol (o1 ++ [.c true,.d {ds:=[(3,{oc:=x27.lo}),(7,{oc:=x27.lo}),(10,{oc:=x27.lo,oe:=[zC .u64 x28]}),(14,{oc:=x27.lo}),(19,{oc:=x27.lo})],hv:=524288,Hs:=[524288]},.s 6]) [0,1,7,12,13,14] [] (aO c29 (ZbQ.snd c30) c31 c32 c32 (neI 64) c33 (aO c34 c35 c32 c32 (neI 64) c36 c33 (aI c34 c32))) (Zam.p3_ok h9 hE hc1)
 ·exact aqd fol (o1 ++ [.c false,.s 6]) [0,1,7,12,13,14] [] (aJ c29 (ZbQ.snd c30) c31) (Zam.p3_ok h5 hE hc1)
theorem Zam.p1_ok {b_17 height_1 n_1 names_2 v2 st18 r c1_ J1} (h:Zam.p1 N height_1 names_2 c1_ (b_17,n_1,v2,st18)=some r) (hE:En Tryz.f168 g0 w0 (Zam.rs r) r.2 R) (hc1 : ∀b_17 n_1 v2 st18,c1_ (b_17,n_1,v2,st18)=some r→At g0 w0 (Zam.p1.S b_17 height_1 n_1 names_2 v2 st18) J1):At g0 w0 (Zam.p1.S b_17 height_1 n_1 names_2 v2 st18) (XK zG R (.c (csub Zam.B [1,1,1,0,1,0,0]) :: .h J1 :: [.b 0,.c (csub Zam.B [1,1,1,1])])):=by
 unfold Zam.p1 at h
 refine iteB h (fun c20 h10=>?_) (fun c20 h11=>?_)
 ·obtain ⟨c21,h12⟩:=ZaN h10
  obtain ⟨x19,c22,h13⟩:=ZgQ h12
  obtain ⟨i20,rfl,h14⟩:=Zae h13
  obtain ⟨x21,c24,h15⟩:=Zbw h14
  obtain ⟨x22,c25,h16⟩:=Zae h15
  let o2:List PS:=[.r [],.c true,.r [(2,{oe:=[zH .u8 32 x19]})],.r [(3,{oc:=x21.lo}),(7,q1 [oB x22])]]
  have t1 {Q:Prop} (q:Q):=aN c20 c21 (oD c20) c22 c24 (Zct.snd c25) q
  refine iteB h16 (fun c26 h17=>?_) (fun c26 h18=>?_)
  ·exact aq fol (o2 ++ [.c true,.s 4]) [0,1,7,12,13,14] [] (t1 c26) (Zam.p4_ok h17 hE hc1)
  ·refine iteB h18 (fun c27 h19=>?_) (fun c27 h20=>?_)
   ·obtain ⟨c28,h21⟩:=ZaN h19
    exact aq fol (o2 ++ [.c false,.r [(3,{oc:=x21.lo})],.c true,.r [(4,{oc:=x21.lo}),(6,{oe:=x21.lo}),(9,{oc:=gs x21.lo 3,mv:=[40]})],.s 6]) [0,1,7,9,12,13,14] [9] (t1 (aO c26 c24 (neI 64) c27 c24 z0 (eN (zI x21.words)) (aN c24 z0 (eN (1)) c28 (ZaO c24 (gs x21.lo 3)) z0 (eN (zI (x21.words ++ [[zC .u64 0]])))))) (Zam.p2_ok h21 hE hc1)
   ·exact aq fol (o2 ++ [.c false,.r [(3,{oc:=x21.lo})],.c false,.s 6]) [0,1,7,9,12,13,14] [9] (t1 (aK c26 c24 (neI 64) c27)) (Zam.p2_ok h20 hE hc1)
 ·obtain rfl:=Zac h11
  exact af fol hE [.r [],.c false,.r []] [] 0 [] c20
theorem Zam.snd {b_0:Option Nat} {height_1:Int} {names_2:LL} {st:LL} {r:Int×LL} (h:Zam N b_0 height_1 names_2 st=some r):Snd zG 168 [.one (xQ b_0),oI height_1,.one (yM 32 names_2)] st (Zam.rs r) r.2:=
 sO Zam.B Tryz.func168 fun g0 w0 R hE=>by
  unfold Zam at h
  refine iteB h (fun c1 h22=>?_) (fun c1 h23=>?_)
  ·obtain rfl:=Zac h22
   exact af fol hE [.r [],.r [],.c true,.r []] [] 0 [] c1
  ·exact aq fol [.r [],.r [],.c false,.r [],.r []] [0,1,7,12,13,14] [] c1 (At.loop N (At.loopN (fun y:(Option Nat)×Int×Int×LL=>Zam.p1.S y.1 height_1 y.2.1 names_2 y.2.2.1 y.2.2.2) (fun c J hc y h=>Zam.p1_ok (b_17:=y.1) (n_1:=y.2.1) (v2:=y.2.2.1) (st18:=y.2.2.2) h hE (fun b_17 n_1 v2 st18=>hc (b_17,n_1,v2,st18))) N (b_0,0,0,st) h23))
def ZbE.B:Code:=Tryz.f120.body.getD .skip
def ZbE.rs (r:Int):List CV:=[oI r]
def ZbE (N:Nat) (b_0:Zax):Option Int:=
 some b_0.given
theorem ZbE.snd {b_0:Zax} {r:Int} (h:ZbE N b_0=some r):SndQ zG 120 [.one (L.bx 6 b_0.ls)] (ZbE.rs r):=fun st=>
 sO ZbE.B Tryz.func120 fun g0 w0 R hE=>by
  unfold ZbE at h
  obtain rfl:=Zac h
  exact af fol hE [.r [],.r [],.c false,.r [(3,{oe:=b_0.ls})]] [] 0 [] (aI eF (eO b_0.ls))
def Zdd.B:Code:=Tryz.f120.body.getD .skip
def Zdd.rs (r:Int×LL):List CV:=[oI r.1]
def Zdd (N:Nat) (b_0:Option Nat) (st:LL):Option (Int×LL):=
 if (wI b_0)=true then
  some (0,st)
 else
 optE b_0 fun i1=>
 getE (st[i1]?) Zbn fun x2=>
 some (x2.given,st)
theorem Zdd.snd {b_0:Option Nat} {st:LL} {r:Int×LL} (h:Zdd N b_0 st=some r):Snd zG 120 [.one (xQ b_0)] st (Zdd.rs r) r.2:=
 sO Zdd.B Tryz.func120 fun g0 w0 R hE=>by
  unfold Zdd at h
  refine iteB h (fun c1 h1=>?_) (fun c1 h2=>?_)
  ·obtain rfl:=Zac h1
   exact af fol hE [.r [],.r [],.c true,.r []] [] 0 [] c1
  ·obtain ⟨i1,rfl,h3⟩:=Zae h2
   obtain ⟨x2,c3,h4⟩:=Zbw h3
   obtain rfl:=Zac h4
   exact af fol hE [.r [],.r [],.c false,.r [(3,{oc:=x2.lo})]] [] 0 [] (aI c1 c3)
def Zbv.B:Code:=Tryz.f169.body.getD .skip
def Zbv.rs (r:Bool):List CV:=[oB r]
def Zbv (N:Nat) (s_0:ZaG):Option Bool:=
 optE (ZcB N s_0.point.work s_0.rules.MinWork) fun x1=>
 some (!x1)
theorem Zbv.snd {s_0:ZaG} {r:Bool} (h:Zbv N s_0=some r):SndQ zG 169 [.one (L.bx 172 s_0.ls)] (Zbv.rs r):=fun st=>
 sO Zbv.B Tryz.func169 fun g0 w0 R hE=>by
  unfold Zbv at h
  obtain ⟨x1,c1,h1⟩:=Zae h
  obtain rfl:=Zac h1
  exact afd fol hE [.r [],.d {ds:=[(4,{oe:=s_0.ls}),(9,{oe:=s_0.ls}),(10,q1 [oB x1])],hv:=0,Hs:=[]}] [] 0 [] (aJ (eO s_0.ls) (eO s_0.ls) (ZcB.snd c1))
def ZaY.B:Code:=Tryz.f107.body.getD .skip
def ZaY.rs (r:Int×LL):List CV:=[oI r.1]
def ZaY.p1 (N:Nat) (now_1:Int) (list_2:LL) (c1_:((Option Nat)×Int×LL)→Option (Int×LL)):((Option Nat)×Int×LL)→Option (Int×LL):=fun (s_121,v1,st122)=>
 if (decide (v1<(len list_2)))=true then
  chk (0≤v1)<|
  getE (list_2[zF v1]?) Zch fun x123=>
  optE s_121 fun i124=>
  getE (st122[i124]?) Zbm fun x125 x126 x127 x128 x129 x130 x131 x132 x133 x134 x135 x136 x137 x138 x139 x140 x141 x142 x143 x144 x145 x146 x147 x148 x149 x150 x151 x152 x153 x154 x155 x156 x157 x158 x159 x160=>
  optE (Zcn N (some i124) x123 now_1 st122) fun (x161,st162)=>
  if (!x161)=true then
   some (8,st162)
  else
  getE (st162[i124]?) Zbm fun x163 x164 x165 x166 x167 x168 x169 x170 x171 x172 x173 x174 x175 x176 x177 x178 x179 x180 x181 x182 x183 x184 x185 x186 x187 x188 x189 x190 x191 x192 x193 x194 x195 x196 x197 x198=>
  optE (Zdj N x123) fun x199=>
  optE (Zam N x194 x148 [[zH .u8 32 x199]] st162) fun (x200,st201)=>
  getE (st201[i124]?) Zbm fun x202 x203 x204 x205 x206 x207 x208 x209 x210 x211 x212 x213 x214 x215 x216 x217 x218 x219 x220 x221 x222 x223 x224 x225 x226 x227 x228 x229 x230 x231 x232 x233 x234 x235 x236 x237=>
  optE x233 fun i238=>
  getE (st201[i238]?) Zbn fun x239=>
  optE (ZbE N x239) fun x240=>
  if (decide (x240>x235))=true then
   some (3,st201)
  else
  optE (Zbv N (ZaG.mk (Zak.mk x202 x203 x204 x205 x206 x207 x208 x209 x210 (Zaa.mk x211 x212 x213 x214 x215 x216)) (ZaH.mk (Zat.mk (ZaQ.mk x217 x218 x219 x220 x221) x222 x223) x224) (ZaH.mk (Zat.mk (ZaQ.mk x225 x226 x227 x228 x229) x230 x231) x232) x239 x234 x235 x236 x237)) fun x241=>
  if x241=true then
   some (0,zO (zO st201 i124 [zC .i64 x202,zC .i64 x203,zC .i64 x204,zC .i64 x205,yX x206,yM 2 x207,yM 33 x208,zH .u64 4 x209,zH .u64 4 x210,zC .i64 x211,zH .u8 32 x212,zH .u8 32 x213,zC .i64 x214,zC .i64 x215,zC .i64 x216,zC .i64 x217,zC .i64 x218,zC .i64 x219,zC .i64 x220,zC .i64 x221,zH .u8 32 x222,yM 1 x223,zH .u64 4 x224,zC .i64 x225,zC .i64 x226,zC .i64 x227,zC .i64 x228,zC .i64 x229,zH .u8 32 x230,yM 1 x231,zH .u64 4 x232,xQ (some i238),zC .i64 2,zC .i64 x235,zC .i64 x236,xS true 68 x237]) i124 [zC .i64 x202,zC .i64 x203,zC .i64 x204,zC .i64 x205,yX x206,yM 2 x207,yM 33 x208,zH .u64 4 x209,zH .u64 4 x210,zC .i64 x211,zH .u8 32 x212,zH .u8 32 x213,zC .i64 x214,zC .i64 x215,zC .i64 x216,zC .i64 x217,zC .i64 x218,zC .i64 x219,zC .i64 x220,zC .i64 x221,zH .u8 32 x222,yM 1 x223,zH .u64 4 x224,zC .i64 x217,zC .i64 x218,zC .i64 x219,zC .i64 x220,zC .i64 x221,zH .u8 32 x222,yM 1 x223,zH .u64 4 x224,xQ (some i238),zC .i64 2,zC .i64 x235,zC .i64 x236,xS true 68 x237])
  else
  c1_ ((some i124),w64 (v1+1),st201)
 else
 some (0,st122)
def ZaY (N:Nat) (s_0:Option Nat) (now_1:Int) (list_2 st:LL):Option (Int×LL):=
 loopN (ZaY.p1 N now_1 list_2) N (s_0,0,st)
def ZaY.p1.S (s_121:Option Nat) (now_1:Int) (list_2:LL) (v1:Int) (st122:LL):S:=mkS 60 [(0,sP s_121),(1,sI now_1),(10,sV 68 list_2),(11,sI (len list_2)),(12,sI v1)] [] st122
theorem ZaY.p1_ok {s_121 now_1 list_2 v1 st122 r c1_ J1} (h:ZaY.p1 N now_1 list_2 c1_ (s_121,v1,st122)=some r) (hE:En Tryz.f107 g0 w0 (ZaY.rs r) r.2 R) (hc1 : ∀s_121 v1 st122,c1_ (s_121,v1,st122)=some r→At g0 w0 (ZaY.p1.S s_121 now_1 list_2 v1 st122) J1):At g0 w0 (ZaY.p1.S s_121 now_1 list_2 v1 st122) (XK zG R (.c (csub ZaY.B [1,0,1,0,0]) :: .h J1 :: [.b 0,.c (csub ZaY.B [1,1])])):=by
 unfold ZaY.p1 at h
 refine iteB h (fun c18 h1=>?_) (fun c18 h2=>?_)
 ·obtain ⟨c19,h3⟩:=ZaN h1
  obtain ⟨x123,c20,h4⟩:=ZbS h3
  obtain ⟨i124,rfl,h5⟩:=Zae h4
  obtain ⟨x125,x126,x127,x128,x129,x130,x131,x132,x133,x134,x135,x136,x137,x138,x139,x140,x141,x142,x143,x144,x145,x146,x147,x148,x149,x150,x151,x152,x153,x154,x155,x156,x157,x158,x159,x160,c22,h6⟩:=Zbb h5
  obtain ⟨⟨x161,st162⟩,c23,h7⟩:=Zae h6
  let o1:List PS:=[.r [],.c true,.r [(1,{oe:=x123.ls})],.r [(6,{oc:=(qla x125 x126 x127 x128 x129 x130 x131 x132 x133 x134 x135 x136 x137 x138 x139 x140 x141 x142 x143 x144 x145 x146 x147 x148 x149 x150 x151 x152 x153 x154 x155 x156 x157 x158 x159 x160)})],.r [(3,{rs:=[oB x161],st:=st162})]]
  have t1 {Q:Prop} (q:Q):=aN c18 c19 (oD c18) c20 c22 (Zcn.snd c23) q
  refine iteB h7 (fun c24 h8=>?_) (fun c24 h9=>?_)
  ·obtain rfl:=Zac h8
   exact af fol hE (o1 ++ [.c true,.r []]) [] 0 [] (t1 c24)
  ·obtain ⟨x163,x164,x165,x166,x167,x168,x169,x170,x171,x172,x173,x174,x175,x176,x177,x178,x179,x180,x181,x182,x183,x184,x185,x186,x187,x188,x189,x190,x191,x192,x193,x194,x195,x196,x197,x198,c25,h10⟩:=Zbb h9
   obtain ⟨x199,c26,h11⟩:=Zae h10
   obtain ⟨⟨x200,st201⟩,c27,h12⟩:=Zae h11
   obtain ⟨x202,x203,x204,x205,x206,x207,x208,x209,x210,x211,x212,x213,x214,x215,x216,x217,x218,x219,x220,x221,x222,x223,x224,x225,x226,x227,x228,x229,x230,x231,x232,x233,x234,x235,x236,x237,c28,h13⟩:=Zbb h12
   obtain ⟨i238,rfl,h14⟩:=Zae h13
   obtain ⟨x239,c30,h15⟩:=Zbw h14
   obtain ⟨x240,c31,h16⟩:=Zae h15
   let o2:List PS:=o1 ++ [.c false,.d {ds:=[(3,{oc:=(qla x163 x164 x165 x166 x167 x168 x169 x170 x171 x172 x173 x174 x175 x176 x177 x178 x179 x180 x181 x182 x183 x184 x185 x186 x187 x188 x189 x190 x191 x192 x193 x194 x195 x196 x197 x198)}),(6,q1 [.agg [zH .u8 32 x199]]),(8,{rs:=[oI x200],st:=st201,fz:=[35]})],hv:=384,Hs:=[128,384]},.d {ds:=[(3,{oc:=(qla x202 x203 x204 x205 x206 x207 x208 x209 x210 x211 x212 x213 x214 x215 x216 x217 x218 x219 x220 x221 x222 x223 x224 x225 x226 x227 x228 x229 x230 x231 x232 (some i238) x234 x235 x236 x237)}),(4,{rs:=[oI x240],m:=10,cv:=[.one (L.bx 6 x239.ls)]}),(8,{oc:=(qla x202 x203 x204 x205 x206 x207 x208 x209 x210 x211 x212 x213 x214 x215 x216 x217 x218 x219 x220 x221 x222 x223 x224 x225 x226 x227 x228 x229 x230 x231 x232 (some i238) x234 x235 x236 x237)})],hv:=16,Hs:=[16]}]
   have t2 {Q:Prop} (q:Q):=t1 (aO c24 c25 c25 (Zdj.snd c26) z0 (eN (1)) (Zam.snd c27) (aM c28 (bO 6 c30 (Zax.bv x239)) (ZbE.snd c31) c28 c28 q))
   refine iteB h16 (fun c32 h17=>?_) (fun c32 h18=>?_)
   ·obtain rfl:=Zac h17
    exact afd fol hE (o2 ++ [.c true,.r []]) [] 0 [] (t2 c32)
   ·obtain ⟨x241,c33,h19⟩:=Zae h18
    let o3:List PS:=o2 ++ [.c false,.r [(1,{rs:=[oB x241],m:=10,cv:=[.one (L.bx 172 (ZaG.ls (ZaG.mk (Zak.mk x202 x203 x204 x205 x206 x207 x208 x209 x210 (Zaa.mk x211 x212 x213 x214 x215 x216)) (ZaH.mk (Zat.mk (ZaQ.mk x217 x218 x219 x220 x221) x222 x223) x224) (ZaH.mk (Zat.mk (ZaQ.mk x225 x226 x227 x228 x229) x230 x231) x232) x239 x234 x235 x236 x237)))]})]]
    have t3 {Q:Prop} (q:Q):=t2 (aK c32 (bO 172 c28 ((bP (bP (bP (bP (bP (bS (bS (bP (bP (bP (bP (bP (bP (bP (bP (bP (bP (bP (bP (bP (bP (bS (bP (bP (bP (bP (bP (bP (bP (bS (bP (bC 6 c30 (Zax.bv x239) (bP (bP (bP (bW bN)))))))))))))))))))))))))))))))))))):BVs st201 (qla x202 x203 x204 x205 x206 x207 x208 x209 x210 x211 x212 x213 x214 x215 x216 x217 x218 x219 x220 x221 x222 x223 x224 x225 x226 x227 x228 x229 x230 x231 x232 (some i238) x234 x235 x236 x237) (ZaG.ls (ZaG.mk (Zak.mk x202 x203 x204 x205 x206 x207 x208 x209 x210 (Zaa.mk x211 x212 x213 x214 x215 x216)) (ZaH.mk (Zat.mk (ZaQ.mk x217 x218 x219 x220 x221) x222 x223) x224) (ZaH.mk (Zat.mk (ZaQ.mk x225 x226 x227 x228 x229) x230 x231) x232) x239 x234 x235 x236 x237)))) (Zbv.snd c33) q)
    refine iteB h19 (fun c34 h20=>?_) (fun c34 h21=>?_)
    ·obtain rfl:=Zac h20
     exact afd fol hE (o3 ++ [.c true,.r [(5,{oc:=(qla x202 x203 x204 x205 x206 x207 x208 x209 x210 x211 x212 x213 x214 x215 x216 x217 x218 x219 x220 x221 x222 x223 x224 x225 x226 x227 x228 x229 x230 x231 x232 (some i238) x234 x235 x236 x237)}),(8,{oc:=(qla x202 x203 x204 x205 x206 x207 x208 x209 x210 x211 x212 x213 x214 x215 x216 x217 x218 x219 x220 x221 x222 x223 x224 x225 x226 x227 x228 x229 x230 x231 x232 (some i238) x234 x235 x236 x237)}),(11,{oc:=(qla x202 x203 x204 x205 x206 x207 x208 x209 x210 x211 x212 x213 x214 x215 x216 x217 x218 x219 x220 x221 x222 x223 x224 x225 x226 x227 x228 x229 x230 x231 x232 (some i238) 2 x235 x236 x237)})],.r []]) [] 0 [] (t3 (aK c34 c28 c28 (ZaO c28 (qla x202 x203 x204 x205 x206 x207 x208 x209 x210 x211 x212 x213 x214 x215 x216 x217 x218 x219 x220 x221 x222 x223 x224 x225 x226 x227 x228 x229 x230 x231 x232 (some i238) 2 x235 x236 x237))))
    ·exact and_ fol (o3 ++ [.c false,.r []]) [0,1,10,11,12] [] (t3 c34) (hc1 (some i124) (w64 (v1+1)) st201 h21)
 ·obtain rfl:=Zac h2
  exact af fol hE [.r [],.c false,.r []] [] 0 [] c18
theorem ZaY.snd {s_0:Option Nat} {now_1:Int} {list_2:LL} {st:LL} {r:Int×LL} (h:ZaY N s_0 now_1 list_2 st=some r):Snd zG 107 [.one (xQ s_0),oI now_1,.one (yM 68 list_2)] st (ZaY.rs r) r.2:=
 sO ZaY.B Tryz.func107 fun g0 w0 R hE=>by
  unfold ZaY at h
  exact aq fol [.r [],.r []] [0,1,10,11,12] [] trivial (At.loop N (At.loopN (fun y:(Option Nat)×Int×LL=>ZaY.p1.S y.1 now_1 list_2 y.2.1 y.2.2) (fun c J hc y h=>ZaY.p1_ok (s_121:=y.1) (v1:=y.2.1) (st122:=y.2.2) h hE (fun s_121 v1 st122=>hc (s_121,v1,st122))) N (s_0,0,st) h))
def ZcL.B:Code:=Tryz.f203.body.getD .skip
def ZcL.rs (r:Bool):List CV:=[oB r]
def ZcL (N:Nat) (b_0:Zax) (i_1:Int):Option Bool:=
 chk (0≤(w64 (zP i_1 64)))<|
 chk ((w64 (zP i_1 64))<(len b_0.words))<|
 getE (b_0.words[zF (w64 (zP i_1 64))]?) Zgu fun x1=>
 chk (0≤(zR i_1 64))<|
 some ((bitsOf .and .u64 (shrOf .u64 x1 (zR i_1 64)) 1)==1)
theorem ZcL.snd {b_0:Zax} {i_1:Int} {r:Bool} (h:ZcL N b_0 i_1=some r):SndQ zG 203 [.one (L.bx 6 b_0.ls),oI i_1] (ZcL.rs r):=fun st=>
 sO ZcL.B Tryz.func203 fun g0 w0 R hE=>by
  unfold ZcL at h
  obtain ⟨c1,c2,h1⟩:=ck2 h
  obtain ⟨x1,c3,h2⟩:=Zgt h1
  obtain ⟨c4,h3⟩:=ZaN h2
  obtain rfl:=Zac h3
  exact af fol hE [.r [],.r [(3,{oe:=b_0.ls}),(7,{oe:=[zC .u64 x1]})]] [] 0 [] (aN (eO b_0.ls) (neI 64) c1 c2 c3 (neI 64) c4)
def ZdH.B:Code:=Tryz.f203.body.getD .skip
def ZdH.rs (r:Bool×LL):List CV:=[oB r.1]
def ZdH (N:Nat) (b_0:Option Nat) (i_1:Int) (st:LL):Option (Bool×LL):=
 optE b_0 fun i1=>
 getE (st[i1]?) Zbn fun x2=>
 chk (0≤(w64 (zP i_1 64)))<|
 chk ((w64 (zP i_1 64))<(len x2.words))<|
 getE (x2.words[0+(zF (w64 (zP i_1 64)))]?) Zgu fun x3=>
 chk (0≤(zR i_1 64))<|
 some ((bitsOf .and .u64 (shrOf .u64 x3 (zR i_1 64)) 1)==1,st)
theorem ZdH.snd {b_0:Option Nat} {i_1:Int} {st:LL} {r:Bool×LL} (h:ZdH N b_0 i_1 st=some r):Snd zG 203 [.one (xQ b_0),oI i_1] st (ZdH.rs r) r.2:=
 sO ZdH.B Tryz.func203 fun g0 w0 R hE=>by
  unfold ZdH at h
  obtain ⟨i1,rfl,h1⟩:=Zae h
  obtain ⟨x2,c2,h2⟩:=Zbw h1
  obtain ⟨c3,c4,h3⟩:=ck2 h2
  obtain ⟨x3,c5,h4⟩:=Zgt h3
  obtain ⟨c6,h5⟩:=ZaN h4
  obtain rfl:=Zac h5
  exact af fol hE [.r [],.r [(3,{oc:=x2.lo}),(7,{oc:=x2.lo,oe:=[zC .u64 x3]})]] [] 0 [] (aO c2 (neI 64) c3 c4 c5 c2 (neI 64) c6)
def ZcA.B:Code:=Tryz.f170.body.getD .skip
def ZcA.rs (r:Bool×LL):List CV:=[oB r.1]
def ZcA (N:Nat) (b_0:Option Nat) (height_1:Int) (id_2_0:List Int) (st:LL):Option (Bool×LL):=
 if (wI b_0)=true then
  some (false,st)
 else
 optE b_0 fun i1=>
 getE (st[i1]?) Zbn fun x2=>
 optE (Zct N x2.Plan height_1) fun x3=>
 if (!x3)=true then
  some (true,st)
 else
 if (decide (x2.met≥x2.given))=true then
  some (false,st)
 else
 optE (ZcL N x2 x2.met) fun x4=>
 optE (ZbQ N x2.Plan id_2_0 st) fun (x5,st6)=>
 if (!(x4==x5))=true then
  some (false,st6)
 else
 getE (st6[i1]?) Zbn fun x7=>
 some (true,zO st6 i1 (Zax.lo {x7 with met:=w64 (x7.met+1)}))
theorem ZcA.snd {b_0:Option Nat} {height_1:Int} {id_2_0:List Int} {st:LL} {r:Bool×LL} (h:ZcA N b_0 height_1 id_2_0 st=some r):Snd zG 170 [.one (xQ b_0),oI height_1,.agg [zH .u8 32 id_2_0]] st (ZcA.rs r) r.2:=
 sO ZcA.B Tryz.func170 fun g0 w0 R hE=>by
  unfold ZcA at h
  refine iteB h (fun c1 h1=>?_) (fun c1 h2=>?_)
  ·obtain rfl:=Zac h1
   exact af fol hE [.r [],.r [],.c true,.r []] [] 0 [] c1
  ·obtain ⟨i1,rfl,h3⟩:=Zae h2
   obtain ⟨x2,c3,h4⟩:=Zbw h3
   obtain ⟨x3,c4,h5⟩:=Zae h4
   let o1:List PS:=[.r [],.r [],.c false,.r [(3,{oc:=x2.lo}),(5,q1 [oB x3])]]
   have t1 {Q:Prop} (q:Q):=aK c1 c3 (Zct.snd c4) q
   refine iteB h5 (fun c5 h6=>?_) (fun c5 h7=>?_)
   ·obtain rfl:=Zac h6
    exact af fol hE (o1 ++ [.c true,.r []]) [] 0 [] (t1 c5)
   ·refine iteB h7 (fun c6 h8=>?_) (fun c6 h9=>?_)
    ·obtain rfl:=Zac h8
     exact afd fol hE (o1 ++ [.c false,.d {ds:=[(3,{oc:=x2.lo}),(7,{oc:=x2.lo}),(10,wF),(11,wF),(12,wF),(13,wF),(14,wF),(15,wF),(16,wF),(17,wF),(18,wF),(19,wF),(20,wF),(21,wF),(22,wF)],hv:=0,Hs:=[]},.c true,.r []]) [] 0 [] (t1 (aO c5 c3 c3 c6 c6 c6 c6 (aO c6 c6 c6 c6 c6 c6 c6 (aK c6 c6 c6 eT))))
    ·obtain ⟨x4,c7,h10⟩:=Zae h9
     obtain ⟨⟨x5,st6⟩,c8,h11⟩:=Zae h10
     let o2:List PS:=o1 ++ [.c false,.d {ds:=[(3,{oc:=x2.lo}),(7,{oc:=x2.lo}),(14,{oc:=x2.lo}),(15,{rs:=[oB x4],m:=10,cv:=[.one (L.bx 6 x2.ls)]}),(19,{oc:=x2.lo}),(21,{rs:=[oB x5],st:=st6}),(23,yF)],hv:=2129920,Hs:=[32768,2129920]}]
     have t2 {Q:Prop} (q:Q):=t1 (aO c5 c3 c3 c6 c6 c6 c6 (aO c6 c3 c6 (bO 6 c3 (Zax.bv x2)) (ZcL.snd c7) c6 c6 (aO c6 c6 c6 c6 c6 c3 c6 (aO c3 c6 c6 c6 (ZbQ.snd c8) c6 c6 q))))
     refine iteB h11 (fun c9 h12=>?_) (fun c9 h13=>?_)
     ·obtain rfl:=Zac h12
      exact afd fol hE (o2 ++ [.c true,.r []]) [] 0 [] (t2 c9)
     ·obtain ⟨x7,c10,h14⟩:=Zbw h13
      obtain rfl:=Zac h14
      exact afd fol hE (o2 ++ [.c false,.r [(3,{oc:=x7.lo}),(7,{oc:=x7.lo})],.r []]) [] 0 [] (t2 (aJ c9 c10 c10))
def Zap.B:Code:=Tryz.f108.body.getD .skip
def Zap.rs (r:Int×LL):List CV:=[oI r.1]
def Zap.p3 (N:Nat) (c1_:((Option Nat)×Int×LL)→Option (Int×LL)) (i126:Nat) (now_1:Int) (list_2:LL) (v1 x197:Int) (v204:Bool) (st245:LL):Option (Int×LL):=
 c1_ ((some i126),w64 (v1+1),st245)
def Zap.p2 (N:Nat) (c1_:((Option Nat)×Int×LL)→Option (Int×LL)) (i126:Nat) (now_1:Int) (list_2:LL) (v1 x197:Int) (v204:Bool) (x125:Zaa) (st205:LL):Option (Int×LL):=
 getE (st205[i126]?) Zbm fun x206 x207 x208 x209 x210 x211 x212 x213 x214 x215 x216 x217 x218 x219 x220 x221 x222 x223 x224 x225 x226 x227 x228 x229 x230 x231 x232 x233 x234 x235 x236 x237 x238 x239 x240 x241=>
 chk (zI (x241 ++ [x125.ls])*96≤140737488355328)<|
 optE x237 fun i242=>
 getE ((zO (zO st205 i126 [zC .i64 x206,zC .i64 x207,zC .i64 x208,zC .i64 x209,yX x210,yM 2 x211,yM 33 x212,zH .u64 4 x213,zH .u64 4 x214,zC .i64 x215,zH .u8 32 x216,zH .u8 32 x217,zC .i64 x218,zC .i64 x219,zC .i64 x220,zC .i64 x221,zC .i64 x222,zC .i64 x223,zC .i64 x224,zC .i64 x225,zH .u8 32 x226,yM 1 x227,zH .u64 4 x228,zC .i64 x229,zC .i64 x230,zC .i64 x231,zC .i64 x232,zC .i64 x233,zH .u8 32 x234,yM 1 x235,zH .u64 4 x236,xQ (some i242),zC .i64 x238,zC .i64 x239,zC .i64 x240,L.gone]) i126 [zC .i64 x206,zC .i64 x207,zC .i64 x208,zC .i64 x209,yX x210,yM 2 x211,yM 33 x212,zH .u64 4 x213,zH .u64 4 x214,zC .i64 x215,zH .u8 32 x216,zH .u8 32 x217,zC .i64 x218,zC .i64 x219,zC .i64 x220,zC .i64 x221,zC .i64 x222,zC .i64 x223,zC .i64 x224,zC .i64 x225,zH .u8 32 x226,yM 1 x227,zH .u64 4 x228,zC .i64 x229,zC .i64 x230,zC .i64 x231,zC .i64 x232,zC .i64 x233,zH .u8 32 x234,yM 1 x235,zH .u64 4 x236,xQ (some i242),zC .i64 x238,zC .i64 x239,zC .i64 x240,xS true 68 (x241 ++ [x125.ls])])[i242]?) Zbn fun x243=>
 optE (Zbv N (ZaG.mk (Zak.mk x206 x207 x208 x209 x210 x211 x212 x213 x214 (Zaa.mk x215 x216 x217 x218 x219 x220)) (ZaH.mk (Zat.mk (ZaQ.mk x221 x222 x223 x224 x225) x226 x227) x228) (ZaH.mk (Zat.mk (ZaQ.mk x229 x230 x231 x232 x233) x234 x235) x236) x243 x238 x239 x240 (x241 ++ [x125.ls]))) fun x244=>
 if x244=true then
  Zap.p3 N c1_ i126 now_1 list_2 v1 x197 v204 (zO (zO (zO st205 i126 [zC .i64 x206,zC .i64 x207,zC .i64 x208,zC .i64 x209,yX x210,yM 2 x211,yM 33 x212,zH .u64 4 x213,zH .u64 4 x214,zC .i64 x215,zH .u8 32 x216,zH .u8 32 x217,zC .i64 x218,zC .i64 x219,zC .i64 x220,zC .i64 x221,zC .i64 x222,zC .i64 x223,zC .i64 x224,zC .i64 x225,zH .u8 32 x226,yM 1 x227,zH .u64 4 x228,zC .i64 x229,zC .i64 x230,zC .i64 x231,zC .i64 x232,zC .i64 x233,zH .u8 32 x234,yM 1 x235,zH .u64 4 x236,xQ (some i242),zC .i64 x238,zC .i64 x239,zC .i64 x240,L.gone]) i126 [zC .i64 x206,zC .i64 x207,zC .i64 x208,zC .i64 x209,yX x210,yM 2 x211,yM 33 x212,zH .u64 4 x213,zH .u64 4 x214,zC .i64 x215,zH .u8 32 x216,zH .u8 32 x217,zC .i64 x218,zC .i64 x219,zC .i64 x220,zC .i64 x221,zC .i64 x222,zC .i64 x223,zC .i64 x224,zC .i64 x225,zH .u8 32 x226,yM 1 x227,zH .u64 4 x228,zC .i64 x229,zC .i64 x230,zC .i64 x231,zC .i64 x232,zC .i64 x233,zH .u8 32 x234,yM 1 x235,zH .u64 4 x236,xQ (some i242),zC .i64 x238,zC .i64 x239,zC .i64 x240,xS true 68 (x241 ++ [x125.ls])]) i126 [zC .i64 x206,zC .i64 x207,zC .i64 x208,zC .i64 x209,yX x210,yM 2 x211,yM 33 x212,zH .u64 4 x213,zH .u64 4 x214,zC .i64 x215,zH .u8 32 x216,zH .u8 32 x217,zC .i64 x218,zC .i64 x219,zC .i64 x220,zC .i64 x221,zC .i64 x222,zC .i64 x223,zC .i64 x224,zC .i64 x225,zH .u8 32 x226,yM 1 x227,zH .u64 4 x228,zC .i64 x229,zC .i64 x230,zC .i64 x231,zC .i64 x232,zC .i64 x233,zH .u8 32 x234,yM 1 x235,zH .u64 4 x236,xQ (some i242),zC .i64 3,zC .i64 x239,zC .i64 x240,xS true 68 (x241 ++ [x125.ls])])
 else
 Zap.p3 N c1_ i126 now_1 list_2 v1 x197 v204 (zO (zO st205 i126 [zC .i64 x206,zC .i64 x207,zC .i64 x208,zC .i64 x209,yX x210,yM 2 x211,yM 33 x212,zH .u64 4 x213,zH .u64 4 x214,zC .i64 x215,zH .u8 32 x216,zH .u8 32 x217,zC .i64 x218,zC .i64 x219,zC .i64 x220,zC .i64 x221,zC .i64 x222,zC .i64 x223,zC .i64 x224,zC .i64 x225,zH .u8 32 x226,yM 1 x227,zH .u64 4 x228,zC .i64 x229,zC .i64 x230,zC .i64 x231,zC .i64 x232,zC .i64 x233,zH .u8 32 x234,yM 1 x235,zH .u64 4 x236,xQ (some i242),zC .i64 x238,zC .i64 x239,zC .i64 x240,L.gone]) i126 [zC .i64 x206,zC .i64 x207,zC .i64 x208,zC .i64 x209,yX x210,yM 2 x211,yM 33 x212,zH .u64 4 x213,zH .u64 4 x214,zC .i64 x215,zH .u8 32 x216,zH .u8 32 x217,zC .i64 x218,zC .i64 x219,zC .i64 x220,zC .i64 x221,zC .i64 x222,zC .i64 x223,zC .i64 x224,zC .i64 x225,zH .u8 32 x226,yM 1 x227,zH .u64 4 x228,zC .i64 x229,zC .i64 x230,zC .i64 x231,zC .i64 x232,zC .i64 x233,zH .u8 32 x234,yM 1 x235,zH .u64 4 x236,xQ (some i242),zC .i64 x238,zC .i64 x239,zC .i64 x240,xS true 68 (x241 ++ [x125.ls])])
def Zap.p1 (N:Nat) (now_1:Int) (list_2:LL) (c1_:((Option Nat)×Int×LL)→Option (Int×LL)):((Option Nat)×Int×LL)→Option (Int×LL):=fun (s_123,v1,st124)=>
 if (decide (v1<(len list_2)))=true then
  chk (0≤v1)<|
  getE (list_2[zF v1]?) Zch fun x125=>
  optE s_123 fun i126=>
  getE (st124[i126]?) Zbm fun x127 x128 x129 x130 x131 x132 x133 x134 x135 x136 x137 x138 x139 x140 x141 x142 x143 x144 x145 x146 x147 x148 x149 x150 x151 x152 x153 x154 x155 x156 x157 x158 x159 x160 x161 x162=>
  optE (Zcn N (some i126) x125 now_1 st124) fun (x163,st164)=>
  if (!x163)=true then
   some (8,st164)
  else
  getE (st164[i126]?) Zbm fun x165 x166 x167 x168 x169 x170 x171 x172 x173 x174 x175 x176 x177 x178 x179 x180 x181 x182 x183 x184 x185 x186 x187 x188 x189 x190 x191 x192 x193 x194 x195 x196 x197 x198 x199 x200=>
  if (x197==2)=true then
   optE (Zdj N x125) fun x201=>
   optE (ZcA N x196 x150 x201 st164) fun (x202,st203)=>
   if (!x202)=true then
    some (8,st203)
   else
   Zap.p2 N c1_ i126 now_1 list_2 v1 x197 (!x202) x125 st203
  else
  Zap.p2 N c1_ i126 now_1 list_2 v1 x197 false x125 st164
 else
 some (0,st124)
def Zap (N:Nat) (s_0:Option Nat) (now_1:Int) (list_2 st:LL):Option (Int×LL):=
 loopN (Zap.p1 N now_1 list_2) N (s_0,0,st)
def Zap.p3.S (i126:Nat) (now_1:Int) (list_2:LL) (v1 x197:Int) (v204:Bool) (st245:LL):S:=mkS 62 [(0,sP (some i126)),(1,sI now_1),(10,sV 68 list_2),(11,sI (len list_2)),(12,sI v1),(29,sP (some i126)),(30,sP (some i126)),(31,.one (.adr (.obj i126) 168)),(32,sI x197),(33,.one (.l (yX (x197==2)))),(34,.one (.l (yX (x197==2)))),(44,.one (.l (yX v204)))] [] st245
def Zap.p2.S (i126:Nat) (now_1:Int) (list_2:LL) (v1 x197:Int) (v204:Bool) (x125:Zaa) (st205:LL):S:=mkS 62 [(0,sP (some i126)),(1,sI now_1),(8,sA 8),(10,sV 68 list_2),(11,sI (len list_2)),(12,sI v1),(29,sP (some i126)),(30,sP (some i126)),(31,.one (.adr (.obj i126) 168)),(32,sI x197),(33,.one (.l (yX (x197==2)))),(34,.one (.l (yX (x197==2)))),(44,.one (.l (yX v204)))] [(8,.cells x125.ls)] st205
def Zap.p1.S (s_123:Option Nat) (now_1:Int) (list_2:LL) (v1:Int) (st124:LL):S:=mkS 62 [(0,sP s_123),(1,sI now_1),(10,sV 68 list_2),(11,sI (len list_2)),(12,sI v1)] [] st124
theorem Zap.p3_ok {i126 now_1 list_2 v1 x197 v204 st245 r c1_ J1} (h:Zap.p3 N c1_ i126 now_1 list_2 v1 x197 v204 st245=some r) (hE:En Tryz.f108 g0 w0 (Zap.rs r) r.2 R) (hc1 : ∀s_123 v1 st124,c1_ (s_123,v1,st124)=some r→At g0 w0 (Zap.p1.S s_123 now_1 list_2 v1 st124) J1):At g0 w0 (Zap.p3.S i126 now_1 list_2 v1 x197 v204 st245) (XK zG R [.c (csub Zap.B [1,0,1,0,0,1,1,1]),.h J1,.b 0,.c (csub Zap.B [1,1])]):=by
 unfold Zap.p3 at h
 exact an fol [.r []] [0,1,10,11,12] [] trivial (hc1 (some i126) (w64 (v1+1)) st245 h)
theorem Zap.p2_ok {i126 now_1 list_2 v1 x197 v204 x125 st205 r c1_ J1} (h:Zap.p2 N c1_ i126 now_1 list_2 v1 x197 v204 x125 st205=some r) (hE:En Tryz.f108 g0 w0 (Zap.rs r) r.2 R) (hc1 : ∀s_123 v1 st124,c1_ (s_123,v1,st124)=some r→At g0 w0 (Zap.p1.S s_123 now_1 list_2 v1 st124) J1):At g0 w0 (Zap.p2.S i126 now_1 list_2 v1 x197 v204 x125 st205) (XK zG R [.c (csub Zap.B [1,0,1,0,0,1,1,0,0,1,1,1]),.b 1,.c (csub Zap.B [1,0,1,0,0,1,1,1]),.h J1,.b 0,.c (csub Zap.B [1,1])]):=by
 unfold Zap.p2 at h
 obtain ⟨x206,x207,x208,x209,x210,x211,x212,x213,x214,x215,x216,x217,x218,x219,x220,x221,x222,x223,x224,x225,x226,x227,x228,x229,x230,x231,x232,x233,x234,x235,x236,x237,x238,x239,x240,x241,c31,h1⟩:=Zbb h
 obtain ⟨c32,h2⟩:=ZaN h1
 obtain ⟨i242,rfl,h3⟩:=Zae h2
 obtain ⟨x243,c34,h4⟩:=Zbw h3
 obtain ⟨x244,c35,h5⟩:=Zae h4
 let o1:List PS:=[.d {ds:=[(4,{oc:=(qla x206 x207 x208 x209 x210 x211 x212 x213 x214 x215 x216 x217 x218 x219 x220 x221 x222 x223 x224 x225 x226 x227 x228 x229 x230 x231 x232 x233 x234 x235 x236 (some i242) x238 x239 x240 x241)}),(7,{oe:=(qla x206 x207 x208 x209 x210 x211 x212 x213 x214 x215 x216 x217 x218 x219 x220 x221 x222 x223 x224 x225 x226 x227 x228 x229 x230 x231 x232 x233 x234 x235 x236 (some i242) x238 x239 x240 x241)}),(10,{oc:=[zC .i64 x206,zC .i64 x207,zC .i64 x208,zC .i64 x209,yX x210,yM 2 x211,yM 33 x212,zH .u64 4 x213,zH .u64 4 x214,zC .i64 x215,zH .u8 32 x216,zH .u8 32 x217,zC .i64 x218,zC .i64 x219,zC .i64 x220,zC .i64 x221,zC .i64 x222,zC .i64 x223,zC .i64 x224,zC .i64 x225,zH .u8 32 x226,yM 1 x227,zH .u64 4 x228,zC .i64 x229,zC .i64 x230,zC .i64 x231,zC .i64 x232,zC .i64 x233,zH .u8 32 x234,yM 1 x235,zH .u64 4 x236,xQ (some i242),zC .i64 x238,zC .i64 x239,zC .i64 x240,L.gone],mv:=[53]})],hv:=1216,Hs:=[64,192,1216]},.r [(1,{rs:=[oB x244],m:=10,cv:=[.one (L.bx 172 (ZaG.ls (ZaG.mk (Zak.mk x206 x207 x208 x209 x210 x211 x212 x213 x214 (Zaa.mk x215 x216 x217 x218 x219 x220)) (ZaH.mk (Zat.mk (ZaQ.mk x221 x222 x223 x224 x225) x226 x227) x228) (ZaH.mk (Zat.mk (ZaQ.mk x229 x230 x231 x232 x233) x234 x235) x236) x243 x238 x239 x240 (x241 ++ [x125.ls]))))]})]]
 have t1 {Q:Prop} (q:Q):=aO c31 c31 z0 (eN (zI x241)) c31 z0 (eN (1)) (aN c32 (ZaO c31 [zC .i64 x206,zC .i64 x207,zC .i64 x208,zC .i64 x209,yX x210,yM 2 x211,yM 33 x212,zH .u64 4 x213,zH .u64 4 x214,zC .i64 x215,zH .u8 32 x216,zH .u8 32 x217,zC .i64 x218,zC .i64 x219,zC .i64 x220,zC .i64 x221,zC .i64 x222,zC .i64 x223,zC .i64 x224,zC .i64 x225,zH .u8 32 x226,yM 1 x227,zH .u64 4 x228,zC .i64 x229,zC .i64 x230,zC .i64 x231,zC .i64 x232,zC .i64 x233,zH .u8 32 x234,yM 1 x235,zH .u64 4 x236,xQ (some i242),zC .i64 x238,zC .i64 x239,zC .i64 x240,L.gone]) z0 (eN (zI (x241 ++ [x125.ls]))) (bO 172 (ZaO (ZaO c31 [zC .i64 x206,zC .i64 x207,zC .i64 x208,zC .i64 x209,yX x210,yM 2 x211,yM 33 x212,zH .u64 4 x213,zH .u64 4 x214,zC .i64 x215,zH .u8 32 x216,zH .u8 32 x217,zC .i64 x218,zC .i64 x219,zC .i64 x220,zC .i64 x221,zC .i64 x222,zC .i64 x223,zC .i64 x224,zC .i64 x225,zH .u8 32 x226,yM 1 x227,zH .u64 4 x228,zC .i64 x229,zC .i64 x230,zC .i64 x231,zC .i64 x232,zC .i64 x233,zH .u8 32 x234,yM 1 x235,zH .u64 4 x236,xQ (some i242),zC .i64 x238,zC .i64 x239,zC .i64 x240,L.gone]) (qla x206 x207 x208 x209 x210 x211 x212 x213 x214 x215 x216 x217 x218 x219 x220 x221 x222 x223 x224 x225 x226 x227 x228 x229 x230 x231 x232 x233 x234 x235 x236 (some i242) x238 x239 x240 (x241 ++ [x125.ls]))) ((bP (bP (bP (bP (bP (bS (bS (bP (bP (bP (bP (bP (bP (bP (bP (bP (bP (bP (bP (bP (bP (bS (bP (bP (bP (bP (bP (bP (bP (bS (bP (bC 6 c34 (Zax.bv x243) (bP (bP (bP (bW bN)))))))))))))))))))))))))))))))))))):BVs (zO (zO st205 i126 [zC .i64 x206,zC .i64 x207,zC .i64 x208,zC .i64 x209,yX x210,yM 2 x211,yM 33 x212,zH .u64 4 x213,zH .u64 4 x214,zC .i64 x215,zH .u8 32 x216,zH .u8 32 x217,zC .i64 x218,zC .i64 x219,zC .i64 x220,zC .i64 x221,zC .i64 x222,zC .i64 x223,zC .i64 x224,zC .i64 x225,zH .u8 32 x226,yM 1 x227,zH .u64 4 x228,zC .i64 x229,zC .i64 x230,zC .i64 x231,zC .i64 x232,zC .i64 x233,zH .u8 32 x234,yM 1 x235,zH .u64 4 x236,xQ (some i242),zC .i64 x238,zC .i64 x239,zC .i64 x240,L.gone]) i126 (qla x206 x207 x208 x209 x210 x211 x212 x213 x214 x215 x216 x217 x218 x219 x220 x221 x222 x223 x224 x225 x226 x227 x228 x229 x230 x231 x232 x233 x234 x235 x236 (some i242) x238 x239 x240 (x241 ++ [x125.ls]))) (qla x206 x207 x208 x209 x210 x211 x212 x213 x214 x215 x216 x217 x218 x219 x220 x221 x222 x223 x224 x225 x226 x227 x228 x229 x230 x231 x232 x233 x234 x235 x236 (some i242) x238 x239 x240 (x241 ++ [x125.ls])) (ZaG.ls (ZaG.mk (Zak.mk x206 x207 x208 x209 x210 x211 x212 x213 x214 (Zaa.mk x215 x216 x217 x218 x219 x220)) (ZaH.mk (Zat.mk (ZaQ.mk x221 x222 x223 x224 x225) x226 x227) x228) (ZaH.mk (Zat.mk (ZaQ.mk x229 x230 x231 x232 x233) x234 x235) x236) x243 x238 x239 x240 (x241 ++ [x125.ls]))))) (Zbv.snd c35) q)
 refine iteB h5 (fun c36 h6=>?_) (fun c36 h7=>?_)
 ·exact aqd fol (o1 ++ [.c true,.r [(3,{oc:=(qla x206 x207 x208 x209 x210 x211 x212 x213 x214 x215 x216 x217 x218 x219 x220 x221 x222 x223 x224 x225 x226 x227 x228 x229 x230 x231 x232 x233 x234 x235 x236 (some i242) x238 x239 x240 (x241 ++ [x125.ls]))})],.s 4]) [0,1,10,11,12,29,30,31,32,33,34,44] [] (t1 (aI c36 (ZaO (ZaO c31 [zC .i64 x206,zC .i64 x207,zC .i64 x208,zC .i64 x209,yX x210,yM 2 x211,yM 33 x212,zH .u64 4 x213,zH .u64 4 x214,zC .i64 x215,zH .u8 32 x216,zH .u8 32 x217,zC .i64 x218,zC .i64 x219,zC .i64 x220,zC .i64 x221,zC .i64 x222,zC .i64 x223,zC .i64 x224,zC .i64 x225,zH .u8 32 x226,yM 1 x227,zH .u64 4 x228,zC .i64 x229,zC .i64 x230,zC .i64 x231,zC .i64 x232,zC .i64 x233,zH .u8 32 x234,yM 1 x235,zH .u64 4 x236,xQ (some i242),zC .i64 x238,zC .i64 x239,zC .i64 x240,L.gone]) (qla x206 x207 x208 x209 x210 x211 x212 x213 x214 x215 x216 x217 x218 x219 x220 x221 x222 x223 x224 x225 x226 x227 x228 x229 x230 x231 x232 x233 x234 x235 x236 (some i242) x238 x239 x240 (x241 ++ [x125.ls]))))) (Zap.p3_ok h6 hE hc1)
 ·exact aqd fol (o1 ++ [.c false,.s 4]) [0,1,10,11,12,29,30,31,32,33,34,44] [] (t1 c36) (Zap.p3_ok h7 hE hc1)
theorem Zap.p1_ok {s_123 now_1 list_2 v1 st124 r c1_ J1} (h:Zap.p1 N now_1 list_2 c1_ (s_123,v1,st124)=some r) (hE:En Tryz.f108 g0 w0 (Zap.rs r) r.2 R) (hc1 : ∀s_123 v1 st124,c1_ (s_123,v1,st124)=some r→At g0 w0 (Zap.p1.S s_123 now_1 list_2 v1 st124) J1):At g0 w0 (Zap.p1.S s_123 now_1 list_2 v1 st124) (XK zG R (.c (csub Zap.B [1,0,1,0,0]) :: .h J1 :: [.b 0,.c (csub Zap.B [1,1])])):=by
 unfold Zap.p1 at h
 refine iteB h (fun c19 h8=>?_) (fun c19 h9=>?_)
 ·obtain ⟨c20,h10⟩:=ZaN h8
  obtain ⟨x125,c21,h11⟩:=ZbS h10
  obtain ⟨i126,rfl,h12⟩:=Zae h11
  obtain ⟨x127,x128,x129,x130,x131,x132,x133,x134,x135,x136,x137,x138,x139,x140,x141,x142,x143,x144,x145,x146,x147,x148,x149,x150,x151,x152,x153,x154,x155,x156,x157,x158,x159,x160,x161,x162,c23,h13⟩:=Zbb h12
  obtain ⟨⟨x163,st164⟩,c24,h14⟩:=Zae h13
  let o2:List PS:=[.r [],.c true,.r [(1,{oe:=x125.ls})],.r [(6,{oc:=(qla x127 x128 x129 x130 x131 x132 x133 x134 x135 x136 x137 x138 x139 x140 x141 x142 x143 x144 x145 x146 x147 x148 x149 x150 x151 x152 x153 x154 x155 x156 x157 x158 x159 x160 x161 x162)})]]
  have t2 {Q:Prop} (q:Q):=aN c19 c20 (oD c19) c21 c23 (Zcn.snd c24) q
  refine iteB h14 (fun c25 h15=>?_) (fun c25 h16=>?_)
  ·obtain rfl:=Zac h15
   exact afd fol hE (o2 ++ [.d {ds:=[(3,{rs:=[oB x163],st:=st164}),(6,wF),(7,wF),(8,wF),(9,wF),(10,wF),(11,wF),(21,wF)],hv:=8,Hs:=[8]},.c true,.r []]) [] 0 [] (t2 (aO (not_false (ZaX c25)) (not_false (ZaX c25)) (not_false (ZaX c25)) (not_false (ZaX c25)) (not_false (ZaX c25)) (not_false (ZaX c25)) (not_false (ZaX c25)) (aI (not_false (ZaX c25)) eT)))
  ·obtain ⟨x165,x166,x167,x168,x169,x170,x171,x172,x173,x174,x175,x176,x177,x178,x179,x180,x181,x182,x183,x184,x185,x186,x187,x188,x189,x190,x191,x192,x193,x194,x195,x196,x197,x198,x199,x200,c26,h17⟩:=Zbb h16
   have t3 {Q:Prop} (q:Q):=t2 (aO (not_true (ZaU c25)) (not_true (ZaU c25)) (not_true (ZaU c25)) (not_true (ZaU c25)) c26 (not_true (ZaU c25)) (not_true (ZaU c25)) q)
   refine iteB h17 (fun c27 h18=>?_) (fun c27 h19=>?_)
   ·obtain ⟨x201,c28,h20⟩:=Zae h18
    obtain ⟨⟨x202,st203⟩,c29,h21⟩:=Zae h20
    let o3:List PS:=o2 ++ [.d {ds:=[(3,{rs:=[oB x163],st:=st164}),(9,{oc:=(qla x165 x166 x167 x168 x169 x170 x171 x172 x173 x174 x175 x176 x177 x178 x179 x180 x181 x182 x183 x184 x185 x186 x187 x188 x189 x190 x191 x192 x193 x194 x195 x196 x197 x198 x199 x200)}),(15,{oc:=(qla x165 x166 x167 x168 x169 x170 x171 x172 x173 x174 x175 x176 x177 x178 x179 x180 x181 x182 x183 x184 x185 x186 x187 x188 x189 x190 x191 x192 x193 x194 x195 x196 x197 x198 x199 x200)}),(18,q1 [.agg [zH .u8 32 x201]]),(19,{rs:=[oB x202],st:=st203}),(22,yF)],hv:=524296,Hs:=[8,524296]}]
    have t4 {Q:Prop} (q:Q):=t3 (aO c27 c27 c27 c27 c26 c27 c27 (aO c27 (Zdj.snd c28) c27 (ZcA.snd c29) c27 (not_true (ZaU c25)) c27 (aI (not_true (ZaU c25)) q)))
    refine iteB h21 (fun c30 h22=>?_) (fun c30 h23=>?_)
    ·obtain rfl:=Zac h22
     exact afd fol hE (o3 ++ [.c true,.r []]) [] 0 [] (t4 c30)
    ·exact aqd fol (o3 ++ [.c false,.s 6]) [0,1,8,10,11,12,29,30,31,32,33,34,44] [8] (t4 c30) (Zap.p2_ok h23 hE hc1)
   ·exact aqd fol (o2 ++ [.d {ds:=[(3,{rs:=[oB x163],st:=st164}),(9,{oc:=(qla x165 x166 x167 x168 x169 x170 x171 x172 x173 x174 x175 x176 x177 x178 x179 x180 x181 x182 x183 x184 x185 x186 x187 x188 x189 x190 x191 x192 x193 x194 x195 x196 x197 x198 x199 x200)}),(12,wF),(13,wF),(14,wF),(15,wF),(16,wF),(17,wF),(18,wF),(19,wF),(20,wF),(21,yF),(22,yF)],hv:=8,Hs:=[8]},.c false,.s 6]) [0,1,8,10,11,12,29,30,31,32,33,34,44] [8] (t3 (aO c27 c27 c27 c27 c27 c27 c27 (aM c27 c27 (not_true (ZaU c25)) c27 (not_true (ZaU c25)) eF))) (Zap.p2_ok h19 hE hc1)
 ·obtain rfl:=Zac h9
  exact af fol hE [.r [],.c false,.r []] [] 0 [] c19
theorem Zap.snd {s_0:Option Nat} {now_1:Int} {list_2:LL} {st:LL} {r:Int×LL} (h:Zap N s_0 now_1 list_2 st=some r):Snd zG 108 [.one (xQ s_0),oI now_1,.one (yM 68 list_2)] st (Zap.rs r) r.2:=
 sO Zap.B Tryz.func108 fun g0 w0 R hE=>by
  unfold Zap at h
  exact aq fol [.r [],.r []] [0,1,10,11,12] [] trivial (At.loop N (At.loopN (fun y:(Option Nat)×Int×LL=>Zap.p1.S y.1 now_1 list_2 y.2.1 y.2.2) (fun c J hc y h=>Zap.p1_ok (s_123:=y.1) (v1:=y.2.1) (st124:=y.2.2) h hE (fun s_123 v1 st124=>hc (s_123,v1,st124))) N (s_0,0,st) h))
def ZbL.B:Code:=Tryz.f109.body.getD .skip
def ZbL.rs (r:LL×Int×LL):List CV:=[.row true 68 r.1,oI r.2.1]
def ZbL (N:Nat) (s_0:Option Nat) (e_1:Int) (st:LL):Option (LL×Int×LL):=
 optE s_0 fun i1=>
 getE (st[i1]?) Zbm fun x2 x3 x4 x5 x6 x7 x8 x9 x10 x11 x12 x13 x14 x15 x16 x17 x18 x19 x20 x21 x22 x23 x24 x25 x26 x27 x28 x29 x30 x31 x32 x33 x34 x35 x36 x37=>
 some ([],e_1,zO (zO (zO st i1 [zC .i64 x2,zC .i64 x3,zC .i64 x4,zC .i64 x5,yX x6,yM 2 x7,yM 33 x8,zH .u64 4 x9,zH .u64 4 x10,zC .i64 x11,zH .u8 32 x12,zH .u8 32 x13,zC .i64 x14,zC .i64 x15,zC .i64 x16,zC .i64 x17,zC .i64 x18,zC .i64 x19,zC .i64 x20,zC .i64 x21,zH .u8 32 x22,yM 1 x23,zH .u64 4 x24,zC .i64 x25,zC .i64 x26,zC .i64 x27,zC .i64 x28,zC .i64 x29,zH .u8 32 x30,yM 1 x31,zH .u64 4 x32,xQ x33,zC .i64 x34,zC .i64 x35,zC .i64 x36,xS true 68 (zB (zI x37) (Zaa.ls (Zaa.mk 0 (zB 32 0) (zB 32 0) 0 0 0)))]) i1 [zC .i64 x2,zC .i64 x3,zC .i64 x4,zC .i64 x5,yX x6,yM 2 x7,yM 33 x8,zH .u64 4 x9,zH .u64 4 x10,zC .i64 x11,zH .u8 32 x12,zH .u8 32 x13,zC .i64 x14,zC .i64 x15,zC .i64 x16,zC .i64 x17,zC .i64 x18,zC .i64 x19,zC .i64 x20,zC .i64 x21,zH .u8 32 x22,yM 1 x23,zH .u64 4 x24,zC .i64 x25,zC .i64 x26,zC .i64 x27,zC .i64 x28,zC .i64 x29,zH .u8 32 x30,yM 1 x31,zH .u64 4 x32,xQ x33,zC .i64 0,zC .i64 x35,zC .i64 x36,xS true 68 (zB (zI x37) (Zaa.ls (Zaa.mk 0 (zB 32 0) (zB 32 0) 0 0 0)))]) i1 [zC .i64 x2,zC .i64 x3,zC .i64 x4,zC .i64 x5,yX x6,yM 2 x7,yM 33 x8,zH .u64 4 x9,zH .u64 4 x10,zC .i64 x11,zH .u8 32 x12,zH .u8 32 x13,zC .i64 x14,zC .i64 x15,zC .i64 x16,zC .i64 x17,zC .i64 x18,zC .i64 x19,zC .i64 x20,zC .i64 x21,zH .u8 32 x22,yM 1 x23,zH .u64 4 x24,zC .i64 x25,zC .i64 x26,zC .i64 x27,zC .i64 x28,zC .i64 x29,zH .u8 32 x30,yM 1 x31,zH .u64 4 x32,xQ x33,zC .i64 0,zC .i64 x35,zC .i64 x36,xS true 68 []])
theorem ZbL.snd {s_0:Option Nat} {e_1:Int} {st:LL} {r:LL×Int×LL} (h:ZbL N s_0 e_1 st=some r):Snd zG 109 [.one (xQ s_0),oI e_1] st (ZbL.rs r) r.2.2:=
 sO ZbL.B Tryz.func109 fun g0 w0 R hE=>by
  unfold ZbL at h
  obtain ⟨i1,rfl,h1⟩:=Zae h
  obtain ⟨x2,x3,x4,x5,x6,x7,x8,x9,x10,x11,x12,x13,x14,x15,x16,x17,x18,x19,x20,x21,x22,x23,x24,x25,x26,x27,x28,x29,x30,x31,x32,x33,x34,x35,x36,x37,c2,h2⟩:=Zbb h1
  obtain rfl:=Zac h2
  exact af fol hE [.r [(0,{m:=2})],.r [(3,{oc:=(qla x2 x3 x4 x5 x6 x7 x8 x9 x10 x11 x12 x13 x14 x15 x16 x17 x18 x19 x20 x21 x22 x23 x24 x25 x26 x27 x28 x29 x30 x31 x32 x33 x34 x35 x36 x37)}),(4,{oc:=(qla x2 x3 x4 x5 x6 x7 x8 x9 x10 x11 x12 x13 x14 x15 x16 x17 x18 x19 x20 x21 x22 x23 x24 x25 x26 x27 x28 x29 x30 x31 x32 x33 x34 x35 x36 x37),oe:=[zC .i64 0,zH .u8 32 (zB 32 0),zH .u8 32 (zB 32 0),zC .i64 0,zC .i64 0,zC .i64 0],m:=11})],.r [(4,{oc:=(qla x2 x3 x4 x5 x6 x7 x8 x9 x10 x11 x12 x13 x14 x15 x16 x17 x18 x19 x20 x21 x22 x23 x24 x25 x26 x27 x28 x29 x30 x31 x32 x33 x34 x35 x36 (zB (zI x37) (Zaa.ls (Zaa.mk 0 (zB 32 0) (zB 32 0) 0 0 0))))}),(7,{oc:=(qla x2 x3 x4 x5 x6 x7 x8 x9 x10 x11 x12 x13 x14 x15 x16 x17 x18 x19 x20 x21 x22 x23 x24 x25 x26 x27 x28 x29 x30 x31 x32 x33 0 x35 x36 (zB (zI x37) (Zaa.ls (Zaa.mk 0 (zB 32 0) (zB 32 0) 0 0 0)))),m:=12})],.r [(1,{m:=2})]] [] 0 [0] (aM c2 z0 (@rfl _ (zI x37):(zI x37)=(zI x37)) c2 (ZaO c2 (qla x2 x3 x4 x5 x6 x7 x8 x9 x10 x11 x12 x13 x14 x15 x16 x17 x18 x19 x20 x21 x22 x23 x24 x25 x26 x27 x28 x29 x30 x31 x32 x33 x34 x35 x36 (zB (zI x37) (Zaa.ls (Zaa.mk 0 (zB 32 0) (zB 32 0) 0 0 0))))) (ZaO (ZaO c2 (qla x2 x3 x4 x5 x6 x7 x8 x9 x10 x11 x12 x13 x14 x15 x16 x17 x18 x19 x20 x21 x22 x23 x24 x25 x26 x27 x28 x29 x30 x31 x32 x33 x34 x35 x36 (zB (zI x37) (Zaa.ls (Zaa.mk 0 (zB 32 0) (zB 32 0) 0 0 0))))) (qla x2 x3 x4 x5 x6 x7 x8 x9 x10 x11 x12 x13 x14 x15 x16 x17 x18 x19 x20 x21 x22 x23 x24 x25 x26 x27 x28 x29 x30 x31 x32 x33 0 x35 x36 (zB (zI x37) (Zaa.ls (Zaa.mk 0 (zB 32 0) (zB 32 0) 0 0 0))))))
end Go.Dn.F
end
