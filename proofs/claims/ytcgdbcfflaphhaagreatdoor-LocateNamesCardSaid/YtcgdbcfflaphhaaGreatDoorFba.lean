/- Contracts of functions of the program, as shallow functions, and their proofs. -/
import Derived.Test.YtcgdbcfflaphhaaGreatDoorFa
import Derived.Test.YtcgdbcfflaphhaaGreatDoorFaP
set_option linter.all false
set_option maxRecDepth 100000
namespace Go.Dn.F
open Go.Proofs
variable {N:Nat} {g0:G} {w0:World} {R:Exit→Act→World→Prop}
structure Zbm where
  Header:Zai
  Now:Int
noncomputable def Zbm.ls (x:Zbm):List L:=[L.int .i64 x.Header.Version,L.arr .u8 32 x.Header.Prev,L.arr .u8 32 x.Header.Root,L.int .i64 x.Header.Time,L.int .i64 x.Header.Bits,L.int .i64 x.Header.Nonce,L.int .i64 x.Now]
noncomputable def ZcY {α:Type} (l:List L) (k:Zbm→Option α):Option α:=match l with
  | [L.int .i64 x0,L.arr .u8 32 x1,L.arr .u8 32 x2,L.int .i64 x3,L.int .i64 x4,L.int .i64 x5,L.int .i64 x6]=>k ⟨⟨x0,x1,x2,x3,x4,x5⟩,x6⟩
  | _=>none
theorem Zei {α:Type} {o:Option (List L)} {k:Zbm→Option α} {r:α} (h:getE o ZcY k=some r) : ∃x:Zbm,o=some x.ls∧k x=some r:=by
  obtain ⟨l,e,k1⟩:=Zad h;subst e;unfold ZcY at k1;split at k1
  · exact ⟨_,rfl,k1⟩
  · cases k1
@[simp] theorem Zet {α:Type} (x:Zbm) (k:Zbm→Option α):ZcY x.ls k=k x:=rfl
theorem Zbm.bv {st:LL} (x:Zbm):BVs st x.ls x.ls:=(bP (bP (bP (bP (bP (bP (bP bN)))))))
structure Zci where
  Height:Int
  Version:Int
noncomputable def Zci.ls (x:Zci):List L:=[L.int .i64 x.Height,L.int .i64 x.Version]
noncomputable def ZdU {α:Type} (l:List L) (k:Zci→Option α):Option α:=match l with
  | [L.int .i64 x0,L.int .i64 x1]=>k ⟨x0,x1⟩
  | _=>none
theorem ZdX {α:Type} {o:Option (List L)} {k:Zci→Option α} {r:α} (h:getE o ZdU k=some r) : ∃x:Zci,o=some x.ls∧k x=some r:=by
  obtain ⟨l,e,k1⟩:=Zad h;subst e;unfold ZdU at k1;split at k1
  · exact ⟨_,rfl,k1⟩
  · cases k1
@[simp] theorem Zek {α:Type} (x:Zci) (k:Zci→Option α):ZdU x.ls k=k x:=rfl
theorem Zci.bv {st:LL} (x:Zci):BVs st x.ls x.ls:=(bP (bP bN))
structure ZbN where
  Height:Int
  Id:List Int
noncomputable def ZbN.ls (x:ZbN):List L:=[L.int .i64 x.Height,L.arr .u8 32 x.Id]
noncomputable def ZdM {α:Type} (l:List L) (k:ZbN→Option α):Option α:=match l with
  | [L.int .i64 x0,L.arr .u8 32 x1]=>k ⟨x0,x1⟩
  | _=>none
theorem ZdR {α:Type} {o:Option (List L)} {k:ZbN→Option α} {r:α} (h:getE o ZdM k=some r) : ∃x:ZbN,o=some x.ls∧k x=some r:=by
  obtain ⟨l,e,k1⟩:=Zad h;subst e;unfold ZdM at k1;split at k1
  · exact ⟨_,rfl,k1⟩
  · cases k1
@[simp] theorem ZdY {α:Type} (x:ZbN) (k:ZbN→Option α):ZdM x.ls k=k x:=rfl
theorem ZbN.bv {st:LL} (x:ZbN):BVs st x.ls x.ls:=(bP (bP bN))
structure ZaD where
  rules:Zae
  list:LL
  spots:LL
  places:LM
  room:Int
noncomputable def ZaD.lo (x:ZaD):List L:=[L.int .i64 x.rules.Limit,L.int .i64 x.rules.Interval,L.int .i64 x.rules.Spacing,L.int .i64 x.rules.Future,L.bool x.rules.Easy,L.sl 2 x.rules.Gates,L.sl 33 x.rules.Checks,L.arr .u64 4 x.rules.MinWork,L.arr .u64 4 x.rules.Margin,L.int .i64 x.rules.Genesis.Version,L.arr .u8 32 x.rules.Genesis.Prev,L.arr .u8 32 x.rules.Genesis.Root,L.int .i64 x.rules.Genesis.Time,L.int .i64 x.rules.Genesis.Bits,L.int .i64 x.rules.Genesis.Nonce,L.own true 106 x.list,L.own true 38 x.spots,L.mp x.places,L.int .i64 x.room]
noncomputable def ZbR {α:Type} (l:List L) (k:ZaD→Option α):Option α:=match l with
  | [L.int .i64 x0,L.int .i64 x1,L.int .i64 x2,L.int .i64 x3,L.bool x4,L.sl 2 x5,L.sl 33 x6,L.arr .u64 4 x7,L.arr .u64 4 x8,L.int .i64 x9,L.arr .u8 32 x10,L.arr .u8 32 x11,L.int .i64 x12,L.int .i64 x13,L.int .i64 x14,L.own true 106 x15,L.own true 38 x16,L.mp x17,L.int .i64 x18]=>k ⟨⟨x0,x1,x2,x3,x4,x5,x6,x7,x8,⟨x9,x10,x11,x12,x13,x14⟩⟩,x15,x16,x17,x18⟩
  | _=>none
theorem ZbK {α:Type} {o:Option (List L)} {k:ZaD→Option α} {r:α} (h:getE o ZbR k=some r) : ∃x:ZaD,o=some x.lo∧k x=some r:=by
  obtain ⟨l,e,k1⟩:=Zad h;subst e;unfold ZbR at k1;split at k1
  · exact ⟨_,rfl,k1⟩
  · cases k1
@[simp] theorem ZcD {α:Type} (x:ZaD) (k:ZaD→Option α):ZbR x.lo k=k x:=rfl
noncomputable def ZaD.ls (x:ZaD):List L:=[L.int .i64 x.rules.Limit,L.int .i64 x.rules.Interval,L.int .i64 x.rules.Spacing,L.int .i64 x.rules.Future,L.bool x.rules.Easy,L.sl 2 x.rules.Gates,L.sl 33 x.rules.Checks,L.arr .u64 4 x.rules.MinWork,L.arr .u64 4 x.rules.Margin,L.int .i64 x.rules.Genesis.Version,L.arr .u8 32 x.rules.Genesis.Prev,L.arr .u8 32 x.rules.Genesis.Root,L.int .i64 x.rules.Genesis.Time,L.int .i64 x.rules.Genesis.Bits,L.int .i64 x.rules.Genesis.Nonce,L.sl 106 x.list,L.sl 38 x.spots,L.mz x.places,L.int .i64 x.room]
theorem ZaD.bv {st:LL} (x:ZaD):BVs st x.lo x.ls:=(bP (bP (bP (bP (bP (bS (bS (bP (bP (bP (bP (bP (bP (bP (bP (bW (bW (bM (bP bN)))))))))))))))))))
structure ZbM where
  Header:Zai
  Id:List Int
  Ahead:Int
  Height:Int
  Work:List Int
noncomputable def ZbM.ls (x:ZbM):List L:=[L.int .i64 x.Header.Version,L.arr .u8 32 x.Header.Prev,L.arr .u8 32 x.Header.Root,L.int .i64 x.Header.Time,L.int .i64 x.Header.Bits,L.int .i64 x.Header.Nonce,L.arr .u8 32 x.Id,L.int .i64 x.Ahead,L.int .i64 x.Height,L.arr .u64 4 x.Work]
noncomputable def Zej {α:Type} (l:List L) (k:ZbM→Option α):Option α:=match l with
  | [L.int .i64 x0,L.arr .u8 32 x1,L.arr .u8 32 x2,L.int .i64 x3,L.int .i64 x4,L.int .i64 x5,L.arr .u8 32 x6,L.int .i64 x7,L.int .i64 x8,L.arr .u64 4 x9]=>k ⟨⟨x0,x1,x2,x3,x4,x5⟩,x6,x7,x8,x9⟩
  | _=>none
theorem Zfg {α:Type} {o:Option (List L)} {k:ZbM→Option α} {r:α} (h:getE o Zej k=some r) : ∃x:ZbM,o=some x.ls∧k x=some r:=by
  obtain ⟨l,e,k1⟩:=Zad h;subst e;unfold Zej at k1;split at k1
  · exact ⟨_,rfl,k1⟩
  · cases k1
@[simp] theorem Zfo {α:Type} (x:ZbM) (k:ZbM→Option α):Zej x.ls k=k x:=rfl
theorem ZbM.bv {st:LL} (x:ZbM):BVs st x.ls x.ls:=(bP (bP (bP (bP (bP (bP (bP (bP (bP (bP bN))))))))))
structure Zaa where
  Rules:Zae
  List_:LL
  Ids:LL
  Ahead:LL
  Works:LL
  Room:Int
noncomputable def Zaa.lo (x:Zaa):List L:=[L.int .i64 x.Rules.Limit,L.int .i64 x.Rules.Interval,L.int .i64 x.Rules.Spacing,L.int .i64 x.Rules.Future,L.bool x.Rules.Easy,L.sl 2 x.Rules.Gates,L.sl 33 x.Rules.Checks,L.arr .u64 4 x.Rules.MinWork,L.arr .u64 4 x.Rules.Margin,L.int .i64 x.Rules.Genesis.Version,L.arr .u8 32 x.Rules.Genesis.Prev,L.arr .u8 32 x.Rules.Genesis.Root,L.int .i64 x.Rules.Genesis.Time,L.int .i64 x.Rules.Genesis.Bits,L.int .i64 x.Rules.Genesis.Nonce,L.own true 68 x.List_,L.own true 32 x.Ids,L.own true 1 x.Ahead,L.own true 4 x.Works,L.int .i64 x.Room]
noncomputable def Zbo {α:Type} (l:List L) (k:Zaa→Option α):Option α:=match l with
  | [L.int .i64 x0,L.int .i64 x1,L.int .i64 x2,L.int .i64 x3,L.bool x4,L.sl 2 x5,L.sl 33 x6,L.arr .u64 4 x7,L.arr .u64 4 x8,L.int .i64 x9,L.arr .u8 32 x10,L.arr .u8 32 x11,L.int .i64 x12,L.int .i64 x13,L.int .i64 x14,L.own true 68 x15,L.own true 32 x16,L.own true 1 x17,L.own true 4 x18,L.int .i64 x19]=>k ⟨⟨x0,x1,x2,x3,x4,x5,x6,x7,x8,⟨x9,x10,x11,x12,x13,x14⟩⟩,x15,x16,x17,x18,x19⟩
  | _=>none
theorem Zbv {α:Type} {o:Option (List L)} {k:Zaa→Option α} {r:α} (h:getE o Zbo k=some r) : ∃x:Zaa,o=some x.lo∧k x=some r:=by
  obtain ⟨l,e,k1⟩:=Zad h;subst e;unfold Zbo at k1;split at k1
  · exact ⟨_,rfl,k1⟩
  · cases k1
@[simp] theorem Zcu {α:Type} (x:Zaa) (k:Zaa→Option α):Zbo x.lo k=k x:=rfl
structure Zau where
  store:ZaD
  leaps:LL
noncomputable def Zau.ls (x:Zau):List L:=[L.bx 87 x.store.ls,L.sl 1 x.leaps]
noncomputable def Zaa.ls (x:Zaa):List L:=[L.int .i64 x.Rules.Limit,L.int .i64 x.Rules.Interval,L.int .i64 x.Rules.Spacing,L.int .i64 x.Rules.Future,L.bool x.Rules.Easy,L.sl 2 x.Rules.Gates,L.sl 33 x.Rules.Checks,L.arr .u64 4 x.Rules.MinWork,L.arr .u64 4 x.Rules.Margin,L.int .i64 x.Rules.Genesis.Version,L.arr .u8 32 x.Rules.Genesis.Prev,L.arr .u8 32 x.Rules.Genesis.Root,L.int .i64 x.Rules.Genesis.Time,L.int .i64 x.Rules.Genesis.Bits,L.int .i64 x.Rules.Genesis.Nonce,L.sl 68 x.List_,L.sl 32 x.Ids,L.sl 1 x.Ahead,L.sl 4 x.Works,L.int .i64 x.Room]
theorem Zaa.bv {st:LL} (x:Zaa):BVs st x.lo x.ls:=(bP (bP (bP (bP (bP (bS (bS (bP (bP (bP (bP (bP (bP (bP (bP (bW (bW (bW (bW (bP bN))))))))))))))))))))
noncomputable def Zgg {α:Type} (l:List L) (k:(List Int)→Option α):Option α:=match l with
  | [L.arr .u64 4 x0]=>k x0
  | _=>none
theorem Zhj {α:Type} {o:Option (List L)} {k:(List Int)→Option α} {r:α} (h:getE o Zgg k=some r) : ∃x0,o=some [L.arr .u64 4 x0]∧k x0=some r:=by
  obtain ⟨l,e,k1⟩:=Zad h;subst e;unfold Zgg at k1;split at k1
  · exact ⟨_,rfl,k1⟩
  · cases k1
@[simp] theorem Zlj {α:Type} (x0:List Int) (k:(List Int)→Option α):Zgg [L.arr .u64 4 x0] k=k x0:=rfl
noncomputable def ZcW {α:Type} (l:List L) (k:(Option Nat)→LL→Option α):Option α:=match l with
  | [L.ptr x0,L.own true 1 x1]=>k x0 x1
  | _=>none
theorem ZcS {α:Type} {o:Option (List L)} {k:(Option Nat)→LL→Option α} {r:α} (h:getE o ZcW k=some r) : ∃x0 x1,o=some [L.ptr x0,L.own true 1 x1]∧k x0 x1=some r:=by
  obtain ⟨l,e,k1⟩:=Zad h;subst e;unfold ZcW at k1;split at k1
  · exact ⟨_,_,rfl,k1⟩
  · cases k1
@[simp] theorem ZdW {α:Type} (x0:Option Nat) (x1:LL) (k:(Option Nat)→LL→Option α):ZcW [L.ptr x0,L.own true 1 x1] k=k x0 x1:=rfl
theorem slices_Sort_int.snd:SortC Tryz.prog 195:=slices_Sort_int.holds
theorem ZdA.snd {x y z:Int} {r:Int×Int} (h:ZdA N x y z=some r):ExtI Tryz.prog 205 [(.u64,x),(.u64,y),(.u64,z)] [(.u64,r.1),(.u64,r.2)]:=ZiZ Tryz.func205 (by kernel_rfl) (by kernel_rfl) (by kernel_rfl) (by kernel_rfl) h
theorem Zer.snd {x y z:Int} {r:Int×Int} (h:Zer N x y z=some r):ExtI Tryz.prog 223 [(.u64,x),(.u64,y),(.u64,z)] [(.u64,r.1),(.u64,r.2)]:=ZiY Tryz.func223 (by kernel_rfl) (by kernel_rfl) (by kernel_rfl) (by kernel_rfl) h
noncomputable def Zaz.B:Code:=Tryz.f82.body.getD .skip
noncomputable def Zaz.rs (r:LL):List CV:=[.row true 1 r]
noncomputable def Zaz.p2 (N:Nat) (c1_:(LL×Int×Int)→Option LL) (out_4:LL) (h_2 step_5:Int):Option LL:=
 c1_ (out_4 ++ [[L.int .i64 h_2]],step_5,w64 (h_2-step_5))
noncomputable def Zaz.p3 (N:Nat) (out_7:LL):Option LL:=
 some out_7
noncomputable def Zaz.p1 (N:Nat) (c1_:(LL×Int×Int)→Option LL):(LL×Int×Int)→Option LL:=fun (out_4,step_1,h_2)=>
 if (decide (h_2≥0))=true then
  chk (List.length (out_4 ++ [[L.int .i64 h_2]])*8≤140737488355328)<|
  if (decide ((len (out_4 ++ [[L.int .i64 h_2]]))>10))=true then
   Zaz.p2 N c1_ out_4 h_2 (w64 (step_1*2))
  else
  Zaz.p2 N c1_ out_4 h_2 step_1
 else
 if (decide ((len out_4)>0))=true then
  chk (0≤(w64 ((len out_4)-1)))<|
  chk ((w64 ((len out_4)-1))<(len out_4))<|
  getE (out_4[0+(Int.toNat (w64 ((len out_4)-1)))]?) ZcG fun x6=>
  if (decide (x6>0))=true then
   chk (List.length (out_4 ++ [[L.int .i64 0]])*8≤140737488355328)<|
   Zaz.p3 N (out_4 ++ [[L.int .i64 0]])
  else
  Zaz.p3 N out_4
 else
 some out_4
noncomputable def Zaz (N:Nat) (from_0:Int):Option LL:=
 loopN (Zaz.p1 N) N ([],1,from_0)
noncomputable def Zaz.p2.S (out_4:LL) (h_2 step_5:Int) (st:LL):S:=mkS 37 [(3,.one (.h (.row 3 0) 1 0 (List.length (out_4 ++ [[L.int .i64 h_2]])))),(4,sI step_5),(5,sI h_2)] [(3,.row 0 true 1 (out_4 ++ [[L.int .i64 h_2]]))] st
noncomputable def Zaz.p3.S (out_7 st:LL):S:=mkS 37 [(3,.one (.h (.row 3 0) 1 0 (List.length out_7)))] [(3,.row 0 true 1 out_7)] st
noncomputable def Zaz.p1.S (out_4:LL) (step_1 h_2:Int) (st:LL):S:=mkS 37 [(3,.one (.h (.row 3 0) 1 0 (List.length out_4))),(4,sI step_1),(5,sI h_2)] [(3,.row 0 true 1 out_4)] st
theorem Zaz.p2_ok {out_4 h_2 step_5 st r c1_ J1} (h:Zaz.p2 N c1_ out_4 h_2 step_5=some r) (hE:En Tryz.f82 g0 w0 (Zaz.rs r) st R) (hc1 : ∀out_4 step_1 h_2,c1_ (out_4,step_1,h_2)=some r→At g0 w0 (Zaz.p1.S out_4 step_1 h_2 st) J1):At g0 w0 (Zaz.p2.S out_4 h_2 step_5 st) (XK Tryz.prog R [.c (csub Zaz.B [1,1,1,0,1,0,0,1,1]),.h J1,.b 0,.c (csub Zaz.B [1,1,1,1])]):=by
 unfold Zaz.p2 at h
 exact an fol [.r []] [3,4,5] [3] trivial (hc1 (out_4 ++ [[L.int .i64 h_2]]) step_5 (w64 (h_2-step_5)) h)
theorem Zaz.p3_ok {out_7 st r} (h:Zaz.p3 N out_7=some r) (hE:En Tryz.f82 g0 w0 (Zaz.rs r) st R):At g0 w0 (Zaz.p3.S out_7 st) (XK Tryz.prog R [.c (csub Zaz.B [1,1,1,1,1])]):=by
 unfold Zaz.p3 at h
 obtain rfl:=Zab h
 exact af fol hE [.r []] [] 0 [0] (aI z0 (eN (List.length out_7)))
theorem Zaz.p1_ok {out_4 step_1 h_2 st r c1_ J1} (h:Zaz.p1 N c1_ (out_4,step_1,h_2)=some r) (hE:En Tryz.f82 g0 w0 (Zaz.rs r) st R) (hc1 : ∀out_4 step_1 h_2,c1_ (out_4,step_1,h_2)=some r→At g0 w0 (Zaz.p1.S out_4 step_1 h_2 st) J1):At g0 w0 (Zaz.p1.S out_4 step_1 h_2 st) (XK Tryz.prog R (.c (csub Zaz.B [1,1,1,0,1,0,0]) :: .h J1 :: [.b 0,.c (csub Zaz.B [1,1,1,1])])):=by
 unfold Zaz.p1 at h
 refine iteB h (fun c4 h1=>?_) (fun c4 h2=>?_)
 ·obtain ⟨c5,h3⟩:=ZaI h1
  have t1 {Q:Prop} (q:Q):=aN c4 z0 (eN (List.length out_4)) z0 (eN (1)) c5 q
  refine iteB h3 (fun c6 h4=>?_) (fun c6 h5=>?_)
  ·exact aq fol [.r [],.c true,.r [],.r [],.c true,.r [],.s 4] [3,4,5] [3] (t1 c6) (Zaz.p2_ok h4 hE hc1)
  ·exact aq fol [.r [],.c true,.r [],.r [],.c false,.s 4] [3,4,5] [3] (t1 c6) (Zaz.p2_ok h5 hE hc1)
 ·refine iteB h2 (fun c7 h6=>?_) (fun c7 h7=>?_)
  ·obtain ⟨c8,c9,h8⟩:=ck2 h6
   obtain ⟨x6,c10,h9⟩:=Zcf h8
   let o1:List PS:=[.r [],.c false,.r [(9,{oe:=[L.int .i64 x6]})]]
   have t2 {Q:Prop} (q:Q):=aO c4 c7 c7 c7 c7 c7 c8 (aM c9 c7 c10 c7 c7 q)
   refine iteB h9 (fun c11 h10=>?_) (fun c11 h11=>?_)
   ·obtain ⟨c12,h12⟩:=ZaI h10
    exact aq fol (o1 ++ [.c true,.r [],.s 1]) [3] [3] (t2 (aM c11 z0 (eN (List.length out_4)) z0 (eN (1)) c12)) (Zaz.p3_ok h12 hE)
   ·exact aq fol (o1 ++ [.c false,.s 1]) [3] [3] (t2 c11) (Zaz.p3_ok h11 hE)
  ·obtain rfl:=Zab h7
   exact af fol hE [.r [],.c false,.r [(4,wF),(5,wF),(6,wF),(7,wF),(8,wF),(9,wF),(10,wF),(11,yF)],.c false,.r []] [] 0 [0] (aO c4 c7 c7 c7 c7 c7 c7 (aL c7 c7 eF z0 (eN (List.length out_4))))
theorem Zaz.snd {from_0:Int} {r:LL} (h:Zaz N from_0=some r):SndQ Tryz.prog 82 [oI from_0] (Zaz.rs r):=fun st=>
 sO Zaz.B Tryz.func82 fun g0 w0 R hE=>by
  unfold Zaz at h
  exact aq fol [.r [(0,{m:=2})],.r [(0,{m:=1})],.r [],.r []] [3,4,5] [3] trivial (At.loop N (At.loopN (fun y:LL×Int×Int=>Zaz.p1.S y.1 y.2.1 y.2.2 st) (fun c J hc y h=>Zaz.p1_ok (out_4:=y.1) (step_1:=y.2.1) (h_2:=y.2.2) h hE (fun out_4 step_1 h_2=>hc (out_4,step_1,h_2))) N ([],1,from_0) h))
noncomputable def Zdx.B:Code:=Tryz.f15.body.getD .skip
noncomputable def Zdx.rs (r:Bool):List CV:=[oB r]
noncomputable def Zdx (N:Nat):Option Bool:=
 optE (Zaz N 3) fun x1=>
 if ((len x1)==4)=true then
  chk (0<(len x1))<|
  getE (x1[0]?) ZcG fun x2=>
  if (x2==3)=true then
   chk (3<(len x1))<|
   getE (x1[3]?) ZcG fun x3=>
   some (x3==0)
  else
  some false
 else
 some false
theorem Zdx.snd {r:Bool} (h:Zdx N=some r):SndQ Tryz.prog 15 [] (Zdx.rs r):=fun st=>
 sO Zdx.B Tryz.func15 fun g0 w0 R hE=>by
  unfold Zdx at h
  obtain ⟨x1,c1,h1⟩:=Zad h
  let o1:List PS:=[.r [],.r [(0,{rs:=[.row true 1 x1],ns:=[2],m:=1})]]
  have t1 {Q:Prop} (q:Q):=aI (Zaz.snd c1) q
  refine iteB h1 (fun c2 h2=>?_) (fun c2 h3=>?_)
  ·obtain ⟨c3,h4⟩:=ZaI h2
   obtain ⟨x2,c4,h5⟩:=Zcf h4
   refine iteB h5 (fun c5 h6=>?_) (fun c5 h7=>?_)
   ·obtain ⟨c6,h8⟩:=ZaI h6
    obtain ⟨x3,c7,h9⟩:=Zcf h8
    obtain rfl:=Zab h9
    exact af fol hE (o1 ++ [.r [(6,{oe:=[L.int .i64 x2]}),(12,{oe:=[L.int .i64 x3]})]]) [] 0 [] (t1 (aO c2 c2 (leI 0 0) c3 c2 c4 c2 (aO c2 c5 c5 (leI 0 3) c6 c5 c7 (aI c5 c5))))
   ·obtain rfl:=Zab h7
    exact af fol hE (o1 ++ [.r [(6,{oe:=[L.int .i64 x2]}),(10,wF),(11,wF),(12,wF),(13,wF),(14,yF)]]) [] 0 [] (t1 (aO c2 c2 (leI 0 0) c3 c2 c4 c2 (aM c2 c5 c5 c5 c5 c5)))
  ·obtain rfl:=Zab h3
   exact af fol hE (o1 ++ [.r [(4,wF),(5,wF),(6,wF),(7,wF),(8,yF),(10,wF),(11,wF),(12,wF),(13,wF),(14,yF)]]) [] 0 [] (t1 (aO c2 c2 c2 c2 c2 eF eF (aJ eF eF eF)))
noncomputable def Zal.B:Code:=Tryz.f196.body.getD .skip
noncomputable def Zal.rs (r:(List Int)):List CV:=[.agg [L.arr .u64 4 r]]
noncomputable def Zal.p4 (N:Nat) (c3_:(Int×(List Int))→Option (List Int)) (n_13 i_19:Int) (a_18 out_22:List Int):Option (List Int):=
 c3_ (w64 (i_19+1),out_22)
noncomputable def Zal.p3 (N:Nat) (n_13:Int) (a_18:List Int) (c3_:(Int×(List Int))→Option (List Int)):(Int×(List Int))→Option (List Int):=fun (i_19,out_21)=>
 if (decide (i_19<4))=true then
  if (decide (n_13>0))=true then
   chk (0≤i_19)<|
   chk (0≤(v64 (n_13)))<|
   if (decide (i_19>0))=true then
    chk (0≤(w64 (i_19-1)))<|
    chk ((w64 (i_19-1))<4)<|
    chk (0≤(v64 (w64 (64-n_13))))<|
    Zal.p4 N c3_ n_13 i_19 a_18 (List.set (List.set out_21 (Int.toNat i_19) (shlOf .u64 (List.getD a_18 (Int.toNat i_19) 0) (v64 (n_13)))) (Int.toNat i_19) (v64 ((List.getD (List.set out_21 (Int.toNat i_19) (shlOf .u64 (List.getD a_18 (Int.toNat i_19) 0) (v64 (n_13)))) (Int.toNat i_19) 0)+(shrOf .u64 (List.getD a_18 (Int.toNat (w64 (i_19-1))) 0) (v64 (w64 (64-n_13)))))))
   else
   Zal.p4 N c3_ n_13 i_19 a_18 (List.set out_21 (Int.toNat i_19) (shlOf .u64 (List.getD a_18 (Int.toNat i_19) 0) (v64 (n_13))))
  else
  chk (0≤i_19)<|
  chk (0≤(v64 (w64 (0-n_13))))<|
  if (decide (i_19<3))=true then
   chk (0≤(w64 (i_19+1)))<|
   chk ((w64 (i_19+1))<4)<|
   chk (0≤(v64 (w64 (64+n_13))))<|
   Zal.p4 N c3_ n_13 i_19 a_18 (List.set (List.set out_21 (Int.toNat i_19) (shrOf .u64 (List.getD a_18 (Int.toNat i_19) 0) (v64 (w64 (0-n_13))))) (Int.toNat i_19) (v64 ((List.getD (List.set out_21 (Int.toNat i_19) (shrOf .u64 (List.getD a_18 (Int.toNat i_19) 0) (v64 (w64 (0-n_13))))) (Int.toNat i_19) 0)+(shlOf .u64 (List.getD a_18 (Int.toNat (w64 (i_19+1))) 0) (v64 (w64 (64+n_13)))))))
  else
  Zal.p4 N c3_ n_13 i_19 a_18 (List.set out_21 (Int.toNat i_19) (shrOf .u64 (List.getD a_18 (Int.toNat i_19) 0) (v64 (w64 (0-n_13)))))
 else
 some out_21
noncomputable def Zal.p2 (N:Nat) (c2_:(Int×(List Int))→Option (List Int)):(Int×(List Int))→Option (List Int):=fun (n_13,a_18)=>
 if (decide (n_13≤(-64)))=true then
  c2_ (w64 (n_13+64),[List.getD a_18 1 0,List.getD a_18 2 0,List.getD a_18 3 0,0])
 else
 if (n_13==0)=true then
  some a_18
 else
 loopN (Zal.p3 N n_13 a_18) N (0,List.replicate 4 0)
noncomputable def Zal.p1 (N:Nat) (c1_:(Int×(List Int))→Option (List Int)):(Int×(List Int))→Option (List Int):=fun (n_1,a_12)=>
 if (decide (n_1≥64))=true then
  c1_ (w64 (n_1-64),[0,List.getD a_12 0 0,List.getD a_12 1 0,List.getD a_12 2 0])
 else
 loopN (Zal.p2 N) N (n_1,a_12)
noncomputable def Zal (N:Nat) (a_0_0:List Int) (n_1:Int):Option (List Int):=
 if (decide (n_1≤(-256)))=true then
  some (List.replicate 4 0)
 else
 if (decide (n_1≥256))=true then
  some (List.replicate 4 0)
 else
 loopN (Zal.p1 N) N (n_1,a_0_0)
noncomputable def Zal.p4.S (n_13 i_19:Int) (a_18 out_22:List Int) (st:LL):S:=mkS 96 [(1,sI n_13),(2,sA 2),(4,sA 4),(5,sA 5),(6,sI i_19)] [(2,.cells [L.arr .u64 4 a_18]),(4,.cells [L.arr .u64 4 (List.replicate 4 0)]),(5,.cells [L.arr .u64 4 out_22])] st
noncomputable def Zal.p3.S (n_13 i_19:Int) (a_18 out_21:List Int) (st:LL):S:=mkS 96 [(1,sI n_13),(2,sA 2),(4,sA 4),(5,sA 5),(6,sI i_19)] [(2,.cells [L.arr .u64 4 a_18]),(4,.cells [L.arr .u64 4 (List.replicate 4 0)]),(5,.cells [L.arr .u64 4 out_21])] st
noncomputable def Zal.p2.S (n_13:Int) (a_18:List Int) (st:LL):S:=mkS 96 [(1,sI n_13),(2,sA 2),(4,sA 4),(5,sA 5)] [(2,.cells [L.arr .u64 4 a_18]),(4,.cells [L.arr .u64 4 (List.replicate 4 0)]),(5,.cells [L.arr .u64 4 (List.replicate 4 0)])] st
noncomputable def Zal.p1.S (n_1:Int) (a_12:List Int) (st:LL):S:=mkS 96 [(1,sI n_1),(2,sA 2),(4,sA 4),(5,sA 5)] [(2,.cells [L.arr .u64 4 a_12]),(4,.cells [L.arr .u64 4 (List.replicate 4 0)]),(5,.cells [L.arr .u64 4 (List.replicate 4 0)])] st
theorem Zal.p4_ok {n_13 i_19 a_18 out_22 st r c3_ J3} (h:Zal.p4 N c3_ n_13 i_19 a_18 out_22=some r) (hE:En Tryz.f196 g0 w0 (Zal.rs r) st R) (hc3 : ∀i_19 out_21,c3_ (i_19,out_21)=some r→At g0 w0 (Zal.p3.S n_13 i_19 a_18 out_21 st) J3):At g0 w0 (Zal.p4.S n_13 i_19 a_18 out_22 st) (XK Tryz.prog R [.c (csub Zal.B [1,1,1,1,1,1,0,1,0,0,1,1]),.h J3,.b 4,.c (csub Zal.B [1,1,1,1,1,1,1])]):=by
 unfold Zal.p4 at h
 exact an fol [.r []] [1,2,4,5,6] [2,4,5] trivial (hc3 (w64 (i_19+1)) out_22 h)
theorem Zal.p3_ok {n_13 i_19 a_18 out_21 st r c3_ J3} (h:Zal.p3 N n_13 a_18 c3_ (i_19,out_21)=some r) (hE:En Tryz.f196 g0 w0 (Zal.rs r) st R) (hc3 : ∀i_19 out_21,c3_ (i_19,out_21)=some r→At g0 w0 (Zal.p3.S n_13 i_19 a_18 out_21 st) J3):At g0 w0 (Zal.p3.S n_13 i_19 a_18 out_21 st) (XK Tryz.prog R (.c (csub Zal.B [1,1,1,1,1,1,0,1,0,0]) :: .h J3 :: [.b 4,.c (csub Zal.B [1,1,1,1,1,1,1])])):=by
 unfold Zal.p3 at h
 refine iteB h (fun c111 h1=>?_) (fun c111 h2=>?_)
 ·let o1:List PS:=[.r [],.c true,.r []]
  refine iteB h1 (fun c112 h3=>?_) (fun c112 h4=>?_)
  ·obtain ⟨c113,c114,h5⟩:=ck2 h3
   have t1 {Q:Prop} (q:Q):=aO c111 c112 c113 (oD c111) c114 c113 (oD c111) q
   refine iteB h5 (fun c115 h6=>?_) (fun c115 h7=>?_)
   ·obtain ⟨c116,c117,c118,h8⟩:=ck3 h6
    exact aqd fol (o1 ++ [.c true,.r [],.r [],.c true,.d {ds:=[],hv:=16384,Hs:=[16384]},.s 4]) [1,2,4,5,6] [2,4,5] (t1 (aO c115 c113 (oD c111) c116 c117 c118 c113 (oD c111))) (Zal.p4_ok h8 hE hc3)
   ·exact aq fol (o1 ++ [.c true,.r [],.r [],.c false,.s 4]) [1,2,4,5,6] [2,4,5] (t1 c115) (Zal.p4_ok h7 hE hc3)
  ·obtain ⟨c119,c120,h9⟩:=ck2 h4
   have t2 {Q:Prop} (q:Q):=aO c111 c112 c119 (oD c111) c120 c119 (oD c111) q
   refine iteB h9 (fun c121 h10=>?_) (fun c121 h11=>?_)
   ·obtain ⟨c122,c123,c124,h12⟩:=ck3 h10
    exact aqd fol (o1 ++ [.c false,.r [],.r [],.c true,.d {ds:=[],hv:=16384,Hs:=[16384]},.s 4]) [1,2,4,5,6] [2,4,5] (t2 (aO c121 c119 (oD c111) c122 c123 c124 c119 (oD c111))) (Zal.p4_ok h12 hE hc3)
   ·exact aq fol (o1 ++ [.c false,.r [],.r [],.c false,.s 4]) [1,2,4,5,6] [2,4,5] (t2 c121) (Zal.p4_ok h11 hE hc3)
 ·obtain rfl:=Zab h2
  exact af fol hE [.r [],.c false,.r []] [] 0 [] c111
theorem Zal.p2_ok {n_13 a_18 st r c2_ J2} (h:Zal.p2 N c2_ (n_13,a_18)=some r) (hE:En Tryz.f196 g0 w0 (Zal.rs r) st R) (hc2 : ∀n_13 a_18,c2_ (n_13,a_18)=some r→At g0 w0 (Zal.p2.S n_13 a_18 st) J2):At g0 w0 (Zal.p2.S n_13 a_18 st) (XK Tryz.prog R (.c (csub Zal.B [1,1,1,1,0,0,0]) :: .h J2 :: [.b 2,.c (csub Zal.B [1,1,1,1,1])])):=by
 unfold Zal.p2 at h
 refine iteB h (fun c95 h13=>?_) (fun c95 h14=>?_)
 ·exact an fol [.r [],.c true,.r [(6,{m:=3})],.r []] [1,2,4,5] [2,4,5] (aI c95 (ix 1 4 (ix 2 4 (aI (leI 0 3) (ltI 3 4))))) (hc2 (w64 (n_13+64)) [List.getD a_18 1 0,List.getD a_18 2 0,List.getD a_18 3 0,0] h13)
 ·refine iteB h14 (fun c96 h15=>?_) (fun c96 h16=>?_)
  ·obtain rfl:=Zab h15
   exact af fol hE [.r [],.c false,.r [],.c true,.r []] [] 0 [] (aI c95 c96)
  ·exact aq fol [.r [],.c false,.r [],.c false,.r []] [1,2,4,5,6] [2,4,5] (aI c95 c96) (At.loop N (At.loopN (fun y:Int×(List Int)=>Zal.p3.S n_13 y.1 a_18 y.2 st) (fun c J hc y h=>Zal.p3_ok (i_19:=y.1) (out_21:=y.2) h hE (fun i_19 out_21=>hc (i_19,out_21))) N (0,List.replicate 4 0) h16))
theorem Zal.p1_ok {n_1 a_12 st r c1_ J1} (h:Zal.p1 N c1_ (n_1,a_12)=some r) (hE:En Tryz.f196 g0 w0 (Zal.rs r) st R) (hc1 : ∀n_1 a_12,c1_ (n_1,a_12)=some r→At g0 w0 (Zal.p1.S n_1 a_12 st) J1):At g0 w0 (Zal.p1.S n_1 a_12 st) (XK Tryz.prog R (.c (csub Zal.B [1,1,1,0,0,0]) :: .h J1 :: [.b 0,.c (csub Zal.B [1,1,1,1])])):=by
 unfold Zal.p1 at h
 refine iteB h (fun c64 h17=>?_) (fun c64 h18=>?_)
 ·exact an fol [.r [],.c true,.r [(6,{m:=3})],.r []] [1,2,4,5] [2,4,5] (aI c64 (ix 0 4 (ix 1 4 (aI (leI 0 2) (ltI 2 4))))) (hc1 (w64 (n_1-64)) [0,List.getD a_12 0 0,List.getD a_12 1 0,List.getD a_12 2 0] h17)
 ·exact aq fol [.r [],.c false] [1,2,4,5] [2,4,5] c64 (At.loop N (At.loopN (fun y:Int×(List Int)=>Zal.p2.S y.1 y.2 st) (fun c J hc y h=>Zal.p2_ok (n_13:=y.1) (a_18:=y.2) h hE (fun n_13 a_18=>hc (n_13,a_18))) N (n_1,a_12) h18))
theorem Zal.snd {a_0_0:List Int} {n_1:Int} {r:(List Int)} (h:Zal N a_0_0 n_1=some r):SndQ Tryz.prog 196 [.agg [L.arr .u64 4 a_0_0],oI n_1] (Zal.rs r):=fun st=>
 sO Zal.B Tryz.func196 fun g0 w0 R hE=>by
  unfold Zal at h
  refine iteB h (fun c1 h19=>?_) (fun c1 h20=>?_)
  ·obtain rfl:=Zab h19
   exact af fol hE [.r [],.r [],.r [(3,wF),(4,wF)],.c true,.r []] [] 0 [] (aK c1 c1 c1 eT)
  ·let o2:List PS:=[.r [],.r [],.r [(5,yF)]]
   refine iteB h20 (fun c2 h21=>?_) (fun c2 h22=>?_)
   ·obtain rfl:=Zab h21
    exact af fol hE (o2 ++ [.c true,.r []]) [] 0 [] (aK c1 c1 c1 c2)
   ·exact aq fol (o2 ++ [.c false]) [1,2,4,5] [2,4,5] (aK c1 c1 c1 c2) (At.loop N (At.loopN (fun y:Int×(List Int)=>Zal.p1.S y.1 y.2 st) (fun c J hc y h=>Zal.p1_ok (n_1:=y.1) (a_12:=y.2) h hE (fun n_1 a_12=>hc (n_1,a_12))) N (n_1,a_0_0) h22))
noncomputable def ZaL.B:Code:=Tryz.f163.body.getD .skip
noncomputable def ZaL.rs (r:(List Int)×Bool×Bool):List CV:=[.agg [L.arr .u64 4 r.1],oB r.2.1,oB r.2.2]
noncomputable def ZaL.p1 (N:Nat) (bits_0:Int) (over_2:Bool) (x1:List Int):Option ((List Int)×Bool×Bool):=
 if (decide ((Int.tmod bits_0 8388608)>0))=true then
  some (x1,(Int.tmod (w64 (Int.tdiv bits_0 8388608)) 2)==1,over_2)
 else
 some (x1,false,over_2)
noncomputable def ZaL (N:Nat) (bits_0:Int):Option ((List Int)×Bool×Bool):=
 if (decide (bits_0<0))=true then
  some (List.replicate 4 0,false,false)
 else
 if (decide (bits_0>4294967295))=true then
  some (List.replicate 4 0,false,false)
 else
 optE (Zal N [v64 (Int.tmod bits_0 8388608),0,0,0] (w64 (8*(w64 ((w64 (Int.tdiv bits_0 16777216))-3))))) fun x1=>
 if (decide ((Int.tmod bits_0 8388608)>0))=true then
  if (decide ((w64 (Int.tdiv bits_0 16777216))>34))=true then
   ZaL.p1 N bits_0 true x1
  else
  if (decide ((Int.tmod bits_0 8388608)>255))=true then
   if (decide ((w64 (Int.tdiv bits_0 16777216))>33))=true then
    ZaL.p1 N bits_0 true x1
   else
   if (decide ((Int.tmod bits_0 8388608)>65535))=true then
    ZaL.p1 N bits_0 (decide ((w64 (Int.tdiv bits_0 16777216))>32)) x1
   else
   ZaL.p1 N bits_0 false x1
  else
  if (decide ((Int.tmod bits_0 8388608)>65535))=true then
   ZaL.p1 N bits_0 (decide ((w64 (Int.tdiv bits_0 16777216))>32)) x1
  else
  ZaL.p1 N bits_0 false x1
 else
 if (decide ((Int.tmod bits_0 8388608)>255))=true then
  if (decide ((w64 (Int.tdiv bits_0 16777216))>33))=true then
   ZaL.p1 N bits_0 true x1
  else
  if (decide ((Int.tmod bits_0 8388608)>65535))=true then
   ZaL.p1 N bits_0 (decide ((w64 (Int.tdiv bits_0 16777216))>32)) x1
  else
  ZaL.p1 N bits_0 false x1
 else
 if (decide ((Int.tmod bits_0 8388608)>65535))=true then
  ZaL.p1 N bits_0 (decide ((w64 (Int.tdiv bits_0 16777216))>32)) x1
 else
 ZaL.p1 N bits_0 false x1
noncomputable def ZaL.p1.S (bits_0:Int) (over_2:Bool) (x1:List Int) (st:LL):S:=mkS 61 [(2,sA 2),(6,sI (Int.tmod bits_0 8388608)),(7,.one (.l (L.bool ((Int.tmod (w64 (Int.tdiv bits_0 8388608)) 2)==1)))),(8,sA 8),(9,.one (.l (L.bool over_2)))] [(2,.cells [L.arr .u64 4 (List.replicate 4 0)]),(8,.cells [L.arr .u64 4 x1])] st
theorem ZaL.p1_ok {bits_0 over_2 x1 st r} (h:ZaL.p1 N bits_0 over_2 x1=some r) (hE:En Tryz.f163 g0 w0 (ZaL.rs r) st R):At g0 w0 (ZaL.p1.S bits_0 over_2 x1 st) (XK Tryz.prog R [.c (csub ZaL.B [1,1,1,1,1,1,1])]):=by
 unfold ZaL.p1 at h
 refine iteB h (fun c14 h1=>?_) (fun c14 h2=>?_)
 ·obtain rfl:=Zab h1
  exact af fol hE [.r []] [] 0 [] (aI c14 c14)
 ·obtain rfl:=Zab h2
  exact af fol hE [.r [(4,wF),(5,yF)]] [] 0 [] (aI c14 c14)
theorem ZaL.snd {bits_0:Int} {r:(List Int)×Bool×Bool} (h:ZaL N bits_0=some r):SndQ Tryz.prog 163 [oI bits_0] (ZaL.rs r):=fun st=>
 sO ZaL.B Tryz.func163 fun g0 w0 R hE=>by
  unfold ZaL at h
  refine iteB h (fun c1 h3=>?_) (fun c1 h4=>?_)
  ·obtain rfl:=Zab h3
   exact af fol hE [.r [],.r [(3,wF),(4,wF)],.c true,.r []] [] 0 [] (aK c1 c1 c1 eT)
  ·let o1:List PS:=[.r [],.r [(5,yF)]]
   have t1 {Q:Prop} (q:Q):=aK c1 c1 c1 q
   refine iteB h4 (fun c2 h5=>?_) (fun c2 h6=>?_)
   ·obtain rfl:=Zab h5
    exact af fol hE (o1 ++ [.c true,.r []]) [] 0 [] (t1 c2)
   ·obtain ⟨x1,c3,h7⟩:=Zad h6
    let o2:List PS:=o1 ++ [.c false,.r [],.r [],.r [],.r [(2,{m:=3}),(6,q1 [.agg [L.arr .u64 4 x1]])]]
    have t2 {Q:Prop} (q:Q):=t1 (aN c2 (neI 16777216) (neI 8388608) (neI 8388608) (neI 2) (Zal.snd c3) q)
    refine iteB h7 (fun c4 h8=>?_) (fun c4 h9=>?_)
    ·have t3 {Q:Prop} (q:Q):=t2 (aK c4 c4 c4 q)
     refine iteB h8 (fun c5 h10=>?_) (fun c5 h11=>?_)
     ·exact aq fol (o2 ++ [.r [(7,wF),(8,wF),(9,wF),(12,wF),(15,wF),(16,wF),(17,wF),(20,wF)],.s 1]) [2,6,7,8,9] [2,8] (t3 (aO c5 c5 c5 c5 c5 eT eT (aJ eT eT eT))) (ZaL.p1_ok h10 hE)
     ·have t4 {Q:Prop} (q:Q):=t3 (aK c5 c5 c5 q)
      refine iteB h11 (fun c6 h12=>?_) (fun c6 h13=>?_)
      ·refine iteB h12 (fun c7 h14=>?_) (fun c7 h15=>?_)
       ·exact aq fol (o2 ++ [.r [(13,yF),(15,wF),(16,wF),(17,wF),(20,wF)],.s 1]) [2,6,7,8,9] [2,8] (t4 (aO c6 c6 c5 c6 c5 c7 c7 (aJ c7 c7 c7))) (ZaL.p1_ok h14 hE)
       ·refine iteB h15 (fun c8 h16=>?_) (fun c8 h17=>?_)
        ·exact aq fol (o2 ++ [.r [(13,yF),(21,yF)],.s 1]) [2,6,7,8,9] [2,8] (t4 (aO c6 c6 c5 c6 c5 c7 c7 (aM c7 c8 c8 c7 c8 c7))) (ZaL.p1_ok h16 hE)
        ·exact aq fol (o2 ++ [.r [(13,yF),(18,wF),(19,wF),(20,yF),(21,yF)],.s 1]) [2,6,7,8,9] [2,8] (t4 (aO c6 c6 c5 c6 c5 c7 c7 (aM c7 c8 c8 c7 c8 c7))) (ZaL.p1_ok h17 hE)
      ·have t5 {Q:Prop} (q:Q):=t4 (aO c6 c6 c5 c6 c5 eF eF (aI eF q))
       refine iteB h13 (fun c9 h18=>?_) (fun c9 h19=>?_)
       ·exact aq fol (o2 ++ [.r [(10,wF),(11,wF),(12,yF),(13,yF),(21,yF)],.s 1]) [2,6,7,8,9] [2,8] (t5 (aL c9 c9 eF c9 eF)) (ZaL.p1_ok h18 hE)
       ·exact aq fol (o2 ++ [.r [(10,wF),(11,wF),(12,yF),(13,yF),(18,wF),(19,wF),(20,yF),(21,yF)],.s 1]) [2,6,7,8,9] [2,8] (t5 (aL c9 c9 eF c9 eF)) (ZaL.p1_ok h19 hE)
    ·have t6 {Q:Prop} (q:Q):=t2 (aN c4 c4 c4 eF eF eF q)
     refine iteB h9 (fun c10 h20=>?_) (fun c10 h21=>?_)
     ·have t7 {Q:Prop} (q:Q):=t6 (aM c10 c10 eF c10 eF q)
      refine iteB h20 (fun c11 h22=>?_) (fun c11 h23=>?_)
      ·exact aq fol (o2 ++ [.r [(3,wF),(4,wF),(5,yF),(13,yF),(15,wF),(16,wF),(17,wF),(20,wF)],.s 1]) [2,6,7,8,9] [2,8] (t7 (aL c11 c11 c11 c11 c11)) (ZaL.p1_ok h22 hE)
      ·refine iteB h23 (fun c12 h24=>?_) (fun c12 h25=>?_)
       ·exact aq fol (o2 ++ [.r [(3,wF),(4,wF),(5,yF),(13,yF),(21,yF)],.s 1]) [2,6,7,8,9] [2,8] (t7 (aO c11 c11 c11 c12 c12 c11 c12 c11)) (ZaL.p1_ok h24 hE)
       ·exact aq fol (o2 ++ [.r [(3,wF),(4,wF),(5,yF),(13,yF),(18,wF),(19,wF),(20,yF),(21,yF)],.s 1]) [2,6,7,8,9] [2,8] (t7 (aO c11 c11 c11 c12 c12 c11 c12 c11)) (ZaL.p1_ok h25 hE)
     ·have t8 {Q:Prop} (q:Q):=t6 (aO c10 c10 eF c10 eF eF eF (aI eF q))
      refine iteB h21 (fun c13 h26=>?_) (fun c13 h27=>?_)
      ·exact aq fol (o2 ++ [.r [(3,wF),(4,wF),(5,yF),(10,wF),(11,wF),(12,yF),(13,yF),(21,yF)],.s 1]) [2,6,7,8,9] [2,8] (t8 (aL c13 c13 eF c13 eF)) (ZaL.p1_ok h26 hE)
      ·exact aq fol (o2 ++ [.r [(3,wF),(4,wF),(5,yF),(10,wF),(11,wF),(12,yF),(13,yF),(18,wF),(19,wF),(20,yF),(21,yF)],.s 1]) [2,6,7,8,9] [2,8] (t8 (aL c13 c13 eF c13 eF)) (ZaL.p1_ok h27 hE)
noncomputable def Zcz.B:Code:=Tryz.f119.body.getD .skip
noncomputable def Zcz.rs (r:Int):List CV:=[oI r]
noncomputable def Zcz (N:Nat) (a_0_0:List Int) (i_1:Int):Option Int:=
 if (decide (i_1<0))=true then
  some 0
 else
 if (decide (i_1>255))=true then
  some 0
 else
 chk (0≤(w64 (Int.tdiv i_1 64)))<|
 chk ((w64 (Int.tdiv i_1 64))<4)<|
 chk (0≤(v64 (Int.tmod i_1 64)))<|
 some (w64 (Int.tmod (shrOf .u64 (List.getD a_0_0 (Int.toNat (w64 (Int.tdiv i_1 64))) 0) (v64 (Int.tmod i_1 64))) 2))
theorem Zcz.snd {a_0_0:List Int} {i_1:Int} {r:Int} (h:Zcz N a_0_0 i_1=some r):SndQ Tryz.prog 119 [.agg [L.arr .u64 4 a_0_0],oI i_1] (Zcz.rs r):=fun st=>
 sO Zcz.B Tryz.func119 fun g0 w0 R hE=>by
  unfold Zcz at h
  refine iteB h (fun c1 h1=>?_) (fun c1 h2=>?_)
  ·obtain rfl:=Zab h1
   exact af fol hE [.r [],.r [(3,wF),(4,wF)],.c true,.r []] [] 0 [] (aK c1 c1 c1 eT)
  ·refine iteB h2 (fun c2 h3=>?_) (fun c2 h4=>?_)
   ·obtain rfl:=Zab h3
    exact af fol hE [.r [],.r [(5,yF)],.c true,.r []] [] 0 [] (aK c1 c1 c1 c2)
   ·obtain ⟨c3,c4,c5,h5⟩:=ck3 h4
    obtain rfl:=Zab h5
    exact af fol hE [.r [],.r [(5,yF)],.c false,.r []] [] 0 [] (aO c1 c1 c1 c2 (neI 64) c3 c4 (aJ (neI 64) c5 (neI 2)))
noncomputable def Zbn.B:Code:=Tryz.f65.body.getD .skip
noncomputable def Zbn.rs (r:Bool):List CV:=[oB r]
noncomputable def Zbn.p1 (N:Nat) (a_0_0 b_1_0:List Int) (c1_:Int→Option Bool):Int→Option Bool:=fun i_1=>
 if (decide (i_1≥0))=true then
  optE (Zcz N a_0_0 i_1) fun x2=>
  optE (Zcz N b_1_0 i_1) fun x3=>
  if (x2 != x3)=true then
   some (decide (x2<x3))
  else
  c1_ (w64 (i_1-1))
 else
 some false
noncomputable def Zbn (N:Nat) (a_0_0 b_1_0:List Int):Option Bool:=
 loopN (Zbn.p1 N a_0_0 b_1_0) N 255
noncomputable def Zbn.p1.S (i_1:Int) (a_0_0 b_1_0:List Int) (st:LL):S:=mkS 24 [(2,sA 2),(3,sA 3),(5,sI i_1)] [(2,.cells [L.arr .u64 4 a_0_0]),(3,.cells [L.arr .u64 4 b_1_0])] st
theorem Zbn.p1_ok {i_1 a_0_0 b_1_0 st r c1_ J1} (h:Zbn.p1 N a_0_0 b_1_0 c1_ i_1=some r) (hE:En Tryz.f65 g0 w0 (Zbn.rs r) st R) (hc1 : ∀i_1,c1_ i_1=some r→At g0 w0 (Zbn.p1.S i_1 a_0_0 b_1_0 st) J1):At g0 w0 (Zbn.p1.S i_1 a_0_0 b_1_0 st) (XK Tryz.prog R (.c (csub Zbn.B [1,0,1,0,0]) :: .h J1 :: [.b 0,.c (csub Zbn.B [1,1])])):=by
 unfold Zbn.p1 at h
 refine iteB h (fun c1 h1=>?_) (fun c1 h2=>?_)
 ·obtain ⟨x2,c2,h3⟩:=Zad h1
  obtain ⟨x3,c3,h4⟩:=Zad h3
  let o1:List PS:=[.r [],.c true,.d {ds:=[(2,q1 [oI x2]),(5,q1 [oI x3])],hv:=0,Hs:=[]}]
  have t1 {Q:Prop} (q:Q):=aK c1 (Zcz.snd c2) (Zcz.snd c3) q
  refine iteB h4 (fun c4 h5=>?_) (fun c4 h6=>?_)
  ·obtain rfl:=Zab h5
   exact afd fol hE (o1 ++ [.c true,.d {ds:=[(2,q1 [oI x2]),(5,q1 [oI x3])],hv:=0,Hs:=[]}]) [] 0 [] (t1 (aJ c4 (Zcz.snd c2) (Zcz.snd c3)))
  ·exact and_ fol (o1 ++ [.c false,.r []]) [2,3,5] [2,3] (t1 c4) (hc1 (w64 (i_1-1)) h6)
 ·obtain rfl:=Zab h2
  exact af fol hE [.r [],.c false,.r []] [] 0 [] c1
theorem Zbn.snd {a_0_0 b_1_0:List Int} {r:Bool} (h:Zbn N a_0_0 b_1_0=some r):SndQ Tryz.prog 65 [.agg [L.arr .u64 4 a_0_0],.agg [L.arr .u64 4 b_1_0]] (Zbn.rs r):=fun st=>
 sO Zbn.B Tryz.func65 fun g0 w0 R hE=>by
  unfold Zbn at h
  exact aq fol [.r [],.r []] [2,3,5] [2,3] trivial (At.loop N (At.loopN (fun y:Int=>Zbn.p1.S y a_0_0 b_1_0 st) (fun c J hc y h=>Zbn.p1_ok h hE (fun i_1=>hc i_1)) N 255 h))
noncomputable def Zcs.B:Code:=Tryz.f172.body.getD .skip
noncomputable def Zcs.rs (r:(List Int)×Bool):List CV:=[.agg [L.arr .u64 4 r.1],oB r.2]
noncomputable def Zcs (N:Nat) (bits_0 limit_1:Int):Option ((List Int)×Bool):=
 optE (ZaL N bits_0) fun (x1,x2,x3)=>
 optE (ZaL N limit_1) fun (x4,x5,x6)=>
 if x2=true then
  some (List.replicate 4 0,false)
 else
 if x3=true then
  some (List.replicate 4 0,false)
 else
 if x5=true then
  some (List.replicate 4 0,false)
 else
 if x6=true then
  some (List.replicate 4 0,false)
 else
 if (x1==(List.replicate 4 0))=true then
  some (List.replicate 4 0,false)
 else
 optE (Zbn N x4 x1) fun x7=>
 if x7=true then
  some (List.replicate 4 0,false)
 else
 some (x1,true)
theorem Zcs.snd {bits_0 limit_1:Int} {r:(List Int)×Bool} (h:Zcs N bits_0 limit_1=some r):SndQ Tryz.prog 172 [oI bits_0,oI limit_1] (Zcs.rs r):=fun st=>
 sO Zcs.B Tryz.func172 fun g0 w0 R hE=>by
  unfold Zcs at h
  obtain ⟨⟨x1,x2,x3⟩,c1,h1⟩:=Zad h
  obtain ⟨⟨x4,x5,x6⟩,c2,h2⟩:=Zad h1
  let o1:List PS:=[.r [],.r [(1,q1 [.agg [L.arr .u64 4 x1],oB x2,oB x3])],.r [(1,q1 [.agg [L.arr .u64 4 x4],oB x5,oB x6])]]
  have t1 {Q:Prop} (q:Q):=aJ (ZaL.snd c1) (ZaL.snd c2) q
  refine iteB h2 (fun c3 h3=>?_) (fun c3 h4=>?_)
  ·obtain rfl:=Zab h3
   exact af fol hE (o1 ++ [.r [(2,wF),(5,wF),(8,wF),(11,wF),(12,wF),(13,wF),(16,wF),(17,wF),(18,wF)],.c true,.r []]) [] 0 [] (t1 (aO c3 c3 eT eT eT eT eT (aO eT eT eT eT eT eT eT eT)))
  ·refine iteB h4 (fun c4 h5=>?_) (fun c4 h6=>?_)
   ·obtain rfl:=Zab h5
    exact af fol hE (o1 ++ [.r [(3,yF),(5,wF),(8,wF),(11,wF),(12,wF),(13,wF),(16,wF),(17,wF),(18,wF)],.c true,.r []]) [] 0 [] (t1 (aO c3 c3 c4 c4 eT eT eT (aO eT eT eT eT eT eT eT eT)))
   ·have t2 {Q:Prop} (q:Q):=t1 (aL c3 c3 c4 c4 q)
    refine iteB h6 (fun c5 h7=>?_) (fun c5 h8=>?_)
    ·obtain rfl:=Zab h7
     exact af fol hE (o1 ++ [.r [(3,yF),(6,yF),(8,wF),(11,wF),(12,wF),(13,wF),(16,wF),(17,wF),(18,wF)],.c true,.r []]) [] 0 [] (t2 (aO c5 c5 eT eT eT eT eT (aK eT eT eT eT)))
    ·refine iteB h8 (fun c6 h9=>?_) (fun c6 h10=>?_)
     ·obtain rfl:=Zab h9
      exact af fol hE (o1 ++ [.r [(3,yF),(6,yF),(9,yF),(11,wF),(12,wF),(13,wF),(16,wF),(17,wF),(18,wF)],.c true,.r []]) [] 0 [] (t2 (aO c5 c5 c6 c6 c6 c6 eT (aK eT eT eT eT)))
     ·have t3 {Q:Prop} (q:Q):=t2 (aN c5 c5 c6 c6 c6 c6 q)
      refine iteB h10 (fun c7 h11=>?_) (fun c7 h12=>?_)
      ·obtain rfl:=Zab h11
       exact af fol hE (o1 ++ [.r [(3,yF),(6,yF),(9,yF),(14,yF),(16,wF),(17,wF),(18,wF)],.c true,.r []]) [] 0 [] (t3 (aL c7 c7 c7 c7 eT))
      ·obtain ⟨x7,c8,h13⟩:=Zad h12
       let o2:List PS:=o1 ++ [.r [(3,yF),(6,yF),(9,yF),(14,yF),(18,q1 [oB x7]),(19,yF)]]
       refine iteB h13 (fun c9 h14=>?_) (fun c9 h15=>?_)
       ·obtain rfl:=Zab h14
        exact af fol hE (o2 ++ [.c true,.r []]) [] 0 [] (t3 (aM c7 c7 c7 (Zbn.snd c8) c7 c9))
       ·obtain rfl:=Zab h15
        exact af fol hE (o2 ++ [.c false,.r []]) [] 0 [] (t3 (aM c7 c7 c7 (Zbn.snd c8) c7 c9))
noncomputable def Zdi.B:Code:=Tryz.f142.body.getD .skip
noncomputable def Zdi.rs (r:Bool):List CV:=[oB r]
noncomputable def Zdi (N:Nat) (p_0:Zae):Option Bool:=
 optE (Zcs N p_0.Limit p_0.Limit) fun (x1,x2)=>
 if x2=true then
  if (decide (p_0.Interval≥2))=true then
   if (decide (p_0.Interval≤64))=true then
    if (decide (p_0.Spacing≥1))=true then
     if (decide (p_0.Spacing≤10000))=true then
      if (decide (p_0.Future≥0))=true then
       some (decide (p_0.Future<4294967296))
      else
      some false
     else
     some false
    else
    some false
   else
   some false
  else
  some false
 else
 some false
theorem Zdi.snd {p_0:Zae} {r:Bool} (h:Zdi N p_0=some r):SndQ Tryz.prog 142 [.agg p_0.ls] (Zdi.rs r):=fun st=>
 sO Zdi.B Tryz.func142 fun g0 w0 R hE=>by
  unfold Zdi at h
  obtain ⟨⟨x1,x2⟩,c1,h1⟩:=Zad h
  let o1:List PS:=[.r [],.r [(4,q1 [.agg [L.arr .u64 4 x1],oB x2])]]
  have t1 {Q:Prop} (q:Q):=aI (Zcs.snd c1) q
  refine iteB h1 (fun c2 h2=>?_) (fun c2 h3=>?_)
  ·have t2 {Q:Prop} (q:Q):=t1 (aL c2 c2 c2 c2 q)
   refine iteB h2 (fun c3 h4=>?_) (fun c3 h5=>?_)
   ·have t3 {Q:Prop} (q:Q):=t2 (aL c3 c3 c3 c3 q)
    refine iteB h4 (fun c4 h6=>?_) (fun c4 h7=>?_)
    ·have t4 {Q:Prop} (q:Q):=t3 (aL c4 c4 c4 c4 q)
     refine iteB h6 (fun c5 h8=>?_) (fun c5 h9=>?_)
     ·refine iteB h8 (fun c6 h10=>?_) (fun c6 h11=>?_)
      ·refine iteB h10 (fun c7 h12=>?_) (fun c7 h13=>?_)
       ·obtain rfl:=Zab h12
        exact af fol hE (o1 ++ [.r []]) [] 0 [] (t4 (aO c5 c5 c5 c5 c6 c6 c6 (aL c6 c7 c7 c7 c7)))
       ·obtain rfl:=Zab h13
        exact af fol hE (o1 ++ [.r [(27,wF),(28,wF),(29,wF),(30,yF)]]) [] 0 [] (t4 (aO c5 c5 c5 c5 c6 c6 c6 (aL c6 c7 c7 c7 c7)))
      ·obtain rfl:=Zab h11
       exact af fol hE (o1 ++ [.r [(22,wF),(23,wF),(24,wF),(25,yF),(27,wF),(28,wF),(29,wF),(30,yF)]]) [] 0 [] (t4 (aO c5 c5 c5 c5 c6 c6 c6 (aL c6 eF eF eF eF)))
     ·obtain rfl:=Zab h9
      exact af fol hE (o1 ++ [.r [(17,wF),(18,wF),(19,wF),(20,yF),(22,wF),(23,wF),(24,wF),(25,yF),(27,wF),(28,wF),(29,wF),(30,yF)]]) [] 0 [] (t4 (aO c5 c5 c5 c5 eF eF eF (aL eF eF eF eF eF)))
    ·obtain rfl:=Zab h7
     exact af fol hE (o1 ++ [.r [(12,wF),(13,wF),(14,wF),(15,yF),(17,wF),(18,wF),(19,wF),(20,yF),(22,wF),(23,wF),(24,wF),(25,yF),(27,wF),(28,wF),(29,wF),(30,yF)]]) [] 0 [] (t3 (aO c4 c4 c4 c4 eF eF eF (aO eF eF eF eF eF eF eF (aI eF eF))))
   ·obtain rfl:=Zab h5
    exact af fol hE (o1 ++ [.r [(7,wF),(8,wF),(9,wF),(10,yF),(12,wF),(13,wF),(14,wF),(15,yF),(17,wF),(18,wF),(19,wF),(20,yF),(22,wF),(23,wF),(24,wF),(25,yF),(27,wF),(28,wF),(29,wF),(30,yF)]]) [] 0 [] (t2 (aO c3 c3 c3 c3 eF eF eF (aO eF eF eF eF eF eF eF (aM eF eF eF eF eF eF))))
  ·obtain rfl:=Zab h3
   exact af fol hE (o1 ++ [.r [(2,wF),(3,wF),(4,wF),(5,yF),(7,wF),(8,wF),(9,wF),(10,yF),(12,wF),(13,wF),(14,wF),(15,yF),(17,wF),(18,wF),(19,wF),(20,yF),(22,wF),(23,wF),(24,wF),(25,yF),(27,wF),(28,wF),(29,wF),(30,yF)]]) [] 0 [] (t1 (aO c2 c2 c2 c2 eF eF eF (aO eF eF eF eF eF eF eF (aO eF eF eF eF eF eF eF (aJ eF eF eF)))))
noncomputable def ZcE.B:Code:=Tryz.f99.body.getD .skip
noncomputable def ZcE.rs (r:Bool):List CV:=[oB r]
noncomputable def ZcE (N:Nat) (h_0:Zai):Option Bool:=
 if (decide (h_0.Version≥(-2147483648)))=true then
  if (decide (h_0.Version≤2147483647))=true then
   if (decide (h_0.Time≥0))=true then
    if (decide (h_0.Time<4294967296))=true then
     if (decide (h_0.Bits≥0))=true then
      if (decide (h_0.Bits<4294967296))=true then
       if (decide (h_0.Nonce≥0))=true then
        some (decide (h_0.Nonce<4294967296))
       else
       some false
      else
      some false
     else
     some false
    else
    some false
   else
   some false
  else
  some false
 else
 some false
theorem ZcE.snd {h_0:Zai} {r:Bool} (h:ZcE N h_0=some r):SndQ Tryz.prog 99 [.agg h_0.ls] (ZcE.rs r):=fun st=>
 sO ZcE.B Tryz.func99 fun g0 w0 R hE=>by
  unfold ZcE at h
  let o1:List PS:=[.r [],.r []]
  refine iteB h (fun c1 h1=>?_) (fun c1 h2=>?_)
  ·have t1 {Q:Prop} (q:Q):=aL c1 c1 c1 c1 q
   refine iteB h1 (fun c2 h3=>?_) (fun c2 h4=>?_)
   ·have t2 {Q:Prop} (q:Q):=t1 (aL c2 c2 c2 c2 q)
    refine iteB h3 (fun c3 h5=>?_) (fun c3 h6=>?_)
    ·have t3 {Q:Prop} (q:Q):=t2 (aM c3 c3 c3 c3 c3 q)
     refine iteB h5 (fun c4 h7=>?_) (fun c4 h8=>?_)
     ·have t4 {Q:Prop} (q:Q):=t3 (aL c4 c4 c4 c4 q)
      refine iteB h7 (fun c5 h9=>?_) (fun c5 h10=>?_)
      ·refine iteB h9 (fun c6 h11=>?_) (fun c6 h12=>?_)
       ·refine iteB h11 (fun c7 h13=>?_) (fun c7 h14=>?_)
        ·obtain rfl:=Zab h13
         exact af fol hE (o1 ++ [.r []]) [] 0 [] (t4 (aO c5 c5 c5 c5 c5 c6 c6 (aN c6 c6 c7 c7 c7 c7 c7)))
        ·obtain rfl:=Zab h14
         exact af fol hE (o1 ++ [.r [(36,wF),(37,wF),(38,wF),(39,wF),(40,yF)]]) [] 0 [] (t4 (aO c5 c5 c5 c5 c5 c6 c6 (aN c6 c6 c7 c7 c7 c7 c7)))
       ·obtain rfl:=Zab h12
        exact af fol hE (o1 ++ [.r [(31,wF),(32,wF),(33,wF),(34,yF),(36,wF),(37,wF),(38,wF),(39,wF),(40,yF)]]) [] 0 [] (t4 (aO c5 c5 c5 c5 c5 c6 c6 (aN c6 c6 eF eF eF eF eF)))
      ·obtain rfl:=Zab h10
       exact af fol hE (o1 ++ [.r [(25,wF),(26,wF),(27,wF),(28,wF),(29,yF),(31,wF),(32,wF),(33,wF),(34,yF),(36,wF),(37,wF),(38,wF),(39,wF),(40,yF)]]) [] 0 [] (t4 (aO c5 c5 c5 c5 c5 eF eF (aN eF eF eF eF eF eF eF)))
     ·obtain rfl:=Zab h8
      exact af fol hE (o1 ++ [.r [(20,wF),(21,wF),(22,wF),(23,yF),(25,wF),(26,wF),(27,wF),(28,wF),(29,yF),(31,wF),(32,wF),(33,wF),(34,yF),(36,wF),(37,wF),(38,wF),(39,wF),(40,yF)]]) [] 0 [] (t3 (aO c4 c4 c4 c4 eF eF eF (aO eF eF eF eF eF eF eF (aK eF eF eF eF))))
    ·obtain rfl:=Zab h6
     exact af fol hE (o1 ++ [.r [(14,wF),(15,wF),(16,wF),(17,wF),(18,yF),(20,wF),(21,wF),(22,wF),(23,yF),(25,wF),(26,wF),(27,wF),(28,wF),(29,yF),(31,wF),(32,wF),(33,wF),(34,yF),(36,wF),(37,wF),(38,wF),(39,wF),(40,yF)]]) [] 0 [] (t2 (aO c3 c3 c3 c3 c3 eF eF (aO eF eF eF eF eF eF eF (aO eF eF eF eF eF eF eF (aI eF eF)))))
   ·obtain rfl:=Zab h4
    exact af fol hE (o1 ++ [.r [(9,wF),(10,wF),(11,wF),(12,yF),(14,wF),(15,wF),(16,wF),(17,wF),(18,yF),(20,wF),(21,wF),(22,wF),(23,yF),(25,wF),(26,wF),(27,wF),(28,wF),(29,yF),(31,wF),(32,wF),(33,wF),(34,yF),(36,wF),(37,wF),(38,wF),(39,wF),(40,yF)]]) [] 0 [] (t1 (aO c2 c2 c2 c2 eF eF eF (aO eF eF eF eF eF eF eF (aO eF eF eF eF eF eF eF (aM eF eF eF eF eF eF)))))
  ·obtain rfl:=Zab h2
   exact af fol hE (o1 ++ [.r [(4,wF),(5,wF),(6,wF),(7,yF),(9,wF),(10,wF),(11,wF),(12,yF),(14,wF),(15,wF),(16,wF),(17,wF),(18,yF),(20,wF),(21,wF),(22,wF),(23,yF),(25,wF),(26,wF),(27,wF),(28,wF),(29,yF),(31,wF),(32,wF),(33,wF),(34,yF),(36,wF),(37,wF),(38,wF),(39,wF),(40,yF)]]) [] 0 [] (aO c1 c1 c1 c1 eF eF eF (aO eF eF eF eF eF eF eF (aO eF eF eF eF eF eF eF (aO eF eF eF eF eF eF eF (aJ eF eF eF)))))
noncomputable def Zbi.B:Code:=Tryz.f83.body.getD .skip
noncomputable def Zbi.rs (r:Bool):List CV:=[oB r]
noncomputable def Zbi.p2 (N:Nat) (p_0:Zae) (c2_:(Int×Int)→Option Bool):(Int×Int)→Option Bool:=fun (last_6,v7)=>
 if (decide (v7<(len p_0.Checks)))=true then
  chk (0≤v7)<|
  getE (p_0.Checks[Int.toNat v7]?) ZdM fun x8=>
  if (decide (x8.Height≤last_6))=true then
   some false
  else
  c2_ (x8.Height,w64 (v7+1))
 else
 some true
noncomputable def Zbi.p1 (N:Nat) (p_0:Zae) (c1_:(Int×Int)→Option Bool):(Int×Int)→Option Bool:=fun (last_3,v4)=>
 if (decide (v4<(len p_0.Gates)))=true then
  chk (0≤v4)<|
  getE (p_0.Gates[Int.toNat v4]?) ZdU fun x5=>
  if (decide (x5.Height≤last_3))=true then
   some false
  else
  c1_ (x5.Height,w64 (v4+1))
 else
 loopN (Zbi.p2 N p_0) N (0,0)
noncomputable def Zbi (N:Nat) (p_0:Zae):Option Bool:=
 optE (Zdi N p_0) fun x1=>
 if (!x1)=true then
  some false
 else
 optE (ZcE N p_0.Genesis) fun x2=>
 if (!x2)=true then
  some false
 else
 loopN (Zbi.p1 N p_0) N ((-1),0)
noncomputable def Zbi.p2.S (last_6:Int) (p_0:Zae) (v7:Int) (st:LL):S:=mkS 45 [(3,sI last_6),(32,sV 33 p_0.Checks),(33,sI (len p_0.Checks)),(34,sI v7)] [] st
noncomputable def Zbi.p1.S (last_3:Int) (p_0:Zae) (v4:Int) (st:LL):S:=mkS 45 [(1,sA 1),(3,sI last_3),(18,sV 2 p_0.Gates),(19,sI (len p_0.Gates)),(20,sI v4)] [(1,.cells p_0.ls)] st
theorem Zbi.p2_ok {last_6 p_0 v7 st r c2_ J2} (h:Zbi.p2 N p_0 c2_ (last_6,v7)=some r) (hE:En Tryz.f83 g0 w0 (Zbi.rs r) st R) (hc2 : ∀last_6 v7,c2_ (last_6,v7)=some r→At g0 w0 (Zbi.p2.S last_6 p_0 v7 st) J2):At g0 w0 (Zbi.p2.S last_6 p_0 v7 st) (XK Tryz.prog R (.c (csub Zbi.B [1,1,1,1,1,0,1,0,0]) :: .h J2 :: [.b 2,.c (csub Zbi.B [1,1,1,1,1,1])])):=by
 unfold Zbi.p2 at h
 refine iteB h (fun c9 h1=>?_) (fun c9 h2=>?_)
 ·obtain ⟨c10,h3⟩:=ZaI h1
  obtain ⟨x8,c11,h4⟩:=ZdR h3
  let o1:List PS:=[.r [],.c true,.r [(1,{oe:=x8.ls})],.r []]
  refine iteB h4 (fun c12 h5=>?_) (fun c12 h6=>?_)
  ·obtain rfl:=Zab h5
   exact af fol hE (o1 ++ [.c true,.r []]) [] 0 [] (aL c9 c10 (oD c9) c11 c12)
  ·exact an fol (o1 ++ [.c false,.r [],.r []]) [3,32,33,34] [] (aL c9 c10 (oD c9) c11 c12) (hc2 x8.Height (w64 (v7+1)) h6)
 ·obtain rfl:=Zab h2
  exact af fol hE [.r [],.c false,.r []] [] 0 [] c9
theorem Zbi.p1_ok {last_3 p_0 v4 st r c1_ J1} (h:Zbi.p1 N p_0 c1_ (last_3,v4)=some r) (hE:En Tryz.f83 g0 w0 (Zbi.rs r) st R) (hc1 : ∀last_3 v4,c1_ (last_3,v4)=some r→At g0 w0 (Zbi.p1.S last_3 p_0 v4 st) J1):At g0 w0 (Zbi.p1.S last_3 p_0 v4 st) (XK Tryz.prog R (.c (csub Zbi.B [1,1,1,0,1,0,0]) :: .h J1 :: [.b 0,.c (csub Zbi.B [1,1,1,1])])):=by
 unfold Zbi.p1 at h
 refine iteB h (fun c5 h7=>?_) (fun c5 h8=>?_)
 ·obtain ⟨c6,h9⟩:=ZaI h7
  obtain ⟨x5,c7,h10⟩:=ZdX h9
  let o2:List PS:=[.r [],.c true,.r [(1,{oe:=x5.ls})],.r []]
  refine iteB h10 (fun c8 h11=>?_) (fun c8 h12=>?_)
  ·obtain rfl:=Zab h11
   exact af fol hE (o2 ++ [.c true,.r []]) [] 0 [] (aL c5 c6 (oD c5) c7 c8)
  ·exact an fol (o2 ++ [.c false,.r [],.r []]) [1,3,18,19,20] [1] (aL c5 c6 (oD c5) c7 c8) (hc1 x5.Height (w64 (v4+1)) h12)
 ·exact aq fol [.r [],.c false,.r [],.r []] [3,32,33,34] [] c5 (At.loop N (At.loopN (fun y:Int×Int=>Zbi.p2.S y.1 p_0 y.2 st) (fun c J hc y h=>Zbi.p2_ok (last_6:=y.1) (v7:=y.2) h hE (fun last_6 v7=>hc (last_6,v7))) N (0,0) h8))
theorem Zbi.snd {p_0:Zae} {r:Bool} (h:Zbi N p_0=some r):SndQ Tryz.prog 83 [.agg p_0.ls] (Zbi.rs r):=fun st=>
 sO Zbi.B Tryz.func83 fun g0 w0 R hE=>by
  unfold Zbi at h
  obtain ⟨x1,c1,h13⟩:=Zad h
  have t1 {Q:Prop} (q:Q):=aI (Zdi.snd c1) q
  refine iteB h13 (fun c2 h14=>?_) (fun c2 h15=>?_)
  ·obtain rfl:=Zab h14
   exact af fol hE [.r [],.r [(1,q1 [oB x1]),(4,wF),(5,wF),(6,wF),(7,wF)],.c true,.r []] [] 0 [] (t1 (aM (not_false (Zby c2)) (not_false (Zby c2)) (not_false (Zby c2)) (not_false (Zby c2)) (not_false (Zby c2)) eT))
  ·obtain ⟨x2,c3,h16⟩:=Zad h15
   let o3:List PS:=[.r [],.r [(1,q1 [oB x1]),(6,q1 [oB x2]),(8,yF)]]
   have t2 {Q:Prop} (q:Q):=t1 (aN (not_true (Zbz c2)) (not_true (Zbz c2)) (not_true (Zbz c2)) (ZcE.snd c3) (not_true (Zbz c2)) (not_true (Zbz c2)) q)
   refine iteB h16 (fun c4 h17=>?_) (fun c4 h18=>?_)
   ·obtain rfl:=Zab h17
    exact af fol hE (o3 ++ [.c true,.r []]) [] 0 [] (t2 c4)
   ·exact aq fol (o3 ++ [.c false,.r [],.r []]) [1,3,18,19,20] [1] (t2 c4) (At.loop N (At.loopN (fun y:Int×Int=>Zbi.p1.S y.1 p_0 y.2 st) (fun c J hc y h=>Zbi.p1_ok (last_3:=y.1) (v4:=y.2) h hE (fun last_3 v4=>hc (last_3,v4))) N ((-1),0) h18))
noncomputable def ZbV.B:Code:=Tryz.f16.body.getD .skip
noncomputable def ZbV.rs (r:Bool):List CV:=[oB r]
noncomputable def ZbV.p1 (N:Nat) (list_1:LL) (p_0:Zae) (c1_:Int→Option Bool):Int→Option Bool:=fun v1=>
 if (decide (v1<(len list_1)))=true then
  chk (0≤v1)<|
  getE (list_1[Int.toNat v1]?) ZcY fun x2=>
  if (decide (x2.Now<0))=true then
   some true
  else
  c1_ (w64 (v1+1))
 else
 if (decide ((len p_0.Gates)>20))=true then
  some true
 else
 if (decide ((len p_0.Checks)>20))=true then
  some true
 else
 if (decide ((len list_1)>40))=true then
  some true
 else
 optE (Zbi N p_0) fun x3=>
 some (!x3)
noncomputable def ZbV (N:Nat) (p_0:Zae) (list_1:LL):Option Bool:=
 loopN (ZbV.p1 N list_1 p_0) N 0
noncomputable def ZbV.p1.S (list_1:LL) (v1:Int) (p_0:Zae) (st:LL):S:=mkS 37 [(1,sV 69 list_1),(2,sA 2),(7,sV 69 list_1),(8,sI (len list_1)),(9,sI v1)] [(2,.cells p_0.ls)] st
theorem ZbV.p1_ok {list_1 v1 p_0 st r c1_ J1} (h:ZbV.p1 N list_1 p_0 c1_ v1=some r) (hE:En Tryz.f16 g0 w0 (ZbV.rs r) st R) (hc1 : ∀v1,c1_ v1=some r→At g0 w0 (ZbV.p1.S list_1 v1 p_0 st) J1):At g0 w0 (ZbV.p1.S list_1 v1 p_0 st) (XK Tryz.prog R (.c (csub ZbV.B [1,0,1,0,0]) :: .h J1 :: [.b 0,.c (csub ZbV.B [1,1])])):=by
 unfold ZbV.p1 at h
 refine iteB h (fun c1 h1=>?_) (fun c1 h2=>?_)
 ·obtain ⟨c2,h3⟩:=ZaI h1
  obtain ⟨x2,c3,h4⟩:=Zei h3
  let o1:List PS:=[.r [],.c true,.r [(1,{oe:=x2.ls})],.r []]
  refine iteB h4 (fun c4 h5=>?_) (fun c4 h6=>?_)
  ·obtain rfl:=Zab h5
   exact af fol hE (o1 ++ [.c true,.r []]) [] 0 [] (aL c1 c2 (oD c1) c3 c4)
  ·exact an fol (o1 ++ [.c false,.r []]) [1,2,7,8,9] [2] (aL c1 c2 (oD c1) c3 c4) (hc1 (w64 (v1+1)) h6)
 ·let o2:List PS:=[.r [],.c false]
  refine iteB h2 (fun c5 h7=>?_) (fun c5 h8=>?_)
  ·obtain rfl:=Zab h7
   exact af fol hE (o2 ++ [.r [(5,wF),(6,wF),(7,wF),(8,wF),(11,wF),(12,wF),(13,wF),(16,wF),(17,wF),(18,wF)]]) [] 0 [] (aO c1 c5 c5 c5 c5 c5 eT (aN eT eT eT eT eT eT eT))
  ·have t1 {Q:Prop} (q:Q):=aN c1 c5 c5 c5 c5 c5 q
   refine iteB h8 (fun c6 h9=>?_) (fun c6 h10=>?_)
   ·obtain rfl:=Zab h9
    exact af fol hE (o2 ++ [.r [(9,yF),(11,wF),(12,wF),(13,wF),(16,wF),(17,wF),(18,wF)]]) [] 0 [] (t1 (aO c6 c6 c6 c6 eT eT eT eT))
   ·refine iteB h10 (fun c7 h11=>?_) (fun c7 h12=>?_)
    ·obtain rfl:=Zab h11
     exact af fol hE (o2 ++ [.r [(9,yF),(14,yF),(16,wF),(17,wF),(18,wF)]]) [] 0 [] (t1 (aO c6 c6 c6 c6 c7 c7 c7 c7))
    ·obtain ⟨x3,c8,h13⟩:=Zad h12
     obtain rfl:=Zab h13
     exact af fol hE (o2 ++ [.r [(9,yF),(14,yF),(17,q1 [oB x3]),(19,yF)]]) [] 0 [] (t1 (aO c6 c6 c6 c6 c7 c7 (Zbi.snd c8) (aI c7 c7)))
theorem ZbV.snd {p_0:Zae} {list_1:LL} {r:Bool} (h:ZbV N p_0 list_1=some r):SndQ Tryz.prog 16 [.agg p_0.ls,.one (L.sl 69 list_1)] (ZbV.rs r):=fun st=>
 sO ZbV.B Tryz.func16 fun g0 w0 R hE=>by
  unfold ZbV at h
  exact aq fol [.r [],.r []] [1,2,7,8,9] [2] trivial (At.loop N (At.loopN (fun y:Int=>ZbV.p1.S list_1 y p_0 st) (fun c J hc y h=>ZbV.p1_ok h hE (fun v1=>hc v1)) N 0 h))
noncomputable def ZcV.B:Code:=Tryz.f176.body.getD .skip
noncomputable def ZcV.rs (r:(List Int)):List CV:=[.agg [L.arr .u64 4 r]]
noncomputable def ZcV (N:Nat) (n_0:Int):Option (List Int):=
 some [n_0,0,0,0]
theorem ZcV.snd {n_0:Int} {r:(List Int)} (h:ZcV N n_0=some r):SndQ Tryz.prog 176 [.one (L.int .u64 n_0)] (ZcV.rs r):=fun st=>
 sO ZcV.B Tryz.func176 fun g0 w0 R hE=>by
  unfold ZcV at h
  obtain rfl:=Zab h
  exact af fol hE [.r [],.r [(1,{m:=3})]] [] 0 [] trivial
noncomputable def Zbf.B:Code:=Tryz.f177.body.getD .skip
noncomputable def Zbf.rs (r:(List Int)):List CV:=[.agg [L.arr .u64 4 r]]
noncomputable def Zbf.p2 (N:Nat) (c1_:(Int×(List Int))→Option (List Int)) (n_1 v1:Int) (a_0_0 out_4:List Int):Option (List Int):=
 c1_ (w64 (v1+1),out_4)
noncomputable def Zbf.p1 (N:Nat) (n_1:Int) (a_0_0:List Int) (c1_:(Int×(List Int))→Option (List Int)):(Int×(List Int))→Option (List Int):=fun (v1,out_3)=>
 if (decide (v1<(w64 (4-(w64 (Int.tdiv (if (0:Int)>n_1 then 0 else n_1) 64))))))=true then
  chk (0≤(w64 (v1+(w64 (Int.tdiv (if (0:Int)>n_1 then 0 else n_1) 64)))))<|
  chk ((w64 (v1+(w64 (Int.tdiv (if (0:Int)>n_1 then 0 else n_1) 64))))<4)<|
  chk (0≤(Int.tmod (if (0:Int)>n_1 then 0 else n_1) 64))<|
  chk (0≤v1)<|
  chk (v1<4)<|
  if (decide ((w64 ((w64 (v1+(w64 (Int.tdiv (if (0:Int)>n_1 then 0 else n_1) 64))))+1))<4))=true then
   chk (0≤(w64 ((w64 (v1+(w64 (Int.tdiv (if (0:Int)>n_1 then 0 else n_1) 64))))+1)))<|
   chk (0≤(w64 (64-(Int.tmod (if (0:Int)>n_1 then 0 else n_1) 64))))<|
   Zbf.p2 N c1_ n_1 v1 a_0_0 (List.set (List.set out_3 (Int.toNat v1) (shrOf .u64 (List.getD a_0_0 (Int.toNat (w64 (v1+(w64 (Int.tdiv (if (0:Int)>n_1 then 0 else n_1) 64))))) 0) (Int.tmod (if (0:Int)>n_1 then 0 else n_1) 64))) (Int.toNat v1) (bitsOf .or .u64 (List.getD (List.set out_3 (Int.toNat v1) (shrOf .u64 (List.getD a_0_0 (Int.toNat (w64 (v1+(w64 (Int.tdiv (if (0:Int)>n_1 then 0 else n_1) 64))))) 0) (Int.tmod (if (0:Int)>n_1 then 0 else n_1) 64))) (Int.toNat v1) 0) (shlOf .u64 (List.getD a_0_0 (Int.toNat (w64 ((w64 (v1+(w64 (Int.tdiv (if (0:Int)>n_1 then 0 else n_1) 64))))+1))) 0) (w64 (64-(Int.tmod (if (0:Int)>n_1 then 0 else n_1) 64))))))
  else
  Zbf.p2 N c1_ n_1 v1 a_0_0 (List.set out_3 (Int.toNat v1) (shrOf .u64 (List.getD a_0_0 (Int.toNat (w64 (v1+(w64 (Int.tdiv (if (0:Int)>n_1 then 0 else n_1) 64))))) 0) (Int.tmod (if (0:Int)>n_1 then 0 else n_1) 64)))
 else
 some out_3
noncomputable def Zbf (N:Nat) (a_0_0:List Int) (n_1:Int):Option (List Int):=
 if (decide (n_1≥256))=true then
  some (List.replicate 4 0)
 else
 loopN (Zbf.p1 N n_1 a_0_0) N (0,List.replicate 4 0)
noncomputable def Zbf.p2.S (n_1 v1:Int) (a_0_0 out_4:List Int) (st:LL):S:=mkS 53 [(2,sA 2),(4,sA 4),(5,sA 5),(6,sI (w64 (Int.tdiv (if (0:Int)>n_1 then 0 else n_1) 64))),(7,sI (Int.tmod (if (0:Int)>n_1 then 0 else n_1) 64)),(19,sI (w64 (4-(w64 (Int.tdiv (if (0:Int)>n_1 then 0 else n_1) 64))))),(20,sI v1)] [(2,.cells [L.arr .u64 4 a_0_0]),(4,.cells [L.arr .u64 4 (List.replicate 4 0)]),(5,.cells [L.arr .u64 4 out_4])] st
noncomputable def Zbf.p1.S (n_1 v1:Int) (a_0_0 out_3:List Int) (st:LL):S:=mkS 53 [(2,sA 2),(4,sA 4),(5,sA 5),(6,sI (w64 (Int.tdiv (if (0:Int)>n_1 then 0 else n_1) 64))),(7,sI (Int.tmod (if (0:Int)>n_1 then 0 else n_1) 64)),(19,sI (w64 (4-(w64 (Int.tdiv (if (0:Int)>n_1 then 0 else n_1) 64))))),(20,sI v1)] [(2,.cells [L.arr .u64 4 a_0_0]),(4,.cells [L.arr .u64 4 (List.replicate 4 0)]),(5,.cells [L.arr .u64 4 out_3])] st
theorem Zbf.p2_ok {n_1 v1 a_0_0 out_4 st r c1_ J1} (h:Zbf.p2 N c1_ n_1 v1 a_0_0 out_4=some r) (hE:En Tryz.f177 g0 w0 (Zbf.rs r) st R) (hc1 : ∀v1 out_3,c1_ (v1,out_3)=some r→At g0 w0 (Zbf.p1.S n_1 v1 a_0_0 out_3 st) J1):At g0 w0 (Zbf.p2.S n_1 v1 a_0_0 out_4 st) (XK Tryz.prog R [.c (csub Zbf.B [1,1,1,1,0,1,0,0,1,1,1]),.h J1,.b 0,.c (csub Zbf.B [1,1,1,1,1])]):=by
 unfold Zbf.p2 at h
 exact an fol [.r []] [2,4,5,6,7,19,20] [2,4,5] trivial (hc1 (w64 (v1+1)) out_4 h)
theorem Zbf.p1_ok {n_1 v1 a_0_0 out_3 st r c1_ J1} (h:Zbf.p1 N n_1 a_0_0 c1_ (v1,out_3)=some r) (hE:En Tryz.f177 g0 w0 (Zbf.rs r) st R) (hc1 : ∀v1 out_3,c1_ (v1,out_3)=some r→At g0 w0 (Zbf.p1.S n_1 v1 a_0_0 out_3 st) J1):At g0 w0 (Zbf.p1.S n_1 v1 a_0_0 out_3 st) (XK Tryz.prog R (.c (csub Zbf.B [1,1,1,1,0,1,0,0]) :: .h J1 :: [.b 0,.c (csub Zbf.B [1,1,1,1,1])])):=by
 unfold Zbf.p1 at h
 refine iteB h (fun c11 h1=>?_) (fun c11 h2=>?_)
 ·obtain ⟨c12,c13,c14,c15,c16,h3⟩:=ck5 h1
  let o1:List PS:=[.r [],.c true,.r [],.r [],.r []]
  refine iteB h3 (fun c17 h4=>?_) (fun c17 h5=>?_)
  ·obtain ⟨c18,c19,h6⟩:=ck2 h4
   exact aqd fol (o1 ++ [.c true,.d {ds:=[],hv:=16384,Hs:=[16384]},.s 4]) [2,4,5,6,7,19,20] [2,4,5] (aO c11 c12 c13 c14 c15 c16 c17 (aN c15 c16 c18 (oD c17) c19 c15 c16)) (Zbf.p2_ok h6 hE hc1)
  ·exact aq fol (o1 ++ [.c false,.s 4]) [2,4,5,6,7,19,20] [2,4,5] (aN c11 c12 c13 c14 c15 c16 c17) (Zbf.p2_ok h5 hE hc1)
 ·obtain rfl:=Zab h2
  exact af fol hE [.r [],.c false,.r []] [] 0 [] c11
theorem Zbf.snd {a_0_0:List Int} {n_1:Int} {r:(List Int)} (h:Zbf N a_0_0 n_1=some r):SndQ Tryz.prog 177 [.agg [L.arr .u64 4 a_0_0],oI n_1] (Zbf.rs r):=fun st=>
 sO Zbf.B Tryz.func177 fun g0 w0 R hE=>by
  unfold Zbf at h
  refine iteB h (fun c1 h7=>?_) (fun c1 h8=>?_)
  ·obtain rfl:=Zab h7
   exact af fol hE [.r [],.r [],.c true,.r []] [] 0 [] c1
  ·exact aq fol [.r [],.r [],.c false,.r [],.r [],.r []] [2,4,5,6,7,19,20] [2,4,5] (aJ c1 (neI 64) (neI 64)) (At.loop N (At.loopN (fun y:Int×(List Int)=>Zbf.p1.S n_1 y.1 a_0_0 y.2 st) (fun c J hc y h=>Zbf.p1_ok (v1:=y.1) (out_3:=y.2) h hE (fun v1 out_3=>hc (v1,out_3))) N (0,List.replicate 4 0) h8))
noncomputable def ZbF.B:Code:=Tryz.f178.body.getD .skip
noncomputable def ZbF.rs (r:(List Int)):List CV:=[.agg [L.arr .u64 4 r]]
noncomputable def ZbF.p2 (N:Nat) (c1_:(Int×(List Int))→Option (List Int)) (n_1 i_1:Int) (a_0_0 out_4:List Int):Option (List Int):=
 c1_ (w64 (i_1+1),out_4)
noncomputable def ZbF.p1 (N:Nat) (n_1:Int) (a_0_0:List Int) (c1_:(Int×(List Int))→Option (List Int)):(Int×(List Int))→Option (List Int):=fun (i_1,out_3)=>
 if (decide (i_1<4))=true then
  chk (0≤(w64 (i_1-(w64 (Int.tdiv (if (0:Int)>n_1 then 0 else n_1) 64)))))<|
  chk ((w64 (i_1-(w64 (Int.tdiv (if (0:Int)>n_1 then 0 else n_1) 64))))<4)<|
  chk (0≤(Int.tmod (if (0:Int)>n_1 then 0 else n_1) 64))<|
  chk (0≤i_1)<|
  if (decide (i_1>(w64 (Int.tdiv (if (0:Int)>n_1 then 0 else n_1) 64))))=true then
   chk (0≤(w64 ((w64 (i_1-(w64 (Int.tdiv (if (0:Int)>n_1 then 0 else n_1) 64))))-1)))<|
   chk ((w64 ((w64 (i_1-(w64 (Int.tdiv (if (0:Int)>n_1 then 0 else n_1) 64))))-1))<4)<|
   chk (0≤(w64 (64-(Int.tmod (if (0:Int)>n_1 then 0 else n_1) 64))))<|
   ZbF.p2 N c1_ n_1 i_1 a_0_0 (List.set (List.set out_3 (Int.toNat i_1) (shlOf .u64 (List.getD a_0_0 (Int.toNat (w64 (i_1-(w64 (Int.tdiv (if (0:Int)>n_1 then 0 else n_1) 64))))) 0) (Int.tmod (if (0:Int)>n_1 then 0 else n_1) 64))) (Int.toNat i_1) (bitsOf .or .u64 (List.getD (List.set out_3 (Int.toNat i_1) (shlOf .u64 (List.getD a_0_0 (Int.toNat (w64 (i_1-(w64 (Int.tdiv (if (0:Int)>n_1 then 0 else n_1) 64))))) 0) (Int.tmod (if (0:Int)>n_1 then 0 else n_1) 64))) (Int.toNat i_1) 0) (shrOf .u64 (List.getD a_0_0 (Int.toNat (w64 ((w64 (i_1-(w64 (Int.tdiv (if (0:Int)>n_1 then 0 else n_1) 64))))-1))) 0) (w64 (64-(Int.tmod (if (0:Int)>n_1 then 0 else n_1) 64))))))
  else
  ZbF.p2 N c1_ n_1 i_1 a_0_0 (List.set out_3 (Int.toNat i_1) (shlOf .u64 (List.getD a_0_0 (Int.toNat (w64 (i_1-(w64 (Int.tdiv (if (0:Int)>n_1 then 0 else n_1) 64))))) 0) (Int.tmod (if (0:Int)>n_1 then 0 else n_1) 64)))
 else
 some out_3
noncomputable def ZbF (N:Nat) (a_0_0:List Int) (n_1:Int):Option (List Int):=
 if (decide (n_1≥256))=true then
  some (List.replicate 4 0)
 else
 loopN (ZbF.p1 N n_1 a_0_0) N (w64 (Int.tdiv (if (0:Int)>n_1 then 0 else n_1) 64),List.replicate 4 0)
noncomputable def ZbF.p2.S (n_1 i_1:Int) (a_0_0 out_4:List Int) (st:LL):S:=mkS 50 [(2,sA 2),(4,sA 4),(5,sA 5),(6,sI (w64 (Int.tdiv (if (0:Int)>n_1 then 0 else n_1) 64))),(7,sI (Int.tmod (if (0:Int)>n_1 then 0 else n_1) 64)),(8,sI i_1)] [(2,.cells [L.arr .u64 4 a_0_0]),(4,.cells [L.arr .u64 4 (List.replicate 4 0)]),(5,.cells [L.arr .u64 4 out_4])] st
noncomputable def ZbF.p1.S (n_1 i_1:Int) (a_0_0 out_3:List Int) (st:LL):S:=mkS 50 [(2,sA 2),(4,sA 4),(5,sA 5),(6,sI (w64 (Int.tdiv (if (0:Int)>n_1 then 0 else n_1) 64))),(7,sI (Int.tmod (if (0:Int)>n_1 then 0 else n_1) 64)),(8,sI i_1)] [(2,.cells [L.arr .u64 4 a_0_0]),(4,.cells [L.arr .u64 4 (List.replicate 4 0)]),(5,.cells [L.arr .u64 4 out_3])] st
theorem ZbF.p2_ok {n_1 i_1 a_0_0 out_4 st r c1_ J1} (h:ZbF.p2 N c1_ n_1 i_1 a_0_0 out_4=some r) (hE:En Tryz.f178 g0 w0 (ZbF.rs r) st R) (hc1 : ∀i_1 out_3,c1_ (i_1,out_3)=some r→At g0 w0 (ZbF.p1.S n_1 i_1 a_0_0 out_3 st) J1):At g0 w0 (ZbF.p2.S n_1 i_1 a_0_0 out_4 st) (XK Tryz.prog R [.c (csub ZbF.B [1,1,1,1,0,1,0,0,1,1]),.h J1,.b 0,.c (csub ZbF.B [1,1,1,1,1])]):=by
 unfold ZbF.p2 at h
 exact an fol [.r []] [2,4,5,6,7,8] [2,4,5] trivial (hc1 (w64 (i_1+1)) out_4 h)
theorem ZbF.p1_ok {n_1 i_1 a_0_0 out_3 st r c1_ J1} (h:ZbF.p1 N n_1 a_0_0 c1_ (i_1,out_3)=some r) (hE:En Tryz.f178 g0 w0 (ZbF.rs r) st R) (hc1 : ∀i_1 out_3,c1_ (i_1,out_3)=some r→At g0 w0 (ZbF.p1.S n_1 i_1 a_0_0 out_3 st) J1):At g0 w0 (ZbF.p1.S n_1 i_1 a_0_0 out_3 st) (XK Tryz.prog R (.c (csub ZbF.B [1,1,1,1,0,1,0,0]) :: .h J1 :: [.b 0,.c (csub ZbF.B [1,1,1,1,1])])):=by
 unfold ZbF.p1 at h
 refine iteB h (fun c11 h1=>?_) (fun c11 h2=>?_)
 ·obtain ⟨c12,c13,c14,c15,h3⟩:=ck4 h1
  refine iteB h3 (fun c16 h4=>?_) (fun c16 h5=>?_)
  ·obtain ⟨c17,c18,c19,h6⟩:=ck3 h4
   exact aqd fol [.r [],.c true,.r [],.r [],.c true,.d {ds:=[],hv:=16384,Hs:=[16384]},.s 4] [2,4,5,6,7,8] [2,4,5] (aO c11 c12 c13 c14 c15 (oD c11) c16 (aN c15 (oD c11) c17 c18 c19 c15 (oD c11))) (ZbF.p2_ok h6 hE hc1)
  ·exact aq fol [.r [],.c true,.r [],.r [],.c false,.s 4] [2,4,5,6,7,8] [2,4,5] (aN c11 c12 c13 c14 c15 (oD c11) c16) (ZbF.p2_ok h5 hE hc1)
 ·obtain rfl:=Zab h2
  exact af fol hE [.r [],.c false,.r []] [] 0 [] c11
theorem ZbF.snd {a_0_0:List Int} {n_1:Int} {r:(List Int)} (h:ZbF N a_0_0 n_1=some r):SndQ Tryz.prog 178 [.agg [L.arr .u64 4 a_0_0],oI n_1] (ZbF.rs r):=fun st=>
 sO ZbF.B Tryz.func178 fun g0 w0 R hE=>by
  unfold ZbF at h
  refine iteB h (fun c1 h7=>?_) (fun c1 h8=>?_)
  ·obtain rfl:=Zab h7
   exact af fol hE [.r [],.r [],.c true,.r []] [] 0 [] c1
  ·exact aq fol [.r [],.r [],.c false,.r [],.r [],.r []] [2,4,5,6,7,8] [2,4,5] (aJ c1 (neI 64) (neI 64)) (At.loop N (At.loopN (fun y:Int×(List Int)=>ZbF.p1.S n_1 y.1 a_0_0 y.2 st) (fun c J hc y h=>ZbF.p1_ok (i_1:=y.1) (out_3:=y.2) h hE (fun i_1 out_3=>hc (i_1,out_3))) N (w64 (Int.tdiv (if (0:Int)>n_1 then 0 else n_1) 64),List.replicate 4 0) h8))
noncomputable def ZaJ.B:Code:=Tryz.f116.body.getD .skip
noncomputable def ZaJ.rs (r:(List Int)×Bool×Bool):List CV:=[.agg [L.arr .u64 4 r.1],oB r.2.1,oB r.2.2]
noncomputable def ZaJ.p2 (N:Nat) (bits_0:Int) (below_6:Bool) (n_5:List Int):Option ((List Int)×Bool×Bool):=
 if ((bitsOf .and .i64 bits_0 8388607) != 0)=true then
  if (decide ((shrOf .i64 bits_0 24)>34))=true then
   some (n_5,below_6,true)
  else
  if (decide ((bitsOf .and .i64 bits_0 8388607)>255))=true then
   if (decide ((shrOf .i64 bits_0 24)>33))=true then
    some (n_5,below_6,true)
   else
   if (decide ((bitsOf .and .i64 bits_0 8388607)>65535))=true then
    some (n_5,below_6,decide ((shrOf .i64 bits_0 24)>32))
   else
   some (n_5,below_6,false)
  else
  if (decide ((bitsOf .and .i64 bits_0 8388607)>65535))=true then
   some (n_5,below_6,decide ((shrOf .i64 bits_0 24)>32))
  else
  some (n_5,below_6,false)
 else
 some (n_5,below_6,false)
noncomputable def ZaJ.p1 (N:Nat) (bits_0:Int) (n_5:List Int):Option ((List Int)×Bool×Bool):=
 if ((bitsOf .and .i64 bits_0 8388607) != 0)=true then
  ZaJ.p2 N bits_0 ((bitsOf .and .i64 bits_0 8388608) != 0) n_5
 else
 ZaJ.p2 N bits_0 false n_5
noncomputable def ZaJ (N:Nat) (bits_0:Int):Option ((List Int)×Bool×Bool):=
 optE (ZcU N bits_0) fun x1=>
 if (!x1)=true then
  some (List.replicate 4 0,false,false)
 else
 optE (ZcV N (v64 (bitsOf .and .i64 bits_0 8388607))) fun x2=>
 if (decide ((shrOf .i64 bits_0 24)≤3))=true then
  optE (Zbf N x2 (w64 (8*(w64 (3-(shrOf .i64 bits_0 24)))))) fun x3=>
  ZaJ.p1 N bits_0 x3
 else
 optE (ZbF N x2 (w64 (8*(w64 ((shrOf .i64 bits_0 24)-3))))) fun x4=>
 ZaJ.p1 N bits_0 x4
noncomputable def ZaJ.p2.S (bits_0:Int) (below_6:Bool) (n_5:List Int) (st:LL):S:=mkS 65 [(2,sA 2),(5,sI (shrOf .i64 bits_0 24)),(6,sI (bitsOf .and .i64 bits_0 8388607)),(7,sA 7),(8,.one (.l (L.bool below_6)))] [(2,.cells [L.arr .u64 4 (List.replicate 4 0)]),(7,.cells [L.arr .u64 4 n_5])] st
noncomputable def ZaJ.p1.S (bits_0:Int) (n_5:List Int) (st:LL):S:=mkS 65 [(0,sI bits_0),(2,sA 2),(5,sI (shrOf .i64 bits_0 24)),(6,sI (bitsOf .and .i64 bits_0 8388607)),(7,sA 7)] [(2,.cells [L.arr .u64 4 (List.replicate 4 0)]),(7,.cells [L.arr .u64 4 n_5])] st
theorem ZaJ.p2_ok {bits_0 below_6 n_5 st r} (h:ZaJ.p2 N bits_0 below_6 n_5=some r) (hE:En Tryz.f116 g0 w0 (ZaJ.rs r) st R):At g0 w0 (ZaJ.p2.S bits_0 below_6 n_5 st) (XK Tryz.prog R [.c (csub ZaJ.B [1,1,1,1,1,1])]):=by
 unfold ZaJ.p2 at h
 refine iteB h (fun c8 h1=>?_) (fun c8 h2=>?_)
 ·have t1 {Q:Prop} (q:Q):=aK c8 c8 c8 q
  refine iteB h1 (fun c9 h3=>?_) (fun c9 h4=>?_)
  ·obtain rfl:=Zab h3
   exact af fol hE [.r [(6,wF),(7,wF),(8,wF),(11,wF),(14,wF),(15,wF),(16,wF),(19,wF)],.r []] [] 0 [] (t1 (aO c9 c9 c9 c9 c8 c9 c8 (aN eT eT eT eT c8 eT c8)))
  ·have t2 {Q:Prop} (q:Q):=t1 (aK c9 c9 c9 q)
   refine iteB h4 (fun c10 h5=>?_) (fun c10 h6=>?_)
   ·have t3 {Q:Prop} (q:Q):=t2 (aO c10 c10 c9 c10 c8 c9 c8 q)
    refine iteB h5 (fun c11 h7=>?_) (fun c11 h8=>?_)
    ·obtain rfl:=Zab h7
     exact af fol hE [.r [(12,yF),(14,wF),(15,wF),(16,wF),(19,wF)],.r []] [] 0 [] (t3 (aN c11 c11 c11 c11 c8 c11 c8))
    ·refine iteB h8 (fun c12 h9=>?_) (fun c12 h10=>?_)
     ·obtain rfl:=Zab h9
      exact af fol hE [.r [(12,yF),(20,yF)],.r []] [] 0 [] (t3 (aO c11 c11 c11 c12 c12 c11 c12 (aJ c8 c11 c8)))
     ·obtain rfl:=Zab h10
      exact af fol hE [.r [(12,yF),(17,wF),(18,wF),(19,yF),(20,yF)],.r []] [] 0 [] (t3 (aO c11 c11 c11 c12 c12 c11 c12 (aJ c8 c11 c8)))
   ·have t4 {Q:Prop} (q:Q):=t2 (aO c10 c10 c9 c10 c8 c9 c8 (aK eF eF eF q))
    refine iteB h6 (fun c13 h11=>?_) (fun c13 h12=>?_)
    ·obtain rfl:=Zab h11
     exact af fol hE [.r [(9,wF),(10,wF),(11,yF),(12,yF),(20,yF)],.r []] [] 0 [] (t4 (aN c13 c13 eF c13 c8 eF c8))
    ·obtain rfl:=Zab h12
     exact af fol hE [.r [(9,wF),(10,wF),(11,yF),(12,yF),(17,wF),(18,wF),(19,yF),(20,yF)],.r []] [] 0 [] (t4 (aN c13 c13 eF c13 c8 eF c8))
 ·obtain rfl:=Zab h2
  exact af fol hE [.r [(3,wF),(4,wF),(5,wF),(12,wF),(13,wF),(20,wF),(21,yF)],.r []] [] 0 [] (aN c8 c8 c8 c8 c8 c8 c8)
theorem ZaJ.p1_ok {bits_0 n_5 st r} (h:ZaJ.p1 N bits_0 n_5=some r) (hE:En Tryz.f116 g0 w0 (ZaJ.rs r) st R):At g0 w0 (ZaJ.p1.S bits_0 n_5 st) (XK Tryz.prog R [.c (csub ZaJ.B [1,1,1,1,1])]):=by
 unfold ZaJ.p1 at h
 refine iteB h (fun c7 h13=>?_) (fun c7 h14=>?_)
 ·exact aq fol [.r [],.s 1] [2,5,6,7,8] [2,7] (aK c7 c7 c7 c7) (ZaJ.p2_ok h13 hE)
 ·exact aq fol [.r [(3,wF),(4,wF),(5,wF),(6,yF)],.s 1] [2,5,6,7,8] [2,7] (aK c7 c7 c7 c7) (ZaJ.p2_ok h14 hE)
theorem ZaJ.snd {bits_0:Int} {r:(List Int)×Bool×Bool} (h:ZaJ N bits_0=some r):SndQ Tryz.prog 116 [oI bits_0] (ZaJ.rs r):=fun st=>
 sO ZaJ.B Tryz.func116 fun g0 w0 R hE=>by
  unfold ZaJ at h
  obtain ⟨x1,c1,h15⟩:=Zad h
  let o1:List PS:=[.r [],.r [(1,q1 [oB x1])]]
  have t5 {Q:Prop} (q:Q):=aI (ZcU.snd c1) q
  refine iteB h15 (fun c2 h16=>?_) (fun c2 h17=>?_)
  ·obtain rfl:=Zab h16
   exact af fol hE (o1 ++ [.c true,.r []]) [] 0 [] (t5 c2)
  ·obtain ⟨x2,c3,h18⟩:=Zad h17
   let o2:List PS:=o1 ++ [.c false,.r [],.r [(2,q1 [.agg [L.arr .u64 4 x2]])],.r []]
   refine iteB h18 (fun c4 h19=>?_) (fun c4 h20=>?_)
   ·obtain ⟨x3,c5,h21⟩:=Zad h19
    exact aq fol (o2 ++ [.c true,.r [(4,q1 [.agg [L.arr .u64 4 x3]])],.s 1]) [0,2,5,6,7] [2,7] (t5 (aL c2 (leI 0 24) (ZcV.snd c3) c4 (Zbf.snd c5))) (ZaJ.p1_ok h21 hE)
   ·obtain ⟨x4,c6,h22⟩:=Zad h20
    exact aq fol (o2 ++ [.c false,.r [(4,q1 [.agg [L.arr .u64 4 x4]])],.s 1]) [0,2,5,6,7] [2,7] (t5 (aL c2 (leI 0 24) (ZcV.snd c3) c4 (ZbF.snd c6))) (ZaJ.p1_ok h22 hE)
noncomputable def ZcF.B:Code:=Tryz.f117.body.getD .skip
noncomputable def ZcF.rs (r:Bool):List CV:=[oB r]
noncomputable def ZcF (N:Nat) (a_0_0:List Int):Option Bool:=
 some (a_0_0==(List.replicate 4 0))
theorem ZcF.snd {a_0_0:List Int} {r:Bool} (h:ZcF N a_0_0=some r):SndQ Tryz.prog 117 [.agg [L.arr .u64 4 a_0_0]] (ZcF.rs r):=fun st=>
 sO ZcF.B Tryz.func117 fun g0 w0 R hE=>by
  unfold ZcF at h
  obtain rfl:=Zab h
  exact af fol hE [.r [],.r []] [] 0 [] trivial
noncomputable def Zbp.B:Code:=Tryz.f95.body.getD .skip
noncomputable def Zbp.rs (r:Int):List CV:=[oI r]
noncomputable def Zbp.p1 (N:Nat) (a_0_0 b_1_0:List Int) (c1_:Int→Option Int):Int→Option Int:=fun i_1=>
 if (decide (i_1≥0))=true then
  chk (0≤i_1)<|
  chk (i_1<4)<|
  if (decide ((List.getD a_0_0 (Int.toNat i_1) 0)<(List.getD b_1_0 (Int.toNat i_1) 0)))=true then
   some (-1)
  else
  if (decide ((List.getD a_0_0 (Int.toNat i_1) 0)>(List.getD b_1_0 (Int.toNat i_1) 0)))=true then
   some 1
  else
  c1_ (w64 (i_1-1))
 else
 some 0
noncomputable def Zbp (N:Nat) (a_0_0 b_1_0:List Int):Option Int:=
 loopN (Zbp.p1 N a_0_0 b_1_0) N 3
noncomputable def Zbp.p1.S (i_1:Int) (a_0_0 b_1_0:List Int) (st:LL):S:=mkS 26 [(2,sA 2),(3,sA 3),(5,sI i_1)] [(2,.cells [L.arr .u64 4 a_0_0]),(3,.cells [L.arr .u64 4 b_1_0])] st
theorem Zbp.p1_ok {i_1 a_0_0 b_1_0 st r c1_ J1} (h:Zbp.p1 N a_0_0 b_1_0 c1_ i_1=some r) (hE:En Tryz.f95 g0 w0 (Zbp.rs r) st R) (hc1 : ∀i_1,c1_ i_1=some r→At g0 w0 (Zbp.p1.S i_1 a_0_0 b_1_0 st) J1):At g0 w0 (Zbp.p1.S i_1 a_0_0 b_1_0 st) (XK Tryz.prog R (.c (csub Zbp.B [1,0,1,0,0]) :: .h J1 :: [.b 0,.c (csub Zbp.B [1,1])])):=by
 unfold Zbp.p1 at h
 refine iteB h (fun c1 h1=>?_) (fun c1 h2=>?_)
 ·obtain ⟨c2,c3,h3⟩:=ck2 h1
  let o1:List PS:=[.r [],.c true,.d {ds:=[],hv:=0,Hs:=[]}]
  refine iteB h3 (fun c4 h4=>?_) (fun c4 h5=>?_)
  ·obtain rfl:=Zab h4
   exact afd fol hE (o1 ++ [.c true,.r []]) [] 0 [] (aM c1 c2 c3 c2 c3 c4)
  ·let o2:List PS:=o1 ++ [.c false,.d {ds:=[],hv:=0,Hs:=[]}]
   refine iteB h5 (fun c5 h6=>?_) (fun c5 h7=>?_)
   ·obtain rfl:=Zab h6
    exact afd fol hE (o2 ++ [.c true,.r []]) [] 0 [] (aO c1 c2 c3 c2 c3 c4 c2 (aK c3 c2 c3 c5))
   ·exact and_ fol (o2 ++ [.c false,.r []]) [2,3,5] [2,3] (aO c1 c2 c3 c2 c3 c4 c2 (aK c3 c2 c3 c5)) (hc1 (w64 (i_1-1)) h7)
 ·obtain rfl:=Zab h2
  exact af fol hE [.r [],.c false,.r []] [] 0 [] c1
theorem Zbp.snd {a_0_0 b_1_0:List Int} {r:Int} (h:Zbp N a_0_0 b_1_0=some r):SndQ Tryz.prog 95 [.agg [L.arr .u64 4 a_0_0],.agg [L.arr .u64 4 b_1_0]] (Zbp.rs r):=fun st=>
 sO Zbp.B Tryz.func95 fun g0 w0 R hE=>by
  unfold Zbp at h
  exact aq fol [.r [],.r []] [2,3,5] [2,3] trivial (At.loop N (At.loopN (fun y:Int=>Zbp.p1.S y a_0_0 b_1_0 st) (fun c J hc y h=>Zbp.p1_ok h hE (fun i_1=>hc i_1)) N 3 h))
noncomputable def ZcO.B:Code:=Tryz.f202.body.getD .skip
noncomputable def ZcO.rs (r:Bool):List CV:=[oB r]
noncomputable def ZcO (N:Nat) (a_0_0 b_1_0:List Int):Option Bool:=
 optE (Zbp N a_0_0 b_1_0) fun x1=>
 some (decide (x1<0))
theorem ZcO.snd {a_0_0 b_1_0:List Int} {r:Bool} (h:ZcO N a_0_0 b_1_0=some r):SndQ Tryz.prog 202 [.agg [L.arr .u64 4 a_0_0],.agg [L.arr .u64 4 b_1_0]] (ZcO.rs r):=fun st=>
 sO ZcO.B Tryz.func202 fun g0 w0 R hE=>by
  unfold ZcO at h
  obtain ⟨x1,c1,h1⟩:=Zad h
  obtain rfl:=Zab h1
  exact af fol hE [.r [],.r [(2,q1 [oI x1])]] [] 0 [] (Zbp.snd c1)
noncomputable def Zcn.B:Code:=Tryz.f185.body.getD .skip
noncomputable def Zcn.rs (r:(List Int)×Bool):List CV:=[.agg [L.arr .u64 4 r.1],oB r.2]
noncomputable def Zcn (N:Nat) (bits_0 limit_1:Int):Option ((List Int)×Bool):=
 optE (ZaJ N bits_0) fun (x1,x2,x3)=>
 optE (ZaJ N limit_1) fun (x4,x5,x6)=>
 if x2=true then
  some (List.replicate 4 0,false)
 else
 if x3=true then
  some (List.replicate 4 0,false)
 else
 if x5=true then
  some (List.replicate 4 0,false)
 else
 if x6=true then
  some (List.replicate 4 0,false)
 else
 optE (ZcF N x1) fun x7=>
 if x7=true then
  some (List.replicate 4 0,false)
 else
 optE (ZcO N x4 x1) fun x8=>
 if x8=true then
  some (List.replicate 4 0,false)
 else
 some (x1,true)
theorem Zcn.snd {bits_0 limit_1:Int} {r:(List Int)×Bool} (h:Zcn N bits_0 limit_1=some r):SndQ Tryz.prog 185 [oI bits_0,oI limit_1] (Zcn.rs r):=fun st=>
 sO Zcn.B Tryz.func185 fun g0 w0 R hE=>by
  unfold Zcn at h
  obtain ⟨⟨x1,x2,x3⟩,c1,h1⟩:=Zad h
  obtain ⟨⟨x4,x5,x6⟩,c2,h2⟩:=Zad h1
  let o1:List PS:=[.r [],.r [(1,q1 [.agg [L.arr .u64 4 x1],oB x2,oB x3])],.r [(1,q1 [.agg [L.arr .u64 4 x4],oB x5,oB x6])]]
  have t1 {Q:Prop} (q:Q):=aJ (ZaJ.snd c1) (ZaJ.snd c2) q
  refine iteB h2 (fun c3 h3=>?_) (fun c3 h4=>?_)
  ·obtain rfl:=Zab h3
   exact af fol hE (o1 ++ [.r [(2,wF),(5,wF),(8,wF),(11,wF),(12,wF),(15,wF),(16,wF),(17,wF)],.c true,.r []]) [] 0 [] (t1 (aO c3 c3 eT eT eT eT eT (aN eT eT eT eT eT eT eT)))
  ·refine iteB h4 (fun c4 h5=>?_) (fun c4 h6=>?_)
   ·obtain rfl:=Zab h5
    exact af fol hE (o1 ++ [.r [(3,yF),(5,wF),(8,wF),(11,wF),(12,wF),(15,wF),(16,wF),(17,wF)],.c true,.r []]) [] 0 [] (t1 (aO c3 c3 c4 c4 eT eT eT (aN eT eT eT eT eT eT eT)))
   ·have t2 {Q:Prop} (q:Q):=t1 (aL c3 c3 c4 c4 q)
    refine iteB h6 (fun c5 h7=>?_) (fun c5 h8=>?_)
    ·obtain rfl:=Zab h7
     exact af fol hE (o1 ++ [.r [(3,yF),(6,yF),(8,wF),(11,wF),(12,wF),(15,wF),(16,wF),(17,wF)],.c true,.r []]) [] 0 [] (t2 (aO c5 c5 eT eT eT eT eT (aJ eT eT eT)))
    ·refine iteB h8 (fun c6 h9=>?_) (fun c6 h10=>?_)
     ·obtain rfl:=Zab h9
      exact af fol hE (o1 ++ [.r [(3,yF),(6,yF),(9,yF),(11,wF),(12,wF),(15,wF),(16,wF),(17,wF)],.c true,.r []]) [] 0 [] (t2 (aO c5 c5 c6 c6 c6 eT eT (aJ eT eT eT)))
     ·obtain ⟨x7,c7,h11⟩:=Zad h10
      have t3 {Q:Prop} (q:Q):=t2 (aN c5 c5 c6 c6 (ZcF.snd c7) c6 q)
      refine iteB h11 (fun c8 h12=>?_) (fun c8 h13=>?_)
      ·obtain rfl:=Zab h12
       exact af fol hE (o1 ++ [.r [(3,yF),(6,yF),(9,yF),(12,q1 [oB x7]),(13,yF),(15,wF),(16,wF),(17,wF)],.c true,.r []]) [] 0 [] (t3 (aL c8 c8 c8 c8 eT))
      ·obtain ⟨x8,c9,h14⟩:=Zad h13
       let o2:List PS:=o1 ++ [.r [(3,yF),(6,yF),(9,yF),(12,q1 [oB x7]),(13,yF),(17,q1 [oB x8]),(18,yF)]]
       refine iteB h14 (fun c10 h15=>?_) (fun c10 h16=>?_)
       ·obtain rfl:=Zab h15
        exact af fol hE (o2 ++ [.c true,.r []]) [] 0 [] (t3 (aM c8 c8 c8 (ZcO.snd c9) c8 c10))
       ·obtain rfl:=Zab h16
        exact af fol hE (o2 ++ [.c false,.r []]) [] 0 [] (t3 (aM c8 c8 c8 (ZcO.snd c9) c8 c10))
noncomputable def ZdO.B:Code:=Tryz.f145.body.getD .skip
noncomputable def ZdO.rs (r:Bool):List CV:=[oB r]
noncomputable def ZdO (N:Nat) (p_0:Zae):Option Bool:=
 optE (Zcn N p_0.Limit p_0.Limit) fun (x1,x2)=>
 if x2=true then
  if (decide (p_0.Interval≥2))=true then
   if (decide (p_0.Interval≤64))=true then
    if (decide (p_0.Spacing≥1))=true then
     if (decide (p_0.Spacing≤10000))=true then
      if (decide (p_0.Future≥0))=true then
       some (decide (p_0.Future<4294967296))
      else
      some false
     else
     some false
    else
    some false
   else
   some false
  else
  some false
 else
 some false
theorem ZdO.snd {p_0:Zae} {r:Bool} (h:ZdO N p_0=some r):SndQ Tryz.prog 145 [.agg p_0.ls] (ZdO.rs r):=fun st=>
 sO ZdO.B Tryz.func145 fun g0 w0 R hE=>by
  unfold ZdO at h
  obtain ⟨⟨x1,x2⟩,c1,h1⟩:=Zad h
  let o1:List PS:=[.r [],.r [(4,q1 [.agg [L.arr .u64 4 x1],oB x2])]]
  have t1 {Q:Prop} (q:Q):=aI (Zcn.snd c1) q
  refine iteB h1 (fun c2 h2=>?_) (fun c2 h3=>?_)
  ·have t2 {Q:Prop} (q:Q):=t1 (aL c2 c2 c2 c2 q)
   refine iteB h2 (fun c3 h4=>?_) (fun c3 h5=>?_)
   ·have t3 {Q:Prop} (q:Q):=t2 (aL c3 c3 c3 c3 q)
    refine iteB h4 (fun c4 h6=>?_) (fun c4 h7=>?_)
    ·have t4 {Q:Prop} (q:Q):=t3 (aL c4 c4 c4 c4 q)
     refine iteB h6 (fun c5 h8=>?_) (fun c5 h9=>?_)
     ·refine iteB h8 (fun c6 h10=>?_) (fun c6 h11=>?_)
      ·refine iteB h10 (fun c7 h12=>?_) (fun c7 h13=>?_)
       ·obtain rfl:=Zab h12
        exact af fol hE (o1 ++ [.r []]) [] 0 [] (t4 (aO c5 c5 c5 c5 c6 c6 c6 (aL c6 c7 c7 c7 c7)))
       ·obtain rfl:=Zab h13
        exact af fol hE (o1 ++ [.r [(27,wF),(28,wF),(29,wF),(30,yF)]]) [] 0 [] (t4 (aO c5 c5 c5 c5 c6 c6 c6 (aL c6 c7 c7 c7 c7)))
      ·obtain rfl:=Zab h11
       exact af fol hE (o1 ++ [.r [(22,wF),(23,wF),(24,wF),(25,yF),(27,wF),(28,wF),(29,wF),(30,yF)]]) [] 0 [] (t4 (aO c5 c5 c5 c5 c6 c6 c6 (aL c6 eF eF eF eF)))
     ·obtain rfl:=Zab h9
      exact af fol hE (o1 ++ [.r [(17,wF),(18,wF),(19,wF),(20,yF),(22,wF),(23,wF),(24,wF),(25,yF),(27,wF),(28,wF),(29,wF),(30,yF)]]) [] 0 [] (t4 (aO c5 c5 c5 c5 eF eF eF (aL eF eF eF eF eF)))
    ·obtain rfl:=Zab h7
     exact af fol hE (o1 ++ [.r [(12,wF),(13,wF),(14,wF),(15,yF),(17,wF),(18,wF),(19,wF),(20,yF),(22,wF),(23,wF),(24,wF),(25,yF),(27,wF),(28,wF),(29,wF),(30,yF)]]) [] 0 [] (t3 (aO c4 c4 c4 c4 eF eF eF (aO eF eF eF eF eF eF eF (aI eF eF))))
   ·obtain rfl:=Zab h5
    exact af fol hE (o1 ++ [.r [(7,wF),(8,wF),(9,wF),(10,yF),(12,wF),(13,wF),(14,wF),(15,yF),(17,wF),(18,wF),(19,wF),(20,yF),(22,wF),(23,wF),(24,wF),(25,yF),(27,wF),(28,wF),(29,wF),(30,yF)]]) [] 0 [] (t2 (aO c3 c3 c3 c3 eF eF eF (aO eF eF eF eF eF eF eF (aM eF eF eF eF eF eF))))
  ·obtain rfl:=Zab h3
   exact af fol hE (o1 ++ [.r [(2,wF),(3,wF),(4,wF),(5,yF),(7,wF),(8,wF),(9,wF),(10,yF),(12,wF),(13,wF),(14,wF),(15,yF),(17,wF),(18,wF),(19,wF),(20,yF),(22,wF),(23,wF),(24,wF),(25,yF),(27,wF),(28,wF),(29,wF),(30,yF)]]) [] 0 [] (t1 (aO c2 c2 c2 c2 eF eF eF (aO eF eF eF eF eF eF eF (aO eF eF eF eF eF eF eF (aJ eF eF eF)))))
noncomputable def ZbI.B:Code:=Tryz.f87.body.getD .skip
noncomputable def ZbI.rs (r:Bool):List CV:=[oB r]
noncomputable def ZbI.p2 (N:Nat) (p_0:Zae) (c2_:Int→Option Bool):Int→Option Bool:=fun v6=>
 if (decide (v6<(len p_0.Checks)))=true then
  chk (0≤v6)<|
  getE (p_0.Checks[Int.toNat v6]?) ZdM fun x7=>
  if (decide (x7.Height<1))=true then
   some false
  else
  if (decide (v6>0))=true then
   chk (0≤(w64 (v6-1)))<|
   chk ((w64 (v6-1))<(len p_0.Checks))<|
   getE (p_0.Checks[Int.toNat (w64 (v6-1))]?) ZdM fun x8=>
   if (decide (x7.Height≤x8.Height))=true then
    some false
   else
   c2_ (w64 (v6+1))
  else
  c2_ (w64 (v6+1))
 else
 some true
noncomputable def ZbI.p1 (N:Nat) (p_0:Zae) (c1_:Int→Option Bool):Int→Option Bool:=fun v3=>
 if (decide (v3<(len p_0.Gates)))=true then
  chk (0≤v3)<|
  getE (p_0.Gates[Int.toNat v3]?) ZdU fun x4=>
  if (decide (x4.Height<0))=true then
   some false
  else
  if (decide (v3>0))=true then
   chk (0≤(w64 (v3-1)))<|
   chk ((w64 (v3-1))<(len p_0.Gates))<|
   getE (p_0.Gates[Int.toNat (w64 (v3-1))]?) ZdU fun x5=>
   if (decide (x4.Height≤x5.Height))=true then
    some false
   else
   c1_ (w64 (v3+1))
  else
  c1_ (w64 (v3+1))
 else
 loopN (ZbI.p2 N p_0) N 0
noncomputable def ZbI (N:Nat) (p_0:Zae):Option Bool:=
 optE (ZdO N p_0) fun x1=>
 if (!x1)=true then
  some false
 else
 optE (Zcr N p_0.Genesis) fun x2=>
 if (!x2)=true then
  some false
 else
 loopN (ZbI.p1 N p_0) N 0
noncomputable def ZbI.p2.S (p_0:Zae) (v6:Int) (st:LL):S:=mkS 72 [(1,sA 1),(45,sV 33 p_0.Checks),(46,sI (len p_0.Checks)),(47,sI v6)] [(1,.cells p_0.ls)] st
noncomputable def ZbI.p1.S (p_0:Zae) (v3:Int) (st:LL):S:=mkS 72 [(1,sA 1),(17,sV 2 p_0.Gates),(18,sI (len p_0.Gates)),(19,sI v3)] [(1,.cells p_0.ls)] st
theorem ZbI.p2_ok {p_0 v6 st r c2_ J2} (h:ZbI.p2 N p_0 c2_ v6=some r) (hE:En Tryz.f87 g0 w0 (ZbI.rs r) st R) (hc2 : ∀v6,c2_ v6=some r→At g0 w0 (ZbI.p2.S p_0 v6 st) J2):At g0 w0 (ZbI.p2.S p_0 v6 st) (XK Tryz.prog R (.c (csub ZbI.B [1,1,1,0,1,0,0]) :: .h J2 :: [.b 2,.c (csub ZbI.B [1,1,1,1])])):=by
 unfold ZbI.p2 at h
 refine iteB h (fun c14 h1=>?_) (fun c14 h2=>?_)
 ·obtain ⟨c15,h3⟩:=ZaI h1
  obtain ⟨x7,c16,h4⟩:=ZdR h3
  let o1:List PS:=[.r [],.c true,.r [(2,{oe:=x7.ls})]]
  have t1 {Q:Prop} (q:Q):=aL c14 c15 (oD c14) c16 q
  refine iteB h4 (fun c17 h5=>?_) (fun c17 h6=>?_)
  ·obtain rfl:=Zab h5
   exact afd fol hE (o1 ++ [.d {ds:=[(4,wF),(5,wF),(6,wF),(17,wF)],hv:=0,Hs:=[]},.c true,.r []]) [] 0 [] (t1 (aM c17 c17 c17 c17 c17 eT))
  ·refine iteB h6 (fun c18 h7=>?_) (fun c18 h8=>?_)
   ·obtain ⟨c19,c20,h9⟩:=ck2 h7
    obtain ⟨x8,c21,h10⟩:=ZdR h9
    let o2:List PS:=o1 ++ [.d {ds:=[(15,{oe:=x8.ls}),(18,yF)],hv:=0,Hs:=[]}]
    have t2 {Q:Prop} (q:Q):=t1 (aO c17 c17 c17 c18 c18 c18 c18 (aO c18 c18 c18 c19 c20 c18 c18 (aM c21 c18 c17 c18 c17 q)))
    refine iteB h10 (fun c22 h11=>?_) (fun c22 h12=>?_)
    ·obtain rfl:=Zab h11
     exact afd fol hE (o2 ++ [.c true,.r []]) [] 0 [] (t2 c22)
    ·exact and_ fol (o2 ++ [.c false,.r []]) [1,45,46,47] [1] (t2 c22) (hc2 (w64 (v6+1)) h12)
   ·exact and_ fol (o1 ++ [.d {ds:=[(7,wF),(8,wF),(9,wF),(10,wF),(11,wF),(12,wF),(13,wF),(14,wF),(15,wF),(16,wF),(17,yF),(18,yF)],hv:=0,Hs:=[]},.c false,.r []]) [1,45,46,47] [1] (t1 (aO c17 c17 c17 c18 c18 c18 c18 (aO c18 c18 c18 c18 c18 c18 c17 (aJ c18 c17 eF)))) (hc2 (w64 (v6+1)) h8)
 ·obtain rfl:=Zab h2
  exact af fol hE [.r [],.c false,.r []] [] 0 [] c14
theorem ZbI.p1_ok {p_0 v3 st r c1_ J1} (h:ZbI.p1 N p_0 c1_ v3=some r) (hE:En Tryz.f87 g0 w0 (ZbI.rs r) st R) (hc1 : ∀v3,c1_ v3=some r→At g0 w0 (ZbI.p1.S p_0 v3 st) J1):At g0 w0 (ZbI.p1.S p_0 v3 st) (XK Tryz.prog R (.c (csub ZbI.B [1,1,0,1,0,0]) :: .h J1 :: [.b 0,.c (csub ZbI.B [1,1,1])])):=by
 unfold ZbI.p1 at h
 refine iteB h (fun c5 h13=>?_) (fun c5 h14=>?_)
 ·obtain ⟨c6,h15⟩:=ZaI h13
  obtain ⟨x4,c7,h16⟩:=ZdX h15
  let o3:List PS:=[.r [],.c true,.r [(2,{oe:=x4.ls})]]
  have t3 {Q:Prop} (q:Q):=aL c5 c6 (oD c5) c7 q
  refine iteB h16 (fun c8 h17=>?_) (fun c8 h18=>?_)
  ·obtain rfl:=Zab h17
   exact afd fol hE (o3 ++ [.d {ds:=[(4,wF),(5,wF),(6,wF),(17,wF)],hv:=0,Hs:=[]},.c true,.r []]) [] 0 [] (t3 (aM c8 c8 c8 c8 c8 eT))
  ·refine iteB h18 (fun c9 h19=>?_) (fun c9 h20=>?_)
   ·obtain ⟨c10,c11,h21⟩:=ck2 h19
    obtain ⟨x5,c12,h22⟩:=ZdX h21
    let o4:List PS:=o3 ++ [.d {ds:=[(15,{oe:=x5.ls}),(18,yF)],hv:=0,Hs:=[]}]
    have t4 {Q:Prop} (q:Q):=t3 (aO c8 c8 c8 c9 c9 c9 c9 (aO c9 c9 c9 c10 c11 c9 c9 (aM c12 c9 c8 c9 c8 q)))
    refine iteB h22 (fun c13 h23=>?_) (fun c13 h24=>?_)
    ·obtain rfl:=Zab h23
     exact afd fol hE (o4 ++ [.c true,.r []]) [] 0 [] (t4 c13)
    ·exact and_ fol (o4 ++ [.c false,.r []]) [1,17,18,19] [1] (t4 c13) (hc1 (w64 (v3+1)) h24)
   ·exact and_ fol (o3 ++ [.d {ds:=[(7,wF),(8,wF),(9,wF),(10,wF),(11,wF),(12,wF),(13,wF),(14,wF),(15,wF),(16,wF),(17,yF),(18,yF)],hv:=0,Hs:=[]},.c false,.r []]) [1,17,18,19] [1] (t3 (aO c8 c8 c8 c9 c9 c9 c9 (aO c9 c9 c9 c9 c9 c9 c8 (aJ c9 c8 eF)))) (hc1 (w64 (v3+1)) h20)
 ·exact aq fol [.r [],.c false,.r []] [1,45,46,47] [1] c5 (At.loop N (At.loopN (fun y:Int=>ZbI.p2.S p_0 y st) (fun c J hc y h=>ZbI.p2_ok h hE (fun v6=>hc v6)) N 0 h14))
theorem ZbI.snd {p_0:Zae} {r:Bool} (h:ZbI N p_0=some r):SndQ Tryz.prog 87 [.agg p_0.ls] (ZbI.rs r):=fun st=>
 sO ZbI.B Tryz.func87 fun g0 w0 R hE=>by
  unfold ZbI at h
  obtain ⟨x1,c1,h25⟩:=Zad h
  have t5 {Q:Prop} (q:Q):=aI (ZdO.snd c1) q
  refine iteB h25 (fun c2 h26=>?_) (fun c2 h27=>?_)
  ·obtain rfl:=Zab h26
   exact af fol hE [.r [],.r [(1,q1 [oB x1]),(4,wF),(5,wF),(6,wF),(7,wF)],.c true,.r []] [] 0 [] (t5 (aM (not_false (Zby c2)) (not_false (Zby c2)) (not_false (Zby c2)) (not_false (Zby c2)) (not_false (Zby c2)) eT))
  ·obtain ⟨x2,c3,h28⟩:=Zad h27
   let o5:List PS:=[.r [],.r [(1,q1 [oB x1]),(6,q1 [oB x2]),(8,yF)]]
   have t6 {Q:Prop} (q:Q):=t5 (aN (not_true (Zbz c2)) (not_true (Zbz c2)) (not_true (Zbz c2)) (Zcr.snd c3) (not_true (Zbz c2)) (not_true (Zbz c2)) q)
   refine iteB h28 (fun c4 h29=>?_) (fun c4 h30=>?_)
   ·obtain rfl:=Zab h29
    exact af fol hE (o5 ++ [.c true,.r []]) [] 0 [] (t6 c4)
   ·exact aq fol (o5 ++ [.c false,.r []]) [1,17,18,19] [1] (t6 c4) (At.loop N (At.loopN (fun y:Int=>ZbI.p1.S p_0 y st) (fun c J hc y h=>ZbI.p1_ok h hE (fun v3=>hc v3)) N 0 h30))
noncomputable def ZbQ.B:Code:=Tryz.f174.body.getD .skip
noncomputable def ZbQ.rs (r:(List Int)×Bool):List CV:=[.agg [L.arr .u64 4 r.1],oB r.2]
noncomputable def ZbQ.p1 (N:Nat) (b_1_0:List Int) (c1_:(Int×Int×(List Int))→Option ((List Int)×Bool)):(Int×Int×(List Int))→Option ((List Int)×Bool):=fun (c_1,v2,a_5)=>
 if (decide (v2<4))=true then
  chk (0≤v2)<|
  optE (ZdA N (List.getD a_5 (Int.toNat v2) 0) (List.getD b_1_0 (Int.toNat v2) 0) c_1) fun (x6,x7)=>
  c1_ (x7,w64 (v2+1),List.set a_5 (Int.toNat v2) x6)
 else
 some (a_5,c_1 != 0)
noncomputable def ZbQ (N:Nat) (a_0_0 b_1_0:List Int):Option ((List Int)×Bool):=
 loopN (ZbQ.p1 N b_1_0) N (0,0,a_0_0)
noncomputable def ZbQ.p1.S (c_1 v2:Int) (a_5 b_1_0:List Int) (st:LL):S:=mkS 28 [(2,sA 2),(3,sA 3),(4,sA 4),(6,.one (.l (L.int .u64 c_1))),(8,sI v2)] [(2,.cells [L.arr .u64 4 a_5]),(3,.cells [L.arr .u64 4 b_1_0]),(4,.cells [L.arr .u64 4 (List.replicate 4 0)])] st
theorem ZbQ.p1_ok {c_1 v2 a_5 b_1_0 st r c1_ J1} (h:ZbQ.p1 N b_1_0 c1_ (c_1,v2,a_5)=some r) (hE:En Tryz.f174 g0 w0 (ZbQ.rs r) st R) (hc1 : ∀c_1 v2 a_5,c1_ (c_1,v2,a_5)=some r→At g0 w0 (ZbQ.p1.S c_1 v2 a_5 b_1_0 st) J1):At g0 w0 (ZbQ.p1.S c_1 v2 a_5 b_1_0 st) (XK Tryz.prog R (.c (csub ZbQ.B [1,1,0,1,0,0]) :: .h J1 :: [.b 0,.c (csub ZbQ.B [1,1,1])])):=by
 unfold ZbQ.p1 at h
 refine iteB h (fun c4 h1=>?_) (fun c4 h2=>?_)
 ·obtain ⟨c5,h3⟩:=ZaI h1
  obtain ⟨⟨x6,x7⟩,c6,h4⟩:=Zad h3
  exact and_ fol [.r [],.c true,.r [],.d {ds:=[(8,{rs:=[.one (L.int .u64 x6),.one (L.int .u64 x7)],m:=4})],hv:=8192,Hs:=[8192]},.r []] [2,3,4,6,8] [2,3,4] (aO c4 c5 (oD c4) c5 (oD c4) (ZdA.snd c6) c5 (oD c4)) (hc1 x7 (w64 (v2+1)) (List.set a_5 (Int.toNat v2) x6) h4)
 ·obtain rfl:=Zab h2
  exact af fol hE [.r [],.c false,.r []] [] 0 [] c4
theorem ZbQ.snd {a_0_0 b_1_0:List Int} {r:(List Int)×Bool} (h:ZbQ N a_0_0 b_1_0=some r):SndQ Tryz.prog 174 [.agg [L.arr .u64 4 a_0_0],.agg [L.arr .u64 4 b_1_0]] (ZbQ.rs r):=fun st=>
 sO ZbQ.B Tryz.func174 fun g0 w0 R hE=>by
  unfold ZbQ at h
  exact aq fol [.r [],.r [],.r []] [2,3,4,6,8] [2,3,4] trivial (At.loop N (At.loopN (fun y:Int×Int×(List Int)=>ZbQ.p1.S y.1 y.2.1 y.2.2 b_1_0 st) (fun c J hc y h=>ZbQ.p1_ok (c_1:=y.1) (v2:=y.2.1) (a_5:=y.2.2) h hE (fun c_1 v2 a_5=>hc (c_1,v2,a_5))) N (0,0,a_0_0) h))
noncomputable def Zcj.B:Code:=Tryz.f175.body.getD .skip
noncomputable def Zcj.rs (r:(List Int)):List CV:=[.agg [L.arr .u64 4 r]]
noncomputable def Zcj.p1 (N:Nat) (c1_:(Int×(List Int))→Option (List Int)):(Int×(List Int))→Option (List Int):=fun (v1,a_2)=>
 if (decide (v1<4))=true then
  chk (0≤v1)<|
  c1_ (w64 (v1+1),List.set a_2 (Int.toNat v1) (bitsOf .xor .u64 (IntKind.max IntKind.u64) (List.getD a_2 (Int.toNat v1) 0)))
 else
 some a_2
noncomputable def Zcj (N:Nat) (a_0_0:List Int):Option (List Int):=
 loopN (Zcj.p1 N) N (0,a_0_0)
noncomputable def Zcj.p1.S (v1:Int) (a_2:List Int) (st:LL):S:=mkS 15 [(1,sA 1),(2,sA 2),(4,sI v1)] [(1,.cells [L.arr .u64 4 a_2]),(2,.cells [L.arr .u64 4 (List.replicate 4 0)])] st
theorem Zcj.p1_ok {v1 a_2 st r c1_ J1} (h:Zcj.p1 N c1_ (v1,a_2)=some r) (hE:En Tryz.f175 g0 w0 (Zcj.rs r) st R) (hc1 : ∀v1 a_2,c1_ (v1,a_2)=some r→At g0 w0 (Zcj.p1.S v1 a_2 st) J1):At g0 w0 (Zcj.p1.S v1 a_2 st) (XK Tryz.prog R (.c (csub Zcj.B [1,0,1,0,0]) :: .h J1 :: [.b 0,.c (csub Zcj.B [1,1])])):=by
 unfold Zcj.p1 at h
 refine iteB h (fun c3 h1=>?_) (fun c3 h2=>?_)
 ·obtain ⟨c4,h3⟩:=ZaI h1
  exact an fol [.r [],.c true,.r [],.r [],.r []] [1,2,4] [1,2] (aL c3 c4 (oD c3) c4 (oD c3)) (hc1 (w64 (v1+1)) (List.set a_2 (Int.toNat v1) (bitsOf .xor .u64 (IntKind.max IntKind.u64) (List.getD a_2 (Int.toNat v1) 0))) h3)
 ·obtain rfl:=Zab h2
  exact af fol hE [.r [],.c false,.r []] [] 0 [] c3
theorem Zcj.snd {a_0_0:List Int} {r:(List Int)} (h:Zcj N a_0_0=some r):SndQ Tryz.prog 175 [.agg [L.arr .u64 4 a_0_0]] (Zcj.rs r):=fun st=>
 sO Zcj.B Tryz.func175 fun g0 w0 R hE=>by
  unfold Zcj at h
  exact aq fol [.r [],.r []] [1,2,4] [1,2] trivial (At.loop N (At.loopN (fun y:Int×(List Int)=>Zcj.p1.S y.1 y.2 st) (fun c J hc y h=>Zcj.p1_ok (v1:=y.1) (a_2:=y.2) h hE (fun v1 a_2=>hc (v1,a_2))) N (0,a_0_0) h))
noncomputable def Zav.B:Code:=Tryz.f222.body.getD .skip
noncomputable def Zav.rs (r:Int):List CV:=[oI r]
noncomputable def Zav.p3 (N:Nat) (x_5 n_6:Int):Option Int:=
 chk (0≤(v8 (x_5)))<|
 chk ((v8 (x_5))<((ByteArray.size (ByteArray.mk #[0,1,2,2,3,3,3,3,4,4,4,4,4,4,4,4,5,5,5,5,5,5,5,5,5,5,5,5,5,5,5,5,6,6,6,6,6,6,6,6,6,6,6,6,6,6,6,6,6,6,6,6,6,6,6,6,6,6,6,6,6,6,6,6,7,7,7,7,7,7,7,7,7,7,7,7,7,7,7,7,7,7,7,7,7,7,7,7,7,7,7,7,7,7,7,7,7,7,7,7,7,7,7,7,7,7,7,7,7,7,7,7,7,7,7,7,7,7,7,7,7,7,7,7,7,7,7,7,8,8,8,8,8,8,8,8,8,8,8,8,8,8,8,8,8,8,8,8,8,8,8,8,8,8,8,8,8,8,8,8,8,8,8,8,8,8,8,8,8,8,8,8,8,8,8,8,8,8,8,8,8,8,8,8,8,8,8,8,8,8,8,8,8,8,8,8,8,8,8,8,8,8,8,8,8,8,8,8,8,8,8,8,8,8,8,8,8,8,8,8,8,8,8,8,8,8,8,8,8,8,8,8,8,8,8,8,8,8,8,8,8,8,8,8,8,8,8,8,8,8,8,8,8,8,8,8]):Nat):Int))<|
 some (w64 (n_6+(w64 (((UInt8.toNat (List.getD (Array.toList (ByteArray.data (ByteArray.mk #[0,1,2,2,3,3,3,3,4,4,4,4,4,4,4,4,5,5,5,5,5,5,5,5,5,5,5,5,5,5,5,5,6,6,6,6,6,6,6,6,6,6,6,6,6,6,6,6,6,6,6,6,6,6,6,6,6,6,6,6,6,6,6,6,7,7,7,7,7,7,7,7,7,7,7,7,7,7,7,7,7,7,7,7,7,7,7,7,7,7,7,7,7,7,7,7,7,7,7,7,7,7,7,7,7,7,7,7,7,7,7,7,7,7,7,7,7,7,7,7,7,7,7,7,7,7,7,7,8,8,8,8,8,8,8,8,8,8,8,8,8,8,8,8,8,8,8,8,8,8,8,8,8,8,8,8,8,8,8,8,8,8,8,8,8,8,8,8,8,8,8,8,8,8,8,8,8,8,8,8,8,8,8,8,8,8,8,8,8,8,8,8,8,8,8,8,8,8,8,8,8,8,8,8,8,8,8,8,8,8,8,8,8,8,8,8,8,8,8,8,8,8,8,8,8,8,8,8,8,8,8,8,8,8,8,8,8,8,8,8,8,8,8,8,8,8,8,8,8,8,8,8,8,8,8,8]))) (Int.toNat (v8 (x_5))) 0):Nat):Int)))))
noncomputable def Zav.p2 (N:Nat) (x_3 n_4:Int):Option Int:=
 if (decide (x_3≥256))=true then
  Zav.p3 N (shrOf .u64 x_3 8) (w64 (n_4+8))
 else
 Zav.p3 N x_3 n_4
noncomputable def Zav.p1 (N:Nat) (x_1 n_2:Int):Option Int:=
 if (decide (x_1≥65536))=true then
  Zav.p2 N (shrOf .u64 x_1 16) (w64 (n_2+16))
 else
 Zav.p2 N x_1 n_2
noncomputable def Zav (N:Nat) (x_0:Int):Option Int:=
 if (decide (x_0≥4294967296))=true then
  Zav.p1 N (shrOf .u64 x_0 32) 32
 else
 Zav.p1 N x_0 0
noncomputable def Zav.p3.S (x_5 n_6:Int) (st:LL):S:=mkS 25 [(0,.one (.l (L.int .u64 x_5))),(2,sI n_6)] [] st
noncomputable def Zav.p2.S (x_3 n_4:Int) (st:LL):S:=mkS 25 [(0,.one (.l (L.int .u64 x_3))),(2,sI n_4)] [] st
noncomputable def Zav.p1.S (x_1 n_2:Int) (st:LL):S:=mkS 25 [(0,.one (.l (L.int .u64 x_1))),(2,sI n_2)] [] st
theorem Zav.p3_ok {x_5 n_6 st r} (h:Zav.p3 N x_5 n_6=some r) (hE:En Tryz.f222 g0 w0 (Zav.rs r) st R):At g0 w0 (Zav.p3.S x_5 n_6 st) (XK Tryz.prog R [.c (csub Zav.B [1,1,1,1])]):=by
 unfold Zav.p3 at h
 obtain ⟨c4,c5,h1⟩:=ck2 h
 obtain rfl:=Zab h1
 exact af fol hE [.r []] [] 0 [] (aI c4 c5)
theorem Zav.p2_ok {x_3 n_4 st r} (h:Zav.p2 N x_3 n_4=some r) (hE:En Tryz.f222 g0 w0 (Zav.rs r) st R):At g0 w0 (Zav.p2.S x_3 n_4 st) (XK Tryz.prog R [.c (csub Zav.B [1,1,1])]):=by
 unfold Zav.p2 at h
 refine iteB h (fun c3 h2=>?_) (fun c3 h3=>?_)
 ·exact aq fol [.r [],.c true,.r [],.r [],.s 1] [0,2] [] (aI c3 (leI 0 8)) (Zav.p3_ok h2 hE)
 ·exact aq fol [.r [],.c false,.s 1] [0,2] [] c3 (Zav.p3_ok h3 hE)
theorem Zav.p1_ok {x_1 n_2 st r} (h:Zav.p1 N x_1 n_2=some r) (hE:En Tryz.f222 g0 w0 (Zav.rs r) st R):At g0 w0 (Zav.p1.S x_1 n_2 st) (XK Tryz.prog R [.c (csub Zav.B [1,1])]):=by
 unfold Zav.p1 at h
 refine iteB h (fun c2 h4=>?_) (fun c2 h5=>?_)
 ·exact aq fol [.r [],.c true,.r [],.r [],.s 1] [0,2] [] (aI c2 (leI 0 16)) (Zav.p2_ok h4 hE)
 ·exact aq fol [.r [],.c false,.s 1] [0,2] [] c2 (Zav.p2_ok h5 hE)
theorem Zav.snd {x_0:Int} {r:Int} (h:Zav N x_0=some r):SndQ Tryz.prog 222 [.one (L.int .u64 x_0)] (Zav.rs r):=fun st=>
 sO Zav.B Tryz.func222 fun g0 w0 R hE=>by
  unfold Zav at h
  refine iteB h (fun c1 h6=>?_) (fun c1 h7=>?_)
  ·exact aq fol [.r [],.r [],.c true,.r [],.r [],.s 1] [0,2] [] (aI c1 (leI 0 32)) (Zav.p1_ok h6 hE)
  ·exact aq fol [.r [],.r [],.c false,.s 1] [0,2] [] c1 (Zav.p1_ok h7 hE)
noncomputable def Zcq.B:Code:=Tryz.f206.body.getD .skip
noncomputable def Zcq.rs (r:Int):List CV:=[oI r]
noncomputable def Zcq.p1 (N:Nat) (a_0_0:List Int) (c1_:Int→Option Int):Int→Option Int:=fun i_1=>
 if (decide (i_1≥0))=true then
  chk (0≤i_1)<|
  chk (i_1<4)<|
  if ((List.getD a_0_0 (Int.toNat i_1) 0) != 0)=true then
   optE (Zav N (List.getD a_0_0 (Int.toNat i_1) 0)) fun x2=>
   some (w64 ((w64 (64*i_1))+x2))
  else
  c1_ (w64 (i_1-1))
 else
 some 0
noncomputable def Zcq (N:Nat) (a_0_0:List Int):Option Int:=
 loopN (Zcq.p1 N a_0_0) N 3
noncomputable def Zcq.p1.S (i_1:Int) (a_0_0:List Int) (st:LL):S:=mkS 19 [(1,sA 1),(3,sI i_1)] [(1,.cells [L.arr .u64 4 a_0_0])] st
theorem Zcq.p1_ok {i_1 a_0_0 st r c1_ J1} (h:Zcq.p1 N a_0_0 c1_ i_1=some r) (hE:En Tryz.f206 g0 w0 (Zcq.rs r) st R) (hc1 : ∀i_1,c1_ i_1=some r→At g0 w0 (Zcq.p1.S i_1 a_0_0 st) J1):At g0 w0 (Zcq.p1.S i_1 a_0_0 st) (XK Tryz.prog R (.c (csub Zcq.B [1,0,1,0,0]) :: .h J1 :: [.b 0,.c (csub Zcq.B [1,1])])):=by
 unfold Zcq.p1 at h
 refine iteB h (fun c1 h1=>?_) (fun c1 h2=>?_)
 ·obtain ⟨c2,c3,h3⟩:=ck2 h1
  refine iteB h3 (fun c4 h4=>?_) (fun c4 h5=>?_)
  ·obtain ⟨x2,c5,h6⟩:=Zad h4
   obtain rfl:=Zab h6
   exact af fol hE [.r [],.c true,.r [],.c true,.r [(5,q1 [oI x2])]] [] 0 [] (aN c1 c2 c3 c4 c2 c3 (Zav.snd c5))
  ·exact an fol [.r [],.c true,.r [],.c false,.r []] [1,3] [1] (aK c1 c2 c3 c4) (hc1 (w64 (i_1-1)) h5)
 ·obtain rfl:=Zab h2
  exact af fol hE [.r [],.c false,.r []] [] 0 [] c1
theorem Zcq.snd {a_0_0:List Int} {r:Int} (h:Zcq N a_0_0=some r):SndQ Tryz.prog 206 [.agg [L.arr .u64 4 a_0_0]] (Zcq.rs r):=fun st=>
 sO Zcq.B Tryz.func206 fun g0 w0 R hE=>by
  unfold Zcq at h
  exact aq fol [.r [],.r []] [1,3] [1] trivial (At.loop N (At.loopN (fun y:Int=>Zcq.p1.S y a_0_0 st) (fun c J hc y h=>Zcq.p1_ok h hE (fun i_1=>hc i_1)) N 3 h))
noncomputable def Zct.B:Code:=Tryz.f207.body.getD .skip
noncomputable def Zct.rs (r:(List Int)×Bool):List CV:=[.agg [L.arr .u64 4 r.1],oB r.2]
noncomputable def Zct.p1 (N:Nat) (b_1_0:List Int) (c1_:(Int×Int×(List Int))→Option ((List Int)×Bool)):(Int×Int×(List Int))→Option ((List Int)×Bool):=fun (c_1,v2,a_5)=>
 if (decide (v2<4))=true then
  chk (0≤v2)<|
  optE (Zer N (List.getD a_5 (Int.toNat v2) 0) (List.getD b_1_0 (Int.toNat v2) 0) c_1) fun (x6,x7)=>
  c1_ (x7,w64 (v2+1),List.set a_5 (Int.toNat v2) x6)
 else
 some (a_5,c_1 != 0)
noncomputable def Zct (N:Nat) (a_0_0 b_1_0:List Int):Option ((List Int)×Bool):=
 loopN (Zct.p1 N b_1_0) N (0,0,a_0_0)
noncomputable def Zct.p1.S (c_1 v2:Int) (a_5 b_1_0:List Int) (st:LL):S:=mkS 28 [(2,sA 2),(3,sA 3),(4,sA 4),(6,.one (.l (L.int .u64 c_1))),(8,sI v2)] [(2,.cells [L.arr .u64 4 a_5]),(3,.cells [L.arr .u64 4 b_1_0]),(4,.cells [L.arr .u64 4 (List.replicate 4 0)])] st
theorem Zct.p1_ok {c_1 v2 a_5 b_1_0 st r c1_ J1} (h:Zct.p1 N b_1_0 c1_ (c_1,v2,a_5)=some r) (hE:En Tryz.f207 g0 w0 (Zct.rs r) st R) (hc1 : ∀c_1 v2 a_5,c1_ (c_1,v2,a_5)=some r→At g0 w0 (Zct.p1.S c_1 v2 a_5 b_1_0 st) J1):At g0 w0 (Zct.p1.S c_1 v2 a_5 b_1_0 st) (XK Tryz.prog R (.c (csub Zct.B [1,1,0,1,0,0]) :: .h J1 :: [.b 0,.c (csub Zct.B [1,1,1])])):=by
 unfold Zct.p1 at h
 refine iteB h (fun c4 h1=>?_) (fun c4 h2=>?_)
 ·obtain ⟨c5,h3⟩:=ZaI h1
  obtain ⟨⟨x6,x7⟩,c6,h4⟩:=Zad h3
  exact and_ fol [.r [],.c true,.r [],.d {ds:=[(8,{rs:=[.one (L.int .u64 x6),.one (L.int .u64 x7)],m:=4})],hv:=8192,Hs:=[8192]},.r []] [2,3,4,6,8] [2,3,4] (aO c4 c5 (oD c4) c5 (oD c4) (Zer.snd c6) c5 (oD c4)) (hc1 x7 (w64 (v2+1)) (List.set a_5 (Int.toNat v2) x6) h4)
 ·obtain rfl:=Zab h2
  exact af fol hE [.r [],.c false,.r []] [] 0 [] c4
theorem Zct.snd {a_0_0 b_1_0:List Int} {r:(List Int)×Bool} (h:Zct N a_0_0 b_1_0=some r):SndQ Tryz.prog 207 [.agg [L.arr .u64 4 a_0_0],.agg [L.arr .u64 4 b_1_0]] (Zct.rs r):=fun st=>
 sO Zct.B Tryz.func207 fun g0 w0 R hE=>by
  unfold Zct at h
  exact aq fol [.r [],.r [],.r []] [2,3,4,6,8] [2,3,4] trivial (At.loop N (At.loopN (fun y:Int×Int×(List Int)=>Zct.p1.S y.1 y.2.1 y.2.2 b_1_0 st) (fun c J hc y h=>Zct.p1_ok (c_1:=y.1) (v2:=y.2.1) (a_5:=y.2.2) h hE (fun c_1 v2 a_5=>hc (c_1,v2,a_5))) N (0,0,a_0_0) h))
noncomputable def Zbt.B:Code:=Tryz.f179.body.getD .skip
noncomputable def Zbt.rs (r:(List Int)×(List Int)):List CV:=[.agg [L.arr .u64 4 r.1],.agg [L.arr .u64 4 r.2]]
noncomputable def Zbt.p2 (N:Nat) (c1_:(Int×(List Int)×(List Int))→Option ((List Int)×(List Int))) (i_3:Int) (a_0_0 by_1_0 out_21 rest_20:List Int):Option ((List Int)×(List Int)):=
 c1_ (w64 (i_3-1),out_21,rest_20)
noncomputable def Zbt.p1 (N:Nat) (a_0_0 by_1_0:List Int) (c1_:(Int×(List Int)×(List Int))→Option ((List Int)×(List Int))):(Int×(List Int)×(List Int))→Option ((List Int)×(List Int)):=fun (i_3,out_12,rest_13)=>
 if (decide (i_3≥0))=true then
  optE (ZbF N rest_13 1) fun x14=>
  chk (0≤(w64 (Int.tdiv i_3 64)))<|
  chk ((w64 (Int.tdiv i_3 64))<4)<|
  chk (0≤(Int.tmod i_3 64))<|
  if ((shrOf .u64 (List.getD rest_13 3 0) 63)==1)=true then
   optE (Zct N (List.set x14 0 (bitsOf .or .u64 (List.getD x14 0 0) (bitsOf .and .u64 (shrOf .u64 (List.getD a_0_0 (Int.toNat (w64 (Int.tdiv i_3 64))) 0) (Int.tmod i_3 64)) 1))) by_1_0) fun (x15,x16)=>
   Zbt.p2 N c1_ i_3 a_0_0 by_1_0 (List.set out_12 (Int.toNat (w64 (Int.tdiv i_3 64))) (bitsOf .or .u64 (List.getD out_12 (Int.toNat (w64 (Int.tdiv i_3 64))) 0) (shlOf .u64 1 (Int.tmod i_3 64)))) x15
  else
  optE (ZcO N (List.set x14 0 (bitsOf .or .u64 (List.getD x14 0 0) (bitsOf .and .u64 (shrOf .u64 (List.getD a_0_0 (Int.toNat (w64 (Int.tdiv i_3 64))) 0) (Int.tmod i_3 64)) 1))) by_1_0) fun x17=>
  if (!x17)=true then
   optE (Zct N (List.set x14 0 (bitsOf .or .u64 (List.getD x14 0 0) (bitsOf .and .u64 (shrOf .u64 (List.getD a_0_0 (Int.toNat (w64 (Int.tdiv i_3 64))) 0) (Int.tmod i_3 64)) 1))) by_1_0) fun (x18,x19)=>
   Zbt.p2 N c1_ i_3 a_0_0 by_1_0 (List.set out_12 (Int.toNat (w64 (Int.tdiv i_3 64))) (bitsOf .or .u64 (List.getD out_12 (Int.toNat (w64 (Int.tdiv i_3 64))) 0) (shlOf .u64 1 (Int.tmod i_3 64)))) x18
  else
  Zbt.p2 N c1_ i_3 a_0_0 by_1_0 out_12 (List.set x14 0 (bitsOf .or .u64 (List.getD x14 0 0) (bitsOf .and .u64 (shrOf .u64 (List.getD a_0_0 (Int.toNat (w64 (Int.tdiv i_3 64))) 0) (Int.tmod i_3 64)) 1)))
 else
 some (out_12,rest_13)
noncomputable def Zbt (N:Nat) (a_0_0 by_1_0:List Int):Option ((List Int)×(List Int)):=
 optE (ZcF N by_1_0) fun x1=>
 if x1=true then
  some (List.replicate 4 0,List.replicate 4 0)
 else
 optE (Zcq N a_0_0) fun x2=>
 loopN (Zbt.p1 N a_0_0 by_1_0) N (w64 (x2-1),List.replicate 4 0,List.replicate 4 0)
noncomputable def Zbt.p2.S (i_3:Int) (a_0_0 by_1_0 out_21 rest_20:List Int) (st:LL):S:=mkS 63 [(2,sA 2),(3,sA 3),(4,sA 4),(5,sA 5),(6,sA 6),(7,sA 7),(8,sI i_3)] [(2,.cells [L.arr .u64 4 a_0_0]),(3,.cells [L.arr .u64 4 by_1_0]),(4,.cells [L.arr .u64 4 (List.replicate 4 0)]),(5,.cells [L.arr .u64 4 (List.replicate 4 0)]),(6,.cells [L.arr .u64 4 out_21]),(7,.cells [L.arr .u64 4 rest_20])] st
noncomputable def Zbt.p1.S (i_3:Int) (a_0_0 by_1_0 out_12 rest_13:List Int) (st:LL):S:=mkS 63 [(2,sA 2),(3,sA 3),(4,sA 4),(5,sA 5),(6,sA 6),(7,sA 7),(8,sI i_3)] [(2,.cells [L.arr .u64 4 a_0_0]),(3,.cells [L.arr .u64 4 by_1_0]),(4,.cells [L.arr .u64 4 (List.replicate 4 0)]),(5,.cells [L.arr .u64 4 (List.replicate 4 0)]),(6,.cells [L.arr .u64 4 out_12]),(7,.cells [L.arr .u64 4 rest_13])] st
theorem Zbt.p2_ok {i_3 a_0_0 by_1_0 out_21 rest_20 st r c1_ J1} (h:Zbt.p2 N c1_ i_3 a_0_0 by_1_0 out_21 rest_20=some r) (hE:En Tryz.f179 g0 w0 (Zbt.rs r) st R) (hc1 : ∀i_3 out_12 rest_13,c1_ (i_3,out_12,rest_13)=some r→At g0 w0 (Zbt.p1.S i_3 a_0_0 by_1_0 out_12 rest_13 st) J1):At g0 w0 (Zbt.p2.S i_3 a_0_0 by_1_0 out_21 rest_20 st) (XK Tryz.prog R [.c (csub Zbt.B [1,1,1,0,1,0,0,1,1]),.h J1,.b 0,.c (csub Zbt.B [1,1,1,1])]):=by
 unfold Zbt.p2 at h
 exact an fol [.r []] [2,3,4,5,6,7,8] [2,3,4,5,6,7] trivial (hc1 (w64 (i_3-1)) out_21 rest_20 h)
theorem Zbt.p1_ok {i_3 a_0_0 by_1_0 out_12 rest_13 st r c1_ J1} (h:Zbt.p1 N a_0_0 by_1_0 c1_ (i_3,out_12,rest_13)=some r) (hE:En Tryz.f179 g0 w0 (Zbt.rs r) st R) (hc1 : ∀i_3 out_12 rest_13,c1_ (i_3,out_12,rest_13)=some r→At g0 w0 (Zbt.p1.S i_3 a_0_0 by_1_0 out_12 rest_13 st) J1):At g0 w0 (Zbt.p1.S i_3 a_0_0 by_1_0 out_12 rest_13 st) (XK Tryz.prog R (.c (csub Zbt.B [1,1,1,0,1,0,0]) :: .h J1 :: [.b 0,.c (csub Zbt.B [1,1,1,1])])):=by
 unfold Zbt.p1 at h
 refine iteB h (fun c14 h1=>?_) (fun c14 h2=>?_)
 ·obtain ⟨x14,c15,h3⟩:=Zad h1
  obtain ⟨c16,c17,c18,h4⟩:=ck3 h3
  let o1:List PS:=[.r [],.c true,.r [],.r [(1,q1 [.agg [L.arr .u64 4 x14]])],.d {ds:=[],hv:=4096,Hs:=[4096]}]
  have t1 {Q:Prop} (q:Q):=aI c14 (ix 3 4 (aJ (leI 0 63) (ZbF.snd c15) (ix 0 4 (aM (neI 64) c16 c17 (neI 64) c18 (ix 0 4 q)))))
  refine iteB h4 (fun c19 h5=>?_) (fun c19 h6=>?_)
  ·obtain ⟨⟨x15,x16⟩,c20,h7⟩:=Zad h5
   exact aqd fol (o1 ++ [.r [(2,wF),(3,wF),(4,wF),(5,wF)],.c true,.r [(2,q1 [.agg [L.arr .u64 4 x15],oB x16])],.d {ds:=[],hv:=512,Hs:=[512]},.s 4]) [2,3,4,5,6,7,8] [2,3,4,5,6,7] (t1 (aO c19 c19 c19 c19 c19 eT (Zct.snd c20) (aN (neI 64) c16 c17 (neI 64) c18 c16 c17))) (Zbt.p2_ok h7 hE hc1)
  ·obtain ⟨x17,c21,h8⟩:=Zad h6
   let o2:List PS:=o1 ++ [.r [(4,q1 [oB x17]),(6,yF)]]
   have t2 {Q:Prop} (q:Q):=t1 (aN c19 c19 c19 (ZcO.snd c21) c19 c19 q)
   refine iteB h8 (fun c22 h9=>?_) (fun c22 h10=>?_)
   ·obtain ⟨⟨x18,x19⟩,c23,h11⟩:=Zad h9
    exact aqd fol (o2 ++ [.c true,.r [(2,q1 [.agg [L.arr .u64 4 x18],oB x19])],.d {ds:=[],hv:=512,Hs:=[512]},.s 4]) [2,3,4,5,6,7,8] [2,3,4,5,6,7] (t2 (aO c22 (Zct.snd c23) (neI 64) c16 c17 (neI 64) c18 (aI c16 c17))) (Zbt.p2_ok h11 hE hc1)
   ·exact aqd fol (o2 ++ [.c false,.s 4]) [2,3,4,5,6,7,8] [2,3,4,5,6,7] (t2 c22) (Zbt.p2_ok h10 hE hc1)
 ·obtain rfl:=Zab h2
  exact afd fol hE [.r [],.c false,.d {ds:=[],hv:=12,Hs:=[4,12]}] [] 0 [] c14
theorem Zbt.snd {a_0_0 by_1_0:List Int} {r:(List Int)×(List Int)} (h:Zbt N a_0_0 by_1_0=some r):SndQ Tryz.prog 179 [.agg [L.arr .u64 4 a_0_0],.agg [L.arr .u64 4 by_1_0]] (Zbt.rs r):=fun st=>
 sO Zbt.B Tryz.func179 fun g0 w0 R hE=>by
  unfold Zbt at h
  obtain ⟨x1,c1,h12⟩:=Zad h
  let o3:List PS:=[.r [],.r [],.r [(1,q1 [oB x1])]]
  refine iteB h12 (fun c2 h13=>?_) (fun c2 h14=>?_)
  ·obtain rfl:=Zab h13
   exact afd fol hE (o3 ++ [.c true,.d {ds:=[],hv:=12,Hs:=[4,12]}]) [] 0 [] (aI (ZcF.snd c1) c2)
  ·obtain ⟨x2,c3,h15⟩:=Zad h14
   exact aq fol (o3 ++ [.c false,.r [(1,q1 [oI x2])]]) [2,3,4,5,6,7,8] [2,3,4,5,6,7] (aJ (ZcF.snd c1) c2 (Zcq.snd c3)) (At.loop N (At.loopN (fun y:Int×(List Int)×(List Int)=>Zbt.p1.S y.1 a_0_0 by_1_0 y.2.1 y.2.2 st) (fun c J hc y h=>Zbt.p1_ok (i_3:=y.1) (out_12:=y.2.1) (rest_13:=y.2.2) h hE (fun i_3 out_12 rest_13=>hc (i_3,out_12,rest_13))) N (w64 (x2-1),List.replicate 4 0,List.replicate 4 0) h15))
noncomputable def Zdy.B:Code:=Tryz.f115.body.getD .skip
noncomputable def Zdy.rs (r:(List Int)):List CV:=[.agg [L.arr .u64 4 r]]
noncomputable def Zdy (N:Nat):Option (List Int):=
 optE (Zcj N (List.replicate 4 0)) fun x1=>
 some x1
theorem Zdy.snd {r:(List Int)} (h:Zdy N=some r):SndQ Tryz.prog 115 [] (Zdy.rs r):=fun st=>
 sO Zdy.B Tryz.func115 fun g0 w0 R hE=>by
  unfold Zdy at h
  obtain ⟨x1,c1,h1⟩:=Zad h
  obtain rfl:=Zab h1
  exact af fol hE [.r [],.r [(1,q1 [.agg [L.arr .u64 4 x1]])]] [] 0 [] (Zcj.snd c1)
noncomputable def Zfa.B:Code:=Tryz.f118.body.getD .skip
noncomputable def Zfa.rs (r:(List Int)):List CV:=[.agg [L.arr .u64 4 r]]
noncomputable def Zfa (N:Nat) (target_0_0:List Int):Option (List Int):=
 optE (ZcV N 1) fun x1=>
 optE (ZbQ N target_0_0 x1) fun (x2,x3)=>
 if x3=true then
  some x1
 else
 optE (Zcj N target_0_0) fun x4=>
 optE (Zbt N x4 x2) fun (x5,x6)=>
 optE (ZbQ N x5 x1) fun (x7,x8)=>
 if x8=true then
  optE (Zdy N ) fun x9=>
  some x9
 else
 some x7
theorem Zfa.snd {target_0_0:List Int} {r:(List Int)} (h:Zfa N target_0_0=some r):SndQ Tryz.prog 118 [.agg [L.arr .u64 4 target_0_0]] (Zfa.rs r):=fun st=>
 sO Zfa.B Tryz.func118 fun g0 w0 R hE=>by
  unfold Zfa at h
  obtain ⟨x1,c1,h1⟩:=Zad h
  obtain ⟨⟨x2,x3⟩,c2,h2⟩:=Zad h1
  let o1:List PS:=[.r [],.d {ds:=[(1,q1 [.agg [L.arr .u64 4 x1]]),(2,q1 [.agg [L.arr .u64 4 x2],oB x3])],hv:=192,Hs:=[64,192]},.r []]
  have t1 {Q:Prop} (q:Q):=aL (ZcV.snd c1) (ZcV.snd c1) (ZbQ.snd c2) (ZbQ.snd c2) q
  refine iteB h2 (fun c3 h3=>?_) (fun c3 h4=>?_)
  ·obtain rfl:=Zab h3
   exact afd fol hE (o1 ++ [.c true,.r [(0,q1 [.agg [L.arr .u64 4 x1]])]]) [] 0 [] (t1 (aI c3 (ZcV.snd c1)))
  ·obtain ⟨x4,c4,h5⟩:=Zad h4
   obtain ⟨⟨x5,x6⟩,c5,h6⟩:=Zad h5
   obtain ⟨⟨x7,x8⟩,c6,h7⟩:=Zad h6
   let o2:List PS:=o1 ++ [.c false,.d {ds:=[(1,q1 [.agg [L.arr .u64 4 x4]]),(3,q1 [.agg [L.arr .u64 4 x5],.agg [L.arr .u64 4 x6]])],hv:=1920,Hs:=[128,256,384,896,1920]},.d {ds:=[(1,q1 [.agg [L.arr .u64 4 x1]]),(2,q1 [.agg [L.arr .u64 4 x7],oB x8])],hv:=192,Hs:=[64,192]},.r []]
   have t2 {Q:Prop} (q:Q):=t1 (aO c3 (Zcj.snd c4) (Zcj.snd c4) (Zcj.snd c4) (Zcj.snd c4) (Zbt.snd c5) (Zbt.snd c5) (aN (Zbt.snd c5) (Zbt.snd c5) (ZcV.snd c1) (ZcV.snd c1) (ZbQ.snd c6) (ZbQ.snd c6) q))
   refine iteB h7 (fun c7 h8=>?_) (fun c7 h9=>?_)
   ·obtain ⟨x9,c8,h10⟩:=Zad h8
    obtain rfl:=Zab h10
    exact afd fol hE (o2 ++ [.c true,.r [(0,q1 [.agg [L.arr .u64 4 x9]])]]) [] 0 [] (t2 (aI c7 (Zdy.snd c8)))
   ·obtain rfl:=Zab h9
    exact afd fol hE (o2 ++ [.c false,.r []]) [] 0 [] (t2 c7)
noncomputable def Zdq.B:Code:=Tryz.f64.body.getD .skip
noncomputable def Zdq.rs (r:(List Int)):List CV:=[.agg [L.arr .u64 4 r]]
noncomputable def Zdq (N:Nat) (bits_0:Int):Option (List Int):=
 optE (ZaJ N bits_0) fun (x1,x2,x3)=>
 if x2=true then
  some (List.replicate 4 0)
 else
 if x3=true then
  some (List.replicate 4 0)
 else
 optE (ZcF N x1) fun x4=>
 if x4=true then
  some (List.replicate 4 0)
 else
 optE (Zfa N x1) fun x5=>
 some x5
theorem Zdq.snd {bits_0:Int} {r:(List Int)} (h:Zdq N bits_0=some r):SndQ Tryz.prog 64 [oI bits_0] (Zdq.rs r):=fun st=>
 sO Zdq.B Tryz.func64 fun g0 w0 R hE=>by
  unfold Zdq at h
  obtain ⟨⟨x1,x2,x3⟩,c1,h1⟩:=Zad h
  let o1:List PS:=[.r [],.r [(1,q1 [.agg [L.arr .u64 4 x1],oB x2,oB x3])]]
  have t1 {Q:Prop} (q:Q):=aI (ZaJ.snd c1) q
  refine iteB h1 (fun c2 h2=>?_) (fun c2 h3=>?_)
  ·obtain rfl:=Zab h2
   exact af fol hE (o1 ++ [.r [(2,wF),(5,wF),(6,wF)],.c true,.r []]) [] 0 [] (t1 (aM c2 c2 eT eT eT eT))
  ·refine iteB h3 (fun c3 h4=>?_) (fun c3 h5=>?_)
   ·obtain rfl:=Zab h4
    exact af fol hE (o1 ++ [.r [(3,yF),(5,wF),(6,wF)],.c true,.r []]) [] 0 [] (t1 (aM c2 c2 c3 c3 c3 eT))
   ·obtain ⟨x4,c4,h6⟩:=Zad h5
    let o2:List PS:=o1 ++ [.r [(3,yF),(6,q1 [oB x4]),(7,yF)]]
    refine iteB h6 (fun c5 h7=>?_) (fun c5 h8=>?_)
    ·obtain rfl:=Zab h7
     exact af fol hE (o2 ++ [.c true,.r []]) [] 0 [] (t1 (aN c2 c2 c3 c3 (ZcF.snd c4) c3 c5))
    ·obtain ⟨x5,c6,h9⟩:=Zad h8
     obtain rfl:=Zab h9
     exact af fol hE (o2 ++ [.c false,.r [(1,q1 [.agg [L.arr .u64 4 x5]])]]) [] 0 [] (t1 (aO c2 c2 c3 c3 (ZcF.snd c4) c3 c5 (Zfa.snd c6)))
noncomputable def Zcp.B:Code:=Tryz.f114.body.getD .skip
noncomputable def Zcp.rs (r:(List Int)×Bool):List CV:=[.agg [L.arr .u64 4 r.1],oB r.2]
noncomputable def Zcp.p1 (N:Nat) (list_0:LL) (c1_:(Bool×Int×(List Int))→Option ((List Int)×Bool)):(Bool×Int×(List Int))→Option ((List Int)×Bool):=fun (over_1,v2,out_6)=>
 if (decide (v2<(len list_0)))=true then
  chk (0≤v2)<|
  getE (list_0[Int.toNat v2]?) Zgg fun x7=>
  optE (ZbQ N out_6 x7) fun (x8,x9)=>
  if over_1=true then
   c1_ (true,w64 (v2+1),x8)
  else
  c1_ (x9,w64 (v2+1),x8)
 else
 some (out_6,over_1)
noncomputable def Zcp (N:Nat) (list_0:LL):Option ((List Int)×Bool):=
 loopN (Zcp.p1 N list_0) N (false,0,List.replicate 4 0)
noncomputable def Zcp.p1.S (over_1:Bool) (list_0:LL) (v2:Int) (out_6:List Int) (st:LL):S:=mkS 28 [(2,sA 2),(4,sA 4),(5,.one (.l (L.bool over_1))),(9,sV 4 list_0),(10,sI (len list_0)),(11,sI v2)] [(2,.cells [L.arr .u64 4 (List.replicate 4 0)]),(4,.cells [L.arr .u64 4 out_6])] st
theorem Zcp.p1_ok {over_1 list_0 v2 out_6 st r c1_ J1} (h:Zcp.p1 N list_0 c1_ (over_1,v2,out_6)=some r) (hE:En Tryz.f114 g0 w0 (Zcp.rs r) st R) (hc1 : ∀over_1 v2 out_6,c1_ (over_1,v2,out_6)=some r→At g0 w0 (Zcp.p1.S over_1 list_0 v2 out_6 st) J1):At g0 w0 (Zcp.p1.S over_1 list_0 v2 out_6 st) (XK Tryz.prog R (.c (csub Zcp.B [1,1,1,0,1,0,0]) :: .h J1 :: [.b 0,.c (csub Zcp.B [1,1,1,1])])):=by
 unfold Zcp.p1 at h
 refine iteB h (fun c6 h1=>?_) (fun c6 h2=>?_)
 ·obtain ⟨c7,h3⟩:=ZaI h1
  obtain ⟨x7,c8,h4⟩:=Zhj h3
  obtain ⟨⟨x8,x9⟩,c9,h5⟩:=Zad h4
  let o1:List PS:=[.r [],.c true,.r [(1,{oe:=[L.arr .u64 4 x7]})],.r [],.r [(2,q1 [.agg [L.arr .u64 4 x8],oB x9])]]
  refine iteB h5 (fun c10 h6=>?_) (fun c10 h7=>?_)
  ·exact an fol (o1 ++ [.r [(2,wF)],.r []]) [2,4,5,9,10,11] [2,4] (aN c6 c7 (oD c6) c8 (ZbQ.snd c9) c10 c10) (hc1 true (w64 (v2+1)) x8 h6)
  ·exact an fol (o1 ++ [.r [(3,yF)],.r []]) [2,4,5,9,10,11] [2,4] (aN c6 c7 (oD c6) c8 (ZbQ.snd c9) c10 c10) (hc1 x9 (w64 (v2+1)) x8 h7)
 ·obtain rfl:=Zab h2
  exact af fol hE [.r [],.c false,.r []] [] 0 [] c6
theorem Zcp.snd {list_0:LL} {r:(List Int)×Bool} (h:Zcp N list_0=some r):SndQ Tryz.prog 114 [.one (L.sl 4 list_0)] (Zcp.rs r):=fun st=>
 sO Zcp.B Tryz.func114 fun g0 w0 R hE=>by
  unfold Zcp at h
  exact aq fol [.r [],.r [],.r [],.r []] [2,4,5,9,10,11] [2,4] trivial (At.loop N (At.loopN (fun y:Bool×Int×(List Int)=>Zcp.p1.S y.1 list_0 y.2.1 y.2.2 st) (fun c J hc y h=>Zcp.p1_ok (over_1:=y.1) (v2:=y.2.1) (out_6:=y.2.2) h hE (fun over_1 v2 out_6=>hc (over_1,v2,out_6))) N (false,0,List.replicate 4 0) h))
noncomputable def ZeA.B:Code:=Tryz.f63.body.getD .skip
noncomputable def ZeA.rs (r:(List Int)):List CV:=[.agg [L.arr .u64 4 r]]
noncomputable def ZeA (N:Nat) (list_0:LL):Option (List Int):=
 optE (Zcp N list_0) fun (x1,x2)=>
 if x2=true then
  optE (Zdy N ) fun x3=>
  some x3
 else
 some x1
theorem ZeA.snd {list_0:LL} {r:(List Int)} (h:ZeA N list_0=some r):SndQ Tryz.prog 63 [.one (L.sl 4 list_0)] (ZeA.rs r):=fun st=>
 sO ZeA.B Tryz.func63 fun g0 w0 R hE=>by
  unfold ZeA at h
  obtain ⟨⟨x1,x2⟩,c1,h1⟩:=Zad h
  let o1:List PS:=[.r [],.r [(1,q1 [.agg [L.arr .u64 4 x1],oB x2])],.r []]
  refine iteB h1 (fun c2 h2=>?_) (fun c2 h3=>?_)
  ·obtain ⟨x3,c3,h4⟩:=Zad h2
   obtain rfl:=Zab h4
   exact af fol hE (o1 ++ [.c true,.r [(0,q1 [.agg [L.arr .u64 4 x3]])]]) [] 0 [] (aJ (Zcp.snd c1) c2 (Zdy.snd c3))
  ·obtain rfl:=Zab h3
   exact af fol hE (o1 ++ [.c false,.r []]) [] 0 [] (aI (Zcp.snd c1) c2)
noncomputable def ZaU.B:Code:=Tryz.f88.body.getD .skip
noncomputable def ZaU.rs (r:Int×LL):List CV:=[oI r.1]
noncomputable def ZaU.p1 (N:Nat) (a_7:Option Nat) (behind_3:ZaN) (e_6:ZbM) (st:LL):Option (Int×LL):=
 optE a_7 fun i8=>
 getE (st[i8]?) ZbR fun x9=>
 chk (List.length (x9.list ++ [e_6.ls])*176≤140737488355328)<|
 chk (List.length (x9.spots ++ [behind_3.ls])*96≤140737488355328)<|
 optM (mfind x9.places (L.arr .u8 32 e_6.Id)) (fun j10 e=>ZcG [e] fun x11=>
  some (w64 ((len (x9.list ++ [e_6.ls]))-1),List.set (List.set (List.set (List.set (List.set st i8 (gs x9.lo 15)) i8 (gs (gs x9.lo 15) 16)) i8 (gs (ZaD.lo {x9 with list:=x9.list ++ [e_6.ls]}) 16)) i8 (ZaD.lo {x9 with list:=x9.list ++ [e_6.ls],spots:=x9.spots ++ [behind_3.ls]})) i8 (ZaD.lo (ZaD.mk x9.rules (x9.list ++ [e_6.ls]) (x9.spots ++ [behind_3.ls]) (List.set x9.places j10 (L.arr .u8 32 e_6.Id,L.int .i64 (w64 ((len (x9.list ++ [e_6.ls]))-1)))) x9.room))))
 (
  some (w64 ((len (x9.list ++ [e_6.ls]))-1),List.set (List.set (List.set (List.set (List.set st i8 (gs x9.lo 15)) i8 (gs (gs x9.lo 15) 16)) i8 (gs (ZaD.lo {x9 with list:=x9.list ++ [e_6.ls]}) 16)) i8 (ZaD.lo {x9 with list:=x9.list ++ [e_6.ls],spots:=x9.spots ++ [behind_3.ls]})) i8 (ZaD.lo (ZaD.mk x9.rules (x9.list ++ [e_6.ls]) (x9.spots ++ [behind_3.ls]) (x9.places ++ [(L.arr .u8 32 e_6.Id,L.int .i64 (w64 ((len (x9.list ++ [e_6.ls]))-1)))]) x9.room))))
noncomputable def ZaU (N:Nat) (a_0:Option Nat) (h_1:Zai) (ahead_2:Int) (behind_3:ZaN) (st:LL):Option (Int×LL):=
 optE (Zdq N h_1.Bits) fun x1=>
 if (ahead_2 != (-1))=true then
  optE a_0 fun i2=>
  getE (st[i2]?) ZbR fun x3=>
  chk (0≤ahead_2)<|
  chk (ahead_2<(len x3.list))<|
  getE (x3.list[0+(Int.toNat ahead_2)]?) Zej fun x4=>
  optE (ZeA N [[L.arr .u64 4 x4.Work],[L.arr .u64 4 x1]]) fun x5=>
  ZaU.p1 N (some i2) behind_3 (ZbM.mk h_1 behind_3.Prev ahead_2 (w64 (x4.Height+1)) x5) st
 else
 ZaU.p1 N a_0 behind_3 (ZbM.mk h_1 behind_3.Prev ahead_2 0 x1) st
noncomputable def ZaU.p1.S (a_7:Option Nat) (behind_3:ZaN) (e_6:ZbM) (st:LL):S:=mkS 81 [(0,sP a_7),(7,sA 7),(9,sA 9)] [(7,.cells behind_3.ls),(9,.cells e_6.ls)] st
theorem ZaU.p1_ok {a_7 behind_3 e_6 st r} (h:ZaU.p1 N a_7 behind_3 e_6 st=some r) (hE:En Tryz.f88 g0 w0 (ZaU.rs r) r.2 R):At g0 w0 (ZaU.p1.S a_7 behind_3 e_6 st) (XK Tryz.prog R [.c (csub ZaU.B [1,1,1])]):=by
 unfold ZaU.p1 at h
 obtain ⟨i8,rfl,h1⟩:=Zad h
 obtain ⟨x9,c10,h2⟩:=ZbK h1
 obtain ⟨c11,c12,h3⟩:=ck2 h2
 let o1:List PS:=[.d {ds:=[(5,{oc:=x9.lo}),(8,{oe:=x9.lo}),(12,{oc:=gs x9.lo 15}),(15,{oe:=gs x9.lo 15}),(18,{oc:=gs (gs x9.lo 15) 16,mv:=[51]}),(21,{oc:=gs (ZaD.lo {x9 with list:=x9.list ++ [e_6.ls]}) 16,mv:=[58]})],hv:=2408832,Hs:=[128,384,16384,16512,16768,49536,311680,2408832],dh:=[(12,0,{oc:=x9.lo}),(12,128,{oc:=x9.lo}),(12,16384,{oc:=x9.lo}),(12,16512,{oc:=x9.lo})]}]
 have t1 {Q:Prop} (q:Q):=aO c10 c10 c10 c10 z0 (eN (List.length x9.list)) c10 (aO z0 (eN (1)) c11 z0 (eN (List.length x9.list)) c10 z0 (aO (eN (1)) c11 c10 c10 (Zap c10 (gs x9.lo 15)) c10 c10 (aO (Zap c10 (gs x9.lo 15)) z0 (eN (List.length x9.spots)) (Zap c10 (gs x9.lo 15)) z0 (eN (1)) c12 (aO (Zap (Zap c10 (gs x9.lo 15)) (gs (gs x9.lo 15) 16)) z0 (eN (List.length (x9.list ++ [e_6.ls]))) (Zap (Zap (Zap c10 (gs x9.lo 15)) (gs (gs x9.lo 15) 16)) (gs (ZaD.lo {x9 with list:=x9.list ++ [e_6.ls]}) 16)) z0 (eN (List.length (x9.spots ++ [behind_3.ls]))) (Zap (Zap (Zap (Zap c10 (gs x9.lo 15)) (gs (gs x9.lo 15) 16)) (gs (ZaD.lo {x9 with list:=x9.list ++ [e_6.ls]}) 16)) (ZaD.lo {x9 with list:=x9.list ++ [e_6.ls],spots:=x9.spots ++ [behind_3.ls]})) (aI (Zap (Zap (Zap (Zap c10 (gs x9.lo 15)) (gs (gs x9.lo 15) 16)) (gs (ZaD.lo {x9 with list:=x9.list ++ [e_6.ls]}) 16)) (ZaD.lo {x9 with list:=x9.list ++ [e_6.ls],spots:=x9.spots ++ [behind_3.ls]})) q)))))
 rcases ZgY h3 with ⟨j10,h7,c13,h4⟩ | ⟨c13,h5⟩
 ·obtain ⟨x11,h8,h6⟩:=Zff h4
  obtain rfl:=Zfr h8
  obtain rfl:=Zab h6
  exact afd fol hE (o1 ++ [.d {ds:=[(3,{oc:=ZaD.lo {x9 with list:=x9.list ++ [e_6.ls],spots:=x9.spots ++ [behind_3.ls]}}),(9,{oc:=ZaD.lo {x9 with list:=x9.list ++ [e_6.ls],spots:=x9.spots ++ [behind_3.ls]}}),(12,{oc:=ZaD.lo {x9 with list:=x9.list ++ [e_6.ls],spots:=x9.spots ++ [behind_3.ls]},m:=j10})],hv:=4096,Hs:=[4096]},.r [(3,{oc:=ZaD.lo (ZaD.mk x9.rules (x9.list ++ [e_6.ls]) (x9.spots ++ [behind_3.ls]) (List.set x9.places j10 (L.arr .u8 32 e_6.Id,L.int .i64 (w64 ((len (x9.list ++ [e_6.ls]))-1)))) x9.room)})]]) [] 0 [] (t1 (aJ (ex_at c13) (Zap (Zap (Zap (Zap c10 (gs x9.lo 15)) (gs (gs x9.lo 15) 16)) (gs (ZaD.lo {x9 with list:=x9.list ++ [e_6.ls]}) 16)) (ZaD.lo {x9 with list:=x9.list ++ [e_6.ls],spots:=x9.spots ++ [behind_3.ls]})) (Zap (Zap (Zap (Zap (Zap c10 (gs x9.lo 15)) (gs (gs x9.lo 15) 16)) (gs (ZaD.lo {x9 with list:=x9.list ++ [e_6.ls]}) 16)) (ZaD.lo {x9 with list:=x9.list ++ [e_6.ls],spots:=x9.spots ++ [behind_3.ls]})) (ZaD.lo (ZaD.mk x9.rules (x9.list ++ [e_6.ls]) (x9.spots ++ [behind_3.ls]) (List.set x9.places j10 (L.arr .u8 32 e_6.Id,L.int .i64 (w64 ((len (x9.list ++ [e_6.ls]))-1)))) x9.room)))))
 ·obtain rfl:=Zab h5
  exact afd fol hE (o1 ++ [.d {ds:=[(3,{oc:=ZaD.lo {x9 with list:=x9.list ++ [e_6.ls],spots:=x9.spots ++ [behind_3.ls]}}),(9,{oc:=ZaD.lo {x9 with list:=x9.list ++ [e_6.ls],spots:=x9.spots ++ [behind_3.ls]}}),(12,{oc:=ZaD.lo {x9 with list:=x9.list ++ [e_6.ls],spots:=x9.spots ++ [behind_3.ls]},yes:=false})],hv:=4096,Hs:=[4096]},.r [(3,{oc:=ZaD.lo (ZaD.mk x9.rules (x9.list ++ [e_6.ls]) (x9.spots ++ [behind_3.ls]) (x9.places ++ [(L.arr .u8 32 e_6.Id,L.int .i64 (w64 ((len (x9.list ++ [e_6.ls]))-1)))]) x9.room)})]]) [] 0 [] (t1 (aJ c13 (Zap (Zap (Zap (Zap c10 (gs x9.lo 15)) (gs (gs x9.lo 15) 16)) (gs (ZaD.lo {x9 with list:=x9.list ++ [e_6.ls]}) 16)) (ZaD.lo {x9 with list:=x9.list ++ [e_6.ls],spots:=x9.spots ++ [behind_3.ls]})) (Zap (Zap (Zap (Zap (Zap c10 (gs x9.lo 15)) (gs (gs x9.lo 15) 16)) (gs (ZaD.lo {x9 with list:=x9.list ++ [e_6.ls]}) 16)) (ZaD.lo {x9 with list:=x9.list ++ [e_6.ls],spots:=x9.spots ++ [behind_3.ls]})) (ZaD.lo (ZaD.mk x9.rules (x9.list ++ [e_6.ls]) (x9.spots ++ [behind_3.ls]) (x9.places ++ [(L.arr .u8 32 e_6.Id,L.int .i64 (w64 ((len (x9.list ++ [e_6.ls]))-1)))]) x9.room)))))
theorem ZaU.snd {a_0:Option Nat} {h_1:Zai} {ahead_2:Int} {behind_3:ZaN} {st:LL} {r:Int×LL} (h:ZaU N a_0 h_1 ahead_2 behind_3 st=some r):Snd Tryz.prog 88 [.one (L.ptr a_0),.agg h_1.ls,oI ahead_2,.agg behind_3.ls] st (ZaU.rs r) r.2:=
 sO ZaU.B Tryz.func88 fun g0 w0 R hE=>by
  unfold ZaU at h
  obtain ⟨x1,c1,h9⟩:=Zad h
  let o2:List PS:=[.r [],.d {ds:=[(6,q1 [.agg [L.arr .u64 4 x1]])],hv:=768,Hs:=[256,768]},.r []]
  have t2 {Q:Prop} (q:Q):=aJ (Zdq.snd c1) (Zdq.snd c1) q
  refine iteB h9 (fun c2 h10=>?_) (fun c2 h11=>?_)
  ·obtain ⟨i2,rfl,h12⟩:=Zad h10
   obtain ⟨x3,c4,h13⟩:=ZbK h12
   obtain ⟨c5,c6,h14⟩:=ck2 h13
   obtain ⟨x4,c7,h15⟩:=Zfg h14
   obtain ⟨x5,c8,h16⟩:=Zad h15
   exact aqd fol (o2 ++ [.c true,.r [(3,{oc:=x3.lo}),(7,{oc:=x3.lo,oe:=x4.ls})],.d {ds:=[(3,{oc:=x3.lo}),(7,{oc:=x3.lo,oe:=x4.ls}),(11,{rs:=[.agg [L.arr .u64 4 x5]],m:=2})],hv:=9216,Hs:=[1024,9216]},.s 1]) [0,7,9] [7,9] (t2 (aO c2 c4 c5 c6 c7 c4 c4 (aN c5 c6 c7 c4 z0 (eN (2)) (ZeA.snd c8)))) (ZaU.p1_ok h16 hE)
  ·exact aqd fol (o2 ++ [.c false,.s 1]) [0,7,9] [7,9] (t2 c2) (ZaU.p1_ok h11 hE)
noncomputable def ZdZ.B:Code:=Tryz.f24.body.getD .skip
noncomputable def ZdZ.rs (r:(Option Nat)×Int×LL):List CV:=[.one (L.ptr r.1),oI r.2.1]
noncomputable def ZdZ (N:Nat) (p_0:Zae) (room_1:Int) (st:LL):Option ((Option Nat)×Int×LL):=
 optE (ZbI N p_0) fun x1=>
 if (!x1)=true then
  some (none,1,st)
 else
 chk (List.length ([]++p_0.Gates)*16≤140737488355328)<|
 chk (List.length ([]++p_0.Checks)*40≤140737488355328)<|
 optE (ZeJ N {p_0 with Gates:=[]++p_0.Gates,Checks:=[]++p_0.Checks}) fun x2=>
 optE (ZaU N (some (List.length st)) p_0.Genesis (-1) x2 (st ++ [ZaD.lo (ZaD.mk {p_0 with Gates:=[]++p_0.Gates,Checks:=[]++p_0.Checks} [] [] [] (if (512:Int)<(if (1:Int)>room_1 then 1 else room_1) then 512 else (if (1:Int)>room_1 then 1 else room_1)))])) fun (x3,st4)=>
 some ((some (List.length st)),0,st4)
theorem ZdZ.snd {p_0:Zae} {room_1:Int} {st:LL} {r:(Option Nat)×Int×LL} (h:ZdZ N p_0 room_1 st=some r):Snd Tryz.prog 24 [.agg p_0.ls,oI room_1] st (ZdZ.rs r) r.2.2:=
 sO ZdZ.B Tryz.func24 fun g0 w0 R hE=>by
  unfold ZdZ at h
  obtain ⟨x1,c1,h1⟩:=Zad h
  let o1:List PS:=[.r [],.r [(1,q1 [oB x1])]]
  refine iteB h1 (fun c2 h2=>?_) (fun c2 h3=>?_)
  ·obtain rfl:=Zab h2
   exact af fol hE (o1 ++ [.c true,.r []]) [] 0 [] (aI (ZbI.snd c1) c2)
  ·obtain ⟨c3,c4,h4⟩:=ck2 h3
   obtain ⟨x2,c5,h5⟩:=Zad h4
   obtain ⟨⟨x3,st4⟩,c6,h6⟩:=Zad h5
   obtain rfl:=Zab h6
   exact afd fol hE (o1 ++ [.c false,.d {ds:=[(7,{fz:=[12]}),(9,{fz:=[15]})],hv:=676,Hs:=[4,36,164,676]},.r [(5,{ns:=[15,16]}),(6,{m:=1})],.d {ds:=[(4,q1 [.agg x2.ls]),(5,{rs:=[oI x3],st:=st4})],hv:=32,Hs:=[32]},.r []]) [] 0 [] (aO (ZbI.snd c1) c2 c3 c4 z0 (eN (List.length ([]++p_0.Gates))) z0 (aJ (eN (List.length ([]++p_0.Checks))) (ZeJ.snd c5) (ZaU.snd c6)))
noncomputable def ZeB.B:Code:=Tryz.f23.body.getD .skip
noncomputable def ZeB.rs (r:(Option Nat)×Int×LL):List CV:=[.one (L.ptr r.1),oI r.2.1]
noncomputable def ZeB (N:Nat) (p_0:Zae) (room_1:Int) (st:LL):Option ((Option Nat)×Int×LL):=
 optE (ZdZ N p_0 room_1 st) fun (x1,x2,st3)=>
 if (x2 != 0)=true then
  some (none,x2,st3)
 else
 some ((some (List.length st3)),0,st3 ++ [[L.ptr x1,L.own true 1 [[L.int .i64 (-1)]]]])
theorem ZeB.snd {p_0:Zae} {room_1:Int} {st:LL} {r:(Option Nat)×Int×LL} (h:ZeB N p_0 room_1 st=some r):Snd Tryz.prog 23 [.agg p_0.ls,oI room_1] st (ZeB.rs r) r.2.2:=
 sO ZeB.B Tryz.func23 fun g0 w0 R hE=>by
  unfold ZeB at h
  obtain ⟨⟨x1,x2,st3⟩,c1,h1⟩:=Zad h
  let o1:List PS:=[.r [],.r [(2,{rs:=[.one (L.ptr x1),oI x2],st:=st3})],.r []]
  refine iteB h1 (fun c2 h2=>?_) (fun c2 h3=>?_)
  ·obtain rfl:=Zab h2
   exact af fol hE (o1 ++ [.c true,.r []]) [] 0 [] (aI (ZdZ.snd c1) c2)
  ·obtain rfl:=Zab h3
   exact af fol hE (o1 ++ [.c false,.r [(2,{ns:=[1]}),(3,{m:=1,mv:=[18]})]]) [] 0 [] (aK (ZdZ.snd c1) c2 z0 (eN (1)))
noncomputable def Zbk.B:Code:=Tryz.f159.body.getD .skip
noncomputable def Zbk.rs (r:ByteArray):List CV:=[.one (L.str r)]
noncomputable def Zbk.p1 (N:Nat) (size_0:Int) (c1_:(Int×ByteArray×Int)→Option ByteArray):(Int×ByteArray×Int)→Option ByteArray:=fun (u_1,s_3,i_2)=>
 if (decide (i_2<(if (8:Int)<(if (1:Int)>size_0 then 1 else size_0) then 8 else (if (1:Int)>size_0 then 1 else size_0))))=true then
  chk (isB [[L.int .u8 (v8 (Int.tmod u_1 256))]]=true)<|
  chk (ByteArray.size s_3+ByteArray.size (istr (List.map leafI [[L.int .u8 (v8 (Int.tmod u_1 256))]]))≤9223372036854775807)<|
  c1_ (v64 (Int.tdiv u_1 256),s_3++(istr (List.map leafI [[L.int .u8 (v8 (Int.tmod u_1 256))]])),w64 (i_2+1))
 else
 some s_3
noncomputable def Zbk (N:Nat) (size_0 n_1:Int):Option ByteArray:=
 loopN (Zbk.p1 N size_0) N (v64 (n_1),(ByteArray.mk #[]),0)
noncomputable def Zbk.p1.S (size_0 u_1:Int) (s_3:ByteArray) (i_2:Int) (st:LL):S:=mkS 27 [(0,sI size_0),(5,.one (.l (L.int .u64 u_1))),(6,.one (.l (L.str s_3))),(7,sI i_2)] [] st
theorem Zbk.p1_ok {size_0 u_1 s_3 i_2 st r c1_ J1} (h:Zbk.p1 N size_0 c1_ (u_1,s_3,i_2)=some r) (hE:En Tryz.f159 g0 w0 (Zbk.rs r) st R) (hc1 : ∀u_1 s_3 i_2,c1_ (u_1,s_3,i_2)=some r→At g0 w0 (Zbk.p1.S size_0 u_1 s_3 i_2 st) J1):At g0 w0 (Zbk.p1.S size_0 u_1 s_3 i_2 st) (XK Tryz.prog R (.c (csub Zbk.B [1,1,1,0,1,0,0]) :: .h J1 :: [.b 0,.c (csub Zbk.B [1,1,1,1])])):=by
 unfold Zbk.p1 at h
 refine iteB h (fun c4 h1=>?_) (fun c4 h2=>?_)
 ·obtain ⟨c5,c6,h3⟩:=ck2 h1
  exact an fol [.r [],.c true,.r [],.r [],.r []] [0,5,6,7] [] (aN c4 (neI 256) z0 (eN (1)) c5 c6 (neI 256)) (hc1 (v64 (Int.tdiv u_1 256)) (s_3++(istr (List.map leafI [[L.int .u8 (v8 (Int.tmod u_1 256))]]))) (w64 (i_2+1)) h3)
 ·obtain rfl:=Zab h2
  exact af fol hE [.r [],.c false,.r []] [] 0 [] c4
theorem Zbk.snd {size_0 n_1:Int} {r:ByteArray} (h:Zbk N size_0 n_1=some r):SndQ Tryz.prog 159 [oI size_0,oI n_1] (Zbk.rs r):=fun st=>
 sO Zbk.B Tryz.func159 fun g0 w0 R hE=>by
  unfold Zbk at h
  exact aq fol [.r [],.r [],.r [],.r []] [0,5,6,7] [] trivial (At.loop N (At.loopN (fun y:Int×ByteArray×Int=>Zbk.p1.S size_0 y.1 y.2.1 y.2.2 st) (fun c J hc y h=>Zbk.p1_ok (u_1:=y.1) (s_3:=y.2.1) (i_2:=y.2.2) h hE (fun u_1 s_3 i_2=>hc (u_1,s_3,i_2))) N (v64 (n_1),(ByteArray.mk #[]),0) h))
noncomputable def Zca.B:Code:=Tryz.f160.body.getD .skip
noncomputable def Zca.rs (r:ByteArray):List CV:=[.one (L.str r)]
noncomputable def Zca.p1 (N:Nat) (h_0_0:List Int) (c1_:(ByteArray×Int)→Option ByteArray):(ByteArray×Int)→Option ByteArray:=fun (s_2,i_1)=>
 if (decide (i_1<32))=true then
  chk (0≤i_1)<|
  chk (isB [[L.int .u8 (List.getD h_0_0 (Int.toNat i_1) 0)]]=true)<|
  chk (ByteArray.size s_2+ByteArray.size (istr (List.map leafI [[L.int .u8 (List.getD h_0_0 (Int.toNat i_1) 0)]]))≤9223372036854775807)<|
  c1_ (s_2++(istr (List.map leafI [[L.int .u8 (List.getD h_0_0 (Int.toNat i_1) 0)]])),w64 (i_1+1))
 else
 some s_2
noncomputable def Zca (N:Nat) (h_0_0:List Int):Option ByteArray:=
 loopN (Zca.p1 N h_0_0) N ((ByteArray.mk #[]),0)
noncomputable def Zca.p1.S (s_2:ByteArray) (i_1:Int) (h_0_0:List Int) (st:LL):S:=mkS 17 [(1,sA 1),(3,.one (.l (L.str s_2))),(4,sI i_1)] [(1,.cells [L.arr .u8 32 h_0_0])] st
theorem Zca.p1_ok {s_2 i_1 h_0_0 st r c1_ J1} (h:Zca.p1 N h_0_0 c1_ (s_2,i_1)=some r) (hE:En Tryz.f160 g0 w0 (Zca.rs r) st R) (hc1 : ∀s_2 i_1,c1_ (s_2,i_1)=some r→At g0 w0 (Zca.p1.S s_2 i_1 h_0_0 st) J1):At g0 w0 (Zca.p1.S s_2 i_1 h_0_0 st) (XK Tryz.prog R (.c (csub Zca.B [1,1,0,1,0,0]) :: .h J1 :: [.b 0,.c (csub Zca.B [1,1,1])])):=by
 unfold Zca.p1 at h
 refine iteB h (fun c5 h1=>?_) (fun c5 h2=>?_)
 ·obtain ⟨c6,c7,c8,h3⟩:=ck3 h1
  exact an fol [.r [],.c true,.r [],.r []] [1,3,4] [1] (aN c5 c6 (oD c5) z0 (eN (1)) c7 c8) (hc1 (s_2++(istr (List.map leafI [[L.int .u8 (List.getD h_0_0 (Int.toNat i_1) 0)]]))) (w64 (i_1+1)) h3)
 ·obtain rfl:=Zab h2
  exact af fol hE [.r [],.c false,.r []] [] 0 [] c5
theorem Zca.snd {h_0_0:List Int} {r:ByteArray} (h:Zca N h_0_0=some r):SndQ Tryz.prog 160 [.agg [L.arr .u8 32 h_0_0]] (Zca.rs r):=fun st=>
 sO Zca.B Tryz.func160 fun g0 w0 R hE=>by
  unfold Zca at h
  exact aq fol [.r [],.r [],.r []] [1,3,4] [1] trivial (At.loop N (At.loopN (fun y:ByteArray×Int=>Zca.p1.S y.1 y.2 h_0_0 st) (fun c J hc y h=>Zca.p1_ok (s_2:=y.1) (i_1:=y.2) h hE (fun s_2 i_1=>hc (s_2,i_1))) N ((ByteArray.mk #[]),0) h))
noncomputable def Zdn.B:Code:=Tryz.f101.body.getD .skip
noncomputable def Zdn.rs (r:ByteArray):List CV:=[.one (L.str r)]
noncomputable def Zdn (N:Nat) (h_0:Zai):Option ByteArray:=
 optE (Zbk N 4 h_0.Version) fun x1=>
 optE (Zca N h_0.Prev) fun x2=>
 chk (ByteArray.size x1+ByteArray.size x2≤9223372036854775807)<|
 optE (Zca N h_0.Root) fun x3=>
 chk (ByteArray.size (x1++x2)+ByteArray.size x3≤9223372036854775807)<|
 optE (Zbk N 4 h_0.Time) fun x4=>
 chk (ByteArray.size ((x1++x2)++x3)+ByteArray.size x4≤9223372036854775807)<|
 optE (Zbk N 4 h_0.Bits) fun x5=>
 chk (ByteArray.size (((x1++x2)++x3)++x4)+ByteArray.size x5≤9223372036854775807)<|
 optE (Zbk N 4 h_0.Nonce) fun x6=>
 chk (ByteArray.size ((((x1++x2)++x3)++x4)++x5)+ByteArray.size x6≤9223372036854775807)<|
 some (((((x1++x2)++x3)++x4)++x5)++x6)
theorem Zdn.snd {h_0:Zai} {r:ByteArray} (h:Zdn N h_0=some r):SndQ Tryz.prog 101 [.agg h_0.ls] (Zdn.rs r):=fun st=>
 sO Zdn.B Tryz.func101 fun g0 w0 R hE=>by
  unfold Zdn at h
  obtain ⟨x1,c1,h1⟩:=Zad h
  obtain ⟨x2,c2,h2⟩:=Zad h1
  obtain ⟨c3,h3⟩:=ZaI h2
  obtain ⟨x3,c4,h4⟩:=Zad h3
  obtain ⟨c5,h5⟩:=ZaI h4
  obtain ⟨x4,c6,h6⟩:=Zad h5
  obtain ⟨c7,h7⟩:=ZaI h6
  obtain ⟨x5,c8,h8⟩:=Zad h7
  obtain ⟨c9,h9⟩:=ZaI h8
  obtain ⟨x6,c10,h10⟩:=Zad h9
  obtain ⟨c11,h11⟩:=ZaI h10
  obtain rfl:=Zab h11
  exact afd fol hE [.r [],.d {ds:=[(2,q1 [.one (L.str x1)]),(5,q1 [.one (L.str x2)]),(9,q1 [.one (L.str x3)])],hv:=0,Hs:=[]},.d {ds:=[(3,q1 [.one (L.str x4)]),(7,q1 [.one (L.str x5)]),(11,q1 [.one (L.str x6)])],hv:=0,Hs:=[]}] [] 0 [] (aO (Zbk.snd c1) (Zca.snd c2) c3 (Zca.snd c4) c5 (Zbk.snd c6) c7 (aK (Zbk.snd c8) c9 (Zbk.snd c10) c11))
noncomputable def ZaS.B:Code:=Tryz.f192.body.getD .skip
noncomputable def ZaS.rs (r:ByteArray):List CV:=[.one (L.str r)]
noncomputable def ZaS.p2 (N:Nat) (s_4:ByteArray) (c2_:(Int×ByteArray×Int)→Option ByteArray):(Int×ByteArray×Int)→Option ByteArray:=fun (n_5,tail_7,i_6)=>
 if (decide (i_6<8))=true then
  chk (isB [[L.int .u8 (v8 (Int.tmod n_5 256))]]=true)<|
  chk (ByteArray.size (istr (List.map leafI [[L.int .u8 (v8 (Int.tmod n_5 256))]]))+ByteArray.size tail_7≤9223372036854775807)<|
  c2_ (w64 (Int.tdiv n_5 256),(istr (List.map leafI [[L.int .u8 (v8 (Int.tmod n_5 256))]]))++tail_7,w64 (i_6+1))
 else
 chk (ByteArray.size s_4+ByteArray.size tail_7≤9223372036854775807)<|
 some (s_4++tail_7)
noncomputable def ZaS.p1 (N:Nat) (s_0:ByteArray) (c1_:ByteArray→Option ByteArray):ByteArray→Option ByteArray:=fun s_4=>
 if ((Int.tmod ((ByteArray.size s_4:Nat):Int) 64) != 56)=true then
  chk (ByteArray.size s_4+ByteArray.size (ByteArray.mk #[0])≤9223372036854775807)<|
  c1_ (s_4++(ByteArray.mk #[0]))
 else
 loopN (ZaS.p2 N s_4) N (w64 (8*((ByteArray.size s_0:Nat):Int)),(ByteArray.mk #[]),0)
noncomputable def ZaS (N:Nat) (s_0:ByteArray):Option ByteArray:=
 chk (ByteArray.size s_0+ByteArray.size (ByteArray.mk #[128])≤9223372036854775807)<|
 loopN (ZaS.p1 N s_0) N (s_0++(ByteArray.mk #[128]))
noncomputable def ZaS.p2.S (s_4:ByteArray) (n_5:Int) (tail_7:ByteArray) (i_6:Int) (st:LL):S:=mkS 34 [(0,.one (.l (L.str s_4))),(3,sI n_5),(4,.one (.l (L.str tail_7))),(5,sI i_6)] [] st
noncomputable def ZaS.p1.S (s_4 s_0:ByteArray) (st:LL):S:=mkS 34 [(0,.one (.l (L.str s_4))),(3,sI ((ByteArray.size s_0:Nat):Int))] [] st
theorem ZaS.p2_ok {s_4 n_5 tail_7 i_6 st r c2_ J2} (h:ZaS.p2 N s_4 c2_ (n_5,tail_7,i_6)=some r) (hE:En Tryz.f192 g0 w0 (ZaS.rs r) st R) (hc2 : ∀n_5 tail_7 i_6,c2_ (n_5,tail_7,i_6)=some r→At g0 w0 (ZaS.p2.S s_4 n_5 tail_7 i_6 st) J2):At g0 w0 (ZaS.p2.S s_4 n_5 tail_7 i_6 st) (XK Tryz.prog R (.c (csub ZaS.B [1,1,1,1,1,1,0,1,0,0]) :: .h J2 :: [.b 2,.c (csub ZaS.B [1,1,1,1,1,1,1])])):=by
 unfold ZaS.p2 at h
 refine iteB h (fun c18 h1=>?_) (fun c18 h2=>?_)
 ·obtain ⟨c19,c20,h3⟩:=ck2 h1
  exact an fol [.r [],.c true,.r [],.r [],.r []] [0,3,4,5] [] (aN c18 (neI 256) z0 (eN (1)) c19 c20 (neI 256)) (hc2 (w64 (Int.tdiv n_5 256)) ((istr (List.map leafI [[L.int .u8 (v8 (Int.tmod n_5 256))]]))++tail_7) (w64 (i_6+1)) h3)
 ·obtain ⟨c21,h4⟩:=ZaI h2
  obtain rfl:=Zab h4
  exact af fol hE [.r [],.c false,.r []] [] 0 [] (aI c18 c21)
theorem ZaS.p1_ok {s_4 s_0 st r c1_ J1} (h:ZaS.p1 N s_0 c1_ s_4=some r) (hE:En Tryz.f192 g0 w0 (ZaS.rs r) st R) (hc1 : ∀s_4,c1_ s_4=some r→At g0 w0 (ZaS.p1.S s_4 s_0 st) J1):At g0 w0 (ZaS.p1.S s_4 s_0 st) (XK Tryz.prog R (.c (csub ZaS.B [1,1,1,0,0,0]) :: .h J1 :: [.b 0,.c (csub ZaS.B [1,1,1,1])])):=by
 unfold ZaS.p1 at h
 refine iteB h (fun c12 h5=>?_) (fun c12 h6=>?_)
 ·obtain ⟨c13,h7⟩:=ZaI h5
  exact an fol [.r [],.c true,.r []] [0,3] [] (aJ (neI 64) c12 c13) (hc1 (s_4++(ByteArray.mk #[0])) h7)
 ·exact aq fol [.r [],.c false,.r [],.r [],.r []] [0,3,4,5] [] (aI (neI 64) c12) (At.loop N (At.loopN (fun y:Int×ByteArray×Int=>ZaS.p2.S s_4 y.1 y.2.1 y.2.2 st) (fun c J hc y h=>ZaS.p2_ok (n_5:=y.1) (tail_7:=y.2.1) (i_6:=y.2.2) h hE (fun n_5 tail_7 i_6=>hc (n_5,tail_7,i_6))) N (w64 (8*((ByteArray.size s_0:Nat):Int)),(ByteArray.mk #[]),0) h6))
theorem ZaS.snd {s_0:ByteArray} {r:ByteArray} (h:ZaS N s_0=some r):SndQ Tryz.prog 192 [.one (L.str s_0)] (ZaS.rs r):=fun st=>
 sO ZaS.B Tryz.func192 fun g0 w0 R hE=>by
  unfold ZaS at h
  obtain ⟨c1,h8⟩:=ZaI h
  exact aq fol [.r [],.r [],.r []] [0,3] [] c1 (At.loop N (At.loopN (fun y:ByteArray=>ZaS.p1.S y s_0 st) (fun c J hc y h=>ZaS.p1_ok h hE (fun s_4=>hc s_4)) N (s_0++(ByteArray.mk #[128])) h8))
noncomputable def Zbd.B:Code:=Tryz.f193.body.getD .skip
noncomputable def Zbd.rs (r:Int):List CV:=[.one (L.int .u32 r)]
noncomputable def Zbd (N:Nat) (x_0 n_1:Int):Option Int:=
 chk (0≤n_1)<|
 chk (0≤(v64 (32-n_1)))<|
 some (v32 ((shrOf .u32 x_0 n_1)+(shlOf .u32 x_0 (v64 (32-n_1)))))
theorem Zbd.snd {x_0 n_1:Int} {r:Int} (h:Zbd N x_0 n_1=some r):SndQ Tryz.prog 193 [.one (L.int .u32 x_0),.one (L.int .u64 n_1)] (Zbd.rs r):=fun st=>
 sO Zbd.B Tryz.func193 fun g0 w0 R hE=>by
  unfold Zbd at h
  obtain ⟨c1,c2,h1⟩:=ck2 h
  obtain rfl:=Zab h1
  exact af fol hE [.r [],.r []] [] 0 [] (aI c1 c2)
noncomputable def ZeG.B:Code:=Tryz.f194.body.getD .skip
noncomputable def ZeG.rs (r:Int):List CV:=[.one (L.int .u32 r)]
noncomputable def ZeG (N:Nat) (i_0:Int):Option Int:=
 chk (0≤i_0)<|
 chk (i_0<64)<|
 some (List.getD [1116352408,1899447441,3049323471,3921009573,961987163,1508970993,2453635748,2870763221,3624381080,310598401,607225278,1426881987,1925078388,2162078206,2614888103,3248222580,3835390401,4022224774,264347078,604807628,770255983,1249150122,1555081692,1996064986,2554220882,2821834349,2952996808,3210313671,3336571891,3584528711,113926993,338241895,666307205,773529912,1294757372,1396182291,1695183700,1986661051,2177026350,2456956037,2730485921,2820302411,3259730800,3345764771,3516065817,3600352804,4094571909,275423344,430227734,506948616,659060556,883997877,958139571,1322822218,1537002063,1747873779,1955562222,2024104815,2227730452,2361852424,2428436474,2756734187,3204031479,3329325298] (Int.toNat i_0) 0)
theorem ZeG.snd {i_0:Int} {r:Int} (h:ZeG N i_0=some r):SndQ Tryz.prog 194 [oI i_0] (ZeG.rs r):=fun st=>
 sO ZeG.B Tryz.func194 fun g0 w0 R hE=>by
  unfold ZeG at h
  obtain ⟨c1,c2,h1⟩:=ck2 h
  obtain rfl:=Zab h1
  exact af fol hE [.r [],.r [(0,{m:=3})]] [] 0 [] (aI c1 c2)
noncomputable def Zan.B:Code:=Tryz.f158.body.getD .skip
noncomputable def Zan.rs (r:(List Int)):List CV:=[.agg [L.arr .u8 32 r]]
noncomputable def Zan.p3 (N:Nat) (c2_:(Int×(List Int))→Option (List Int)) (c1_:(Int×(List Int))→Option (List Int)) (x1:ByteArray) (at_2 i_112:Int) (h_111:List Int) (c3_:(Int×(List Int))→Option (List Int)):(Int×(List Int))→Option (List Int):=fun (j_166,w_167)=>
 if (decide (j_166<4))=true then
  chk (0≤i_112)<|
  chk (i_112<64)<|
  chk (0≤(w64 ((w64 (at_2+(w64 (4*i_112))))+j_166)))<|
  chk ((w64 ((w64 (at_2+(w64 (4*i_112))))+j_166))<((ByteArray.size x1:Nat):Int))<|
  c3_ (w64 (j_166+1),List.set w_167 (Int.toNat i_112) (v32 ((v32 ((List.getD w_167 (Int.toNat i_112) 0)*256))+(v32 (((UInt8.toNat (List.getD (Array.toList (ByteArray.data x1)) (Int.toNat (w64 ((w64 (at_2+(w64 (4*i_112))))+j_166))) 0):Nat):Int))))))
 else
 c2_ (w64 (i_112+1),w_167)
noncomputable def Zan.p6 (N:Nat) (c1_:(Int×(List Int))→Option (List Int)) (x1:ByteArray) (at_2:Int) (s_208:List Int) (c6_:(Int×(List Int))→Option (List Int)):(Int×(List Int))→Option (List Int):=fun (i_216,h_217)=>
 if (decide (i_216<8))=true then
  chk (0≤i_216)<|
  c6_ (w64 (i_216+1),List.set h_217 (Int.toNat i_216) (v32 ((List.getD h_217 (Int.toNat i_216) 0)+(List.getD s_208 (Int.toNat i_216) 0))))
 else
 c1_ (w64 (at_2+64),h_217)
noncomputable def Zan.p5 (N:Nat) (c1_:(Int×(List Int))→Option (List Int)) (x1:ByteArray) (at_2:Int) (h_111 w_193:List Int) (c5_:(Int×(List Int))→Option (List Int)):(Int×(List Int))→Option (List Int):=fun (i_198,s_208)=>
 if (decide (i_198<64))=true then
  optE (Zbd N (List.getD s_208 4 0) 6) fun x209=>
  optE (Zbd N (List.getD s_208 4 0) 11) fun x210=>
  optE (Zbd N (List.getD s_208 4 0) 25) fun x211=>
  optE (ZeG N i_198) fun x212=>
  chk (0≤i_198)<|
  optE (Zbd N (List.getD s_208 0 0) 2) fun x213=>
  optE (Zbd N (List.getD s_208 0 0) 13) fun x214=>
  optE (Zbd N (List.getD s_208 0 0) 22) fun x215=>
  c5_ (w64 (i_198+1),[v32 ((v32 ((v32 ((v32 ((v32 ((List.getD s_208 7 0)+(bitsOf .xor .u32 (bitsOf .xor .u32 x209 x210) x211)))+(bitsOf .or .u32 (bitsOf .and .u32 (List.getD s_208 4 0) (List.getD s_208 5 0)) (bitsOf .and .u32 (v32 (4294967295-(List.getD s_208 4 0))) (List.getD s_208 6 0)))))+x212))+(List.getD w_193 (Int.toNat i_198) 0)))+(v32 ((bitsOf .xor .u32 (bitsOf .xor .u32 x213 x214) x215)+(bitsOf .or .u32 (bitsOf .or .u32 (bitsOf .and .u32 (List.getD s_208 0 0) (List.getD s_208 1 0)) (bitsOf .and .u32 (List.getD s_208 0 0) (List.getD s_208 2 0))) (bitsOf .and .u32 (List.getD s_208 1 0) (List.getD s_208 2 0)))))),List.getD s_208 0 0,List.getD s_208 1 0,List.getD s_208 2 0,v32 ((List.getD s_208 3 0)+(v32 ((v32 ((v32 ((v32 ((List.getD s_208 7 0)+(bitsOf .xor .u32 (bitsOf .xor .u32 x209 x210) x211)))+(bitsOf .or .u32 (bitsOf .and .u32 (List.getD s_208 4 0) (List.getD s_208 5 0)) (bitsOf .and .u32 (v32 (4294967295-(List.getD s_208 4 0))) (List.getD s_208 6 0)))))+x212))+(List.getD w_193 (Int.toNat i_198) 0)))),List.getD s_208 4 0,List.getD s_208 5 0,List.getD s_208 6 0])
 else
 loopN (Zan.p6 N c1_ x1 at_2 s_208) N (0,h_111)
noncomputable def Zan.p4 (N:Nat) (c1_:(Int×(List Int))→Option (List Int)) (x1:ByteArray) (at_2:Int) (h_111:List Int) (c4_:(Int×(List Int))→Option (List Int)):(Int×(List Int))→Option (List Int):=fun (i_168,w_193)=>
 if (decide (i_168<64))=true then
  chk (0≤(w64 (i_168-15)))<|
  chk ((w64 (i_168-15))<64)<|
  optE (Zbd N (List.getD w_193 (Int.toNat (w64 (i_168-15))) 0) 7) fun x194=>
  optE (Zbd N (List.getD w_193 (Int.toNat (w64 (i_168-15))) 0) 18) fun x195=>
  chk (0≤(w64 (i_168-2)))<|
  chk ((w64 (i_168-2))<64)<|
  optE (Zbd N (List.getD w_193 (Int.toNat (w64 (i_168-2))) 0) 17) fun x196=>
  optE (Zbd N (List.getD w_193 (Int.toNat (w64 (i_168-2))) 0) 19) fun x197=>
  chk (0≤(w64 (i_168-16)))<|
  chk ((w64 (i_168-16))<64)<|
  chk (0≤(w64 (i_168-7)))<|
  chk ((w64 (i_168-7))<64)<|
  chk (0≤i_168)<|
  c4_ (w64 (i_168+1),List.set w_193 (Int.toNat i_168) (v32 ((v32 ((v32 ((List.getD w_193 (Int.toNat (w64 (i_168-16))) 0)+(bitsOf .xor .u32 (bitsOf .xor .u32 x194 x195) (v32 (Int.tdiv (List.getD w_193 (Int.toNat (w64 (i_168-15))) 0) 8)))))+(List.getD w_193 (Int.toNat (w64 (i_168-7))) 0)))+(bitsOf .xor .u32 (bitsOf .xor .u32 x196 x197) (v32 (Int.tdiv (List.getD w_193 (Int.toNat (w64 (i_168-2))) 0) 1024))))))
 else
 loopN (Zan.p5 N c1_ x1 at_2 h_111 w_193) N (0,h_111)
noncomputable def Zan.p2 (N:Nat) (c1_:(Int×(List Int))→Option (List Int)) (x1:ByteArray) (at_2:Int) (h_111:List Int) (c2_:(Int×(List Int))→Option (List Int)):(Int×(List Int))→Option (List Int):=fun (i_112,w_165)=>
 if (decide (i_112<16))=true then
  loopN (Zan.p3 N c2_ c1_ x1 at_2 i_112 h_111) N (0,w_165)
 else
 loopN (Zan.p4 N c1_ x1 at_2 h_111) N (16,w_165)
noncomputable def Zan.p7 (N:Nat) (h_111:List Int) (c7_:(Int×(List Int))→Option (List Int)):(Int×(List Int))→Option (List Int):=fun (i_218,out_219)=>
 if (decide (i_218<32))=true then
  chk (0≤(w64 (Int.tdiv i_218 4)))<|
  chk ((w64 (Int.tdiv i_218 4))<8)<|
  chk (0≤(v64 (w64 (24-(w64 (8*(Int.tmod i_218 4)))))))<|
  chk (0≤i_218)<|
  c7_ (w64 (i_218+1),List.set out_219 (Int.toNat i_218) (v8 (Int.tmod (shrOf .u32 (List.getD h_111 (Int.toNat (w64 (Int.tdiv i_218 4))) 0) (v64 (w64 (24-(w64 (8*(Int.tmod i_218 4))))))) 256)))
 else
 some out_219
noncomputable def Zan.p1 (N:Nat) (x1:ByteArray) (c1_:(Int×(List Int))→Option (List Int)):(Int×(List Int))→Option (List Int):=fun (at_2,h_111)=>
 if (decide (at_2<((ByteArray.size x1:Nat):Int)))=true then
  loopN (Zan.p2 N c1_ x1 at_2 h_111) N (0,List.replicate 64 0)
 else
 loopN (Zan.p7 N h_111) N (0,List.replicate 32 0)
noncomputable def Zan (N:Nat) (s_0:ByteArray):Option (List Int):=
 optE (ZaS N s_0) fun x1=>
 loopN (Zan.p1 N x1) N (0,[1779033703,3144134277,1013904242,2773480762,1359893119,2600822924,528734635,1541459225])
noncomputable def Zan.p3.S (x1:ByteArray) (at_2 i_112 j_166:Int) (h_111 w_167:List Int) (st:LL):S:=mkS 225 [(2,sA 2),(3,sA 3),(4,.one (.l (L.str x1))),(5,sI at_2),(6,sA 6),(7,sI i_112),(8,sI j_166)] [(2,.cells [L.arr .u8 32 (List.replicate 32 0)]),(3,.cells [L.arr .u32 8 h_111]),(6,.cells [L.arr .u32 64 w_167])] st
noncomputable def Zan.p6.S (x1:ByteArray) (at_2 i_216:Int) (h_217 s_208:List Int) (st:LL):S:=mkS 225 [(2,sA 2),(3,sA 3),(4,.one (.l (L.str x1))),(5,sI at_2),(12,sA 12),(16,sI i_216)] [(2,.cells [L.arr .u8 32 (List.replicate 32 0)]),(3,.cells [L.arr .u32 8 h_217]),(12,.cells [L.arr .u32 8 s_208])] st
noncomputable def Zan.p5.S (x1:ByteArray) (at_2 i_198:Int) (h_111 w_193 s_208:List Int) (st:LL):S:=mkS 225 [(2,sA 2),(3,sA 3),(4,.one (.l (L.str x1))),(5,sI at_2),(6,sA 6),(12,sA 12),(13,sI i_198)] [(2,.cells [L.arr .u8 32 (List.replicate 32 0)]),(3,.cells [L.arr .u32 8 h_111]),(6,.cells [L.arr .u32 64 w_193]),(12,.cells [L.arr .u32 8 s_208])] st
noncomputable def Zan.p4.S (x1:ByteArray) (at_2 i_168:Int) (h_111 w_193:List Int) (st:LL):S:=mkS 225 [(2,sA 2),(3,sA 3),(4,.one (.l (L.str x1))),(5,sI at_2),(6,sA 6),(9,sI i_168)] [(2,.cells [L.arr .u8 32 (List.replicate 32 0)]),(3,.cells [L.arr .u32 8 h_111]),(6,.cells [L.arr .u32 64 w_193])] st
noncomputable def Zan.p2.S (x1:ByteArray) (at_2 i_112:Int) (h_111 w_165:List Int) (st:LL):S:=mkS 225 [(2,sA 2),(3,sA 3),(4,.one (.l (L.str x1))),(5,sI at_2),(6,sA 6),(7,sI i_112)] [(2,.cells [L.arr .u8 32 (List.replicate 32 0)]),(3,.cells [L.arr .u32 8 h_111]),(6,.cells [L.arr .u32 64 w_165])] st
noncomputable def Zan.p7.S (i_218:Int) (h_111 out_219:List Int) (st:LL):S:=mkS 225 [(2,sA 2),(3,sA 3),(17,sA 17),(18,sI i_218)] [(2,.cells [L.arr .u8 32 (List.replicate 32 0)]),(3,.cells [L.arr .u32 8 h_111]),(17,.cells [L.arr .u8 32 out_219])] st
noncomputable def Zan.p1.S (x1:ByteArray) (at_2:Int) (h_111:List Int) (st:LL):S:=mkS 225 [(2,sA 2),(3,sA 3),(4,.one (.l (L.str x1))),(5,sI at_2)] [(2,.cells [L.arr .u8 32 (List.replicate 32 0)]),(3,.cells [L.arr .u32 8 h_111])] st
theorem Zan.p3_ok {x1 at_2 i_112 j_166 h_111 w_167 st r c2_ c1_ c3_ J2 J1 J3} (h:Zan.p3 N c2_ c1_ x1 at_2 i_112 h_111 c3_ (j_166,w_167)=some r) (hE:En Tryz.f158 g0 w0 (Zan.rs r) st R) (hc2 : ∀i_112 w_165,c2_ (i_112,w_165)=some r→At g0 w0 (Zan.p2.S x1 at_2 i_112 h_111 w_165 st) J2) (hc1 : ∀at_2 h_111,c1_ (at_2,h_111)=some r→At g0 w0 (Zan.p1.S x1 at_2 h_111 st) J1) (hc3 : ∀j_166 w_167,c3_ (j_166,w_167)=some r→At g0 w0 (Zan.p3.S x1 at_2 i_112 j_166 h_111 w_167 st) J3):At g0 w0 (Zan.p3.S x1 at_2 i_112 j_166 h_111 w_167 st) (XK Tryz.prog R (.c (csub Zan.B [1,1,1,0,1,0,0,1,0,0,1,0,1,0,0,1,0,0,1,0,0]) :: .h J3 :: [.b 4,.b 3,.c (csub Zan.B [1,1,1,0,1,0,0,1,0,0,1,0,1,0,0,1,1]),.h J2,.b 2,.c (csub Zan.B [1,1,1,0,1,0,0,1,0,0,1,1]),.b 1,.c (csub Zan.B [1,1,1,0,1,0,0,1,1]),.h J1,.b 0,.c (csub Zan.B [1,1,1,1])])):=by
 unfold Zan.p3 at h
 refine iteB h (fun c293 h1=>?_) (fun c293 h2=>?_)
 ·obtain ⟨c294,c295,c296,c297,h3⟩:=ck4 h1
  exact and_ fol [.r [],.c true,.d {ds:=[],hv:=65536,Hs:=[65536]},.r []] [2,3,4,5,6,7,8] [2,3,6] (aN c293 c294 c295 c296 c297 c294 c295) (hc3 (w64 (j_166+1)) (List.set w_167 (Int.toNat i_112) (v32 ((v32 ((List.getD w_167 (Int.toNat i_112) 0)*256))+(v32 (((UInt8.toNat (List.getD (Array.toList (ByteArray.data x1)) (Int.toNat (w64 ((w64 (at_2+(w64 (4*i_112))))+j_166))) 0):Nat):Int)))))) h3)
 ·exact an fol [.r [],.c false,.r []] [2,3,4,5,6,7] [2,3,6] c293 (hc2 (w64 (i_112+1)) w_167 h2)
theorem Zan.p6_ok {x1 at_2 i_216 h_217 s_208 st r c1_ c6_ J1 J6} (h:Zan.p6 N c1_ x1 at_2 s_208 c6_ (i_216,h_217)=some r) (hE:En Tryz.f158 g0 w0 (Zan.rs r) st R) (hc1 : ∀at_2 h_111,c1_ (at_2,h_111)=some r→At g0 w0 (Zan.p1.S x1 at_2 h_111 st) J1) (hc6 : ∀i_216 h_217,c6_ (i_216,h_217)=some r→At g0 w0 (Zan.p6.S x1 at_2 i_216 h_217 s_208 st) J6):At g0 w0 (Zan.p6.S x1 at_2 i_216 h_217 s_208 st) (XK Tryz.prog R (.c (csub Zan.B [1,1,1,0,1,0,0,1,0,0,1,1,1,1,1,1,0,0]) :: .h J6 :: [.b 10,.b 1,.c (csub Zan.B [1,1,1,0,1,0,0,1,1]),.h J1,.b 0,.c (csub Zan.B [1,1,1,1])])):=by
 unfold Zan.p6 at h
 refine iteB h (fun c376 h4=>?_) (fun c376 h5=>?_)
 ·obtain ⟨c377,h6⟩:=ZaI h4
  exact and_ fol [.r [],.c true,.d {ds:=[],hv:=512,Hs:=[512]},.r []] [2,3,4,5,12,16] [2,3,12] (aN c376 c377 (oD c376) c377 (oD c376) c377 (oD c376)) (hc6 (w64 (i_216+1)) (List.set h_217 (Int.toNat i_216) (v32 ((List.getD h_217 (Int.toNat i_216) 0)+(List.getD s_208 (Int.toNat i_216) 0)))) h6)
 ·exact an fol [.r [],.c false,.r []] [2,3,4,5] [2,3] c376 (hc1 (w64 (at_2+64)) h_217 h5)
theorem Zan.p5_ok {x1 at_2 i_198 h_111 w_193 s_208 st r c1_ c5_ J1 J5} (h:Zan.p5 N c1_ x1 at_2 h_111 w_193 c5_ (i_198,s_208)=some r) (hE:En Tryz.f158 g0 w0 (Zan.rs r) st R) (hc1 : ∀at_2 h_111,c1_ (at_2,h_111)=some r→At g0 w0 (Zan.p1.S x1 at_2 h_111 st) J1) (hc5 : ∀i_198 s_208,c5_ (i_198,s_208)=some r→At g0 w0 (Zan.p5.S x1 at_2 i_198 h_111 w_193 s_208 st) J5):At g0 w0 (Zan.p5.S x1 at_2 i_198 h_111 w_193 s_208 st) (XK Tryz.prog R (.c (csub Zan.B [1,1,1,0,1,0,0,1,0,0,1,1,1,1,0,1,0,0]) :: .h J5 :: [.b 8,.c (csub Zan.B [1,1,1,0,1,0,0,1,0,0,1,1,1,1,1]),.b 1,.c (csub Zan.B [1,1,1,0,1,0,0,1,1]),.h J1,.b 0,.c (csub Zan.B [1,1,1,1])])):=by
 unfold Zan.p5 at h
 refine iteB h (fun c365 h7=>?_) (fun c365 h8=>?_)
 ·obtain ⟨x209,c366,h9⟩:=Zad h7
  obtain ⟨x210,c367,h10⟩:=Zad h9
  obtain ⟨x211,c368,h11⟩:=Zad h10
  obtain ⟨x212,c369,h12⟩:=Zad h11
  obtain ⟨c370,h13⟩:=ZaI h12
  obtain ⟨x213,c371,h14⟩:=Zad h13
  obtain ⟨x214,c372,h15⟩:=Zad h14
  obtain ⟨x215,c373,h16⟩:=Zad h15
  exact and_ fol [.r [],.c true,.d {ds:=[(4,q1 [.one (L.int .u32 x209)]),(7,q1 [.one (L.int .u32 x210)]),(11,q1 [.one (L.int .u32 x211)]),(28,q1 [.one (L.int .u32 x212)])],hv:=0,Hs:=[]},.d {ds:=[(2,q1 [.one (L.int .u32 x213)]),(5,q1 [.one (L.int .u32 x214)]),(9,q1 [.one (L.int .u32 x215)])],hv:=0,Hs:=[]},.r [(19,{m:=3})],.r []] [2,3,4,5,6,12,13] [2,3,6,12] (aI c365 (ix 7 8 (ix 4 8 (aI (Zbd.snd c366) (ix 4 8 (aI (Zbd.snd c367) (ix 4 8 (aI (Zbd.snd c368) (ix 4 8 (ix 5 8 (ix 4 8 (ix 6 8 (aK (ZeG.snd c369) c370 (oD c365) (ix 0 8 (aI (Zbd.snd c371) (ix 0 8 (aI (Zbd.snd c372) (ix 0 8 (aI (Zbd.snd c373) (ix 0 8 (ix 1 8 (ix 0 8 (ix 2 8 (ix 1 8 (ix 2 8 (ix 0 8 (ix 1 8 (ix 2 8 (ix 3 8 (ix 4 8 (ix 5 8 (aI (leI 0 6) (ltI 6 8))))))))))))))))))))))))))))))))) (hc5 (w64 (i_198+1)) [v32 ((v32 ((v32 ((v32 ((v32 ((List.getD s_208 7 0)+(bitsOf .xor .u32 (bitsOf .xor .u32 x209 x210) x211)))+(bitsOf .or .u32 (bitsOf .and .u32 (List.getD s_208 4 0) (List.getD s_208 5 0)) (bitsOf .and .u32 (v32 (4294967295-(List.getD s_208 4 0))) (List.getD s_208 6 0)))))+x212))+(List.getD w_193 (Int.toNat i_198) 0)))+(v32 ((bitsOf .xor .u32 (bitsOf .xor .u32 x213 x214) x215)+(bitsOf .or .u32 (bitsOf .or .u32 (bitsOf .and .u32 (List.getD s_208 0 0) (List.getD s_208 1 0)) (bitsOf .and .u32 (List.getD s_208 0 0) (List.getD s_208 2 0))) (bitsOf .and .u32 (List.getD s_208 1 0) (List.getD s_208 2 0)))))),List.getD s_208 0 0,List.getD s_208 1 0,List.getD s_208 2 0,v32 ((List.getD s_208 3 0)+(v32 ((v32 ((v32 ((v32 ((List.getD s_208 7 0)+(bitsOf .xor .u32 (bitsOf .xor .u32 x209 x210) x211)))+(bitsOf .or .u32 (bitsOf .and .u32 (List.getD s_208 4 0) (List.getD s_208 5 0)) (bitsOf .and .u32 (v32 (4294967295-(List.getD s_208 4 0))) (List.getD s_208 6 0)))))+x212))+(List.getD w_193 (Int.toNat i_198) 0)))),List.getD s_208 4 0,List.getD s_208 5 0,List.getD s_208 6 0] h16)
 ·exact aq fol [.r [],.c false,.r []] [2,3,4,5,12,16] [2,3,12] c365 (At.loop N (At.loopN (fun y:Int×(List Int)=>Zan.p6.S x1 at_2 y.1 y.2 s_208 st) (fun c J hc y h=>Zan.p6_ok (i_216:=y.1) (h_217:=y.2) h hE hc1 (fun i_216 h_217=>hc (i_216,h_217))) N (0,h_111) h8))
theorem Zan.p4_ok {x1 at_2 i_168 h_111 w_193 st r c1_ c4_ J1 J4} (h:Zan.p4 N c1_ x1 at_2 h_111 c4_ (i_168,w_193)=some r) (hE:En Tryz.f158 g0 w0 (Zan.rs r) st R) (hc1 : ∀at_2 h_111,c1_ (at_2,h_111)=some r→At g0 w0 (Zan.p1.S x1 at_2 h_111 st) J1) (hc4 : ∀i_168 w_193,c4_ (i_168,w_193)=some r→At g0 w0 (Zan.p4.S x1 at_2 i_168 h_111 w_193 st) J4):At g0 w0 (Zan.p4.S x1 at_2 i_168 h_111 w_193 st) (XK Tryz.prog R (.c (csub Zan.B [1,1,1,0,1,0,0,1,0,0,1,1,0,1,0,0]) :: .h J4 :: [.b 6,.c (csub Zan.B [1,1,1,0,1,0,0,1,0,0,1,1,1]),.b 1,.c (csub Zan.B [1,1,1,0,1,0,0,1,1]),.h J1,.b 0,.c (csub Zan.B [1,1,1,1])])):=by
 unfold Zan.p4 at h
 refine iteB h (fun c338 h17=>?_) (fun c338 h18=>?_)
 ·obtain ⟨c339,c340,h19⟩:=ck2 h17
  obtain ⟨x194,c341,h20⟩:=Zad h19
  obtain ⟨x195,c342,h21⟩:=Zad h20
  obtain ⟨c343,c344,h22⟩:=ck2 h21
  obtain ⟨x196,c345,h23⟩:=Zad h22
  obtain ⟨x197,c346,h24⟩:=Zad h23
  obtain ⟨c347,c348,c349,c350,c351,h25⟩:=ck5 h24
  exact and_ fol [.r [],.c true,.d {ds:=[(4,q1 [.one (L.int .u32 x194)]),(9,q1 [.one (L.int .u32 x195)])],hv:=0,Hs:=[]},.d {ds:=[(4,q1 [.one (L.int .u32 x196)]),(9,q1 [.one (L.int .u32 x197)])],hv:=0,Hs:=[]},.d {ds:=[],hv:=32768,Hs:=[32768]},.r []] [2,3,4,5,6,9] [2,3,6] (aO c338 c339 c340 (Zbd.snd c341) c339 c340 (Zbd.snd c342) (aO c339 c340 (neI 8) c343 c344 (Zbd.snd c345) c343 (aO c344 (Zbd.snd c346) c343 c344 (neI 1024) c347 c348 (aK c349 c350 c351 (oD c338))))) (hc4 (w64 (i_168+1)) (List.set w_193 (Int.toNat i_168) (v32 ((v32 ((v32 ((List.getD w_193 (Int.toNat (w64 (i_168-16))) 0)+(bitsOf .xor .u32 (bitsOf .xor .u32 x194 x195) (v32 (Int.tdiv (List.getD w_193 (Int.toNat (w64 (i_168-15))) 0) 8)))))+(List.getD w_193 (Int.toNat (w64 (i_168-7))) 0)))+(bitsOf .xor .u32 (bitsOf .xor .u32 x196 x197) (v32 (Int.tdiv (List.getD w_193 (Int.toNat (w64 (i_168-2))) 0) 1024)))))) h25)
 ·exact aq fol [.r [],.c false,.r [],.r []] [2,3,4,5,6,12,13] [2,3,6,12] c338 (At.loop N (At.loopN (fun y:Int×(List Int)=>Zan.p5.S x1 at_2 y.1 h_111 w_193 y.2 st) (fun c J hc y h=>Zan.p5_ok (i_198:=y.1) (s_208:=y.2) h hE hc1 (fun i_198 s_208=>hc (i_198,s_208))) N (0,h_111) h18))
theorem Zan.p2_ok {x1 at_2 i_112 h_111 w_165 st r c1_ c2_ J1 J2} (h:Zan.p2 N c1_ x1 at_2 h_111 c2_ (i_112,w_165)=some r) (hE:En Tryz.f158 g0 w0 (Zan.rs r) st R) (hc1 : ∀at_2 h_111,c1_ (at_2,h_111)=some r→At g0 w0 (Zan.p1.S x1 at_2 h_111 st) J1) (hc2 : ∀i_112 w_165,c2_ (i_112,w_165)=some r→At g0 w0 (Zan.p2.S x1 at_2 i_112 h_111 w_165 st) J2):At g0 w0 (Zan.p2.S x1 at_2 i_112 h_111 w_165 st) (XK Tryz.prog R (.c (csub Zan.B [1,1,1,0,1,0,0,1,0,0,1,0,1,0,0]) :: .h J2 :: [.b 2,.c (csub Zan.B [1,1,1,0,1,0,0,1,0,0,1,1]),.b 1,.c (csub Zan.B [1,1,1,0,1,0,0,1,1]),.h J1,.b 0,.c (csub Zan.B [1,1,1,1])])):=by
 unfold Zan.p2 at h
 refine iteB h (fun c287 h26=>?_) (fun c287 h27=>?_)
 ·exact aq fol [.r [],.c true,.r []] [2,3,4,5,6,7,8] [2,3,6] c287 (At.loop N (At.loopN (fun y:Int×(List Int)=>Zan.p3.S x1 at_2 i_112 y.1 h_111 y.2 st) (fun c J hc y h=>Zan.p3_ok (j_166:=y.1) (w_167:=y.2) h hE hc2 hc1 (fun j_166 w_167=>hc (j_166,w_167))) N (0,w_165) h26))
 ·exact aq fol [.r [],.c false,.r []] [2,3,4,5,6,9] [2,3,6] c287 (At.loop N (At.loopN (fun y:Int×(List Int)=>Zan.p4.S x1 at_2 y.1 h_111 y.2 st) (fun c J hc y h=>Zan.p4_ok (i_168:=y.1) (w_193:=y.2) h hE hc1 (fun i_168 w_193=>hc (i_168,w_193))) N (16,w_165) h27))
theorem Zan.p7_ok {i_218 h_111 out_219 st r c7_ J7} (h:Zan.p7 N h_111 c7_ (i_218,out_219)=some r) (hE:En Tryz.f158 g0 w0 (Zan.rs r) st R) (hc7 : ∀i_218 out_219,c7_ (i_218,out_219)=some r→At g0 w0 (Zan.p7.S i_218 h_111 out_219 st) J7):At g0 w0 (Zan.p7.S i_218 h_111 out_219 st) (XK Tryz.prog R (.c (csub Zan.B [1,1,1,1,1,0,1,0,0]) :: .h J7 :: [.b 12,.c (csub Zan.B [1,1,1,1,1,1])])):=by
 unfold Zan.p7 at h
 refine iteB h (fun c383 h28=>?_) (fun c383 h29=>?_)
 ·obtain ⟨c384,c385,c386,c387,h30⟩:=ck4 h28
  exact an fol [.r [],.c true,.r [],.r []] [2,3,17,18] [2,3,17] (aO c383 (neI 4) c384 c385 (neI 4) c386 (neI 256) (aI c387 (oD c383))) (hc7 (w64 (i_218+1)) (List.set out_219 (Int.toNat i_218) (v8 (Int.tmod (shrOf .u32 (List.getD h_111 (Int.toNat (w64 (Int.tdiv i_218 4))) 0) (v64 (w64 (24-(w64 (8*(Int.tmod i_218 4))))))) 256))) h30)
 ·obtain rfl:=Zab h29
  exact af fol hE [.r [],.c false,.r []] [] 0 [] c383
theorem Zan.p1_ok {x1 at_2 h_111 st r c1_ J1} (h:Zan.p1 N x1 c1_ (at_2,h_111)=some r) (hE:En Tryz.f158 g0 w0 (Zan.rs r) st R) (hc1 : ∀at_2 h_111,c1_ (at_2,h_111)=some r→At g0 w0 (Zan.p1.S x1 at_2 h_111 st) J1):At g0 w0 (Zan.p1.S x1 at_2 h_111 st) (XK Tryz.prog R (.c (csub Zan.B [1,1,1,0,1,0,0]) :: .h J1 :: [.b 0,.c (csub Zan.B [1,1,1,1])])):=by
 unfold Zan.p1 at h
 refine iteB h (fun c195 h31=>?_) (fun c195 h32=>?_)
 ·exact aq fol [.r [],.c true,.r [],.r []] [2,3,4,5,6,7] [2,3,6] c195 (At.loop N (At.loopN (fun y:Int×(List Int)=>Zan.p2.S x1 at_2 y.1 h_111 y.2 st) (fun c J hc y h=>Zan.p2_ok (i_112:=y.1) (w_165:=y.2) h hE hc1 (fun i_112 w_165=>hc (i_112,w_165))) N (0,List.replicate 64 0) h31))
 ·exact aq fol [.r [],.c false,.r [],.r []] [2,3,17,18] [2,3,17] c195 (At.loop N (At.loopN (fun y:Int×(List Int)=>Zan.p7.S y.1 h_111 y.2 st) (fun c J hc y h=>Zan.p7_ok (i_218:=y.1) (out_219:=y.2) h hE (fun i_218 out_219=>hc (i_218,out_219))) N (0,List.replicate 32 0) h32))
theorem Zan.snd {s_0:ByteArray} {r:(List Int)} (h:Zan N s_0=some r):SndQ Tryz.prog 158 [.one (L.str s_0)] (Zan.rs r):=fun st=>
 sO Zan.B Tryz.func158 fun g0 w0 R hE=>by
  unfold Zan at h
  obtain ⟨x1,c1,h33⟩:=Zad h
  exact aq fol [.r [],.r [(0,{m:=3})],.r [(1,q1 [.one (L.str x1)])],.r []] [2,3,4,5] [2,3] (ZaS.snd c1) (At.loop N (At.loopN (fun y:Int×(List Int)=>Zan.p1.S x1 y.1 y.2 st) (fun c J hc y h=>Zan.p1_ok (at_2:=y.1) (h_111:=y.2) h hE (fun at_2 h_111=>hc (at_2,h_111))) N (0,[1779033703,3144134277,1013904242,2773480762,1359893119,2600822924,528734635,1541459225]) h33))
noncomputable def ZbE.B:Code:=Tryz.f100.body.getD .skip
noncomputable def ZbE.rs (r:(List Int)):List CV:=[.agg [L.arr .u8 32 r]]
noncomputable def ZbE.p1 (N:Nat) (x1:List Int) (c1_:(ByteArray×Int)→Option (List Int)):(ByteArray×Int)→Option (List Int):=fun (b_4,i_2)=>
 if (decide (i_2<32))=true then
  chk (0≤i_2)<|
  chk (isB [[L.int .u8 (List.getD x1 (Int.toNat i_2) 0)]]=true)<|
  chk (ByteArray.size b_4+ByteArray.size (istr (List.map leafI [[L.int .u8 (List.getD x1 (Int.toNat i_2) 0)]]))≤9223372036854775807)<|
  c1_ (b_4++(istr (List.map leafI [[L.int .u8 (List.getD x1 (Int.toNat i_2) 0)]])),w64 (i_2+1))
 else
 optE (Zan N b_4) fun x5=>
 some x5
noncomputable def ZbE (N:Nat) (s_0:ByteArray):Option (List Int):=
 optE (Zan N s_0) fun x1=>
 loopN (ZbE.p1 N x1) N ((ByteArray.mk #[]),0)
noncomputable def ZbE.p1.S (b_4:ByteArray) (i_2:Int) (x1:List Int) (st:LL):S:=mkS 21 [(2,sA 2),(3,sA 3),(4,.one (.l (L.str b_4))),(5,sI i_2)] [(2,.cells [L.arr .u8 32 (List.replicate 32 0)]),(3,.cells [L.arr .u8 32 x1])] st
theorem ZbE.p1_ok {b_4 i_2 x1 st r c1_ J1} (h:ZbE.p1 N x1 c1_ (b_4,i_2)=some r) (hE:En Tryz.f100 g0 w0 (ZbE.rs r) st R) (hc1 : ∀b_4 i_2,c1_ (b_4,i_2)=some r→At g0 w0 (ZbE.p1.S b_4 i_2 x1 st) J1):At g0 w0 (ZbE.p1.S b_4 i_2 x1 st) (XK Tryz.prog R (.c (csub ZbE.B [1,1,1,0,1,0,0]) :: .h J1 :: [.b 0,.c (csub ZbE.B [1,1,1,1])])):=by
 unfold ZbE.p1 at h
 refine iteB h (fun c7 h1=>?_) (fun c7 h2=>?_)
 ·obtain ⟨c8,c9,c10,h3⟩:=ck3 h1
  exact an fol [.r [],.c true,.r [],.r []] [2,3,4,5] [2,3] (aN c7 c8 (oD c7) z0 (eN (1)) c9 c10) (hc1 (b_4++(istr (List.map leafI [[L.int .u8 (List.getD x1 (Int.toNat i_2) 0)]]))) (w64 (i_2+1)) h3)
 ·obtain ⟨x5,c11,h4⟩:=Zad h2
  obtain rfl:=Zab h4
  exact af fol hE [.r [],.c false,.r [(1,q1 [.agg [L.arr .u8 32 x5]])]] [] 0 [] (aI c7 (Zan.snd c11))
theorem ZbE.snd {s_0:ByteArray} {r:(List Int)} (h:ZbE N s_0=some r):SndQ Tryz.prog 100 [.one (L.str s_0)] (ZbE.rs r):=fun st=>
 sO ZbE.B Tryz.func100 fun g0 w0 R hE=>by
  unfold ZbE at h
  obtain ⟨x1,c1,h5⟩:=Zad h
  exact aq fol [.r [],.r [(1,q1 [.agg [L.arr .u8 32 x1]])],.r [],.r []] [2,3,4,5] [2,3] (Zan.snd c1) (At.loop N (At.loopN (fun y:ByteArray×Int=>ZbE.p1.S y.1 y.2 x1 st) (fun c J hc y h=>ZbE.p1_ok (b_4:=y.1) (i_2:=y.2) h hE (fun b_4 i_2=>hc (b_4,i_2))) N ((ByteArray.mk #[]),0) h5))
noncomputable def ZcC.B:Code:=Tryz.f54.body.getD .skip
noncomputable def ZcC.rs (r:(List Int)):List CV:=[.agg [L.arr .u8 32 r]]
noncomputable def ZcC (N:Nat) (h_0:Zai):Option (List Int):=
 optE (ZcE N h_0) fun x1=>
 if (!x1)=true then
  some (List.replicate 32 0)
 else
 optE (Zdn N h_0) fun x2=>
 optE (ZbE N x2) fun x3=>
 some x3
theorem ZcC.snd {h_0:Zai} {r:(List Int)} (h:ZcC N h_0=some r):SndQ Tryz.prog 54 [.agg h_0.ls] (ZcC.rs r):=fun st=>
 sO ZcC.B Tryz.func54 fun g0 w0 R hE=>by
  unfold ZcC at h
  obtain ⟨x1,c1,h1⟩:=Zad h
  let o1:List PS:=[.r [],.r [(1,q1 [oB x1])]]
  refine iteB h1 (fun c2 h2=>?_) (fun c2 h3=>?_)
  ·obtain rfl:=Zab h2
   exact af fol hE (o1 ++ [.c true,.r []]) [] 0 [] (aI (ZcE.snd c1) c2)
  ·obtain ⟨x2,c3,h4⟩:=Zad h3
   obtain ⟨x3,c4,h5⟩:=Zad h4
   obtain rfl:=Zab h5
   exact af fol hE (o1 ++ [.c false,.r [(1,q1 [.one (L.str x2)]),(2,q1 [.agg [L.arr .u8 32 x3]])]]) [] 0 [] (aK (ZcE.snd c1) c2 (Zdn.snd c3) (ZbE.snd c4))
noncomputable def ZdB.B:Code:=Tryz.f198.body.getD .skip
noncomputable def ZdB.rs (r:(List Int)):List CV:=[.agg [L.arr .u64 4 r]]
noncomputable def ZdB (N:Nat) (a_0_0:List Int) (i_1:Int):Option (List Int):=
 chk (0≤(w64 (Int.tdiv i_1 64)))<|
 chk ((w64 (Int.tdiv i_1 64))<4)<|
 chk (0≤(v64 (Int.tmod i_1 64)))<|
 some (List.set a_0_0 (Int.toNat (w64 (Int.tdiv i_1 64))) (bitsOf .or .u64 (List.getD a_0_0 (Int.toNat (w64 (Int.tdiv i_1 64))) 0) (shlOf .u64 1 (v64 (Int.tmod i_1 64)))))
theorem ZdB.snd {a_0_0:List Int} {i_1:Int} {r:(List Int)} (h:ZdB N a_0_0 i_1=some r):SndQ Tryz.prog 198 [.agg [L.arr .u64 4 a_0_0],oI i_1] (ZdB.rs r):=fun st=>
 sO ZdB.B Tryz.func198 fun g0 w0 R hE=>by
  unfold ZdB at h
  obtain ⟨c1,c2,c3,h1⟩:=ck3 h
  obtain rfl:=Zab h1
  exact af fol hE [.r [],.r [],.r []] [] 0 [] (aO (neI 64) (neI 64) c1 c2 (neI 64) c3 c1 c2)
noncomputable def ZaY.B:Code:=Tryz.f165.body.getD .skip
noncomputable def ZaY.rs (r:(List Int)×Bool):List CV:=[.agg [L.arr .u64 4 r.1],oB r.2]
noncomputable def ZaY.p2 (N:Nat) (c1_:(Int×Int×(List Int))→Option ((List Int)×Bool)) (i_2 x8 x9 c_1:Int) (a_0_0 b_1_0 out_11:List Int):Option ((List Int)×Bool):=
 c1_ (w64 (Int.tdiv (w64 ((w64 (x8+x9))+c_1)) 2),w64 (i_2+1),out_11)
noncomputable def ZaY.p1 (N:Nat) (a_0_0 b_1_0:List Int) (c1_:(Int×Int×(List Int))→Option ((List Int)×Bool)):(Int×Int×(List Int))→Option ((List Int)×Bool):=fun (c_1,i_2,out_7)=>
 if (decide (i_2<256))=true then
  optE (Zcz N a_0_0 i_2) fun x8=>
  optE (Zcz N b_1_0 i_2) fun x9=>
  if ((Int.tmod (w64 ((w64 (x8+x9))+c_1)) 2)==1)=true then
   optE (ZdB N out_7 i_2) fun x10=>
   ZaY.p2 N c1_ i_2 x8 x9 c_1 a_0_0 b_1_0 x10
  else
  ZaY.p2 N c1_ i_2 x8 x9 c_1 a_0_0 b_1_0 out_7
 else
 some (out_7,c_1==1)
noncomputable def ZaY (N:Nat) (a_0_0 b_1_0:List Int):Option ((List Int)×Bool):=
 loopN (ZaY.p1 N a_0_0 b_1_0) N (0,0,List.replicate 4 0)
noncomputable def ZaY.p2.S (i_2 x8 x9 c_1:Int) (a_0_0 b_1_0 out_11:List Int) (st:LL):S:=mkS 35 [(2,sA 2),(3,sA 3),(4,sA 4),(6,sA 6),(8,sI i_2),(9,sI (w64 ((w64 (x8+x9))+c_1)))] [(2,.cells [L.arr .u64 4 a_0_0]),(3,.cells [L.arr .u64 4 b_1_0]),(4,.cells [L.arr .u64 4 (List.replicate 4 0)]),(6,.cells [L.arr .u64 4 out_11])] st
noncomputable def ZaY.p1.S (c_1 i_2:Int) (a_0_0 b_1_0 out_7:List Int) (st:LL):S:=mkS 35 [(2,sA 2),(3,sA 3),(4,sA 4),(6,sA 6),(7,sI c_1),(8,sI i_2)] [(2,.cells [L.arr .u64 4 a_0_0]),(3,.cells [L.arr .u64 4 b_1_0]),(4,.cells [L.arr .u64 4 (List.replicate 4 0)]),(6,.cells [L.arr .u64 4 out_7])] st
theorem ZaY.p2_ok {i_2 x8 x9 c_1 a_0_0 b_1_0 out_11 st r c1_ J1} (h:ZaY.p2 N c1_ i_2 x8 x9 c_1 a_0_0 b_1_0 out_11=some r) (hE:En Tryz.f165 g0 w0 (ZaY.rs r) st R) (hc1 : ∀c_1 i_2 out_7,c1_ (c_1,i_2,out_7)=some r→At g0 w0 (ZaY.p1.S c_1 i_2 a_0_0 b_1_0 out_7 st) J1):At g0 w0 (ZaY.p2.S i_2 x8 x9 c_1 a_0_0 b_1_0 out_11 st) (XK Tryz.prog R [.c (csub ZaY.B [1,1,1,0,1,0,0,1,0,0,1,1]),.b 1,.c (csub ZaY.B [1,1,1,0,1,0,0,1,1]),.h J1,.b 0,.c (csub ZaY.B [1,1,1,1])]):=by
 unfold ZaY.p2 at h
 exact an fol [.r [],.r []] [2,3,4,6,7,8] [2,3,4,6] (neI 2) (hc1 (w64 (Int.tdiv (w64 ((w64 (x8+x9))+c_1)) 2)) (w64 (i_2+1)) out_11 h)
theorem ZaY.p1_ok {c_1 i_2 a_0_0 b_1_0 out_7 st r c1_ J1} (h:ZaY.p1 N a_0_0 b_1_0 c1_ (c_1,i_2,out_7)=some r) (hE:En Tryz.f165 g0 w0 (ZaY.rs r) st R) (hc1 : ∀c_1 i_2 out_7,c1_ (c_1,i_2,out_7)=some r→At g0 w0 (ZaY.p1.S c_1 i_2 a_0_0 b_1_0 out_7 st) J1):At g0 w0 (ZaY.p1.S c_1 i_2 a_0_0 b_1_0 out_7 st) (XK Tryz.prog R (.c (csub ZaY.B [1,1,1,0,1,0,0]) :: .h J1 :: [.b 0,.c (csub ZaY.B [1,1,1,1])])):=by
 unfold ZaY.p1 at h
 refine iteB h (fun c6 h1=>?_) (fun c6 h2=>?_)
 ·obtain ⟨x8,c7,h3⟩:=Zad h1
  obtain ⟨x9,c8,h4⟩:=Zad h3
  let o1:List PS:=[.r [],.c true,.d {ds:=[(2,q1 [oI x8]),(5,q1 [oI x9])],hv:=0,Hs:=[]},.r []]
  have t1 {Q:Prop} (q:Q):=aL c6 (Zcz.snd c7) (Zcz.snd c8) (neI 2) q
  refine iteB h4 (fun c9 h5=>?_) (fun c9 h6=>?_)
  ·obtain ⟨x10,c10,h7⟩:=Zad h5
   exact aqd fol (o1 ++ [.c true,.r [(2,q1 [.agg [L.arr .u64 4 x10]])],.s 6]) [2,3,4,6,8,9] [2,3,4,6] (t1 (aI c9 (ZdB.snd c10))) (ZaY.p2_ok h7 hE hc1)
  ·exact aqd fol (o1 ++ [.c false,.s 6]) [2,3,4,6,8,9] [2,3,4,6] (t1 c9) (ZaY.p2_ok h6 hE hc1)
 ·obtain rfl:=Zab h2
  exact af fol hE [.r [],.c false,.r []] [] 0 [] c6
theorem ZaY.snd {a_0_0 b_1_0:List Int} {r:(List Int)×Bool} (h:ZaY N a_0_0 b_1_0=some r):SndQ Tryz.prog 165 [.agg [L.arr .u64 4 a_0_0],.agg [L.arr .u64 4 b_1_0]] (ZaY.rs r):=fun st=>
 sO ZaY.B Tryz.func165 fun g0 w0 R hE=>by
  unfold ZaY at h
  exact aq fol [.r [],.r [],.r [],.r []] [2,3,4,6,7,8] [2,3,4,6] trivial (At.loop N (At.loopN (fun y:Int×Int×(List Int)=>ZaY.p1.S y.1 y.2.1 a_0_0 b_1_0 y.2.2 st) (fun c J hc y h=>ZaY.p1_ok (c_1:=y.1) (i_2:=y.2.1) (out_7:=y.2.2) h hE (fun c_1 i_2 out_7=>hc (c_1,i_2,out_7))) N (0,0,List.replicate 4 0) h))
noncomputable def Zbl.B:Code:=Tryz.f199.body.getD .skip
noncomputable def Zbl.rs (r:(List Int)):List CV:=[.agg [L.arr .u64 4 r]]
noncomputable def Zbl.p2 (N:Nat) (c1_:(Int×(List Int))→Option (List Int)) (i_1:Int) (a_0_0 out_8:List Int):Option (List Int):=
 c1_ (w64 (i_1+1),out_8)
noncomputable def Zbl.p1 (N:Nat) (a_0_0:List Int) (c1_:(Int×(List Int))→Option (List Int)):(Int×(List Int))→Option (List Int):=fun (i_1,out_5)=>
 if (decide (i_1<256))=true then
  optE (Zcz N a_0_0 i_1) fun x6=>
  if (x6==0)=true then
   optE (ZdB N out_5 i_1) fun x7=>
   Zbl.p2 N c1_ i_1 a_0_0 x7
  else
  Zbl.p2 N c1_ i_1 a_0_0 out_5
 else
 some out_5
noncomputable def Zbl (N:Nat) (a_0_0:List Int):Option (List Int):=
 loopN (Zbl.p1 N a_0_0) N (0,List.replicate 4 0)
noncomputable def Zbl.p2.S (i_1:Int) (a_0_0 out_8:List Int) (st:LL):S:=mkS 18 [(1,sA 1),(2,sA 2),(3,sA 3),(4,sI i_1)] [(1,.cells [L.arr .u64 4 a_0_0]),(2,.cells [L.arr .u64 4 (List.replicate 4 0)]),(3,.cells [L.arr .u64 4 out_8])] st
noncomputable def Zbl.p1.S (i_1:Int) (a_0_0 out_5:List Int) (st:LL):S:=mkS 18 [(1,sA 1),(2,sA 2),(3,sA 3),(4,sI i_1)] [(1,.cells [L.arr .u64 4 a_0_0]),(2,.cells [L.arr .u64 4 (List.replicate 4 0)]),(3,.cells [L.arr .u64 4 out_5])] st
theorem Zbl.p2_ok {i_1 a_0_0 out_8 st r c1_ J1} (h:Zbl.p2 N c1_ i_1 a_0_0 out_8=some r) (hE:En Tryz.f199 g0 w0 (Zbl.rs r) st R) (hc1 : ∀i_1 out_5,c1_ (i_1,out_5)=some r→At g0 w0 (Zbl.p1.S i_1 a_0_0 out_5 st) J1):At g0 w0 (Zbl.p2.S i_1 a_0_0 out_8 st) (XK Tryz.prog R [.c (csub Zbl.B [1,1,0,1,0,0,1,1]),.h J1,.b 0,.c (csub Zbl.B [1,1,1])]):=by
 unfold Zbl.p2 at h
 exact an fol [.r []] [1,2,3,4] [1,2,3] trivial (hc1 (w64 (i_1+1)) out_8 h)
theorem Zbl.p1_ok {i_1 a_0_0 out_5 st r c1_ J1} (h:Zbl.p1 N a_0_0 c1_ (i_1,out_5)=some r) (hE:En Tryz.f199 g0 w0 (Zbl.rs r) st R) (hc1 : ∀i_1 out_5,c1_ (i_1,out_5)=some r→At g0 w0 (Zbl.p1.S i_1 a_0_0 out_5 st) J1):At g0 w0 (Zbl.p1.S i_1 a_0_0 out_5 st) (XK Tryz.prog R (.c (csub Zbl.B [1,1,0,1,0,0]) :: .h J1 :: [.b 0,.c (csub Zbl.B [1,1,1])])):=by
 unfold Zbl.p1 at h
 refine iteB h (fun c5 h1=>?_) (fun c5 h2=>?_)
 ·obtain ⟨x6,c6,h3⟩:=Zad h1
  let o1:List PS:=[.r [],.c true,.r [(2,q1 [oI x6])]]
  refine iteB h3 (fun c7 h4=>?_) (fun c7 h5=>?_)
  ·obtain ⟨x7,c8,h6⟩:=Zad h4
   exact aq fol (o1 ++ [.c true,.r [(2,q1 [.agg [L.arr .u64 4 x7]])],.s 4]) [1,2,3,4] [1,2,3] (aK c5 (Zcz.snd c6) c7 (ZdB.snd c8)) (Zbl.p2_ok h6 hE hc1)
  ·exact aq fol (o1 ++ [.c false,.s 4]) [1,2,3,4] [1,2,3] (aJ c5 (Zcz.snd c6) c7) (Zbl.p2_ok h5 hE hc1)
 ·obtain rfl:=Zab h2
  exact af fol hE [.r [],.c false,.r []] [] 0 [] c5
theorem Zbl.snd {a_0_0:List Int} {r:(List Int)} (h:Zbl N a_0_0=some r):SndQ Tryz.prog 199 [.agg [L.arr .u64 4 a_0_0]] (Zbl.rs r):=fun st=>
 sO Zbl.B Tryz.func199 fun g0 w0 R hE=>by
  unfold Zbl at h
  exact aq fol [.r [],.r [],.r []] [1,2,3,4] [1,2,3] trivial (At.loop N (At.loopN (fun y:Int×(List Int)=>Zbl.p1.S y.1 a_0_0 y.2 st) (fun c J hc y h=>Zbl.p1_ok (i_1:=y.1) (out_5:=y.2) h hE (fun i_1 out_5=>hc (i_1,out_5))) N (0,List.replicate 4 0) h))
noncomputable def ZcH.B:Code:=Tryz.f166.body.getD .skip
noncomputable def ZcH.rs (r:(List Int)):List CV:=[.agg [L.arr .u64 4 r]]
noncomputable def ZcH (N:Nat):Option (List Int):=
 optE (Zbl N (List.replicate 4 0)) fun x1=>
 some x1
theorem ZcH.snd {r:(List Int)} (h:ZcH N=some r):SndQ Tryz.prog 166 [] (ZcH.rs r):=fun st=>
 sO ZcH.B Tryz.func166 fun g0 w0 R hE=>by
  unfold ZcH at h
  obtain ⟨x1,c1,h1⟩:=Zad h
  obtain rfl:=Zab h1
  exact af fol hE [.r [],.r [(1,q1 [.agg [L.arr .u64 4 x1]])]] [] 0 [] (Zbl.snd c1)
noncomputable def ZdC.B:Code:=Tryz.f197.body.getD .skip
noncomputable def ZdC.rs (r:(List Int)×Bool):List CV:=[.agg [L.arr .u64 4 r.1],oB r.2]
noncomputable def ZdC (N:Nat) (a_0_0 b_1_0:List Int):Option ((List Int)×Bool):=
 optE (Zbl N b_1_0) fun x1=>
 optE (ZaY N a_0_0 x1) fun (x2,x3)=>
 optE (ZaY N x2 [1,0,0,0]) fun (x4,x5)=>
 optE (Zbn N a_0_0 b_1_0) fun x6=>
 some (x4,x6)
theorem ZdC.snd {a_0_0 b_1_0:List Int} {r:(List Int)×Bool} (h:ZdC N a_0_0 b_1_0=some r):SndQ Tryz.prog 197 [.agg [L.arr .u64 4 a_0_0],.agg [L.arr .u64 4 b_1_0]] (ZdC.rs r):=fun st=>
 sO ZdC.B Tryz.func197 fun g0 w0 R hE=>by
  unfold ZdC at h
  obtain ⟨x1,c1,h1⟩:=Zad h
  obtain ⟨⟨x2,x3⟩,c2,h2⟩:=Zad h1
  obtain ⟨⟨x4,x5⟩,c3,h3⟩:=Zad h2
  obtain ⟨x6,c4,h4⟩:=Zad h3
  obtain rfl:=Zab h4
  exact afd fol hE [.r [],.d {ds:=[(2,q1 [.agg [L.arr .u64 4 x1]]),(3,q1 [.agg [L.arr .u64 4 x2],oB x3])],hv:=384,Hs:=[128,384]},.r [(1,{m:=3}),(2,q1 [.agg [L.arr .u64 4 x4],oB x5])],.d {ds:=[(3,q1 [oB x6])],hv:=16,Hs:=[16]}] [] 0 [] (aM (Zbl.snd c1) (Zbl.snd c1) (ZaY.snd c2) (ZaY.snd c2) (ZaY.snd c3) (Zbn.snd c4))
noncomputable def Zbh.B:Code:=Tryz.f164.body.getD .skip
noncomputable def Zbh.rs (r:(List Int)):List CV:=[.agg [L.arr .u64 4 r]]
noncomputable def Zbh.p2 (N:Nat) (c1_:(Int×(List Int)×(List Int))→Option (List Int)) (i_5:Int) (target_0_0 x1 out_36 rest_37:List Int):Option (List Int):=
 c1_ (w64 (i_5-1),out_36,rest_37)
noncomputable def Zbh.p3 (N:Nat) (out_41:List Int):Option (List Int):=
 some out_41
noncomputable def Zbh.p1 (N:Nat) (target_0_0 x1:List Int) (c1_:(Int×(List Int)×(List Int))→Option (List Int)):(Int×(List Int)×(List Int))→Option (List Int):=fun (i_5,out_23,rest_24)=>
 if (decide (i_5≥0))=true then
  optE (Zal N x1 i_5) fun x25=>
  optE (Zal N x25 (w64 (0-i_5))) fun x26=>
  if (!(x26==x1))=true then
   Zbh.p2 N c1_ i_5 target_0_0 x1 out_23 rest_24
  else
  optE (ZdC N x25 [1,0,0,0]) fun (x27,x28)=>
  optE (Zbn N rest_24 x27) fun x29=>
  if (!x29)=true then
   optE (ZdC N rest_24 x25) fun (x30,x31)=>
   optE (Zal N [1,0,0,0] i_5) fun x32=>
   optE (ZaY N out_23 x32) fun (x33,x34)=>
   optE (ZcH N ) fun x35=>
   if (x30==x35)=true then
    some x33
   else
   Zbh.p2 N c1_ i_5 target_0_0 x1 x33 x30
  else
  Zbh.p2 N c1_ i_5 target_0_0 x1 out_23 rest_24
 else
 optE (Zbn N rest_24 target_0_0) fun x38=>
 if (!x38)=true then
  optE (ZaY N out_23 [1,0,0,0]) fun (x39,x40)=>
  Zbh.p3 N x39
 else
 Zbh.p3 N out_23
noncomputable def Zbh (N:Nat) (target_0_0:List Int):Option (List Int):=
 optE (ZaY N target_0_0 [1,0,0,0]) fun (x1,x2)=>
 if x2=true then
  some [1,0,0,0]
 else
 if (target_0_0==(List.replicate 4 0))=true then
  optE (ZcH N ) fun x3=>
  some x3
 else
 optE (ZcH N ) fun x4=>
 loopN (Zbh.p1 N target_0_0 x1) N (255,List.replicate 4 0,x4)
noncomputable def Zbh.p2.S (i_5:Int) (target_0_0 x1 out_36 rest_37:List Int) (st:LL):S:=mkS 79 [(1,sA 1),(2,sA 2),(3,sA 3),(4,sA 4),(6,sA 6),(7,sA 7),(8,sI i_5)] [(1,.cells [L.arr .u64 4 target_0_0]),(2,.cells [L.arr .u64 4 (List.replicate 4 0)]),(3,.cells [L.arr .u64 4 [1,0,0,0]]),(4,.cells [L.arr .u64 4 x1]),(6,.cells [L.arr .u64 4 out_36]),(7,.cells [L.arr .u64 4 rest_37])] st
noncomputable def Zbh.p3.S (out_41:List Int) (st:LL):S:=mkS 79 [(2,sA 2),(6,sA 6)] [(2,.cells [L.arr .u64 4 (List.replicate 4 0)]),(6,.cells [L.arr .u64 4 out_41])] st
noncomputable def Zbh.p1.S (i_5:Int) (target_0_0 x1 out_23 rest_24:List Int) (st:LL):S:=mkS 79 [(1,sA 1),(2,sA 2),(3,sA 3),(4,sA 4),(6,sA 6),(7,sA 7),(8,sI i_5)] [(1,.cells [L.arr .u64 4 target_0_0]),(2,.cells [L.arr .u64 4 (List.replicate 4 0)]),(3,.cells [L.arr .u64 4 [1,0,0,0]]),(4,.cells [L.arr .u64 4 x1]),(6,.cells [L.arr .u64 4 out_23]),(7,.cells [L.arr .u64 4 rest_24])] st
theorem Zbh.p2_ok {i_5 target_0_0 x1 out_36 rest_37 st r c1_ J1} (h:Zbh.p2 N c1_ i_5 target_0_0 x1 out_36 rest_37=some r) (hE:En Tryz.f164 g0 w0 (Zbh.rs r) st R) (hc1 : ∀i_5 out_23 rest_24,c1_ (i_5,out_23,rest_24)=some r→At g0 w0 (Zbh.p1.S i_5 target_0_0 x1 out_23 rest_24 st) J1):At g0 w0 (Zbh.p2.S i_5 target_0_0 x1 out_36 rest_37 st) (XK Tryz.prog R [.c (csub Zbh.B [1,1,1,1,1,1,1,0,1,0,0,1,1]),.h J1,.b 0,.c (csub Zbh.B [1,1,1,1,1,1,1,1])]):=by
 unfold Zbh.p2 at h
 exact an fol [.r []] [1,2,3,4,6,7,8] [1,2,3,4,6,7] trivial (hc1 (w64 (i_5-1)) out_36 rest_37 h)
theorem Zbh.p3_ok {out_41 st r} (h:Zbh.p3 N out_41=some r) (hE:En Tryz.f164 g0 w0 (Zbh.rs r) st R):At g0 w0 (Zbh.p3.S out_41 st) (XK Tryz.prog R [.c (csub Zbh.B [1,1,1,1,1,1,1,1,1])]):=by
 unfold Zbh.p3 at h
 obtain rfl:=Zab h
 exact af fol hE [.r []] [] 0 [] trivial
theorem Zbh.p1_ok {i_5 target_0_0 x1 out_23 rest_24 st r c1_ J1} (h:Zbh.p1 N target_0_0 x1 c1_ (i_5,out_23,rest_24)=some r) (hE:En Tryz.f164 g0 w0 (Zbh.rs r) st R) (hc1 : ∀i_5 out_23 rest_24,c1_ (i_5,out_23,rest_24)=some r→At g0 w0 (Zbh.p1.S i_5 target_0_0 x1 out_23 rest_24 st) J1):At g0 w0 (Zbh.p1.S i_5 target_0_0 x1 out_23 rest_24 st) (XK Tryz.prog R (.c (csub Zbh.B [1,1,1,1,1,1,1,0,1,0,0]) :: .h J1 :: [.b 0,.c (csub Zbh.B [1,1,1,1,1,1,1,1])])):=by
 unfold Zbh.p1 at h
 refine iteB h (fun c21 h1=>?_) (fun c21 h2=>?_)
 ·obtain ⟨x25,c22,h3⟩:=Zad h1
  obtain ⟨x26,c23,h4⟩:=Zad h3
  let o1:List PS:=[.r [],.c true,.r [(2,q1 [.agg [L.arr .u64 4 x25]])],.d {ds:=[(3,q1 [.agg [L.arr .u64 4 x26]])],hv:=0,Hs:=[]}]
  have t1 {Q:Prop} (q:Q):=aK c21 (Zal.snd c22) (Zal.snd c23) q
  refine iteB h4 (fun c24 h5=>?_) (fun c24 h6=>?_)
  ·exact aqd fol (o1 ++ [.c true,.s 4]) [1,2,3,4,6,7,8] [1,2,3,4,6,7] (t1 c24) (Zbh.p2_ok h5 hE hc1)
  ·obtain ⟨⟨x27,x28⟩,c25,h7⟩:=Zad h6
   obtain ⟨x29,c26,h8⟩:=Zad h7
   let o2:List PS:=o1 ++ [.c false,.r [(2,q1 [.agg [L.arr .u64 4 x27],oB x28])],.r [(2,q1 [oB x29])]]
   have t2 {Q:Prop} (q:Q):=t1 (aK c24 (ZdC.snd c25) (Zbn.snd c26) q)
   refine iteB h8 (fun c27 h9=>?_) (fun c27 h10=>?_)
   ·obtain ⟨⟨x30,x31⟩,c28,h11⟩:=Zad h9
    obtain ⟨x32,c29,h12⟩:=Zad h11
    obtain ⟨⟨x33,x34⟩,c30,h13⟩:=Zad h12
    obtain ⟨x35,c31,h14⟩:=Zad h13
    let o3:List PS:=o2 ++ [.c true,.r [(2,q1 [.agg [L.arr .u64 4 x30],oB x31])],.d {ds:=[(3,q1 [.agg [L.arr .u64 4 x32]]),(4,q1 [.agg [L.arr .u64 4 x33],oB x34])],hv:=256,Hs:=[256]},.d {ds:=[(1,q1 [.agg [L.arr .u64 4 x35]])],hv:=0,Hs:=[]}]
    have t3 {Q:Prop} (q:Q):=t2 (aM c27 (ZdC.snd c28) (Zal.snd c29) (ZaY.snd c30) (ZcH.snd c31) q)
    refine iteB h14 (fun c32 h15=>?_) (fun c32 h16=>?_)
    ·obtain rfl:=Zab h15
     exact afd fol hE (o3 ++ [.c true,.r []]) [] 0 [] (t3 c32)
    ·exact aqd fol (o3 ++ [.c false,.s 4]) [1,2,3,4,6,7,8] [1,2,3,4,6,7] (t3 c32) (Zbh.p2_ok h16 hE hc1)
   ·exact aqd fol (o2 ++ [.c false,.s 4]) [1,2,3,4,6,7,8] [1,2,3,4,6,7] (t2 c27) (Zbh.p2_ok h10 hE hc1)
 ·obtain ⟨x38,c33,h17⟩:=Zad h2
  let o4:List PS:=[.r [],.c false,.r [(2,q1 [oB x38])]]
  refine iteB h17 (fun c34 h18=>?_) (fun c34 h19=>?_)
  ·obtain ⟨⟨x39,x40⟩,c35,h20⟩:=Zad h18
   exact aq fol (o4 ++ [.c true,.r [(2,q1 [.agg [L.arr .u64 4 x39],oB x40])],.s 1]) [2,6] [2,6] (aK c21 (Zbn.snd c33) c34 (ZaY.snd c35)) (Zbh.p3_ok h20 hE)
  ·exact aq fol (o4 ++ [.c false,.s 1]) [2,6] [2,6] (aJ c21 (Zbn.snd c33) c34) (Zbh.p3_ok h19 hE)
theorem Zbh.snd {target_0_0:List Int} {r:(List Int)} (h:Zbh N target_0_0=some r):SndQ Tryz.prog 164 [.agg [L.arr .u64 4 target_0_0]] (Zbh.rs r):=fun st=>
 sO Zbh.B Tryz.func164 fun g0 w0 R hE=>by
  unfold Zbh at h
  obtain ⟨⟨x1,x2⟩,c1,h21⟩:=Zad h
  let o5:List PS:=[.r [],.r [(0,{m:=3})],.r [(2,q1 [.agg [L.arr .u64 4 x1],oB x2])],.r []]
  have t4 {Q:Prop} (q:Q):=aI (ZaY.snd c1) q
  refine iteB h21 (fun c2 h22=>?_) (fun c2 h23=>?_)
  ·obtain rfl:=Zab h22
   exact af fol hE (o5 ++ [.c true,.r []]) [] 0 [] (t4 c2)
  ·refine iteB h23 (fun c3 h24=>?_) (fun c3 h25=>?_)
   ·obtain ⟨x3,c4,h26⟩:=Zad h24
    obtain rfl:=Zab h26
    exact af fol hE (o5 ++ [.c false,.r [],.c true,.r [(0,q1 [.agg [L.arr .u64 4 x3]])]]) [] 0 [] (t4 (aJ c2 c3 (ZcH.snd c4)))
   ·obtain ⟨x4,c5,h27⟩:=Zad h25
    exact aq fol (o5 ++ [.c false,.r [],.c false,.r [],.r [(0,q1 [.agg [L.arr .u64 4 x4]])],.r []]) [1,2,3,4,6,7,8] [1,2,3,4,6,7] (t4 (aJ c2 c3 (ZcH.snd c5))) (At.loop N (At.loopN (fun y:Int×(List Int)×(List Int)=>Zbh.p1.S y.1 target_0_0 x1 y.2.1 y.2.2 st) (fun c J hc y h=>Zbh.p1_ok (i_5:=y.1) (out_23:=y.2.1) (rest_24:=y.2.2) h hE (fun i_5 out_23 rest_24=>hc (i_5,out_23,rest_24))) N (255,List.replicate 4 0,x4) h27))
noncomputable def Zce.B:Code:=Tryz.f104.body.getD .skip
noncomputable def Zce.rs (r:(List Int)):List CV:=[.agg [L.arr .u64 4 r]]
noncomputable def Zce (N:Nat) (bits_0:Int):Option (List Int):=
 optE (ZaL N bits_0) fun (x1,x2,x3)=>
 if x2=true then
  some (List.replicate 4 0)
 else
 if x3=true then
  some (List.replicate 4 0)
 else
 if (x1==(List.replicate 4 0))=true then
  some (List.replicate 4 0)
 else
 optE (Zbh N x1) fun x4=>
 some x4
theorem Zce.snd {bits_0:Int} {r:(List Int)} (h:Zce N bits_0=some r):SndQ Tryz.prog 104 [oI bits_0] (Zce.rs r):=fun st=>
 sO Zce.B Tryz.func104 fun g0 w0 R hE=>by
  unfold Zce at h
  obtain ⟨⟨x1,x2,x3⟩,c1,h1⟩:=Zad h
  let o1:List PS:=[.r [],.r [(1,q1 [.agg [L.arr .u64 4 x1],oB x2,oB x3])]]
  have t1 {Q:Prop} (q:Q):=aI (ZaL.snd c1) q
  refine iteB h1 (fun c2 h2=>?_) (fun c2 h3=>?_)
  ·obtain rfl:=Zab h2
   exact af fol hE (o1 ++ [.r [(2,wF),(5,wF),(6,wF),(7,wF)],.c true,.r []]) [] 0 [] (t1 (aN c2 c2 eT eT eT eT eT))
  ·refine iteB h3 (fun c3 h4=>?_) (fun c3 h5=>?_)
   ·obtain rfl:=Zab h4
    exact af fol hE (o1 ++ [.r [(3,yF),(5,wF),(6,wF),(7,wF)],.c true,.r []]) [] 0 [] (t1 (aN c2 c2 c3 c3 c3 c3 eT))
   ·let o2:List PS:=o1 ++ [.r [(3,yF),(8,yF)]]
    refine iteB h5 (fun c4 h6=>?_) (fun c4 h7=>?_)
    ·obtain rfl:=Zab h6
     exact af fol hE (o2 ++ [.c true,.r []]) [] 0 [] (t1 (aN c2 c2 c3 c3 c3 c3 c4))
    ·obtain ⟨x4,c5,h8⟩:=Zad h7
     obtain rfl:=Zab h8
     exact af fol hE (o2 ++ [.c false,.r [(1,q1 [.agg [L.arr .u64 4 x4]])]]) [] 0 [] (t1 (aO c2 c2 c3 c3 c3 c3 c4 (Zbh.snd c5)))
noncomputable def ZdS.B:Code:=Tryz.f84.body.getD .skip
noncomputable def ZdS.rs (r:(Option Nat)×LL):List CV:=[.one (L.ptr r.1)]
noncomputable def ZdS (N:Nat) (p_0:Zae) (room_1:Int) (st:LL):Option ((Option Nat)×LL):=
 optE (ZcC N p_0.Genesis) fun x1=>
 optE (Zce N p_0.Genesis.Bits) fun x2=>
 some ((some (List.length st)),st ++ [Zaa.lo (Zaa.mk p_0 [p_0.Genesis.ls] [[L.arr .u8 32 x1]] [[L.int .i64 (-1)]] [[L.arr .u64 4 x2]] (if (512:Int)<(if (1:Int)>room_1 then 1 else room_1) then 512 else (if (1:Int)>room_1 then 1 else room_1)))])
theorem ZdS.snd {p_0:Zae} {room_1:Int} {st:LL} {r:(Option Nat)×LL} (h:ZdS N p_0 room_1 st=some r):Snd Tryz.prog 84 [.agg p_0.ls,oI room_1] st (ZdS.rs r) r.2:=
 sO ZdS.B Tryz.func84 fun g0 w0 R hE=>by
  unfold ZdS at h
  obtain ⟨x1,c1,h1⟩:=Zad h
  obtain ⟨x2,c2,h2⟩:=Zad h1
  obtain rfl:=Zab h2
  exact afd fol hE [.r [],.d {ds:=[(6,q1 [.agg [L.arr .u8 32 x1]]),(12,q1 [.agg [L.arr .u64 4 x2]]),(17,{ns:=[15,16,17,18]}),(18,{m:=1,mv:=[8,12,13,18]})],hv:=270728,Hs:=[8,128,136,256,264,384,392,8192,8200,8320,8328,8448,8456,8576,8584,270728]}] [] 0 [] (aO (ZcC.snd c1) (ZcC.snd c1) (ZcC.snd c1) (ZcC.snd c1) (Zce.snd c2) (Zce.snd c2) (Zce.snd c2) (aO (Zce.snd c2) (Zce.snd c2) (Zce.snd c2) (Zce.snd c2) (Zce.snd c2) z0 (eN (1)) (aM z0 (eN (1)) z0 (eN (1)) z0 (eN (1)))))
noncomputable def Zef.B:Code:=Tryz.f213.body.getD .skip
noncomputable def Zef.rs (r:Int):List CV:=[oI r]
noncomputable def Zef (N:Nat) (p_0:Zae) (from_1 to_2:Int):Option Int:=
 some (if (w64 ((w64 (p_0.Interval*p_0.Spacing))*4))<(if (w64 (Int.tdiv (w64 (p_0.Interval*p_0.Spacing)) 4))>(w64 (to_2-from_1)) then (w64 (Int.tdiv (w64 (p_0.Interval*p_0.Spacing)) 4)) else (w64 (to_2-from_1))) then (w64 ((w64 (p_0.Interval*p_0.Spacing))*4)) else (if (w64 (Int.tdiv (w64 (p_0.Interval*p_0.Spacing)) 4))>(w64 (to_2-from_1)) then (w64 (Int.tdiv (w64 (p_0.Interval*p_0.Spacing)) 4)) else (w64 (to_2-from_1))))
theorem Zef.snd {p_0:Zae} {from_1 to_2:Int} {r:Int} (h:Zef N p_0 from_1 to_2=some r):SndQ Tryz.prog 213 [.agg p_0.ls,oI from_1,oI to_2] (Zef.rs r):=fun st=>
 sO Zef.B Tryz.func213 fun g0 w0 R hE=>by
  unfold Zef at h
  obtain rfl:=Zab h
  exact af fol hE [.r [],.r [],.r []] [] 0 [] (neI 4)
noncomputable def ZbJ.B:Code:=Tryz.f238.body.getD .skip
noncomputable def ZbJ.rs (r:Int):List CV:=[oI r]
noncomputable def ZbJ (N:Nat) (x_0:Int):Option Int:=
 optE (Zav N x_0) fun x1=>
 some (w64 (64-x1))
theorem ZbJ.snd {x_0:Int} {r:Int} (h:ZbJ N x_0=some r):SndQ Tryz.prog 238 [.one (L.int .u64 x_0)] (ZbJ.rs r):=fun st=>
 sO ZbJ.B Tryz.func238 fun g0 w0 R hE=>by
  unfold ZbJ at h
  obtain ⟨x1,c1,h1⟩:=Zad h
  obtain rfl:=Zab h1
  exact af fol hE [.r [],.r [(1,q1 [oI x1])]] [] 0 [] (Zav.snd c1)
noncomputable def Zah.B:Code:=Tryz.f225.body.getD .skip
noncomputable def Zah.rs (r:Int×Int):List CV:=[.one (L.int .u64 r.1),.one (L.int .u64 r.2)]
noncomputable def Zah.p6 (N:Nat) (y_2 x1 lo_1 q1_4 hi_0 q0_7:Int):Option (Int×Int):=
 chk (0≤(v64 (x1)))<|
 some (v64 ((v64 (q1_4*4294967296))+q0_7),shrOf .u64 (v64 ((v64 ((v64 ((v64 ((v64 ((v64 ((bitsOf .or .u64 (shlOf .u64 hi_0 (v64 (x1))) (shrOf .u64 lo_1 (v64 (64-(v64 (x1))))))*4294967296))+(shrOf .u64 (shlOf .u64 lo_1 (v64 (x1))) 32)))-(v64 (q1_4*(shlOf .u64 y_2 (v64 (x1)))))))*4294967296))+(bitsOf .and .u64 (shlOf .u64 lo_1 (v64 (x1))) 4294967295)))-(v64 (q0_7*(shlOf .u64 y_2 (v64 (x1))))))) (v64 (x1)))
noncomputable def Zah.p5 (N:Nat) (c4_:(Int×Int)→Option (Int×Int)) (y_2 x1 lo_1 q1_4 rhat_5 hi_0 q0_6:Int):Option (Int×Int):=
 if (decide ((v64 (rhat_5+(shrOf .u64 (shlOf .u64 y_2 (v64 (x1))) 32)))≥4294967296))=true then
  Zah.p6 N y_2 x1 lo_1 q1_4 hi_0 (v64 (q0_6-1))
 else
 c4_ (v64 (rhat_5+(shrOf .u64 (shlOf .u64 y_2 (v64 (x1))) 32)),v64 (q0_6-1))
noncomputable def Zah.p4 (N:Nat) (y_2 x1 lo_1 q1_4 hi_0:Int) (c4_:(Int×Int)→Option (Int×Int)):(Int×Int)→Option (Int×Int):=fun (rhat_5,q0_6)=>
 if (decide (q0_6≥4294967296))=true then
  Zah.p5 N c4_ y_2 x1 lo_1 q1_4 rhat_5 hi_0 q0_6
 else
 if (decide ((v64 (q0_6*(bitsOf .and .u64 (shlOf .u64 y_2 (v64 (x1))) 4294967295)))>(v64 ((v64 (4294967296*rhat_5))+(bitsOf .and .u64 (shlOf .u64 lo_1 (v64 (x1))) 4294967295)))))=true then
  Zah.p5 N c4_ y_2 x1 lo_1 q1_4 rhat_5 hi_0 q0_6
 else
 Zah.p6 N y_2 x1 lo_1 q1_4 hi_0 q0_6
noncomputable def Zah.p3 (N:Nat) (y_2 x1 hi_0 lo_1 q1_4:Int):Option (Int×Int):=
 chk ((shrOf .u64 (shlOf .u64 y_2 (v64 (x1))) 32)≠0)<|
 loopN (Zah.p4 N y_2 x1 lo_1 q1_4 hi_0) N (v64 ((v64 ((v64 ((v64 ((bitsOf .or .u64 (shlOf .u64 hi_0 (v64 (x1))) (shrOf .u64 lo_1 (v64 (64-(v64 (x1))))))*4294967296))+(shrOf .u64 (shlOf .u64 lo_1 (v64 (x1))) 32)))-(v64 (q1_4*(shlOf .u64 y_2 (v64 (x1)))))))-(v64 ((v64 (Int.tdiv (v64 ((v64 ((v64 ((bitsOf .or .u64 (shlOf .u64 hi_0 (v64 (x1))) (shrOf .u64 lo_1 (v64 (64-(v64 (x1))))))*4294967296))+(shrOf .u64 (shlOf .u64 lo_1 (v64 (x1))) 32)))-(v64 (q1_4*(shlOf .u64 y_2 (v64 (x1))))))) (shrOf .u64 (shlOf .u64 y_2 (v64 (x1))) 32)))*(shrOf .u64 (shlOf .u64 y_2 (v64 (x1))) 32)))),v64 (Int.tdiv (v64 ((v64 ((v64 ((bitsOf .or .u64 (shlOf .u64 hi_0 (v64 (x1))) (shrOf .u64 lo_1 (v64 (64-(v64 (x1))))))*4294967296))+(shrOf .u64 (shlOf .u64 lo_1 (v64 (x1))) 32)))-(v64 (q1_4*(shlOf .u64 y_2 (v64 (x1))))))) (shrOf .u64 (shlOf .u64 y_2 (v64 (x1))) 32)))
noncomputable def Zah.p2 (N:Nat) (c1_:(Int×Int)→Option (Int×Int)) (y_2 x1 hi_0 lo_1 q1_2 rhat_3:Int):Option (Int×Int):=
 if (decide ((v64 (rhat_3+(shrOf .u64 (shlOf .u64 y_2 (v64 (x1))) 32)))≥4294967296))=true then
  Zah.p3 N y_2 x1 hi_0 lo_1 (v64 (q1_2-1))
 else
 c1_ (v64 (q1_2-1),v64 (rhat_3+(shrOf .u64 (shlOf .u64 y_2 (v64 (x1))) 32)))
noncomputable def Zah.p1 (N:Nat) (y_2 x1 hi_0 lo_1:Int) (c1_:(Int×Int)→Option (Int×Int)):(Int×Int)→Option (Int×Int):=fun (q1_2,rhat_3)=>
 if (decide (q1_2≥4294967296))=true then
  Zah.p2 N c1_ y_2 x1 hi_0 lo_1 q1_2 rhat_3
 else
 if (decide ((v64 (q1_2*(bitsOf .and .u64 (shlOf .u64 y_2 (v64 (x1))) 4294967295)))>(v64 ((v64 (4294967296*rhat_3))+(shrOf .u64 (shlOf .u64 lo_1 (v64 (x1))) 32)))))=true then
  Zah.p2 N c1_ y_2 x1 hi_0 lo_1 q1_2 rhat_3
 else
 Zah.p3 N y_2 x1 hi_0 lo_1 q1_2
noncomputable def Zah (N:Nat) (hi_0 lo_1 y_2:Int):Option (Int×Int):=
 if (y_2==0)=true then
  none
 else
 if (decide (y_2≤hi_0))=true then
  none
 else
 if (hi_0==0)=true then
  chk (y_2≠0)<|
  some (v64 (Int.tdiv lo_1 y_2),Int.tmod lo_1 y_2)
 else
 optE (ZbJ N y_2) fun x1=>
 chk (0≤(v64 (x1)))<|
 chk (0≤(v64 (64-(v64 (x1)))))<|
 chk ((shrOf .u64 (shlOf .u64 y_2 (v64 (x1))) 32)≠0)<|
 loopN (Zah.p1 N y_2 x1 hi_0 lo_1) N (v64 (Int.tdiv (bitsOf .or .u64 (shlOf .u64 hi_0 (v64 (x1))) (shrOf .u64 lo_1 (v64 (64-(v64 (x1)))))) (shrOf .u64 (shlOf .u64 y_2 (v64 (x1))) 32)),v64 ((bitsOf .or .u64 (shlOf .u64 hi_0 (v64 (x1))) (shrOf .u64 lo_1 (v64 (64-(v64 (x1))))))-(v64 ((v64 (Int.tdiv (bitsOf .or .u64 (shlOf .u64 hi_0 (v64 (x1))) (shrOf .u64 lo_1 (v64 (64-(v64 (x1)))))) (shrOf .u64 (shlOf .u64 y_2 (v64 (x1))) 32)))*(shrOf .u64 (shlOf .u64 y_2 (v64 (x1))) 32)))))
noncomputable def Zah.p6.S (y_2 x1 lo_1 q1_4 hi_0 q0_7:Int) (st:LL):S:=mkS 135 [(2,.one (.l (L.int .u64 (shlOf .u64 y_2 (v64 (x1)))))),(8,.one (.l (L.int .u64 (v64 (x1))))),(14,.one (.l (L.int .u64 (bitsOf .and .u64 (shlOf .u64 lo_1 (v64 (x1))) 4294967295)))),(15,.one (.l (L.int .u64 q1_4))),(17,.one (.l (L.int .u64 (v64 ((v64 ((v64 ((bitsOf .or .u64 (shlOf .u64 hi_0 (v64 (x1))) (shrOf .u64 lo_1 (v64 (64-(v64 (x1))))))*4294967296))+(shrOf .u64 (shlOf .u64 lo_1 (v64 (x1))) 32)))-(v64 (q1_4*(shlOf .u64 y_2 (v64 (x1)))))))))),(18,.one (.l (L.int .u64 q0_7)))] [] st
noncomputable def Zah.p5.S (y_2 x1 lo_1 q1_4 rhat_5 hi_0 q0_6:Int) (st:LL):S:=mkS 135 [(2,.one (.l (L.int .u64 (shlOf .u64 y_2 (v64 (x1)))))),(8,.one (.l (L.int .u64 (v64 (x1))))),(9,.one (.l (L.int .u64 (shrOf .u64 (shlOf .u64 y_2 (v64 (x1))) 32)))),(10,.one (.l (L.int .u64 (bitsOf .and .u64 (shlOf .u64 y_2 (v64 (x1))) 4294967295)))),(14,.one (.l (L.int .u64 (bitsOf .and .u64 (shlOf .u64 lo_1 (v64 (x1))) 4294967295)))),(15,.one (.l (L.int .u64 q1_4))),(16,.one (.l (L.int .u64 rhat_5))),(17,.one (.l (L.int .u64 (v64 ((v64 ((v64 ((bitsOf .or .u64 (shlOf .u64 hi_0 (v64 (x1))) (shrOf .u64 lo_1 (v64 (64-(v64 (x1))))))*4294967296))+(shrOf .u64 (shlOf .u64 lo_1 (v64 (x1))) 32)))-(v64 (q1_4*(shlOf .u64 y_2 (v64 (x1)))))))))),(18,.one (.l (L.int .u64 q0_6)))] [] st
noncomputable def Zah.p4.S (y_2 x1 lo_1 q1_4 rhat_5 hi_0 q0_6:Int) (st:LL):S:=mkS 135 [(2,.one (.l (L.int .u64 (shlOf .u64 y_2 (v64 (x1)))))),(8,.one (.l (L.int .u64 (v64 (x1))))),(9,.one (.l (L.int .u64 (shrOf .u64 (shlOf .u64 y_2 (v64 (x1))) 32)))),(10,.one (.l (L.int .u64 (bitsOf .and .u64 (shlOf .u64 y_2 (v64 (x1))) 4294967295)))),(14,.one (.l (L.int .u64 (bitsOf .and .u64 (shlOf .u64 lo_1 (v64 (x1))) 4294967295)))),(15,.one (.l (L.int .u64 q1_4))),(16,.one (.l (L.int .u64 rhat_5))),(17,.one (.l (L.int .u64 (v64 ((v64 ((v64 ((bitsOf .or .u64 (shlOf .u64 hi_0 (v64 (x1))) (shrOf .u64 lo_1 (v64 (64-(v64 (x1))))))*4294967296))+(shrOf .u64 (shlOf .u64 lo_1 (v64 (x1))) 32)))-(v64 (q1_4*(shlOf .u64 y_2 (v64 (x1)))))))))),(18,.one (.l (L.int .u64 q0_6)))] [] st
noncomputable def Zah.p3.S (y_2 x1 hi_0 lo_1 q1_4:Int) (st:LL):S:=mkS 135 [(2,.one (.l (L.int .u64 (shlOf .u64 y_2 (v64 (x1)))))),(8,.one (.l (L.int .u64 (v64 (x1))))),(9,.one (.l (L.int .u64 (shrOf .u64 (shlOf .u64 y_2 (v64 (x1))) 32)))),(10,.one (.l (L.int .u64 (bitsOf .and .u64 (shlOf .u64 y_2 (v64 (x1))) 4294967295)))),(11,.one (.l (L.int .u64 (bitsOf .or .u64 (shlOf .u64 hi_0 (v64 (x1))) (shrOf .u64 lo_1 (v64 (64-(v64 (x1))))))))),(13,.one (.l (L.int .u64 (shrOf .u64 (shlOf .u64 lo_1 (v64 (x1))) 32)))),(14,.one (.l (L.int .u64 (bitsOf .and .u64 (shlOf .u64 lo_1 (v64 (x1))) 4294967295)))),(15,.one (.l (L.int .u64 q1_4)))] [] st
noncomputable def Zah.p2.S (y_2 x1 hi_0 lo_1 q1_2 rhat_3:Int) (st:LL):S:=mkS 135 [(2,.one (.l (L.int .u64 (shlOf .u64 y_2 (v64 (x1)))))),(8,.one (.l (L.int .u64 (v64 (x1))))),(9,.one (.l (L.int .u64 (shrOf .u64 (shlOf .u64 y_2 (v64 (x1))) 32)))),(10,.one (.l (L.int .u64 (bitsOf .and .u64 (shlOf .u64 y_2 (v64 (x1))) 4294967295)))),(11,.one (.l (L.int .u64 (bitsOf .or .u64 (shlOf .u64 hi_0 (v64 (x1))) (shrOf .u64 lo_1 (v64 (64-(v64 (x1))))))))),(13,.one (.l (L.int .u64 (shrOf .u64 (shlOf .u64 lo_1 (v64 (x1))) 32)))),(14,.one (.l (L.int .u64 (bitsOf .and .u64 (shlOf .u64 lo_1 (v64 (x1))) 4294967295)))),(15,.one (.l (L.int .u64 q1_2))),(16,.one (.l (L.int .u64 rhat_3)))] [] st
noncomputable def Zah.p1.S (y_2 x1 hi_0 lo_1 q1_2 rhat_3:Int) (st:LL):S:=mkS 135 [(2,.one (.l (L.int .u64 (shlOf .u64 y_2 (v64 (x1)))))),(8,.one (.l (L.int .u64 (v64 (x1))))),(9,.one (.l (L.int .u64 (shrOf .u64 (shlOf .u64 y_2 (v64 (x1))) 32)))),(10,.one (.l (L.int .u64 (bitsOf .and .u64 (shlOf .u64 y_2 (v64 (x1))) 4294967295)))),(11,.one (.l (L.int .u64 (bitsOf .or .u64 (shlOf .u64 hi_0 (v64 (x1))) (shrOf .u64 lo_1 (v64 (64-(v64 (x1))))))))),(13,.one (.l (L.int .u64 (shrOf .u64 (shlOf .u64 lo_1 (v64 (x1))) 32)))),(14,.one (.l (L.int .u64 (bitsOf .and .u64 (shlOf .u64 lo_1 (v64 (x1))) 4294967295)))),(15,.one (.l (L.int .u64 q1_2))),(16,.one (.l (L.int .u64 rhat_3)))] [] st
theorem Zah.p6_ok {y_2 x1 lo_1 q1_4 hi_0 q0_7 st r} (h:Zah.p6 N y_2 x1 lo_1 q1_4 hi_0 q0_7=some r) (hE:En Tryz.f225 g0 w0 (Zah.rs r) st R):At g0 w0 (Zah.p6.S y_2 x1 lo_1 q1_4 hi_0 q0_7 st) (XK Tryz.prog R [.c (csub Zah.B [1,1,1,1,1,1,1,1,1,1,1,1,1,1,1,1,1,1,1])]):=by
 unfold Zah.p6 at h
 obtain ⟨c16,h1⟩:=ZaI h
 obtain rfl:=Zab h1
 exact af fol hE [.r []] [] 0 [] c16
theorem Zah.p5_ok {y_2 x1 lo_1 q1_4 rhat_5 hi_0 q0_6 st r c4_ J4} (h:Zah.p5 N c4_ y_2 x1 lo_1 q1_4 rhat_5 hi_0 q0_6=some r) (hE:En Tryz.f225 g0 w0 (Zah.rs r) st R) (hc4 : ∀rhat_5 q0_6,c4_ (rhat_5,q0_6)=some r→At g0 w0 (Zah.p4.S y_2 x1 lo_1 q1_4 rhat_5 hi_0 q0_6 st) J4):At g0 w0 (Zah.p5.S y_2 x1 lo_1 q1_4 rhat_5 hi_0 q0_6 st) (XK Tryz.prog R [.c (csub Zah.B [1,1,1,1,1,1,1,1,1,1,1,1,1,1,1,1,1,1,0,0,0,1]),.h J4,.b 2,.c (csub Zah.B [1,1,1,1,1,1,1,1,1,1,1,1,1,1,1,1,1,1,1])]):=by
 unfold Zah.p5 at h
 refine iteB h (fun c15 h2=>?_) (fun c15 h3=>?_)
 ·exact aq fol [.r [],.r [],.r [],.c true,.s 1] [2,8,14,15,17,18] [] c15 (Zah.p6_ok h2 hE)
 ·exact an fol [.r [],.r [],.r [],.c false] [2,8,9,10,14,15,16,17,18] [] c15 (hc4 (v64 (rhat_5+(shrOf .u64 (shlOf .u64 y_2 (v64 (x1))) 32))) (v64 (q0_6-1)) h3)
theorem Zah.p4_ok {y_2 x1 lo_1 q1_4 rhat_5 hi_0 q0_6 st r c4_ J4} (h:Zah.p4 N y_2 x1 lo_1 q1_4 hi_0 c4_ (rhat_5,q0_6)=some r) (hE:En Tryz.f225 g0 w0 (Zah.rs r) st R) (hc4 : ∀rhat_5 q0_6,c4_ (rhat_5,q0_6)=some r→At g0 w0 (Zah.p4.S y_2 x1 lo_1 q1_4 rhat_5 hi_0 q0_6 st) J4):At g0 w0 (Zah.p4.S y_2 x1 lo_1 q1_4 rhat_5 hi_0 q0_6 st) (XK Tryz.prog R (.c (csub Zah.B [1,1,1,1,1,1,1,1,1,1,1,1,1,1,1,1,1,1,0,0,0]) :: .h J4 :: [.b 2,.c (csub Zah.B [1,1,1,1,1,1,1,1,1,1,1,1,1,1,1,1,1,1,1])])):=by
 unfold Zah.p4 at h
 refine iteB h (fun c13 h4=>?_) (fun c13 h5=>?_)
 ·exact aq fol [.r [(3,wF),(4,wF),(5,wF),(6,wF),(7,wF),(8,wF),(9,wF),(10,wF)],.c true,.s 4] [2,8,9,10,14,15,16,17,18] [] (aO c13 c13 c13 c13 c13 c13 c13 (aJ c13 c13 eT)) (Zah.p5_ok h4 hE hc4)
 ·have t1 {Q:Prop} (q:Q):=aO c13 c13 c13 c13 c13 c13 c13 (aJ c13 c13 q)
  refine iteB h5 (fun c14 h6=>?_) (fun c14 h7=>?_)
  ·exact aq fol [.r [(11,yF)],.c true,.s 4] [2,8,9,10,14,15,16,17,18] [] (t1 c14) (Zah.p5_ok h6 hE hc4)
  ·exact aq fol [.r [(11,yF)],.c false,.s 1] [2,8,14,15,17,18] [] (t1 c14) (Zah.p6_ok h7 hE)
theorem Zah.p3_ok {y_2 x1 hi_0 lo_1 q1_4 st r} (h:Zah.p3 N y_2 x1 hi_0 lo_1 q1_4=some r) (hE:En Tryz.f225 g0 w0 (Zah.rs r) st R):At g0 w0 (Zah.p3.S y_2 x1 hi_0 lo_1 q1_4 st) (XK Tryz.prog R [.c (csub Zah.B [1,1,1,1,1,1,1,1,1,1,1,1,1,1,1])]):=by
 unfold Zah.p3 at h
 obtain ⟨c12,h8⟩:=ZaI h
 exact aq fol [.r [],.r [],.r []] [2,8,9,10,14,15,16,17,18] [] c12 (At.loop N (At.loopN (fun y:Int×Int=>Zah.p4.S y_2 x1 lo_1 q1_4 y.1 hi_0 y.2 st) (fun c J hc y h=>Zah.p4_ok (rhat_5:=y.1) (q0_6:=y.2) h hE (fun rhat_5 q0_6=>hc (rhat_5,q0_6))) N (v64 ((v64 ((v64 ((v64 ((bitsOf .or .u64 (shlOf .u64 hi_0 (v64 (x1))) (shrOf .u64 lo_1 (v64 (64-(v64 (x1))))))*4294967296))+(shrOf .u64 (shlOf .u64 lo_1 (v64 (x1))) 32)))-(v64 (q1_4*(shlOf .u64 y_2 (v64 (x1)))))))-(v64 ((v64 (Int.tdiv (v64 ((v64 ((v64 ((bitsOf .or .u64 (shlOf .u64 hi_0 (v64 (x1))) (shrOf .u64 lo_1 (v64 (64-(v64 (x1))))))*4294967296))+(shrOf .u64 (shlOf .u64 lo_1 (v64 (x1))) 32)))-(v64 (q1_4*(shlOf .u64 y_2 (v64 (x1))))))) (shrOf .u64 (shlOf .u64 y_2 (v64 (x1))) 32)))*(shrOf .u64 (shlOf .u64 y_2 (v64 (x1))) 32)))),v64 (Int.tdiv (v64 ((v64 ((v64 ((bitsOf .or .u64 (shlOf .u64 hi_0 (v64 (x1))) (shrOf .u64 lo_1 (v64 (64-(v64 (x1))))))*4294967296))+(shrOf .u64 (shlOf .u64 lo_1 (v64 (x1))) 32)))-(v64 (q1_4*(shlOf .u64 y_2 (v64 (x1))))))) (shrOf .u64 (shlOf .u64 y_2 (v64 (x1))) 32))) h8))
theorem Zah.p2_ok {y_2 x1 hi_0 lo_1 q1_2 rhat_3 st r c1_ J1} (h:Zah.p2 N c1_ y_2 x1 hi_0 lo_1 q1_2 rhat_3=some r) (hE:En Tryz.f225 g0 w0 (Zah.rs r) st R) (hc1 : ∀q1_2 rhat_3,c1_ (q1_2,rhat_3)=some r→At g0 w0 (Zah.p1.S y_2 x1 hi_0 lo_1 q1_2 rhat_3 st) J1):At g0 w0 (Zah.p2.S y_2 x1 hi_0 lo_1 q1_2 rhat_3 st) (XK Tryz.prog R [.c (csub Zah.B [1,1,1,1,1,1,1,1,1,1,1,1,1,1,0,0,0,1]),.h J1,.b 0,.c (csub Zah.B [1,1,1,1,1,1,1,1,1,1,1,1,1,1,1])]):=by
 unfold Zah.p2 at h
 refine iteB h (fun c11 h9=>?_) (fun c11 h10=>?_)
 ·exact aq fol [.r [],.r [],.r [],.c true,.s 1] [2,8,9,10,11,13,14,15] [] c11 (Zah.p3_ok h9 hE)
 ·exact an fol [.r [],.r [],.r [],.c false] [2,8,9,10,11,13,14,15,16] [] c11 (hc1 (v64 (q1_2-1)) (v64 (rhat_3+(shrOf .u64 (shlOf .u64 y_2 (v64 (x1))) 32))) h10)
theorem Zah.p1_ok {y_2 x1 hi_0 lo_1 q1_2 rhat_3 st r c1_ J1} (h:Zah.p1 N y_2 x1 hi_0 lo_1 c1_ (q1_2,rhat_3)=some r) (hE:En Tryz.f225 g0 w0 (Zah.rs r) st R) (hc1 : ∀q1_2 rhat_3,c1_ (q1_2,rhat_3)=some r→At g0 w0 (Zah.p1.S y_2 x1 hi_0 lo_1 q1_2 rhat_3 st) J1):At g0 w0 (Zah.p1.S y_2 x1 hi_0 lo_1 q1_2 rhat_3 st) (XK Tryz.prog R (.c (csub Zah.B [1,1,1,1,1,1,1,1,1,1,1,1,1,1,0,0,0]) :: .h J1 :: [.b 0,.c (csub Zah.B [1,1,1,1,1,1,1,1,1,1,1,1,1,1,1])])):=by
 unfold Zah.p1 at h
 refine iteB h (fun c9 h11=>?_) (fun c9 h12=>?_)
 ·exact aq fol [.r [(3,wF),(4,wF),(5,wF),(6,wF),(7,wF),(8,wF),(9,wF),(10,wF)],.c true,.s 4] [2,8,9,10,11,13,14,15,16] [] (aO c9 c9 c9 c9 c9 c9 c9 (aJ c9 c9 eT)) (Zah.p2_ok h11 hE hc1)
 ·refine iteB h12 (fun c10 h13=>?_) (fun c10 h14=>?_)
  ·exact aq fol [.r [(11,yF)],.c true,.s 4] [2,8,9,10,11,13,14,15,16] [] (aO c9 c9 c9 c9 c9 c9 c9 (aJ c9 c9 c10)) (Zah.p2_ok h13 hE hc1)
  ·exact aq fol [.r [(11,yF)],.c false,.s 1] [2,8,9,10,11,13,14,15] [] (aO c9 c9 c9 c9 c9 c9 c9 (aJ c9 c9 c10)) (Zah.p3_ok h14 hE)
theorem Zah.snd {hi_0 lo_1 y_2:Int} {r:Int×Int} (h:Zah N hi_0 lo_1 y_2=some r):SndQ Tryz.prog 225 [.one (L.int .u64 hi_0),.one (L.int .u64 lo_1),.one (L.int .u64 y_2)] (Zah.rs r):=fun st=>
 sO Zah.B Tryz.func225 fun g0 w0 R hE=>by
  unfold Zah at h
  let o1:List PS:=[.r [],.r [],.c false,.r [],.c false,.r []]
  refine iteB h (fun c1 h15=>?_) (fun c1 h16=>?_)
  ·cases h15
  ·refine iteB h16 (fun c2 h17=>?_) (fun c2 h18=>?_)
   ·cases h17
   ·refine iteB h18 (fun c3 h19=>?_) (fun c3 h20=>?_)
    ·obtain ⟨c4,h21⟩:=ZaI h19
     obtain rfl:=Zab h21
     exact afd fol hE (o1 ++ [.c true,.d {ds:=[],hv:=0,Hs:=[]}]) [] 0 [] (aL c1 c2 c3 c4 c4)
    ·obtain ⟨x1,c5,h22⟩:=Zad h20
     obtain ⟨c6,c7,c8,h23⟩:=ck3 h22
     exact aq fol (o1 ++ [.c false,.r [(1,q1 [oI x1])],.r [],.r [],.r [],.r [],.r [],.r [],.r [],.r [],.r []]) [2,8,9,10,11,13,14,15,16] [] (aO c1 c2 c3 (ZbJ.snd c5) c6 (leI 0 32) c6 (aK c7 c6 (leI 0 32) c8)) (At.loop N (At.loopN (fun y:Int×Int=>Zah.p1.S y_2 x1 hi_0 lo_1 y.1 y.2 st) (fun c J hc y h=>Zah.p1_ok (q1_2:=y.1) (rhat_3:=y.2) h hE (fun q1_2 rhat_3=>hc (q1_2,rhat_3))) N (v64 (Int.tdiv (bitsOf .or .u64 (shlOf .u64 hi_0 (v64 (x1))) (shrOf .u64 lo_1 (v64 (64-(v64 (x1)))))) (shrOf .u64 (shlOf .u64 y_2 (v64 (x1))) 32)),v64 ((bitsOf .or .u64 (shlOf .u64 hi_0 (v64 (x1))) (shrOf .u64 lo_1 (v64 (64-(v64 (x1))))))-(v64 ((v64 (Int.tdiv (bitsOf .or .u64 (shlOf .u64 hi_0 (v64 (x1))) (shrOf .u64 lo_1 (v64 (64-(v64 (x1)))))) (shrOf .u64 (shlOf .u64 y_2 (v64 (x1))) 32)))*(shrOf .u64 (shlOf .u64 y_2 (v64 (x1))) 32))))) h23))
noncomputable def Zck.B:Code:=Tryz.f214.body.getD .skip
noncomputable def Zck.rs (r:(List Int)×Int):List CV:=[.agg [L.arr .u64 4 r.1],.one (L.int .u64 r.2)]
noncomputable def Zck.p1 (N:Nat) (by_1:Int) (c1_:(Int×Int×(List Int))→Option ((List Int)×Int)):(Int×Int×(List Int))→Option ((List Int)×Int):=fun (r_1,i_2,a_5)=>
 if (decide (i_2≥0))=true then
  chk (0≤i_2)<|
  chk (i_2<4)<|
  optE (Zah N r_1 (List.getD a_5 (Int.toNat i_2) 0) by_1) fun (x6,x7)=>
  c1_ (x7,w64 (i_2-1),List.set a_5 (Int.toNat i_2) x6)
 else
 some (a_5,r_1)
noncomputable def Zck (N:Nat) (a_0_0:List Int) (by_1:Int):Option ((List Int)×Int):=
 if (by_1==0)=true then
  some (List.replicate 4 0,0)
 else
 loopN (Zck.p1 N by_1) N (0,3,a_0_0)
noncomputable def Zck.p1.S (by_1 r_1 i_2:Int) (a_5:List Int) (st:LL):S:=mkS 28 [(1,.one (.l (L.int .u64 by_1))),(2,sA 2),(4,sA 4),(6,.one (.l (L.int .u64 r_1))),(7,sI i_2)] [(2,.cells [L.arr .u64 4 a_5]),(4,.cells [L.arr .u64 4 (List.replicate 4 0)])] st
theorem Zck.p1_ok {by_1 r_1 i_2 a_5 st r c1_ J1} (h:Zck.p1 N by_1 c1_ (r_1,i_2,a_5)=some r) (hE:En Tryz.f214 g0 w0 (Zck.rs r) st R) (hc1 : ∀r_1 i_2 a_5,c1_ (r_1,i_2,a_5)=some r→At g0 w0 (Zck.p1.S by_1 r_1 i_2 a_5 st) J1):At g0 w0 (Zck.p1.S by_1 r_1 i_2 a_5 st) (XK Tryz.prog R (.c (csub Zck.B [1,1,1,0,1,0,0]) :: .h J1 :: [.b 0,.c (csub Zck.B [1,1,1,1])])):=by
 unfold Zck.p1 at h
 refine iteB h (fun c6 h1=>?_) (fun c6 h2=>?_)
 ·obtain ⟨c7,c8,h3⟩:=ck2 h1
  obtain ⟨⟨x6,x7⟩,c9,h4⟩:=Zad h3
  exact an fol [.r [],.c true,.r [(6,q1 [.one (L.int .u64 x6),.one (L.int .u64 x7)])],.r []] [1,2,4,6,7] [2,4] (aM c6 c7 c8 (Zah.snd c9) c7 c8) (hc1 x7 (w64 (i_2-1)) (List.set a_5 (Int.toNat i_2) x6) h4)
 ·obtain rfl:=Zab h2
  exact af fol hE [.r [],.c false,.r []] [] 0 [] c6
theorem Zck.snd {a_0_0:List Int} {by_1:Int} {r:(List Int)×Int} (h:Zck N a_0_0 by_1=some r):SndQ Tryz.prog 214 [.agg [L.arr .u64 4 a_0_0],.one (L.int .u64 by_1)] (Zck.rs r):=fun st=>
 sO Zck.B Tryz.func214 fun g0 w0 R hE=>by
  unfold Zck at h
  refine iteB h (fun c1 h5=>?_) (fun c1 h6=>?_)
  ·obtain rfl:=Zab h5
   exact af fol hE [.r [],.r [],.c true,.r []] [] 0 [] c1
  ·exact aq fol [.r [],.r [],.c false,.r [],.r []] [1,2,4,6,7] [2,4] c1 (At.loop N (At.loopN (fun y:Int×Int×(List Int)=>Zck.p1.S by_1 y.1 y.2.1 y.2.2 st) (fun c J hc y h=>Zck.p1_ok (r_1:=y.1) (i_2:=y.2.1) (a_5:=y.2.2) h hE (fun r_1 i_2 a_5=>hc (r_1,i_2,a_5))) N (0,3,a_0_0) h6))
noncomputable def Zcy.B:Code:=Tryz.f226.body.getD .skip
noncomputable def Zcy.rs (r:Int×Int):List CV:=[.one (L.int .u64 r.1),.one (L.int .u64 r.2)]
noncomputable def Zcy (N:Nat) (x_0 y_1:Int):Option (Int×Int):=
 some (v64 ((v64 ((v64 ((shrOf .u64 x_0 32)*(shrOf .u64 y_1 32)))+(shrOf .u64 (v64 ((v64 ((shrOf .u64 x_0 32)*(bitsOf .and .u64 y_1 4294967295)))+(shrOf .u64 (v64 ((bitsOf .and .u64 x_0 4294967295)*(bitsOf .and .u64 y_1 4294967295))) 32))) 32)))+(shrOf .u64 (v64 ((bitsOf .and .u64 (v64 ((v64 ((shrOf .u64 x_0 32)*(bitsOf .and .u64 y_1 4294967295)))+(shrOf .u64 (v64 ((bitsOf .and .u64 x_0 4294967295)*(bitsOf .and .u64 y_1 4294967295))) 32))) 4294967295)+(v64 ((bitsOf .and .u64 x_0 4294967295)*(shrOf .u64 y_1 32))))) 32)),v64 (x_0*y_1))
theorem Zcy.snd {x_0 y_1:Int} {r:Int×Int} (h:Zcy N x_0 y_1=some r):SndQ Tryz.prog 226 [.one (L.int .u64 x_0),.one (L.int .u64 y_1)] (Zcy.rs r):=fun st=>
 sO Zcy.B Tryz.func226 fun g0 w0 R hE=>by
  unfold Zcy at h
  obtain rfl:=Zab h
  exact af fol hE [.r [],.r [],.r [],.r [],.r [],.r [],.r [],.r [],.r [],.r [],.r [],.r []] [] 0 [] (aL (leI 0 32) (leI 0 32) (leI 0 32) (leI 0 32) (leI 0 32))
noncomputable def ZbW.B:Code:=Tryz.f215.body.getD .skip
noncomputable def ZbW.rs (r:(List Int)×Bool):List CV:=[.agg [L.arr .u64 4 r.1],oB r.2]
noncomputable def ZbW.p1 (N:Nat) (by_1:Int) (c1_:(Int×Int×(List Int))→Option ((List Int)×Bool)):(Int×Int×(List Int))→Option ((List Int)×Bool):=fun (c_1,v2,a_7)=>
 if (decide (v2<4))=true then
  chk (0≤v2)<|
  optE (Zcy N (List.getD a_7 (Int.toNat v2) 0) by_1) fun (x8,x9)=>
  optE (ZdA N x9 c_1 0) fun (x10,x11)=>
  c1_ (v64 (x8+x11),w64 (v2+1),List.set a_7 (Int.toNat v2) x10)
 else
 some (a_7,c_1 != 0)
noncomputable def ZbW (N:Nat) (a_0_0:List Int) (by_1:Int):Option ((List Int)×Bool):=
 loopN (ZbW.p1 N by_1) N (0,0,a_0_0)
noncomputable def ZbW.p1.S (by_1 c_1 v2:Int) (a_7:List Int) (st:LL):S:=mkS 37 [(1,.one (.l (L.int .u64 by_1))),(2,sA 2),(4,sA 4),(6,.one (.l (L.int .u64 c_1))),(11,sI v2)] [(2,.cells [L.arr .u64 4 a_7]),(4,.cells [L.arr .u64 4 (List.replicate 4 0)])] st
theorem ZbW.p1_ok {by_1 c_1 v2 a_7 st r c1_ J1} (h:ZbW.p1 N by_1 c1_ (c_1,v2,a_7)=some r) (hE:En Tryz.f215 g0 w0 (ZbW.rs r) st R) (hc1 : ∀c_1 v2 a_7,c1_ (c_1,v2,a_7)=some r→At g0 w0 (ZbW.p1.S by_1 c_1 v2 a_7 st) J1):At g0 w0 (ZbW.p1.S by_1 c_1 v2 a_7 st) (XK Tryz.prog R (.c (csub ZbW.B [1,1,0,1,0,0]) :: .h J1 :: [.b 0,.c (csub ZbW.B [1,1,1])])):=by
 unfold ZbW.p1 at h
 refine iteB h (fun c5 h1=>?_) (fun c5 h2=>?_)
 ·obtain ⟨c6,h3⟩:=ZaI h1
  obtain ⟨⟨x8,x9⟩,c7,h4⟩:=Zad h3
  obtain ⟨⟨x10,x11⟩,c8,h5⟩:=Zad h4
  exact an fol [.r [],.c true,.r [],.r [(4,q1 [.one (L.int .u64 x8),.one (L.int .u64 x9)])],.r [],.r [(3,{rs:=[.one (L.int .u64 x10),.one (L.int .u64 x11)],m:=4})],.r [],.r []] [1,2,4,6,11] [2,4] (aN c5 c6 (oD c5) (Zcy.snd c7) (ZdA.snd c8) c6 (oD c5)) (hc1 (v64 (x8+x11)) (w64 (v2+1)) (List.set a_7 (Int.toNat v2) x10) h5)
 ·obtain rfl:=Zab h2
  exact af fol hE [.r [],.c false,.r []] [] 0 [] c5
theorem ZbW.snd {a_0_0:List Int} {by_1:Int} {r:(List Int)×Bool} (h:ZbW N a_0_0 by_1=some r):SndQ Tryz.prog 215 [.agg [L.arr .u64 4 a_0_0],.one (L.int .u64 by_1)] (ZbW.rs r):=fun st=>
 sO ZbW.B Tryz.func215 fun g0 w0 R hE=>by
  unfold ZbW at h
  exact aq fol [.r [],.r [],.r []] [1,2,4,6,11] [2,4] trivial (At.loop N (At.loopN (fun y:Int×Int×(List Int)=>ZbW.p1.S by_1 y.1 y.2.1 y.2.2 st) (fun c J hc y h=>ZbW.p1_ok (c_1:=y.1) (v2:=y.2.1) (a_7:=y.2.2) h hE (fun c_1 v2 a_7=>hc (c_1,v2,a_7))) N (0,0,a_0_0) h))
noncomputable def ZaQ.B:Code:=Tryz.f216.body.getD .skip
noncomputable def ZaQ.rs (r:Int):List CV:=[oI r]
noncomputable def ZaQ.p2 (N:Nat) (size_5 word_6:Int):Option Int:=
 some (bitsOf .or .i64 (shlOf .i64 size_5 24) word_6)
noncomputable def ZaQ.p1 (N:Nat) (x1 word_4:Int):Option Int:=
 if ((bitsOf .and .i64 word_4 8388608) != 0)=true then
  ZaQ.p2 N (w64 ((w64 (Int.tdiv (w64 (x1+7)) 8))+1)) (shrOf .i64 word_4 8)
 else
 ZaQ.p2 N (w64 (Int.tdiv (w64 (x1+7)) 8)) word_4
noncomputable def ZaQ (N:Nat) (n_0_0:List Int):Option Int:=
 optE (Zcq N n_0_0) fun x1=>
 if (decide ((w64 (Int.tdiv (w64 (x1+7)) 8))≤3))=true then
  optE (ZbF N n_0_0 (w64 (8*(w64 (3-(w64 (Int.tdiv (w64 (x1+7)) 8))))))) fun x2=>
  ZaQ.p1 N x1 (w64 (List.getD x2 0 0))
 else
 optE (Zbf N n_0_0 (w64 (8*(w64 ((w64 (Int.tdiv (w64 (x1+7)) 8))-3))))) fun x3=>
 ZaQ.p1 N x1 (w64 (List.getD x3 0 0))
noncomputable def ZaQ.p2.S (size_5 word_6:Int) (st:LL):S:=mkS 36 [(3,sI size_5),(4,sI word_6)] [] st
noncomputable def ZaQ.p1.S (x1 word_4:Int) (st:LL):S:=mkS 36 [(3,sI (w64 (Int.tdiv (w64 (x1+7)) 8))),(4,sI word_4)] [] st
theorem ZaQ.p2_ok {size_5 word_6 st r} (h:ZaQ.p2 N size_5 word_6=some r) (hE:En Tryz.f216 g0 w0 (ZaQ.rs r) st R):At g0 w0 (ZaQ.p2.S size_5 word_6 st) (XK Tryz.prog R [.c (csub ZaQ.B [1,1,1,1,1])]):=by
 unfold ZaQ.p2 at h
 obtain rfl:=Zab h
 exact af fol hE [.r []] [] 0 [] (leI 0 24)
theorem ZaQ.p1_ok {x1 word_4 st r} (h:ZaQ.p1 N x1 word_4=some r) (hE:En Tryz.f216 g0 w0 (ZaQ.rs r) st R):At g0 w0 (ZaQ.p1.S x1 word_4 st) (XK Tryz.prog R [.c (csub ZaQ.B [1,1,1,1])]):=by
 unfold ZaQ.p1 at h
 refine iteB h (fun c5 h1=>?_) (fun c5 h2=>?_)
 ·exact aq fol [.r [],.c true,.r [],.r [],.s 1] [3,4] [] (aI c5 (leI 0 8)) (ZaQ.p2_ok h1 hE)
 ·exact aq fol [.r [],.c false,.s 1] [3,4] [] c5 (ZaQ.p2_ok h2 hE)
theorem ZaQ.snd {n_0_0:List Int} {r:Int} (h:ZaQ N n_0_0=some r):SndQ Tryz.prog 216 [.agg [L.arr .u64 4 n_0_0]] (ZaQ.rs r):=fun st=>
 sO ZaQ.B Tryz.func216 fun g0 w0 R hE=>by
  unfold ZaQ at h
  obtain ⟨x1,c1,h3⟩:=Zad h
  let o1:List PS:=[.r [],.r [(1,q1 [oI x1])],.r [],.r []]
  refine iteB h3 (fun c2 h4=>?_) (fun c2 h5=>?_)
  ·obtain ⟨x2,c3,h6⟩:=Zad h4
   exact aq fol (o1 ++ [.c true,.r [(4,q1 [.agg [L.arr .u64 4 x2]])],.s 1]) [3,4] [] (aM (Zcq.snd c1) (neI 8) c2 (ZbF.snd c3) (leI 0 0) (ltI 0 4)) (ZaQ.p1_ok h6 hE)
  ·obtain ⟨x3,c4,h7⟩:=Zad h5
   exact aq fol (o1 ++ [.c false,.r [(4,q1 [.agg [L.arr .u64 4 x3]])],.s 1]) [3,4] [] (aM (Zcq.snd c1) (neI 8) c2 (Zbf.snd c4) (leI 0 0) (ltI 0 4)) (ZaQ.p1_ok h7 hE)
noncomputable def ZbC.B:Code:=Tryz.f189.body.getD .skip
noncomputable def ZbC.rs (r:Int):List CV:=[oI r]
noncomputable def ZbC.p1 (N:Nat) (n_17:List Int):Option Int:=
 optE (ZaQ N n_17) fun x18=>
 some x18
noncomputable def ZbC (N:Nat) (p_0:Zae) (bits_1 from_2 to_3:Int):Option Int:=
 optE (Zcn N bits_1 p_0.Limit) fun (x1,x2)=>
 optE (ZdO N p_0) fun x3=>
 if (!x3)=true then
  some p_0.Limit
 else
 if (!x2)=true then
  some p_0.Limit
 else
 optE (Zef N p_0 from_2 to_3) fun x4=>
 optE (Zck N x1 (v64 (w64 (p_0.Interval*p_0.Spacing)))) fun (x5,x6)=>
 optE (ZbW N x5 (v64 (x4))) fun (x7,x8)=>
 chk ((v64 (w64 (p_0.Interval*p_0.Spacing)))≠0)<|
 optE (ZcV N (v64 (Int.tdiv (v64 (x6*(v64 (x4)))) (v64 (w64 (p_0.Interval*p_0.Spacing)))))) fun x9=>
 optE (ZbQ N x7 x9) fun (x10,x11)=>
 optE (Zcn N p_0.Limit p_0.Limit) fun (x12,x13)=>
 if x8=true then
  some p_0.Limit
 else
 if x11=true then
  some p_0.Limit
 else
 optE (ZcO N x12 x10) fun x14=>
 if x14=true then
  some p_0.Limit
 else
 optE (ZcF N x10) fun x15=>
 if x15=true then
  optE (ZcV N 1) fun x16=>
  ZbC.p1 N x16
 else
 ZbC.p1 N x10
noncomputable def ZbC.p1.S (n_17:List Int) (st:LL):S:=mkS 94 [(15,sA 15)] [(15,.cells [L.arr .u64 4 n_17])] st
theorem ZbC.p1_ok {n_17 st r} (h:ZbC.p1 N n_17=some r) (hE:En Tryz.f189 g0 w0 (ZbC.rs r) st R):At g0 w0 (ZbC.p1.S n_17 st) (XK Tryz.prog R [.c (csub ZbC.B [1,1,1,1,1,1,1,1,1,1,1])]):=by
 unfold ZbC.p1 at h
 obtain ⟨x18,c19,h1⟩:=Zad h
 obtain rfl:=Zab h1
 exact af fol hE [.r [(1,q1 [oI x18])]] [] 0 [] (ZaQ.snd c19)
theorem ZbC.snd {p_0:Zae} {bits_1 from_2 to_3:Int} {r:Int} (h:ZbC N p_0 bits_1 from_2 to_3=some r):SndQ Tryz.prog 189 [.agg p_0.ls,oI bits_1,oI from_2,oI to_3] (ZbC.rs r):=fun st=>
 sO ZbC.B Tryz.func189 fun g0 w0 R hE=>by
  unfold ZbC at h
  obtain ⟨⟨x1,x2⟩,c1,h2⟩:=Zad h
  obtain ⟨x3,c2,h3⟩:=Zad h2
  let o1:List PS:=[.r [],.r [(3,q1 [.agg [L.arr .u64 4 x1],oB x2])]]
  have t1 {Q:Prop} (q:Q):=aJ (Zcn.snd c1) (ZdO.snd c2) q
  refine iteB h3 (fun c3 h4=>?_) (fun c3 h5=>?_)
  ·obtain rfl:=Zab h4
   exact af fol hE (o1 ++ [.r [(1,q1 [oB x3]),(4,wF),(5,wF)],.c true,.r []]) [] 0 [] (t1 (aK (not_false (Zby c3)) (not_false (Zby c3)) (not_false (Zby c3)) eT))
  ·let o2:List PS:=o1 ++ [.r [(1,q1 [oB x3]),(6,yF)]]
   have t2 {Q:Prop} (q:Q):=t1 (aK (not_true (Zbz c3)) (not_true (Zbz c3)) (not_true (Zbz c3)) q)
   refine iteB h5 (fun c4 h6=>?_) (fun c4 h7=>?_)
   ·obtain rfl:=Zab h6
    exact af fol hE (o2 ++ [.c true,.r []]) [] 0 [] (t2 c4)
   ·obtain ⟨x4,c5,h8⟩:=Zad h7
    obtain ⟨⟨x5,x6⟩,c6,h9⟩:=Zad h8
    obtain ⟨⟨x7,x8⟩,c7,h10⟩:=Zad h9
    obtain ⟨c8,h11⟩:=ZaI h10
    obtain ⟨x9,c9,h12⟩:=Zad h11
    obtain ⟨⟨x10,x11⟩,c10,h13⟩:=Zad h12
    obtain ⟨⟨x12,x13⟩,c11,h14⟩:=Zad h13
    let o3:List PS:=o2 ++ [.c false,.r [],.r [(3,q1 [oI x4])],.r [(2,q1 [.agg [L.arr .u64 4 x5],.one (L.int .u64 x6)])],.r [(2,q1 [.agg [L.arr .u64 4 x7],oB x8])],.d {ds:=[(6,q1 [.agg [L.arr .u64 4 x9]]),(7,q1 [.agg [L.arr .u64 4 x10],oB x11])],hv:=2048,Hs:=[2048]},.r [(4,q1 [.agg [L.arr .u64 4 x12],oB x13])]]
    have t3 {Q:Prop} (q:Q):=t2 (aO c4 (Zef.snd c5) (Zck.snd c6) (ZbW.snd c7) c8 (ZcV.snd c9) (ZbQ.snd c10) (aI (Zcn.snd c11) q))
    refine iteB h14 (fun c12 h15=>?_) (fun c12 h16=>?_)
    ·obtain rfl:=Zab h15
     exact afd fol hE (o3 ++ [.r [(2,wF),(5,wF),(6,wF),(7,wF)],.c true,.r []]) [] 0 [] (t3 (aN c12 c12 eT eT eT eT eT))
    ·refine iteB h16 (fun c13 h17=>?_) (fun c13 h18=>?_)
     ·obtain rfl:=Zab h17
      exact afd fol hE (o3 ++ [.r [(3,yF),(5,wF),(6,wF),(7,wF)],.c true,.r []]) [] 0 [] (t3 (aN c12 c12 c13 c13 c13 c13 eT))
     ·obtain ⟨x14,c14,h19⟩:=Zad h18
      let o4:List PS:=o3 ++ [.r [(3,yF),(7,q1 [oB x14]),(8,yF)]]
      have t4 {Q:Prop} (q:Q):=t3 (aO c12 c12 c13 c13 c13 (ZcO.snd c14) c13 q)
      refine iteB h19 (fun c15 h20=>?_) (fun c15 h21=>?_)
      ·obtain rfl:=Zab h20
       exact afd fol hE (o4 ++ [.c true,.r []]) [] 0 [] (t4 c15)
      ·obtain ⟨x15,c16,h22⟩:=Zad h21
       let o5:List PS:=o4 ++ [.c false,.r [(1,q1 [oB x15])]]
       refine iteB h22 (fun c17 h23=>?_) (fun c17 h24=>?_)
       ·obtain ⟨x16,c18,h25⟩:=Zad h23
        exact aqd fol (o5 ++ [.c true,.r [(0,q1 [.agg [L.arr .u64 4 x16]])],.s 1]) [15] [15] (t4 (aK c15 (ZcF.snd c16) c17 (ZcV.snd c18))) (ZbC.p1_ok h25 hE)
       ·exact aqd fol (o5 ++ [.c false,.s 1]) [15] [15] (t4 (aJ c15 (ZcF.snd c16) c17)) (ZbC.p1_ok h24 hE)
noncomputable def Zeg.B:Code:=Tryz.f149.body.getD .skip
noncomputable def Zeg.rs (r:Int):List CV:=[oI r]
noncomputable def Zeg (N:Nat) (p_0:Zae) (at_1:Zdf) (time_2:Int):Option Int:=
 if (decide (at_1.Height≤0))=true then
  some p_0.Limit
 else
 optE (ZcQ N p_0 at_1.Height) fun x1=>
 if x1=true then
  optE (ZbC N p_0 at_1.Bits at_1.First at_1.Time) fun x2=>
  some x2
 else
 if (!p_0.Easy)=true then
  some at_1.Bits
 else
 if (decide ((w64 (time_2-at_1.Time))>(w64 (2*p_0.Spacing))))=true then
  some p_0.Limit
 else
 some at_1.Hard
theorem Zeg.snd {p_0:Zae} {at_1:Zdf} {time_2:Int} {r:Int} (h:Zeg N p_0 at_1 time_2=some r):SndQ Tryz.prog 149 [.agg p_0.ls,.agg at_1.ls,oI time_2] (Zeg.rs r):=fun st=>
 sO Zeg.B Tryz.func149 fun g0 w0 R hE=>by
  unfold Zeg at h
  refine iteB h (fun c1 h1=>?_) (fun c1 h2=>?_)
  ·obtain rfl:=Zab h1
   exact af fol hE [.r [],.r [],.c true,.r []] [] 0 [] c1
  ·obtain ⟨x1,c2,h3⟩:=Zad h2
   let o1:List PS:=[.r [],.r [],.c false,.r [(3,q1 [oB x1])]]
   have t1 {Q:Prop} (q:Q):=aJ c1 (ZcQ.snd c2) q
   refine iteB h3 (fun c3 h4=>?_) (fun c3 h5=>?_)
   ·obtain ⟨x2,c4,h6⟩:=Zad h4
    obtain rfl:=Zab h6
    exact af fol hE (o1 ++ [.c true,.r [(7,q1 [oI x2])]]) [] 0 [] (t1 (aI c3 (ZbC.snd c4)))
   ·refine iteB h5 (fun c5 h7=>?_) (fun c5 h8=>?_)
    ·obtain rfl:=Zab h7
     exact af fol hE (o1 ++ [.c false,.r [],.c true,.r []]) [] 0 [] (t1 (aI c3 c5))
    ·refine iteB h8 (fun c6 h9=>?_) (fun c6 h10=>?_)
     ·obtain rfl:=Zab h9
      exact af fol hE (o1 ++ [.c false,.r [],.c false,.r [],.c true,.r []]) [] 0 [] (t1 (aJ c3 c5 c6))
     ·obtain rfl:=Zab h10
      exact af fol hE (o1 ++ [.c false,.r [],.c false,.r [],.c false,.r []]) [] 0 [] (t1 (aJ c3 c5 c6))
end Go.Dn.F
