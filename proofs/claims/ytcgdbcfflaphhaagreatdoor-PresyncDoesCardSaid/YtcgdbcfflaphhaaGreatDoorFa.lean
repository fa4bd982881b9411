/- Contracts of functions of the program, as shallow functions, and their proofs. -/
import Derived.Test.YtcgdbcfflaphhaaGreatDoorProg
import Derived.Test.YtcgdbcfflaphhaaGreatDoorKc
open ByteArray renaming size→zW
open Go.Dn.L renaming int→zC,sl→yM,arr→zH,ptr→xQ,own→xS,str→wS
open Go.Proofs.Tryz renaming prog→zG
open Int renaming toNat→zF
open List renaming length→zI,set→zO,map→wX,replicate→zB,getD→zE,take→vL,drop→tC
open Option renaming isNone→wI
set_option linter.all false
set_option maxRecDepth 100000
namespace Go.Dn.F
open Go.Proofs
noncomputable def qla (a0 a1 a2 a3:Int) (a4:Bool) (a5 a6:LL) (a7 a8:List Int) (a9:Int) (a10 a11:List Int) (a12 a13 a14 a15 a16 a17 a18 a19:Int) (a20:List Int) (a21:LL) (a22:List Int) (a23 a24 a25 a26 a27:Int) (a28:List Int) (a29:LL) (a30:List Int) (a31:Option Nat) (a32 a33 a34:Int) (a35:LL):List L:=[zC .i64 a0,zC .i64 a1,zC .i64 a2,zC .i64 a3,L.bool a4,yM 2 a5,yM 33 a6,zH .u64 4 a7,zH .u64 4 a8,zC .i64 a9,zH .u8 32 a10,zH .u8 32 a11,zC .i64 a12,zC .i64 a13,zC .i64 a14,zC .i64 a15,zC .i64 a16,zC .i64 a17,zC .i64 a18,zC .i64 a19,zH .u8 32 a20,yM 1 a21,zH .u64 4 a22,zC .i64 a23,zC .i64 a24,zC .i64 a25,zC .i64 a26,zC .i64 a27,zH .u8 32 a28,yM 1 a29,zH .u64 4 a30,xQ a31,zC .i64 a32,zC .i64 a33,zC .i64 a34,xS true 68 a35]
noncomputable def glob_digest_steps:List Int:=[1116352408,1899447441,3049323471,3921009573,961987163,1508970993,2453635748,2870763221,3624381080,310598401,607225278,1426881987,1925078388,2162078206,2614888103,3248222580,3835390401,4022224774,264347078,604807628,770255983,1249150122,1555081692,1996064986,2554220882,2821834349,2952996808,3210313671,3336571891,3584528711,113926993,338241895,666307205,773529912,1294757372,1396182291,1695183700,1986661051,2177026350,2456956037,2730485921,2820302411,3259730800,3345764771,3516065817,3600352804,4094571909,275423344,430227734,506948616,659060556,883997877,958139571,1322822218,1537002063,1747873779,1955562222,2024104815,2227730452,2361852424,2428436474,2756734187,3204031479,3329325298]
noncomputable def glob_digest_starts:List Int:=[1779033703,3144134277,1013904242,2773480762,1359893119,2600822924,528734635,1541459225]
noncomputable instance glob:Globs:=⟨fun k=>match k with
  | 0=>some [zH .u32 8 glob_digest_starts]
  | 1=>some [zH .u32 64 glob_digest_steps]
  | _=>none⟩
theorem fol:Tryz.prog.follows .mixedOrders=true:=by kernel_rfl
abbrev En (f:Func) (g0:G) (w0:World) (rs:List CV) (st:LL) (R:Exit→Act→World→Prop):Prop:=Ends zG f g0 w0 rs st R
variable {N:Nat} {g0:G} {w0:World} {R:Exit→Act→World→Prop}
structure Zaa where
  Version:Int
  Prev:List Int
  Root:List Int
  Time:Int
  Bits:Int
  Nonce:Int
noncomputable def Zaa.ls (x:Zaa):List L:=[zC .i64 x.Version,zH .u8 32 x.Prev,zH .u8 32 x.Root,zC .i64 x.Time,zC .i64 x.Bits,zC .i64 x.Nonce]
noncomputable def Zch {α:Type} (l:List L) (k:Zaa→Option α):Option α:=match l with
  | [zC .i64 x0,zH .u8 32 x1,zH .u8 32 x2,zC .i64 x3,zC .i64 x4,zC .i64 x5]=>k ⟨x0,x1,x2,x3,x4,x5⟩
  | _=>none
theorem ZbS {α:Type} {o:Option (List L)} {k:Zaa→Option α} {r:α} (h:getE o Zch k=some r) : ∃x:Zaa,o=some x.ls∧k x=some r:=by
  obtain ⟨l,e,k1⟩:=Zae h;subst e;unfold Zch at k1;split at k1
  · exact ⟨_,rfl,k1⟩
  · cases k1
@[simp] theorem ZbU {α:Type} (x:Zaa) (k:Zaa→Option α):Zch x.ls k=k x:=rfl
theorem Zaa.bv {st:LL} (x:Zaa):BVs st x.ls x.ls:=(bP (bP (bP (bP (bP (bP bN))))))
structure Zar where
  state:List Int
  rest:LL
  size:Int
noncomputable def Zar.lo (x:Zar):List L:=[zH .u32 8 x.state,xS false 1 x.rest,zC .u64 x.size]
noncomputable def ZbT {α:Type} (l:List L) (k:Zar→Option α):Option α:=match l with
  | [zH .u32 8 x0,xS false 1 x1,zC .u64 x2]=>k ⟨x0,x1,x2⟩
  | _=>none
theorem Zcg {α:Type} {o:Option (List L)} {k:Zar→Option α} {r:α} (h:getE o ZbT k=some r) : ∃x:Zar,o=some x.lo∧k x=some r:=by
  obtain ⟨l,e,k1⟩:=Zae h;subst e;unfold ZbT at k1;split at k1
  · exact ⟨_,rfl,k1⟩
  · cases k1
@[simp] theorem Zed {α:Type} (x:Zar) (k:Zar→Option α):ZbT x.lo k=k x:=rfl
noncomputable def Zar.ls (x:Zar):List L:=[zH .u32 8 x.state,yM 1 x.rest,zC .u64 x.size]
theorem Zar.bv {st:LL} (x:Zar):BVs st x.lo x.ls:=(bP (bW (bP bN)))
structure Zak where
  Limit:Int
  Interval:Int
  Spacing:Int
  Future:Int
  Easy:Bool
  Gates:LL
  Checks:LL
  MinWork:List Int
  Margin:List Int
  Genesis:Zaa
noncomputable def Zak.ls (x:Zak):List L:=[zC .i64 x.Limit,zC .i64 x.Interval,zC .i64 x.Spacing,zC .i64 x.Future,L.bool x.Easy,yM 2 x.Gates,yM 33 x.Checks,zH .u64 4 x.MinWork,zH .u64 4 x.Margin,zC .i64 x.Genesis.Version,zH .u8 32 x.Genesis.Prev,zH .u8 32 x.Genesis.Root,zC .i64 x.Genesis.Time,zC .i64 x.Genesis.Bits,zC .i64 x.Genesis.Nonce]
structure ZaQ where
  Height:Int
  Bits:Int
  Time:Int
  First:Int
  Hard:Int
noncomputable def ZaQ.ls (x:ZaQ):List L:=[zC .i64 x.Height,zC .i64 x.Bits,zC .i64 x.Time,zC .i64 x.First,zC .i64 x.Hard]
theorem ZaQ.bv {st:LL} (x:ZaQ):BVs st x.ls x.ls:=(bP (bP (bP (bP (bP bN)))))
structure Zat where
  Point:ZaQ
  Prev:List Int
  Times:LL
noncomputable def Zat.ls (x:Zat):List L:=[zC .i64 x.Point.Height,zC .i64 x.Point.Bits,zC .i64 x.Point.Time,zC .i64 x.Point.First,zC .i64 x.Point.Hard,zH .u8 32 x.Prev,yM 1 x.Times]
noncomputable def Zat.lo (x:Zat):List L:=[zC .i64 x.Point.Height,zC .i64 x.Point.Bits,zC .i64 x.Point.Time,zC .i64 x.Point.First,zC .i64 x.Point.Hard,zH .u8 32 x.Prev,xS true 1 x.Times]
theorem Zat.bv {st:LL} (x:Zat):BVs st x.lo x.ls:=(bP (bP (bP (bP (bP (bP (bW bN)))))))
noncomputable def ZeD {α:Type} (l:List L) (k:Int→Option α):Option α:=match l with
  | [zC .i64 x0]=>k x0
  | _=>none
theorem ZdA {α:Type} {o:Option (List L)} {k:Int→Option α} {r:α} (h:getE o ZeD k=some r) : ∃x0,o=some [zC .i64 x0]∧k x0=some r:=by
  obtain ⟨l,e,k1⟩:=Zae h;subst e;unfold ZeD at k1;split at k1
  · exact ⟨_,rfl,k1⟩
  · cases k1
@[simp] theorem ZdO {α:Type} (x0:Int) (k:Int→Option α):ZeD [zC .i64 x0] k=k x0:=rfl
noncomputable def Zgm {α:Type} (l:List L) (k:LL→Option α):Option α:=match l with
  | [xS true 1 x0]=>k x0
  | _=>none
theorem ZeI {α:Type} {o:Option (List L)} {k:LL→Option α} {r:α} (h:getE o Zgm k=some r) : ∃x0,o=some [xS true 1 x0]∧k x0=some r:=by
  obtain ⟨l,e,k1⟩:=Zae h;subst e;unfold Zgm at k1;split at k1
  · exact ⟨_,rfl,k1⟩
  · cases k1
@[simp] theorem Zfr {α:Type} (x0:LL) (k:LL→Option α):Zgm [xS true 1 x0] k=k x0:=rfl
noncomputable def ZfW {α:Type} (l:List L) (k:(List Int)→Option α):Option α:=match l with
  | [zH .u8 32 x0]=>k x0
  | _=>none
theorem ZgQ {α:Type} {o:Option (List L)} {k:(List Int)→Option α} {r:α} (h:getE o ZfW k=some r) : ∃x0,o=some [zH .u8 32 x0]∧k x0=some r:=by
  obtain ⟨l,e,k1⟩:=Zae h;subst e;unfold ZfW at k1;split at k1
  · exact ⟨_,rfl,k1⟩
  · cases k1
@[simp] theorem ZhE {α:Type} (x0:List Int) (k:(List Int)→Option α):ZfW [zH .u8 32 x0] k=k x0:=rfl
noncomputable def dec_t {α:Type} (l:List L) (k:ByteArray→Option α):Option α:=match l with
  | [wS x0]=>k x0
  | _=>none
theorem ZnC {α:Type} {o:Option (List L)} {k:ByteArray→Option α} {r:α} (h:getE o dec_t k=some r) : ∃x0,o=some [wS x0]∧k x0=some r:=by
  obtain ⟨l,e,k1⟩:=Zae h;subst e;unfold dec_t at k1;split at k1
  · exact ⟨_,rfl,k1⟩
  · cases k1
@[simp] theorem dec_t_ls {α:Type} (x0:ByteArray) (k:ByteArray→Option α):dec_t [wS x0] k=k x0:=rfl
noncomputable def Ziy {α:Type} (l:List L) (k:Int→Option α):Option α:=match l with
  | [zC .u8 x0]=>k x0
  | _=>none
theorem Zgg {α:Type} {o:Option (List L)} {k:Int→Option α} {r:α} (h:getE o Ziy k=some r) : ∃x0,o=some [zC .u8 x0]∧k x0=some r:=by
  obtain ⟨l,e,k1⟩:=Zae h;subst e;unfold Ziy at k1;split at k1
  · exact ⟨_,rfl,k1⟩
  · cases k1
@[simp] theorem ZgR {α:Type} (x0:Int) (k:Int→Option α):Ziy [zC .u8 x0] k=k x0:=rfl
noncomputable def ZbB.B:Code:=Tryz.f191.body.getD .skip
noncomputable def ZbB.rs (r:List (List L)):List CV:=[.row true 1 r]
noncomputable def ZbB (N:Nat) (s_0:List (List L)):Option (List (List L)):=chk (zI s_0*8≤140737488355328) (some s_0)
theorem ZbB.snd {s_0:LL} {r:LL} (h:ZbB N s_0=some r):SndQ zG 191 [.one (.sl 1 s_0)] (ZbB.rs r):=fun st=>
  Snd.of (fn:=Tryz.f191) (c:=ZbB.B) Tryz.func191 (by kernel_rfl) (by kernel_rfl) (of_decide_eq_true (by kernel_rfl)) fun g w R hE=>by
    unfold ZbB at h
    obtain ⟨c1,h⟩:=ZaN h
    obtain rfl:=Zac h
    refine At.q (s':=mkS 8 [(0,.one (.l (.sl 1 s_0)))] [] st) (ks':=[.c (.seq (.region 1 #[{ dst:=some 3,op:=.move (.tmp 0),type:=66,pos:=opPos (csub ZbB.B [1,0]) 0,after:=#[],guard:=none},{ dst:=some 4,op:=.binOp .eql 66 (.tmp 3) (.const (.slice none 0 0)) 66,type:=4,pos:=opPos (csub ZbB.B [1,0]) 1,after:=#[⟨0,.data⟩],guard:=none}] false) (csub ZbB.B [1,0,1])),.c (csub ZbB.B [1,1])]) fol 400 [.r [(0,{m:=2})],.s 2] [0] [] trivial ?_ (by kernel_rfl)
    refine At.nilcmp (T:=66) (E:=3) (sz:=1) (xs:=s_0) (Zfw _) rfl rfl rfl rfl rfl rfl Tryz.underlying66 (by kernel_rfl) (of_decide_eq_true (by kernel_rfl)) fun b hb=>?_
    cases b with
    | true=>
      obtain rfl:=hb rfl
      exact At.f fol hE 400 [.c true,.r [(0,{m:=2})]] [] 0 [0] (rfl:true=true) (by kernel_rfl)
    | false=>
      exact At.f fol hE 400 [.c false,.r []] [] 0 [0] (And.intro (rfl:false=false) (And.intro (rfl:(0:Nat)=0) (And.intro (@rfl Nat (zI ([]:List (List L)))) (And.intro c1 (And.intro (rfl:(0:Nat)=0) (@rfl Nat (zI s_0))))))) (by kernel_rfl)
noncomputable def ZcV.B:Code:=Tryz.f146.body.getD .skip
noncomputable def ZcV.rs (r:Bool):List CV:=[oB r]
noncomputable def ZcV (N:Nat) (bits_0:Int):Option Bool:=
 if (decide (bits_0≥0))=true then
  some (decide (bits_0≤4294967295))
 else
 some false
theorem ZcV.snd {bits_0:Int} {r:Bool} (h:ZcV N bits_0=some r):SndQ zG 146 [oI bits_0] (ZcV.rs r):=fun st=>
 sO ZcV.B Tryz.func146 fun g0 w0 R hE=>by
  unfold ZcV at h
  refine iteB h (fun c1 h1=>?_) (fun c1 h2=>?_)
  ·obtain rfl:=Zac h1
   exact af fol hE [.r [],.r []] [] 0 [] (aJ c1 c1 c1)
  ·obtain rfl:=Zac h2
   exact af fol hE [.r [],.r [(3,wF),(4,wF),(5,yF)]] [] 0 [] (aJ c1 c1 c1)
noncomputable def Zcs.B:Code:=Tryz.f90.body.getD .skip
noncomputable def Zcs.rs (r:Bool):List CV:=[oB r]
noncomputable def Zcs (N:Nat) (h_0:Zaa):Option Bool:=
 if (decide (h_0.Version≥(-2147483648)))=true then
  if (decide (h_0.Version<2147483648))=true then
   if (decide (h_0.Time≥0))=true then
    if (decide (h_0.Time<4294967296))=true then
     optE (ZcV N h_0.Bits) fun x1=>
     if x1=true then
      if (decide (h_0.Nonce≥0))=true then
       some (decide (h_0.Nonce<4294967296))
      else
      some false
     else
     some false
    else
    some false
   else
   some false
  else
  some false
 else
 some false
theorem Zcs.snd {h_0:Zaa} {r:Bool} (h:Zcs N h_0=some r):SndQ zG 90 [.agg h_0.ls] (Zcs.rs r):=fun st=>
 sO Zcs.B Tryz.func90 fun g0 w0 R hE=>by
  unfold Zcs at h
  refine iteB h (fun c1 h1=>?_) (fun c1 h2=>?_)
  ·have t1 {Q:Prop} (q:Q):=aL c1 c1 c1 c1 q
   refine iteB h1 (fun c2 h3=>?_) (fun c2 h4=>?_)
   ·have t2 {Q:Prop} (q:Q):=t1 (aL c2 c2 c2 c2 q)
    refine iteB h3 (fun c3 h5=>?_) (fun c3 h6=>?_)
    ·have t3 {Q:Prop} (q:Q):=t2 (aL c3 c3 c3 c3 q)
     refine iteB h5 (fun c4 h7=>?_) (fun c4 h8=>?_)
     ·obtain ⟨x1,c5,h9⟩:=Zae h7
      have t4 {Q:Prop} (q:Q):=t3 (aM c4 c4 c4 (ZcV.snd c5) c4 q)
      refine iteB h9 (fun c6 h10=>?_) (fun c6 h11=>?_)
      ·refine iteB h10 (fun c7 h12=>?_) (fun c7 h13=>?_)
       ·obtain rfl:=Zac h12
        exact af fol hE [.r [],.r [(21,q1 [oB x1])]] [] 0 [] (t4 (aO c6 c6 c6 c6 c7 c7 c7 c7))
       ·obtain rfl:=Zac h13
        exact af fol hE [.r [],.r [(21,q1 [oB x1]),(29,wF),(30,wF),(31,wF),(32,yF)]] [] 0 [] (t4 (aO c6 c6 c6 c6 c7 c7 c7 c7))
      ·obtain rfl:=Zac h11
       exact af fol hE [.r [],.r [(21,q1 [oB x1]),(24,wF),(25,wF),(26,wF),(27,yF),(29,wF),(30,wF),(31,wF),(32,yF)]] [] 0 [] (t4 (aO c6 c6 c6 c6 eF eF eF eF))
     ·obtain rfl:=Zac h8
      exact af fol hE [.r [],.r [(19,wF),(20,wF),(21,wF),(22,yF),(24,wF),(25,wF),(26,wF),(27,yF),(29,wF),(30,wF),(31,wF),(32,yF)]] [] 0 [] (t3 (aO c4 c4 c4 c4 eF eF eF (aL eF eF eF eF eF)))
    ·obtain rfl:=Zac h6
     exact af fol hE [.r [],.r [(14,wF),(15,wF),(16,wF),(17,yF),(19,wF),(20,wF),(21,wF),(22,yF),(24,wF),(25,wF),(26,wF),(27,yF),(29,wF),(30,wF),(31,wF),(32,yF)]] [] 0 [] (t2 (aO c3 c3 c3 c3 eF eF eF (aO eF eF eF eF eF eF eF (aI eF eF))))
   ·obtain rfl:=Zac h4
    exact af fol hE [.r [],.r [(9,wF),(10,wF),(11,wF),(12,yF),(14,wF),(15,wF),(16,wF),(17,yF),(19,wF),(20,wF),(21,wF),(22,yF),(24,wF),(25,wF),(26,wF),(27,yF),(29,wF),(30,wF),(31,wF),(32,yF)]] [] 0 [] (t1 (aO c2 c2 c2 c2 eF eF eF (aO eF eF eF eF eF eF eF (aM eF eF eF eF eF eF))))
  ·obtain rfl:=Zac h2
   exact af fol hE [.r [],.r [(4,wF),(5,wF),(6,wF),(7,yF),(9,wF),(10,wF),(11,wF),(12,yF),(14,wF),(15,wF),(16,wF),(17,yF),(19,wF),(20,wF),(21,wF),(22,yF),(24,wF),(25,wF),(26,wF),(27,yF),(29,wF),(30,wF),(31,wF),(32,yF)]] [] 0 [] (aO c1 c1 c1 c1 eF eF eF (aO eF eF eF eF eF eF eF (aO eF eF eF eF eF eF eF (aJ eF eF eF))))
noncomputable def ZaJ.B:Code:=Tryz.f208.body.getD .skip
noncomputable def ZaJ.rs (r:LL):List CV:=[]
noncomputable def ZaJ.p2 (N:Nat) (c1_:((Option Nat)×Int×LL)→Option LL) (size_1 x12:Int) (list_2:LL) (v1:Int) (c2_:((Option Nat)×Int×LL)→Option LL):((Option Nat)×Int×LL)→Option LL:=fun (p_16,v13,st17)=>
 if (decide (v13<(if (8:Int)<(if (1:Int)>size_1 then 1 else size_1) then 8 else (if (1:Int)>size_1 then 1 else size_1))))=true then
  optE p_16 fun i18=>
  getE (st17[i18]?) Zgm fun x19=>
  chk (0≤(w64 (8*v13)))<|
  chk (zI (x19 ++ [[zC .u8 (v8 (shrOf .i64 x12 (w64 (8*v13))))]])*1≤140737488355328)<|
  c2_ ((some i18),w64 (v13+1),zO (zO st17 i18 [L.gone]) i18 [xS true 1 (x19 ++ [[zC .u8 (v8 (shrOf .i64 x12 (w64 (8*v13))))]])])
 else
 c1_ (p_16,w64 (v1+1),st17)
noncomputable def ZaJ.p1 (N:Nat) (size_1:Int) (list_2:LL) (c1_:((Option Nat)×Int×LL)→Option LL):((Option Nat)×Int×LL)→Option LL:=fun (p_10,v1,st11)=>
 if (decide (v1<(len list_2)))=true then
  chk (0≤v1)<|
  getE (list_2[zF v1]?) ZeD fun x12=>
  loopN (ZaJ.p2 N c1_ size_1 x12 list_2 v1) N (p_10,0,st11)
 else
 some st11
noncomputable def ZaJ (N:Nat) (p_0:Option Nat) (size_1:Int) (list_2 st:LL):Option LL:=
 loopN (ZaJ.p1 N size_1 list_2) N (p_0,0,st)
noncomputable def ZaJ.p2.S (p_16:Option Nat) (size_1 x12:Int) (list_2:LL) (v1 v13:Int) (st17:LL):S:=mkS 37 [(0,sP p_16),(1,sI size_1),(7,sI x12),(9,sV 1 list_2),(10,sI (len list_2)),(11,sI v1),(17,sI (if (8:Int)<(if (1:Int)>size_1 then 1 else size_1) then 8 else (if (1:Int)>size_1 then 1 else size_1))),(18,sI v13)] [] st17
noncomputable def ZaJ.p1.S (p_10:Option Nat) (size_1:Int) (list_2:LL) (v1:Int) (st11:LL):S:=mkS 37 [(0,sP p_10),(1,sI size_1),(9,sV 1 list_2),(10,sI (len list_2)),(11,sI v1)] [] st11
theorem ZaJ.p2_ok {p_16 size_1 x12 list_2 v1 v13 st17 r c1_ c2_ J1 J2} (h:ZaJ.p2 N c1_ size_1 x12 list_2 v1 c2_ (p_16,v13,st17)=some r) (hE:En Tryz.f208 g0 w0 (ZaJ.rs r) r R) (hc1 : ∀p_10 v1 st11,c1_ (p_10,v1,st11)=some r→At g0 w0 (ZaJ.p1.S p_10 size_1 list_2 v1 st11) J1) (hc2 : ∀p_16 v13 st17,c2_ (p_16,v13,st17)=some r→At g0 w0 (ZaJ.p2.S p_16 size_1 x12 list_2 v1 v13 st17) J2):At g0 w0 (ZaJ.p2.S p_16 size_1 x12 list_2 v1 v13 st17) (XK zG R (.c (csub ZaJ.B [1,0,0,1,1,0,0,1,1,0,0]) :: .h J2 :: [.b 2,.b 1,.c (csub ZaJ.B [1,0,0,1,1,1]),.h J1,.b 0])):=by
 unfold ZaJ.p2 at h
 refine iteB h (fun c22 h1=>?_) (fun c22 h2=>?_)
 ·obtain ⟨i18,rfl,h3⟩:=Zae h1
  obtain ⟨x19,c24,h4⟩:=ZeI h3
  obtain ⟨c25,c26,h5⟩:=ck2 h4
  exact and_ fol [.r [],.c true,.r [],.d {ds:=[(4,{oc:=[xS true 1 x19]}),(11,{oe:=[xS true 1 x19]}),(14,{oc:=[L.gone],mv:=[32]})],hv:=19456,Hs:=[1024,3072,19456]},.r []] [0,1,7,9,10,11,17,18] [] (aO c22 c24 c24 c25 z0 (eN (zI x19)) c24 (aM z0 (eN (1)) c26 (ZaO c24 [L.gone]) z0 (eN (zI (x19 ++ [[zC .u8 (v8 (shrOf .i64 x12 (w64 (8*v13))))]]))))) (hc2 (some i18) (w64 (v13+1)) (zO (zO st17 i18 [L.gone]) i18 [xS true 1 (x19 ++ [[zC .u8 (v8 (shrOf .i64 x12 (w64 (8*v13))))]])]) h5)
 ·exact an fol [.r [],.c false,.r []] [0,1,9,10,11] [] c22 (hc1 p_16 (w64 (v1+1)) st17 h2)
theorem ZaJ.p1_ok {p_10 size_1 list_2 v1 st11 r c1_ J1} (h:ZaJ.p1 N size_1 list_2 c1_ (p_10,v1,st11)=some r) (hE:En Tryz.f208 g0 w0 (ZaJ.rs r) r R) (hc1 : ∀p_10 v1 st11,c1_ (p_10,v1,st11)=some r→At g0 w0 (ZaJ.p1.S p_10 size_1 list_2 v1 st11) J1):At g0 w0 (ZaJ.p1.S p_10 size_1 list_2 v1 st11) (XK zG R (.c (csub ZaJ.B [1,0,0]) :: .h J1 :: [.b 0])):=by
 unfold ZaJ.p1 at h
 refine iteB h (fun c14 h6=>?_) (fun c14 h7=>?_)
 ·obtain ⟨c15,h8⟩:=ZaN h6
  obtain ⟨x12,c16,h9⟩:=ZdA h8
  exact aq fol [.r [],.c true,.r [(1,{oe:=[zC .i64 x12]})],.r []] [0,1,7,9,10,11,17,18] [] (aK c14 c15 (oD c14) c16) (At.loop N (At.loopN (fun y:(Option Nat)×Int×LL=>ZaJ.p2.S y.1 size_1 x12 list_2 v1 y.2.1 y.2.2) (fun c J hc y h=>ZaJ.p2_ok (p_16:=y.1) (v13:=y.2.1) (st17:=y.2.2) h hE hc1 (fun p_16 v13 st17=>hc (p_16,v13,st17))) N (p_10,0,st11) h9))
 ·obtain rfl:=Zac h7
  exact af fol hE [.r [],.c false] [] 0 [] c14
theorem ZaJ.snd {p_0:Option Nat} {size_1:Int} {list_2:LL} {st:LL} {r:LL} (h:ZaJ N p_0 size_1 list_2 st=some r):Snd zG 208 [.one (xQ p_0),oI size_1,.one (yM 1 list_2)] st (ZaJ.rs r) r:=
 sO ZaJ.B Tryz.func208 fun g0 w0 R hE=>by
  unfold ZaJ at h
  exact aq fol [.r []] [0,1,9,10,11] [] trivial (At.loop N (At.loopN (fun y:(Option Nat)×Int×LL=>ZaJ.p1.S y.1 size_1 list_2 y.2.1 y.2.2) (fun c J hc y h=>ZaJ.p1_ok (p_10:=y.1) (v1:=y.2.1) (st11:=y.2.2) h hE (fun p_10 v1 st11=>hc (p_10,v1,st11))) N (p_0,0,st) h))
noncomputable def Zbf.B:Code:=Tryz.f209.body.getD .skip
noncomputable def Zbf.rs (r:LL):List CV:=[]
noncomputable def Zbf.p1 (N:Nat) (list_1:LL) (c1_:((Option Nat)×Int×LL)→Option LL):((Option Nat)×Int×LL)→Option LL:=fun (p_5,v1,st6)=>
 if (decide (v1<(len list_1)))=true then
  chk (0≤v1)<|
  getE (list_1[zF v1]?) ZfW fun x7=>
  optE p_5 fun i8=>
  getE (st6[i8]?) Zgm fun x9=>
  chk (zI (x9++(wX (fun x=>[zC .u8 x]) x7))*1≤140737488355328)<|
  c1_ ((some i8),w64 (v1+1),zO (zO st6 i8 [L.gone]) i8 [xS true 1 (x9++(wX (fun x=>[zC .u8 x]) x7))])
 else
 some st6
noncomputable def Zbf (N:Nat) (p_0:Option Nat) (list_1 st:LL):Option LL:=
 loopN (Zbf.p1 N list_1) N (p_0,0,st)
noncomputable def Zbf.p1.S (p_5:Option Nat) (list_1:LL) (v1:Int) (st6:LL):S:=mkS 22 [(0,sP p_5),(6,sV 32 list_1),(7,sI (len list_1)),(8,sI v1)] [] st6
theorem Zbf.p1_ok {p_5 list_1 v1 st6 r c1_ J1} (h:Zbf.p1 N list_1 c1_ (p_5,v1,st6)=some r) (hE:En Tryz.f209 g0 w0 (Zbf.rs r) r R) (hc1 : ∀p_5 v1 st6,c1_ (p_5,v1,st6)=some r→At g0 w0 (Zbf.p1.S p_5 list_1 v1 st6) J1):At g0 w0 (Zbf.p1.S p_5 list_1 v1 st6) (XK zG R (.c (csub Zbf.B [1,0,0]) :: .h J1 :: [.b 0])):=by
 unfold Zbf.p1 at h
 refine iteB h (fun c7 h1=>?_) (fun c7 h2=>?_)
 ·obtain ⟨c8,h3⟩:=ZaN h1
  obtain ⟨x7,c9,h4⟩:=ZgQ h3
  obtain ⟨i8,rfl,h5⟩:=Zae h4
  obtain ⟨x9,c11,h6⟩:=ZeI h5
  obtain ⟨c12,h7⟩:=ZaN h6
  exact and_ fol [.r [],.c true,.r [(1,{oe:=[zH .u8 32 x7]})],.d {ds:=[(4,{oc:=[xS true 1 x9]}),(6,{oe:=[xS true 1 x9]}),(9,{oc:=[L.gone],mv:=[18]})],hv:=576,Hs:=[64,576]},.r []] [0,6,7,8] [] (aO c7 c8 (oD c7) c9 c11 (leN 0 32) (leN 32 32) (aN z0 (eN (zI x9)) c11 c12 (ZaO c11 [L.gone]) z0 (eN (zI (x9++(wX (fun x=>[zC .u8 x]) x7)))))) (hc1 (some i8) (w64 (v1+1)) (zO (zO st6 i8 [L.gone]) i8 [xS true 1 (x9++(wX (fun x=>[zC .u8 x]) x7))]) h7)
 ·obtain rfl:=Zac h2
  exact af fol hE [.r [],.c false] [] 0 [] c7
theorem Zbf.snd {p_0:Option Nat} {list_1:LL} {st:LL} {r:LL} (h:Zbf N p_0 list_1 st=some r):Snd zG 209 [.one (xQ p_0),.one (yM 32 list_1)] st (Zbf.rs r) r:=
 sO Zbf.B Tryz.func209 fun g0 w0 R hE=>by
  unfold Zbf at h
  exact aq fol [.r []] [0,6,7,8] [] trivial (At.loop N (At.loopN (fun y:(Option Nat)×Int×LL=>Zbf.p1.S y.1 list_1 y.2.1 y.2.2) (fun c J hc y h=>Zbf.p1_ok (p_5:=y.1) (v1:=y.2.1) (st6:=y.2.2) h hE (fun p_5 v1 st6=>hc (p_5,v1,st6))) N (p_0,0,st) h))
noncomputable def ZbZ.B:Code:=Tryz.f186.body.getD .skip
noncomputable def ZbZ.rs (r:LL):List CV:=[]
noncomputable def ZbZ.p1 (N:Nat) (p_0:Option Nat) (h_2:Zaa) (st:LL):Option LL:=
 optE (ZaJ N p_0 4 [[zC .i64 h_2.Version]] st) fun st3=>
 optE (Zbf N p_0 [[zH .u8 32 h_2.Prev],[zH .u8 32 h_2.Root]] st3) fun st4=>
 optE (ZaJ N p_0 4 [[zC .i64 h_2.Time],[zC .i64 h_2.Bits],[zC .i64 h_2.Nonce]] st4) fun st5=>
 some st5
noncomputable def ZbZ (N:Nat) (p_0:Option Nat) (h_1:Zaa) (st:LL):Option LL:=
 optE (Zcs N h_1) fun x1=>
 if (!x1)=true then
  ZbZ.p1 N p_0 (Zaa.mk 0 (zB 32 0) (zB 32 0) 0 0 0) st
 else
 ZbZ.p1 N p_0 h_1 st
noncomputable def ZbZ.p1.S (p_0:Option Nat) (h_2:Zaa) (st:LL):S:=mkS 29 [(0,sP p_0),(3,sA 3)] [(3,.cells h_2.ls)] st
theorem ZbZ.p1_ok {p_0 h_2 st r} (h:ZbZ.p1 N p_0 h_2 st=some r) (hE:En Tryz.f186 g0 w0 (ZbZ.rs r) r R):At g0 w0 (ZbZ.p1.S p_0 h_2 st) (XK zG R [.c (csub ZbZ.B [1,1])]):=by
 unfold ZbZ.p1 at h
 obtain ⟨st3,c3,h1⟩:=Zae h
 obtain ⟨st4,c4,h2⟩:=Zae h1
 obtain ⟨st5,c5,h3⟩:=Zae h2
 obtain rfl:=Zac h3
 exact af fol hE [.r [(4,{st:=st3,fz:=[11]})],.r [(6,{st:=st4,fz:=[18]})],.r [(8,{st:=st5,fz:=[27]})]] [] 0 [] (aO z0 (eN (1)) (ZaJ.snd c3) z0 (eN (2)) (Zbf.snd c4) z0 (aI (eN (3)) (ZaJ.snd c5)))
theorem ZbZ.snd {p_0:Option Nat} {h_1:Zaa} {st:LL} {r:LL} (h:ZbZ N p_0 h_1 st=some r):Snd zG 186 [.one (xQ p_0),.agg h_1.ls] st (ZbZ.rs r) r:=
 sO ZbZ.B Tryz.func186 fun g0 w0 R hE=>by
  unfold ZbZ at h
  obtain ⟨x1,c1,h4⟩:=Zae h
  let o1:List PS:=[.r [],.r [(1,q1 [oB x1])]]
  refine iteB h4 (fun c2 h5=>?_) (fun c2 h6=>?_)
  ·exact aq fol (o1 ++ [.c true,.r [],.s 1]) [0,3] [3] (aI (Zcs.snd c1) c2) (ZbZ.p1_ok h5 hE)
  ·exact aq fol (o1 ++ [.c false,.s 1]) [0,3] [3] (aI (Zcs.snd c1) c2) (ZbZ.p1_ok h6 hE)
noncomputable def Zcj.B:Code:=Tryz.f187.body.getD .skip
noncomputable def Zcj.rs (r:ByteArray):List CV:=[.one (wS r)]
noncomputable def Zcj (N:Nat) (p_0:LL):Option ByteArray:=
 chk (isB p_0=true)<|
 some (istr (wX leafI p_0))
theorem Zcj.snd {p_0:LL} {r:ByteArray} (h:Zcj N p_0=some r):SndQ zG 187 [.one (L.bx 1 [yM 1 p_0])] (Zcj.rs r):=fun st=>
 sO Zcj.B Tryz.func187 fun g0 w0 R hE=>by
  unfold Zcj at h
  obtain ⟨c1,h1⟩:=ZaN h
  obtain rfl:=Zac h1
  exact af fol hE [.r [],.r [(3,{oe:=[yM 1 p_0]})]] [] 0 [] (aI (eO [yM 1 p_0]) c1)
noncomputable def ZcU.B:Code:=Tryz.f147.body.getD .skip
noncomputable def ZcU.rs (r:ByteArray×Int×LL):List CV:=[.one (wS r.1),oI r.2.1]
noncomputable def ZcU (N:Nat) (h_0:Zaa) (st:LL):Option (ByteArray×Int×LL):=
 optE (Zcs N h_0) fun x1=>
 if (!x1)=true then
  some ((ByteArray.mk #[]),1,st)
 else
 optE (ZbZ N (some (zI st)) h_0 (st ++ [[xS true 1 []]])) fun st2=>
 getE (st2[zI st]?) Zgm fun x3=>
 optE (Zcj N x3) fun x4=>
 some (x4,0,st2)
theorem ZcU.snd {h_0:Zaa} {st:LL} {r:ByteArray×Int×LL} (h:ZcU N h_0 st=some r):Snd zG 147 [.agg h_0.ls] st (ZcU.rs r) r.2.2:=
 sO ZcU.B Tryz.func147 fun g0 w0 R hE=>by
  unfold ZcU at h
  obtain ⟨x1,c1,h1⟩:=Zae h
  let o1:List PS:=[.r [],.r [(1,q1 [oB x1])]]
  refine iteB h1 (fun c2 h2=>?_) (fun c2 h3=>?_)
  ·obtain rfl:=Zac h2
   exact af fol hE (o1 ++ [.c true,.r []]) [] 0 [] (aI (Zcs.snd c1) c2)
  ·obtain ⟨st2,c3,h4⟩:=Zae h3
   obtain ⟨x3,c4,h5⟩:=ZeI h4
   obtain ⟨x4,c5,h6⟩:=Zae h5
   obtain rfl:=Zac h6
   exact af fol hE (o1 ++ [.c false,.r [(0,{ns:=[0]}),(1,{m:=1})],.r [(2,{st:=st2})],.r [(1,{rs:=[.one (wS x4)],m:=10,cv:=[.one (L.bx 1 [yM 1 x3])]})]]) [] 0 [] (aL (Zcs.snd c1) c2 (ZbZ.snd c3) (bO 1 c4 ((bW bN):BVs st2 [xS true 1 x3] [yM 1 x3])) (Zcj.snd c5))
noncomputable def Zec.B:Code:=Tryz.f210.body.getD .skip
noncomputable def Zec.rs (r:(Option Nat)×LL):List CV:=[.one (xQ r.1)]
noncomputable def Zec (N:Nat) (st:LL):Option ((Option Nat)×LL):=
 some ((some (zI st)),st ++ [Zar.lo (Zar.mk glob_digest_starts [] 0)])
theorem Zec.snd {st:LL} {r:(Option Nat)×LL} (h:Zec N st=some r):Snd zG 210 [] st (Zec.rs r) r.2:=
 sO Zec.B Tryz.func210 fun g0 w0 R hE=>by
  unfold Zec at h
  obtain rfl:=Zac h
  exact af fol hE [.r [],.r [(1,{mv:=[1]}),(2,{m:=1})]] [] 0 [] trivial
noncomputable def ZbR.B:Code:=Tryz.f245.body.getD .skip
noncomputable def ZbR.rs (r:Int):List CV:=[.one (zC .u32 r)]
noncomputable def ZbR (N:Nat) (x_0 k_1:Int):Option Int:=
 chk (0≤(bitsOf .and .u64 (v64 (k_1)) 31))<|
 chk (0≤(v64 (32-(bitsOf .and .u64 (v64 (k_1)) 31))))<|
 some (bitsOf .or .u32 (shlOf .u32 x_0 (bitsOf .and .u64 (v64 (k_1)) 31)) (shrOf .u32 x_0 (v64 (32-(bitsOf .and .u64 (v64 (k_1)) 31)))))
theorem ZbR.snd {x_0 k_1:Int} {r:Int} (h:ZbR N x_0 k_1=some r):SndQ zG 245 [.one (zC .u32 x_0),oI k_1] (ZbR.rs r):=fun st=>
 sO ZbR.B Tryz.func245 fun g0 w0 R hE=>by
  unfold ZbR at h
  obtain ⟨c1,c2,h1⟩:=ck2 h
  obtain rfl:=Zac h1
  exact af fol hE [.r [],.r [],.r []] [] 0 [] (aI c1 c2)
noncomputable def Zbd.B:Code:=Tryz.f237.body.getD .skip
noncomputable def Zbd.rs (r:Int):List CV:=[.one (zC .u32 r)]
noncomputable def Zbd.p1 (N:Nat) (x_0:Int) (by_1:LL) (c1_:(Int×Int)→Option Int):(Int×Int)→Option Int:=fun (out_1,v2)=>
 if (decide (v2<(len by_1)))=true then
  chk (0≤v2)<|
  getE (by_1[zF v2]?) ZeD fun x3=>
  optE (ZbR N x_0 (w64 (0-x3))) fun x4=>
  c1_ (bitsOf .xor .u32 out_1 x4,w64 (v2+1))
 else
 some out_1
noncomputable def Zbd (N:Nat) (x_0:Int) (by_1:LL):Option Int:=
 loopN (Zbd.p1 N x_0 by_1) N (0,0)
noncomputable def Zbd.p1.S (x_0 out_1:Int) (by_1:LL) (v2:Int) (st:LL):S:=mkS 22 [(0,.one (.l (zC .u32 x_0))),(5,.one (.l (zC .u32 out_1))),(8,sV 1 by_1),(9,sI (len by_1)),(10,sI v2)] [] st
theorem Zbd.p1_ok {x_0 out_1 by_1 v2 st r c1_ J1} (h:Zbd.p1 N x_0 by_1 c1_ (out_1,v2)=some r) (hE:En Tryz.f237 g0 w0 (Zbd.rs r) st R) (hc1 : ∀out_1 v2,c1_ (out_1,v2)=some r→At g0 w0 (Zbd.p1.S x_0 out_1 by_1 v2 st) J1):At g0 w0 (Zbd.p1.S x_0 out_1 by_1 v2 st) (XK zG R (.c (csub Zbd.B [1,1,0,1,0,0]) :: .h J1 :: [.b 0,.c (csub Zbd.B [1,1,1])])):=by
 unfold Zbd.p1 at h
 refine iteB h (fun c1 h1=>?_) (fun c1 h2=>?_)
 ·obtain ⟨c2,h3⟩:=ZaN h1
  obtain ⟨x3,c3,h4⟩:=ZdA h3
  obtain ⟨x4,c4,h5⟩:=Zae h4
  exact an fol [.r [],.c true,.r [(1,{oe:=[zC .i64 x3]})],.r [(4,q1 [.one (zC .u32 x4)])],.r []] [0,5,8,9,10] [] (aL c1 c2 (oD c1) c3 (ZbR.snd c4)) (hc1 (bitsOf .xor .u32 out_1 x4) (w64 (v2+1)) h5)
 ·obtain rfl:=Zac h2
  exact af fol hE [.r [],.c false,.r []] [] 0 [] c1
theorem Zbd.snd {x_0:Int} {by_1:LL} {r:Int} (h:Zbd N x_0 by_1=some r):SndQ zG 237 [.one (zC .u32 x_0),.one (yM 1 by_1)] (Zbd.rs r):=fun st=>
 sO Zbd.B Tryz.func237 fun g0 w0 R hE=>by
  unfold Zbd at h
  exact aq fol [.r [],.r [],.r []] [0,5,8,9,10] [] trivial (At.loop N (At.loopN (fun y:Int×Int=>Zbd.p1.S x_0 y.1 by_1 y.2 st) (fun c J hc y h=>Zbd.p1_ok (out_1:=y.1) (v2:=y.2) h hE (fun out_1 v2=>hc (out_1,v2))) N (0,0) h))
noncomputable def Zai.B:Code:=Tryz.f224.body.getD .skip
noncomputable def Zai.rs (r:LL):List CV:=[]
noncomputable def Zai.p4 (N:Nat) (i71:Nat) (s_80:List Int) (c4_:(Int×LL)→Option LL):(Int×LL)→Option LL:=fun (v83,st85)=>
 if (decide (v83<8))=true then
  chk (0≤v83)<|
  getE (st85[i71]?) ZbT fun x86=>
  c4_ (w64 (v83+1),zO st85 i71 (Zar.lo {x86 with state:=zO x86.state (zF v83) (v32 ((zE x86.state (zF v83) 0)+(zE s_80 (zF v83) 0)))}))
 else
 some st85
noncomputable def Zai.p3 (N:Nat) (i71:Nat) (w_68:List Int) (st:LL) (c3_:(Int×(List Int))→Option LL):(Int×(List Int))→Option LL:=fun (v73,s_80)=>
 if (decide (v73<64))=true then
  optE (Zbd N (zE s_80 4 0) [[zC .i64 6],[zC .i64 11],[zC .i64 25]]) fun x81=>
  chk (0≤v73)<|
  optE (Zbd N (zE s_80 0 0) [[zC .i64 2],[zC .i64 13],[zC .i64 22]]) fun x82=>
  c3_ (w64 (v73+1),[v32 ((v32 ((v32 ((v32 ((v32 ((zE s_80 7 0)+x81))+(bitsOf .xor .u32 (bitsOf .and .u32 (zE s_80 4 0) (zE s_80 5 0)) (bitsOf .and .u32 (bitsOf .xor .u32 (IntKind.max IntKind.u32) (zE s_80 4 0)) (zE s_80 6 0)))))+(zE glob_digest_steps (zF v73) 0)))+(zE w_68 (zF v73) 0)))+(v32 (x82+(bitsOf .xor .u32 (bitsOf .xor .u32 (bitsOf .and .u32 (zE s_80 0 0) (zE s_80 1 0)) (bitsOf .and .u32 (zE s_80 0 0) (zE s_80 2 0))) (bitsOf .and .u32 (zE s_80 1 0) (zE s_80 2 0)))))),zE s_80 0 0,zE s_80 1 0,zE s_80 2 0,v32 ((zE s_80 3 0)+(v32 ((v32 ((v32 ((v32 ((zE s_80 7 0)+x81))+(bitsOf .xor .u32 (bitsOf .and .u32 (zE s_80 4 0) (zE s_80 5 0)) (bitsOf .and .u32 (bitsOf .xor .u32 (IntKind.max IntKind.u32) (zE s_80 4 0)) (zE s_80 6 0)))))+(zE glob_digest_steps (zF v73) 0)))+(zE w_68 (zF v73) 0)))),zE s_80 4 0,zE s_80 5 0,zE s_80 6 0])
 else
 loopN (Zai.p4 N i71 s_80) N (0,st)
noncomputable def Zai.p2 (N:Nat) (h_0:Option Nat) (st:LL) (c2_:(Int×(List Int))→Option LL):(Int×(List Int))→Option LL:=fun (i_49,w_68)=>
 if (decide (i_49<64))=true then
  chk (0≤(w64 (i_49-15)))<|
  chk ((w64 (i_49-15))<64)<|
  chk (0≤(w64 (i_49-2)))<|
  chk ((w64 (i_49-2))<64)<|
  chk (0≤(w64 (i_49-16)))<|
  chk ((w64 (i_49-16))<64)<|
  optE (Zbd N (zE w_68 (zF (w64 (i_49-15))) 0) [[zC .i64 7],[zC .i64 18]]) fun x69=>
  chk (0≤(w64 (i_49-7)))<|
  chk ((w64 (i_49-7))<64)<|
  optE (Zbd N (zE w_68 (zF (w64 (i_49-2))) 0) [[zC .i64 17],[zC .i64 19]]) fun x70=>
  chk (0≤i_49)<|
  c2_ (w64 (i_49+1),zO w_68 (zF i_49) (v32 ((v32 ((v32 ((zE w_68 (zF (w64 (i_49-16))) 0)+(bitsOf .xor .u32 x69 (shrOf .u32 (zE w_68 (zF (w64 (i_49-15))) 0) 3))))+(zE w_68 (zF (w64 (i_49-7))) 0)))+(bitsOf .xor .u32 x70 (shrOf .u32 (zE w_68 (zF (w64 (i_49-2))) 0) 10)))))
 else
 optE h_0 fun i71=>
 getE (st[i71]?) ZbT fun x72=>
 loopN (Zai.p3 N i71 w_68 st) N (0,x72.state)
noncomputable def Zai.p1 (N:Nat) (h_0:Option Nat) (b_1 st:LL) (c1_:(Int×(List Int))→Option LL):(Int×(List Int))→Option LL:=fun (v1,w_44)=>
 if (decide (v1<16))=true then
  chk (0≤(w64 (4*v1)))<|
  chk ((w64 (4*v1))<(len b_1))<|
  getE (b_1[zF (w64 (4*v1))]?) Ziy fun x45=>
  chk (0≤(w64 ((w64 (4*v1))+1)))<|
  chk ((w64 ((w64 (4*v1))+1))<(len b_1))<|
  getE (b_1[zF (w64 ((w64 (4*v1))+1))]?) Ziy fun x46=>
  chk (0≤(w64 ((w64 (4*v1))+2)))<|
  chk ((w64 ((w64 (4*v1))+2))<(len b_1))<|
  getE (b_1[zF (w64 ((w64 (4*v1))+2))]?) Ziy fun x47=>
  chk (0≤(w64 ((w64 (4*v1))+3)))<|
  chk ((w64 ((w64 (4*v1))+3))<(len b_1))<|
  getE (b_1[zF (w64 ((w64 (4*v1))+3))]?) Ziy fun x48=>
  chk (0≤v1)<|
  chk (v1<64)<|
  c1_ (w64 (v1+1),zO w_44 (zF v1) (bitsOf .or .u32 (bitsOf .or .u32 (bitsOf .or .u32 (shlOf .u32 (v32 (x45)) 24) (shlOf .u32 (v32 (x46)) 16)) (shlOf .u32 (v32 (x47)) 8)) (v32 (x48))))
 else
 loopN (Zai.p2 N h_0 st) N (16,w_44)
noncomputable def Zai (N:Nat) (h_0:Option Nat) (b_1 st:LL):Option LL:=
 loopN (Zai.p1 N h_0 b_1 st) N (0,zB 64 0)
noncomputable def Zai.p4.S (i71:Nat) (v83:Int) (s_80:List Int) (st85:LL):S:=mkS 189 [(0,sP (some i71)),(9,sA 9),(172,sI v83)] [(9,.cells [zH .u32 8 s_80])] st85
noncomputable def Zai.p3.S (i71:Nat) (v73:Int) (w_68 s_80:List Int) (st:LL):S:=mkS 189 [(0,sP (some i71)),(4,sA 4),(9,sA 9),(96,sI v73)] [(4,.cells [zH .u32 64 w_68]),(9,.cells [zH .u32 8 s_80])] st
noncomputable def Zai.p2.S (h_0:Option Nat) (i_49:Int) (w_68:List Int) (st:LL):S:=mkS 189 [(0,sP h_0),(4,sA 4),(6,sI i_49)] [(4,.cells [zH .u32 64 w_68])] st
noncomputable def Zai.p1.S (h_0:Option Nat) (b_1:LL) (v1:Int) (w_44:List Int) (st:LL):S:=mkS 189 [(0,sP h_0),(1,sV 1 b_1),(4,sA 4),(16,sI v1)] [(4,.cells [zH .u32 64 w_44])] st
theorem Zai.p4_ok {i71 v83 s_80 st85 r c4_ J4} (h:Zai.p4 N i71 s_80 c4_ (v83,st85)=some r) (hE:En Tryz.f224 g0 w0 (Zai.rs r) r R) (hc4 : ∀v83 st85,c4_ (v83,st85)=some r→At g0 w0 (Zai.p4.S i71 v83 s_80 st85) J4):At g0 w0 (Zai.p4.S i71 v83 s_80 st85) (XK zG R (.c (csub Zai.B [1,1,1,1,1,1,0,0]) :: .h J4 :: [.b 6])):=by
 unfold Zai.p4 at h
 refine iteB h (fun c164 h1=>?_) (fun c164 h2=>?_)
 ·obtain ⟨c165,h3⟩:=ZaN h1
  obtain ⟨x86,c166,h4⟩:=Zcg h3
  exact and_ fol [.r [],.c true,.r [],.d {ds:=[(5,{oc:=x86.lo}),(13,{oc:=x86.lo})],hv:=8192,Hs:=[8192]},.r []] [0,9,172] [9] (aO c164 c165 (oD c164) c166 c165 (oD c164) c165 (aI (oD c164) c166)) (hc4 (w64 (v83+1)) (zO st85 i71 (Zar.lo {x86 with state:=zO x86.state (zF v83) (v32 ((zE x86.state (zF v83) 0)+(zE s_80 (zF v83) 0)))})) h4)
 ·obtain rfl:=Zac h2
  exact af fol hE [.r [],.c false] [] 0 [] c164
theorem Zai.p3_ok {i71 v73 w_68 s_80 st r c3_ J3} (h:Zai.p3 N i71 w_68 st c3_ (v73,s_80)=some r) (hE:En Tryz.f224 g0 w0 (Zai.rs r) r R) (hc3 : ∀v73 s_80,c3_ (v73,s_80)=some r→At g0 w0 (Zai.p3.S i71 v73 w_68 s_80 st) J3):At g0 w0 (Zai.p3.S i71 v73 w_68 s_80 st) (XK zG R (.c (csub Zai.B [1,1,1,1,0,1,0,0]) :: .h J3 :: [.b 4,.c (csub Zai.B [1,1,1,1,1])])):=by
 unfold Zai.p3 at h
 refine iteB h (fun c157 h5=>?_) (fun c157 h6=>?_)
 ·obtain ⟨x81,c158,h7⟩:=Zae h5
  obtain ⟨c159,h8⟩:=ZaN h7
  obtain ⟨x82,c160,h9⟩:=Zae h8
  exact and_ fol [.r [],.c true,.r [],.r [],.r [],.d {ds:=[(5,{rs:=[.one (zC .u32 x81)],m:=2})],hv:=16,Hs:=[16]},.r [(3,{rs:=[.one (zC .u32 x82)],m:=2})],.r [(19,{m:=3})],.r []] [0,4,9,96] [4,9] (aI c157 (ix 4 8 (ix 5 8 (ix 4 8 (ix 6 8 (ix 0 8 (ix 1 8 (ix 0 8 (ix 2 8 (ix 1 8 (ix 2 8 (ix 7 8 (ix 7 8 (ix 4 8 (ix 4 8 (aO z0 (eN (3)) (Zbd.snd c158) c159 (oD c157) c159 (oD c157) (aL c159 (oD c157) c159 (oD c157) (ix 0 8 (aK z0 (eN (3)) (Zbd.snd c160) (ix 0 8 (ix 1 8 (ix 2 8 (ix 3 8 (ix 4 8 (ix 5 8 (aI (leI 0 6) (ltI 6 8))))))))))))))))))))))))))) (hc3 (w64 (v73+1)) [v32 ((v32 ((v32 ((v32 ((v32 ((zE s_80 7 0)+x81))+(bitsOf .xor .u32 (bitsOf .and .u32 (zE s_80 4 0) (zE s_80 5 0)) (bitsOf .and .u32 (bitsOf .xor .u32 (IntKind.max IntKind.u32) (zE s_80 4 0)) (zE s_80 6 0)))))+(zE glob_digest_steps (zF v73) 0)))+(zE w_68 (zF v73) 0)))+(v32 (x82+(bitsOf .xor .u32 (bitsOf .xor .u32 (bitsOf .and .u32 (zE s_80 0 0) (zE s_80 1 0)) (bitsOf .and .u32 (zE s_80 0 0) (zE s_80 2 0))) (bitsOf .and .u32 (zE s_80 1 0) (zE s_80 2 0)))))),zE s_80 0 0,zE s_80 1 0,zE s_80 2 0,v32 ((zE s_80 3 0)+(v32 ((v32 ((v32 ((v32 ((zE s_80 7 0)+x81))+(bitsOf .xor .u32 (bitsOf .and .u32 (zE s_80 4 0) (zE s_80 5 0)) (bitsOf .and .u32 (bitsOf .xor .u32 (IntKind.max IntKind.u32) (zE s_80 4 0)) (zE s_80 6 0)))))+(zE glob_digest_steps (zF v73) 0)))+(zE w_68 (zF v73) 0)))),zE s_80 4 0,zE s_80 5 0,zE s_80 6 0] h9)
 ·exact aq fol [.r [],.c false,.r []] [0,9,172] [9] c157 (At.loop N (At.loopN (fun y:Int×LL=>Zai.p4.S i71 y.1 s_80 y.2) (fun c J hc y h=>Zai.p4_ok (v83:=y.1) (st85:=y.2) h hE (fun v83 st85=>hc (v83,st85))) N (0,st) h6))
theorem Zai.p2_ok {h_0 i_49 w_68 st r c2_ J2} (h:Zai.p2 N h_0 st c2_ (i_49,w_68)=some r) (hE:En Tryz.f224 g0 w0 (Zai.rs r) r R) (hc2 : ∀i_49 w_68,c2_ (i_49,w_68)=some r→At g0 w0 (Zai.p2.S h_0 i_49 w_68 st) J2):At g0 w0 (Zai.p2.S h_0 i_49 w_68 st) (XK zG R (.c (csub Zai.B [1,1,0,1,0,0]) :: .h J2 :: [.b 2,.c (csub Zai.B [1,1,1])])):=by
 unfold Zai.p2 at h
 refine iteB h (fun c133 h10=>?_) (fun c133 h11=>?_)
 ·obtain ⟨c134,c135,c136,c137,c138,c139,h12⟩:=ck6 h10
  obtain ⟨x69,c140,h13⟩:=Zae h12
  obtain ⟨c141,c142,h14⟩:=ck2 h13
  obtain ⟨x70,c143,h15⟩:=Zae h14
  obtain ⟨c144,h16⟩:=ZaN h15
  exact and_ fol [.r [],.c true,.d {ds:=[],hv:=0,Hs:=[]},.d {ds:=[(7,{rs:=[.one (zC .u32 x69)],m:=2}),(19,{rs:=[.one (zC .u32 x70)],m:=2})],hv:=33816640,Hs:=[64,262144,262208,33816640]},.r []] [0,4,6] [4] (aO c133 c134 c135 c136 c137 c138 c139 (aO c138 c139 c138 c139 c138 c139 z0 (aO (eN (2)) (Zbd.snd c140) z0 (eN (2)) (Zbd.snd c140) (leI 0 3) (leI 0 3) (aO (leI 0 3) (leI 0 3) c141 c142 c141 c142 c141 (aO c142 c141 c142 z0 (eN (2)) (Zbd.snd c143) (leI 0 10) (aL (leI 0 10) (leI 0 10) (leI 0 10) c144 (oD c133))))))) (hc2 (w64 (i_49+1)) (zO w_68 (zF i_49) (v32 ((v32 ((v32 ((zE w_68 (zF (w64 (i_49-16))) 0)+(bitsOf .xor .u32 x69 (shrOf .u32 (zE w_68 (zF (w64 (i_49-15))) 0) 3))))+(zE w_68 (zF (w64 (i_49-7))) 0)))+(bitsOf .xor .u32 x70 (shrOf .u32 (zE w_68 (zF (w64 (i_49-2))) 0) 10))))) h16)
 ·obtain ⟨i71,rfl,h17⟩:=Zae h11
  obtain ⟨x72,c146,h18⟩:=Zcg h17
  exact aq fol [.r [],.c false,.r [(3,{oc:=x72.lo})],.r []] [0,4,9,96] [4,9] (aI c133 c146) (At.loop N (At.loopN (fun y:Int×(List Int)=>Zai.p3.S i71 y.1 w_68 y.2 st) (fun c J hc y h=>Zai.p3_ok (v73:=y.1) (s_80:=y.2) h hE (fun v73 s_80=>hc (v73,s_80))) N (0,x72.state) h18))
theorem Zai.p1_ok {h_0 b_1 v1 w_44 st r c1_ J1} (h:Zai.p1 N h_0 b_1 st c1_ (v1,w_44)=some r) (hE:En Tryz.f224 g0 w0 (Zai.rs r) r R) (hc1 : ∀v1 w_44,c1_ (v1,w_44)=some r→At g0 w0 (Zai.p1.S h_0 b_1 v1 w_44 st) J1):At g0 w0 (Zai.p1.S h_0 b_1 v1 w_44 st) (XK zG R (.c (csub Zai.B [1,0,1,0,0]) :: .h J1 :: [.b 0,.c (csub Zai.B [1,1])])):=by
 unfold Zai.p1 at h
 refine iteB h (fun c84 h19=>?_) (fun c84 h20=>?_)
 ·obtain ⟨c85,c86,h21⟩:=ck2 h19
  obtain ⟨x45,c87,h22⟩:=Zgg h21
  obtain ⟨c88,c89,h23⟩:=ck2 h22
  obtain ⟨x46,c90,h24⟩:=Zgg h23
  obtain ⟨c91,c92,h25⟩:=ck2 h24
  obtain ⟨x47,c93,h26⟩:=Zgg h25
  obtain ⟨c94,c95,h27⟩:=ck2 h26
  obtain ⟨x48,c96,h28⟩:=Zgg h27
  obtain ⟨c97,c98,h29⟩:=ck2 h28
  exact and_ fol [.r [],.c true,.r [],.d {ds:=[(5,{oe:=[zC .u8 x45]}),(13,{oe:=[zC .u8 x46]}),(22,{oe:=[zC .u8 x47]}),(31,{oe:=[zC .u8 x48]})],hv:=34359738368,Hs:=[34359738368]},.r []] [0,1,4,16] [4] (aO c84 c85 c86 c87 (leI 0 24) c88 c89 (aO c90 (leI 0 16) c91 c92 c93 (leI 0 8) c94 (aK c95 c96 c97 c98))) (hc1 (w64 (v1+1)) (zO w_44 (zF v1) (bitsOf .or .u32 (bitsOf .or .u32 (bitsOf .or .u32 (shlOf .u32 (v32 (x45)) 24) (shlOf .u32 (v32 (x46)) 16)) (shlOf .u32 (v32 (x47)) 8)) (v32 (x48)))) h29)
 ·exact aq fol [.r [],.c false,.r []] [0,4,6] [4] c84 (At.loop N (At.loopN (fun y:Int×(List Int)=>Zai.p2.S h_0 y.1 y.2 st) (fun c J hc y h=>Zai.p2_ok (i_49:=y.1) (w_68:=y.2) h hE (fun i_49 w_68=>hc (i_49,w_68))) N (16,w_44) h20))
theorem Zai.snd {h_0:Option Nat} {b_1:LL} {st:LL} {r:LL} (h:Zai N h_0 b_1 st=some r):Snd zG 224 [.one (xQ h_0),.one (yM 1 b_1)] st (Zai.rs r) r:=
 sO Zai.B Tryz.func224 fun g0 w0 R hE=>by
  unfold Zai at h
  exact aq fol [.r [],.r []] [0,1,4,16] [4] trivial (At.loop N (At.loopN (fun y:Int×(List Int)=>Zai.p1.S h_0 b_1 y.1 y.2 st) (fun c J hc y h=>Zai.p1_ok (v1:=y.1) (w_44:=y.2) h hE (fun v1 w_44=>hc (v1,w_44))) N (0,zB 64 0) h))
noncomputable def ZaB.B:Code:=Tryz.f211.body.getD .skip
noncomputable def ZaB.rs (r:LL):List CV:=[]
noncomputable def ZaB.p2 (N:Nat) (c1_:((Option Nat)×Int×LL)→Option LL) (i15:Nat) (parts_1:LL) (v1:Int) (c2_:LL→Option LL):LL→Option LL:=fun st20=>
 getE (st20[i15]?) ZbT fun x21=>
 if (decide ((len x21.rest)≥64))=true then
  chk (64≤(zI x21.rest))<|
  optE (Zai N (some i15) (vL 64 x21.rest) st20) fun st22=>
  getE (st22[i15]?) ZbT fun x23=>
  chk (64≤(zI x23.rest))<|
  c2_ (zO st22 i15 (Zar.lo {x23 with rest:=tC 64 x23.rest}))
 else
 c1_ ((some i15),w64 (v1+1),st20)
noncomputable def ZaB.p1 (N:Nat) (parts_1:LL) (c1_:((Option Nat)×Int×LL)→Option LL):((Option Nat)×Int×LL)→Option LL:=fun (h_12,v1,st13)=>
 if (decide (v1<(len parts_1)))=true then
  chk (0≤v1)<|
  getE (parts_1[zF v1]?) dec_t fun x14=>
  optE h_12 fun i15=>
  getE (st13[i15]?) ZbT fun x16=>
  chk (zI (x16.rest++(byteL x14))*1≤140737488355328)<|
  loopN (ZaB.p2 N c1_ i15 parts_1 v1) N (zO (zO (zO st13 i15 (Zar.lo {x16 with size:=v64 (x16.size+(v64 (((zW x14:Nat):Int))))})) i15 (gs (Zar.lo {x16 with size:=v64 (x16.size+(v64 (((zW x14:Nat):Int))))}) 1)) i15 (Zar.lo (Zar.mk x16.state (x16.rest++(byteL x14)) (v64 (x16.size+(v64 (((zW x14:Nat):Int))))))))
 else
 some st13
noncomputable def ZaB (N:Nat) (h_0:Option Nat) (parts_1 st:LL):Option LL:=
 if (wI h_0)=true then
  some st
 else
 loopN (ZaB.p1 N parts_1) N (h_0,0,st)
noncomputable def ZaB.p2.S (i15:Nat) (parts_1:LL) (v1:Int) (st20:LL):S:=mkS 55 [(0,sP (some i15)),(8,sV 1 parts_1),(9,sI (len parts_1)),(10,sI v1)] [] st20
noncomputable def ZaB.p1.S (h_12:Option Nat) (parts_1:LL) (v1:Int) (st13:LL):S:=mkS 55 [(0,sP h_12),(8,sV 1 parts_1),(9,sI (len parts_1)),(10,sI v1)] [] st13
theorem ZaB.p2_ok {i15 parts_1 v1 st20 r c1_ c2_ J1 J2} (h:ZaB.p2 N c1_ i15 parts_1 v1 c2_ st20=some r) (hE:En Tryz.f211 g0 w0 (ZaB.rs r) r R) (hc1 : ∀h_12 v1 st13,c1_ (h_12,v1,st13)=some r→At g0 w0 (ZaB.p1.S h_12 parts_1 v1 st13) J1) (hc2 : ∀st20,c2_ st20=some r→At g0 w0 (ZaB.p2.S i15 parts_1 v1 st20) J2):At g0 w0 (ZaB.p2.S i15 parts_1 v1 st20) (XK zG R (.c (csub ZaB.B [1,1,0,0,1,1,0,0,1,1,1,0,0]) :: .h J2 :: [.b 2,.b 1,.c (csub ZaB.B [1,1,0,0,1,1,1]),.h J1,.b 0])):=by
 unfold ZaB.p2 at h
 obtain ⟨x21,c32,h1⟩:=Zcg h
 refine iteB h1 (fun c33 h2=>?_) (fun c33 h3=>?_)
 ·obtain ⟨c34,h4⟩:=ZaN h2
  obtain ⟨st22,c35,h5⟩:=Zae h4
  obtain ⟨x23,c36,h6⟩:=Zcg h5
  obtain ⟨c37,h7⟩:=ZaN h6
  exact an fol [.r [(3,{oc:=x21.lo})],.c true,.r [(4,{oc:=x21.lo}),(5,{oc:=x21.lo}),(6,{oc:=x21.lo,st:=st22,wm:=2})],.r [(4,{oc:=x23.lo}),(5,{oc:=x23.lo}),(8,{oc:=x23.lo,m:=8,wm:=1})]] [0,8,9,10] [] (aO c32 c33 c32 (leI 0 64) (leN 0 64) c34 c32 (aO z0 c34 c32 (Zai.snd c35) c36 (leI 0 64) c37 (aM (Nat.le_refl (zI x23.rest)) c36 (rfl:Root.obj i15=Root.obj i15) c36 c37 (eN ((zI x23.rest)-64))))) (hc2 (zO st22 i15 (Zar.lo {x23 with rest:=tC 64 x23.rest})) h7)
 ·exact an fol [.r [(3,{oc:=x21.lo})],.c false,.r []] [0,8,9,10] [] (aI c32 c33) (hc1 (some i15) (w64 (v1+1)) st20 h3)
theorem ZaB.p1_ok {h_12 parts_1 v1 st13 r c1_ J1} (h:ZaB.p1 N parts_1 c1_ (h_12,v1,st13)=some r) (hE:En Tryz.f211 g0 w0 (ZaB.rs r) r R) (hc1 : ∀h_12 v1 st13,c1_ (h_12,v1,st13)=some r→At g0 w0 (ZaB.p1.S h_12 parts_1 v1 st13) J1):At g0 w0 (ZaB.p1.S h_12 parts_1 v1 st13) (XK zG R (.c (csub ZaB.B [1,1,0,0]) :: .h J1 :: [.b 0])):=by
 unfold ZaB.p1 at h
 refine iteB h (fun c20 h8=>?_) (fun c20 h9=>?_)
 ·obtain ⟨c21,h10⟩:=ZaN h8
  obtain ⟨x14,c22,h11⟩:=ZnC h10
  obtain ⟨i15,rfl,h12⟩:=Zae h11
  obtain ⟨x16,c24,h13⟩:=Zcg h12
  obtain ⟨c25,h14⟩:=ZaN h13
  exact aq fol [.r [],.c true,.r [(1,{oe:=[wS x14]})],.r [(3,{oc:=x16.lo}),(10,{oc:=x16.lo})],.r [(4,{oc:=Zar.lo {x16 with size:=v64 (x16.size+(v64 (((zW x14:Nat):Int))))}}),(6,{oe:=Zar.lo {x16 with size:=v64 (x16.size+(v64 (((zW x14:Nat):Int))))}}),(9,{oc:=gs (Zar.lo {x16 with size:=v64 (x16.size+(v64 (((zW x14:Nat):Int))))}) 1,mv:=[30]})]] [0,8,9,10] [] (aO c20 c21 (oD c20) c22 c24 c24 (ZaO c24 (Zar.lo {x16 with size:=v64 (x16.size+(v64 (((zW x14:Nat):Int))))})) (aN z0 (eN (zI x16.rest)) (ZaO c24 (Zar.lo {x16 with size:=v64 (x16.size+(v64 (((zW x14:Nat):Int))))})) c25 (ZaO (ZaO c24 (Zar.lo {x16 with size:=v64 (x16.size+(v64 (((zW x14:Nat):Int))))})) (gs (Zar.lo {x16 with size:=v64 (x16.size+(v64 (((zW x14:Nat):Int))))}) 1)) z0 (eN (zI (x16.rest++(byteL x14)))))) (At.loop N (At.loopN (fun y:LL=>ZaB.p2.S i15 parts_1 v1 y) (fun c J hc y h=>ZaB.p2_ok h hE hc1 (fun st20=>hc st20)) N (zO (zO (zO st13 i15 (Zar.lo {x16 with size:=v64 (x16.size+(v64 (((zW x14:Nat):Int))))})) i15 (gs (Zar.lo {x16 with size:=v64 (x16.size+(v64 (((zW x14:Nat):Int))))}) 1)) i15 (Zar.lo (Zar.mk x16.state (x16.rest++(byteL x14)) (v64 (x16.size+(v64 (((zW x14:Nat):Int)))))))) h14))
 ·obtain rfl:=Zac h9
  exact af fol hE [.r [],.c false] [] 0 [] c20
theorem ZaB.snd {h_0:Option Nat} {parts_1:LL} {st:LL} {r:LL} (h:ZaB N h_0 parts_1 st=some r):Snd zG 211 [.one (xQ h_0),.one (yM 1 parts_1)] st (ZaB.rs r) r:=
 sO ZaB.B Tryz.func211 fun g0 w0 R hE=>by
  unfold ZaB at h
  refine iteB h (fun c1 h15=>?_) (fun c1 h16=>?_)
  ·obtain rfl:=Zac h15
   exact af fol hE [.r [],.c true] [] 0 [] c1
  ·exact aq fol [.r [],.c false,.r []] [0,8,9,10] [] c1 (At.loop N (At.loopN (fun y:(Option Nat)×Int×LL=>ZaB.p1.S y.1 parts_1 y.2.1 y.2.2) (fun c J hc y h=>ZaB.p1_ok (h_12:=y.1) (v1:=y.2.1) (st13:=y.2.2) h hE (fun h_12 v1 st13=>hc (h_12,v1,st13))) N (h_0,0,st) h16))
noncomputable def Zan.B:Code:=Tryz.f212.body.getD .skip
noncomputable def Zan.rs (r:(List Int)×LL):List CV:=[.agg [zH .u8 32 r.1]]
noncomputable def Zan.p4 (N:Nat) (x47:Zar) (st45:LL) (c4_:(Int×(List Int))→Option ((List Int)×LL)):(Int×(List Int))→Option ((List Int)×LL):=fun (v48,out_49)=>
 if (decide (v48<8))=true then
  chk (0≤v48)<|
  chk (0≤(w64 (4*v48)))<|
  chk ((w64 (4*v48))<32)<|
  chk (0≤(w64 ((w64 (4*v48))+1)))<|
  chk ((w64 ((w64 (4*v48))+1))<32)<|
  chk (0≤(w64 ((w64 (4*v48))+2)))<|
  chk ((w64 ((w64 (4*v48))+2))<32)<|
  chk (0≤(w64 ((w64 (4*v48))+3)))<|
  chk ((w64 ((w64 (4*v48))+3))<32)<|
  c4_ (w64 (v48+1),zO (zO (zO (zO out_49 (zF (w64 (4*v48))) (v8 (shrOf .u32 (zE x47.state (zF v48) 0) 24))) (zF (w64 ((w64 (4*v48))+1))) (v8 (shrOf .u32 (zE x47.state (zF v48) 0) 16))) (zF (w64 ((w64 (4*v48))+2))) (v8 (shrOf .u32 (zE x47.state (zF v48) 0) 8))) (zF (w64 ((w64 (4*v48))+3))) (v8 (zE x47.state (zF v48) 0)))
 else
 some (out_49,st45)
noncomputable def Zan.p3 (N:Nat) (st v38:LL) (c3_:(Nat×Nat×LL)→Option ((List Int)×LL)):(Nat×Nat×LL)→Option ((List Int)×LL):=fun (tail_43,tail_44,st45)=>
 if (decide (((tail_44:Nat):Int)>0))=true then
  chk ((tail_43+64)≤(zI v38))<|
  optE (Zai N (some (zI st)) (vL 64 (tC tail_43 v38)) st45) fun st46=>
  chk (64≤tail_44)<|
  c3_ (tail_43+64,tail_44-64,st46)
 else
 getE (st45[zI st]?) ZbT fun x47=>
 loopN (Zan.p4 N x47 st45) N (0,zB 32 0)
noncomputable def Zan.p2 (N:Nat) (h_0:Zar) (st:LL) (c2_:(LL×Int)→Option ((List Int)×LL)):(LL×Int)→Option ((List Int)×LL):=fun (v38,i_26)=>
 if (decide (i_26≥0))=true then
  chk (0≤(w64 (8*i_26)))<|
  chk (zI (v38 ++ [[zC .u8 (v8 (shrOf .u64 (v64 (h_0.size*8)) (w64 (8*i_26))))]])*1≤140737488355328)<|
  c2_ (v38 ++ [[zC .u8 (v8 (shrOf .u64 (v64 (h_0.size*8)) (w64 (8*i_26))))]],w64 (i_26-1))
 else
 loopN (Zan.p3 N st v38) N (0,zI v38,st ++ [Zar.lo (Zar.mk h_0.state [] 0)])
noncomputable def Zan.p1 (N:Nat) (h_0:Zar) (st:LL) (c1_:LL→Option ((List Int)×LL)):LL→Option ((List Int)×LL):=fun v25=>
 if ((Int.tmod (len v25) 64) != 56)=true then
  chk (zI (v25 ++ [[zC .u8 0]])*1≤140737488355328)<|
  c1_ (v25 ++ [[zC .u8 0]])
 else
 loopN (Zan.p2 N h_0 st) N (v25,7)
noncomputable def Zan (N:Nat) (h_0:Zar) (st:LL):Option ((List Int)×LL):=
 chk (zI ([]++h_0.rest)*1≤140737488355328)<|
 chk (zI (([]++h_0.rest) ++ [[zC .u8 128]])*1≤140737488355328)<|
 loopN (Zan.p1 N h_0 st) N (([]++h_0.rest) ++ [[zC .u8 128]])
noncomputable def Zan.p4.S (x47:Zar) (v48:Int) (out_49:List Int) (st45:LL):S:=mkS 94 [(2,sA 2),(6,sA 6),(61,.agg [.l (zH .u32 8 x47.state)]),(62,sI v48)] [(2,.cells [zH .u8 32 (zB 32 0)]),(6,.cells [zH .u8 32 out_49])] st45
noncomputable def Zan.p3.S (st:LL) (tail_43 tail_44:Nat) (v38 st45:LL):S:=mkS 94 [(2,sA 2),(3,sP (some (zI st))),(4,.one (.h (.row 22 0) 1 tail_43 tail_44))] [(2,.cells [zH .u8 32 (zB 32 0)]),(22,.row 0 false 1 v38)] st45
noncomputable def Zan.p2.S (h_0:Zar) (st v38:LL) (i_26:Int):S:=mkS 94 [(0,.one (.l (L.bx 10 h_0.ls))),(2,sA 2),(3,sP (some (zI st))),(4,.one (.h (.row 22 0) 1 0 (zI v38))),(5,sI i_26)] [(2,.cells [zH .u8 32 (zB 32 0)]),(22,.row 0 false 1 v38)] (st ++ [Zar.lo (Zar.mk h_0.state [] 0)])
noncomputable def Zan.p1.S (h_0:Zar) (st v25:LL):S:=mkS 94 [(0,.one (.l (L.bx 10 h_0.ls))),(2,sA 2),(3,sP (some (zI st))),(4,.one (.h (.row 22 0) 1 0 (zI v25)))] [(2,.cells [zH .u8 32 (zB 32 0)]),(22,.row 0 false 1 v25)] (st ++ [Zar.lo (Zar.mk h_0.state [] 0)])
theorem Zan.p4_ok {x47 v48 out_49 st45 r c4_ J4} (h:Zan.p4 N x47 st45 c4_ (v48,out_49)=some r) (hE:En Tryz.f212 g0 w0 (Zan.rs r) r.2 R) (hc4 : ∀v48 out_49,c4_ (v48,out_49)=some r→At g0 w0 (Zan.p4.S x47 v48 out_49 st45) J4):At g0 w0 (Zan.p4.S x47 v48 out_49 st45) (XK zG R (.c (csub Zan.B [1,1,1,1,1,1,1,1,1,0,1,0,0]) :: .h J4 :: [.b 6,.c (csub Zan.B [1,1,1,1,1,1,1,1,1,1])])):=by
 unfold Zan.p4 at h
 refine iteB h (fun c205 h1=>?_) (fun c205 h2=>?_)
 ·obtain ⟨c206,c207,c208,c209,c210,c211,c212,c213,h3⟩:=ck8 h1
  obtain ⟨c214,h4⟩:=ZaN h3
  exact an fol [.r [],.c true,.r [],.r [],.r []] [2,6,61,62] [2,6] (aO c205 c206 (oD c205) (leI 0 24) (leI 0 16) (leI 0 8) c207 (aN c208 c209 c210 c211 c212 c213 c214)) (hc4 (w64 (v48+1)) (zO (zO (zO (zO out_49 (zF (w64 (4*v48))) (v8 (shrOf .u32 (zE x47.state (zF v48) 0) 24))) (zF (w64 ((w64 (4*v48))+1))) (v8 (shrOf .u32 (zE x47.state (zF v48) 0) 16))) (zF (w64 ((w64 (4*v48))+2))) (v8 (shrOf .u32 (zE x47.state (zF v48) 0) 8))) (zF (w64 ((w64 (4*v48))+3))) (v8 (zE x47.state (zF v48) 0))) h4)
 ·obtain rfl:=Zac h2
  exact af fol hE [.r [],.c false,.r []] [] 0 [] c205
theorem Zan.p3_ok {st tail_43 tail_44 v38 st45 r c3_ J3} (h:Zan.p3 N st v38 c3_ (tail_43,tail_44,st45)=some r) (hE:En Tryz.f212 g0 w0 (Zan.rs r) r.2 R) (hc3 : ∀tail_43 tail_44 st45,c3_ (tail_43,tail_44,st45)=some r→At g0 w0 (Zan.p3.S st tail_43 tail_44 v38 st45) J3):At g0 w0 (Zan.p3.S st tail_43 tail_44 v38 st45) (XK zG R (.c (csub Zan.B [1,1,1,1,1,1,1,0,0,0]) :: .h J3 :: [.b 4,.c (csub Zan.B [1,1,1,1,1,1,1,1])])):=by
 unfold Zan.p3 at h
 refine iteB h (fun c190 h5=>?_) (fun c190 h6=>?_)
 ·obtain ⟨c191,h7⟩:=ZaN h5
  obtain ⟨st46,c192,h8⟩:=Zae h7
  obtain ⟨c193,h9⟩:=ZaN h8
  exact an fol [.r [],.c true,.r [(2,{m:=9}),(3,{st:=st46,wm:=3,fz:=[22]})],.r []] [2,3,4] [2,22] (aO c190 (leI 0 64) (leN 0 64) c191 c191 (Zai.snd c192) (leI 0 64) (aI c193 (Nat.le_refl (tail_44)))) (hc3 (tail_43+64) (tail_44-64) st46 h9)
 ·obtain ⟨x47,c194,h10⟩:=Zcg h6
  exact aq fol [.r [],.c false,.r [],.r [(3,{oc:=x47.lo})]] [2,6,61,62] [2,6] (aI c190 c194) (At.loop N (At.loopN (fun y:Int×(List Int)=>Zan.p4.S x47 y.1 y.2 st45) (fun c J hc y h=>Zan.p4_ok (v48:=y.1) (out_49:=y.2) h hE (fun v48 out_49=>hc (v48,out_49))) N (0,zB 32 0) h10))
theorem Zan.p2_ok {h_0 st v38 i_26 r c2_ J2} (h:Zan.p2 N h_0 st c2_ (v38,i_26)=some r) (hE:En Tryz.f212 g0 w0 (Zan.rs r) r.2 R) (hc2 : ∀v38 i_26,c2_ (v38,i_26)=some r→At g0 w0 (Zan.p2.S h_0 st v38 i_26) J2):At g0 w0 (Zan.p2.S h_0 st v38 i_26) (XK zG R (.c (csub Zan.B [1,1,1,1,1,1,0,1,0,0]) :: .h J2 :: [.b 2,.c (csub Zan.B [1,1,1,1,1,1,1])])):=by
 unfold Zan.p2 at h
 refine iteB h (fun c163 h11=>?_) (fun c163 h12=>?_)
 ·obtain ⟨c164,c165,h13⟩:=ck2 h11
  exact an fol [.r [],.c true,.r [(4,{oe:=h_0.ls})],.r []] [0,2,3,4,5] [2,22] (aO c163 (eO h_0.ls) c164 z0 (eN (zI v38)) z0 (eN (1)) c165) (hc2 (v38 ++ [[zC .u8 (v8 (shrOf .u64 (v64 (h_0.size*8)) (w64 (8*i_26))))]]) (w64 (i_26-1)) h13)
 ·exact aq fol [.r [],.c false] [2,3,4] [2,22] c163 (At.loop N (At.loopN (fun y:Nat×Nat×LL=>Zan.p3.S st y.1 y.2.1 v38 y.2.2) (fun c J hc y h=>Zan.p3_ok (tail_43:=y.1) (tail_44:=y.2.1) (st45:=y.2.2) h hE (fun tail_43 tail_44 st45=>hc (tail_43,tail_44,st45))) N (0,zI v38,st ++ [Zar.lo (Zar.mk h_0.state [] 0)]) h12))
theorem Zan.p1_ok {h_0 st v25 r c1_ J1} (h:Zan.p1 N h_0 st c1_ v25=some r) (hE:En Tryz.f212 g0 w0 (Zan.rs r) r.2 R) (hc1 : ∀v25,c1_ v25=some r→At g0 w0 (Zan.p1.S h_0 st v25) J1):At g0 w0 (Zan.p1.S h_0 st v25) (XK zG R (.c (csub Zan.B [1,1,1,1,1,0,0,0]) :: .h J1 :: [.b 0,.c (csub Zan.B [1,1,1,1,1,1])])):=by
 unfold Zan.p1 at h
 refine iteB h (fun c109 h14=>?_) (fun c109 h15=>?_)
 ·obtain ⟨c110,h16⟩:=ZaN h14
  exact an fol [.r [],.c true,.r []] [0,2,3,4] [2,22] (aN (neI 64) c109 z0 (eN (zI v25)) z0 (eN (1)) c110) (hc1 (v25 ++ [[zC .u8 0]]) h16)
 ·exact aq fol [.r [],.c false,.r []] [0,2,3,4,5] [2,22] (aI (neI 64) c109) (At.loop N (At.loopN (fun y:LL×Int=>Zan.p2.S h_0 st y.1 y.2) (fun c J hc y h=>Zan.p2_ok (v38:=y.1) (i_26:=y.2) h hE (fun v38 i_26=>hc (v38,i_26))) N (v25,7) h15))
theorem Zan.snd {h_0:Zar} {st:LL} {r:(List Int)×LL} (h:Zan N h_0 st=some r):Snd zG 212 [.one (L.bx 10 h_0.ls)] st (Zan.rs r) r.2:=
 sO Zan.B Tryz.func212 fun g0 w0 R hE=>by
  unfold Zan at h
  obtain ⟨c1,c2,h17⟩:=ck2 h
  exact aq fol [.r [],.r [],.c false,.r [(3,{oe:=h_0.ls}),(4,{mv:=[1]}),(5,{m:=1})],.r [(3,{oe:=h_0.ls}),(5,{fz:=[22]})],.r []] [0,2,3,4] [2,22] (aO eF (eO h_0.ls) (eO h_0.ls) c1 z0 (eN (zI ([]++h_0.rest))) z0 (aI (eN (1)) c2)) (At.loop N (At.loopN (fun y:LL=>Zan.p1.S h_0 st y) (fun c J hc y h=>Zan.p1_ok h hE (fun v25=>hc v25)) N (([]++h_0.rest) ++ [[zC .u8 128]]) h17))
noncomputable def Zal.B:Code:=Tryz.f212.body.getD .skip
noncomputable def Zal.rs (r:(List Int)×LL):List CV:=[.agg [zH .u8 32 r.1]]
noncomputable def Zal.p4 (N:Nat) (x53:Zar) (st51:LL) (c4_:(Int×(List Int))→Option ((List Int)×LL)):(Int×(List Int))→Option ((List Int)×LL):=fun (v54,out_55)=>
 if (decide (v54<8))=true then
  chk (0≤v54)<|
  chk (0≤(w64 (4*v54)))<|
  chk ((w64 (4*v54))<32)<|
  chk (0≤(w64 ((w64 (4*v54))+1)))<|
  chk ((w64 ((w64 (4*v54))+1))<32)<|
  chk (0≤(w64 ((w64 (4*v54))+2)))<|
  chk ((w64 ((w64 (4*v54))+2))<32)<|
  chk (0≤(w64 ((w64 (4*v54))+3)))<|
  chk ((w64 ((w64 (4*v54))+3))<32)<|
  c4_ (w64 (v54+1),zO (zO (zO (zO out_55 (zF (w64 (4*v54))) (v8 (shrOf .u32 (zE x53.state (zF v54) 0) 24))) (zF (w64 ((w64 (4*v54))+1))) (v8 (shrOf .u32 (zE x53.state (zF v54) 0) 16))) (zF (w64 ((w64 (4*v54))+2))) (v8 (shrOf .u32 (zE x53.state (zF v54) 0) 8))) (zF (w64 ((w64 (4*v54))+3))) (v8 (zE x53.state (zF v54) 0)))
 else
 some (out_55,st51)
noncomputable def Zal.p3 (N:Nat) (st v43:LL) (c3_:(Nat×Nat×LL)→Option ((List Int)×LL)):(Nat×Nat×LL)→Option ((List Int)×LL):=fun (tail_49,tail_50,st51)=>
 if (decide (((tail_50:Nat):Int)>0))=true then
  chk ((tail_49+64)≤(zI v43))<|
  optE (Zai N (some (zI st)) (vL 64 (tC tail_49 v43)) st51) fun st52=>
  chk (64≤tail_50)<|
  c3_ (tail_49+64,tail_50-64,st52)
 else
 getE (st51[zI st]?) ZbT fun x53=>
 loopN (Zal.p4 N x53 st51) N (0,zB 32 0)
noncomputable def Zal.p2 (N:Nat) (i1:Nat) (st:LL) (x2:Zar) (c2_:(LL×Int)→Option ((List Int)×LL)):(LL×Int)→Option ((List Int)×LL):=fun (v43,i_30)=>
 if (decide (i_30≥0))=true then
  getE ((st ++ [Zar.lo (Zar.mk x2.state [] 0)])[i1]?) ZbT fun x44=>
  chk (0≤(w64 (8*i_30)))<|
  chk (zI (v43 ++ [[zC .u8 (v8 (shrOf .u64 (v64 (x44.size*8)) (w64 (8*i_30))))]])*1≤140737488355328)<|
  c2_ (v43 ++ [[zC .u8 (v8 (shrOf .u64 (v64 (x44.size*8)) (w64 (8*i_30))))]],w64 (i_30-1))
 else
 loopN (Zal.p3 N st v43) N (0,zI v43,st ++ [Zar.lo (Zar.mk x2.state [] 0)])
noncomputable def Zal.p1 (N:Nat) (i1:Nat) (st:LL) (x2:Zar) (c1_:LL→Option ((List Int)×LL)):LL→Option ((List Int)×LL):=fun v29=>
 if ((Int.tmod (len v29) 64) != 56)=true then
  chk (zI (v29 ++ [[zC .u8 0]])*1≤140737488355328)<|
  c1_ (v29 ++ [[zC .u8 0]])
 else
 loopN (Zal.p2 N i1 st x2) N (v29,7)
noncomputable def Zal (N:Nat) (h_0:Option Nat) (st:LL):Option ((List Int)×LL):=
 if (wI h_0)=true then
  some (zB 32 0,st)
 else
 optE h_0 fun i1=>
 getE (st[i1]?) ZbT fun x2=>
 chk (zI ([]++x2.rest)*1≤140737488355328)<|
 chk (zI (([]++x2.rest) ++ [[zC .u8 128]])*1≤140737488355328)<|
 loopN (Zal.p1 N i1 st x2) N (([]++x2.rest) ++ [[zC .u8 128]])
noncomputable def Zal.p4.S (x53:Zar) (v54:Int) (out_55:List Int) (st51:LL):S:=mkS 94 [(2,sA 2),(6,sA 6),(61,.agg [.l (zH .u32 8 x53.state)]),(62,sI v54)] [(2,.cells [zH .u8 32 (zB 32 0)]),(6,.cells [zH .u8 32 out_55])] st51
noncomputable def Zal.p3.S (st:LL) (tail_49 tail_50:Nat) (v43 st51:LL):S:=mkS 94 [(2,sA 2),(3,sP (some (zI st))),(4,.one (.h (.row 22 0) 1 tail_49 tail_50))] [(2,.cells [zH .u8 32 (zB 32 0)]),(22,.row 0 false 1 v43)] st51
noncomputable def Zal.p2.S (i1:Nat) (st v43:LL) (i_30:Int) (x2:Zar):S:=mkS 94 [(0,sP (some i1)),(2,sA 2),(3,sP (some (zI st))),(4,.one (.h (.row 22 0) 1 0 (zI v43))),(5,sI i_30)] [(2,.cells [zH .u8 32 (zB 32 0)]),(22,.row 0 false 1 v43)] (st ++ [Zar.lo (Zar.mk x2.state [] 0)])
noncomputable def Zal.p1.S (i1:Nat) (st v29:LL) (x2:Zar):S:=mkS 94 [(0,sP (some i1)),(2,sA 2),(3,sP (some (zI st))),(4,.one (.h (.row 22 0) 1 0 (zI v29)))] [(2,.cells [zH .u8 32 (zB 32 0)]),(22,.row 0 false 1 v29)] (st ++ [Zar.lo (Zar.mk x2.state [] 0)])
theorem Zal.p4_ok {x53 v54 out_55 st51 r c4_ J4} (h:Zal.p4 N x53 st51 c4_ (v54,out_55)=some r) (hE:En Tryz.f212 g0 w0 (Zal.rs r) r.2 R) (hc4 : ∀v54 out_55,c4_ (v54,out_55)=some r→At g0 w0 (Zal.p4.S x53 v54 out_55 st51) J4):At g0 w0 (Zal.p4.S x53 v54 out_55 st51) (XK zG R (.c (csub Zal.B [1,1,1,1,1,1,1,1,1,0,1,0,0]) :: .h J4 :: [.b 6,.c (csub Zal.B [1,1,1,1,1,1,1,1,1,1])])):=by
 unfold Zal.p4 at h
 refine iteB h (fun c212 h1=>?_) (fun c212 h2=>?_)
 ·obtain ⟨c213,c214,c215,c216,c217,c218,c219,c220,h3⟩:=ck8 h1
  obtain ⟨c221,h4⟩:=ZaN h3
  exact an fol [.r [],.c true,.r [],.r [],.r []] [2,6,61,62] [2,6] (aO c212 c213 (oD c212) (leI 0 24) (leI 0 16) (leI 0 8) c214 (aN c215 c216 c217 c218 c219 c220 c221)) (hc4 (w64 (v54+1)) (zO (zO (zO (zO out_55 (zF (w64 (4*v54))) (v8 (shrOf .u32 (zE x53.state (zF v54) 0) 24))) (zF (w64 ((w64 (4*v54))+1))) (v8 (shrOf .u32 (zE x53.state (zF v54) 0) 16))) (zF (w64 ((w64 (4*v54))+2))) (v8 (shrOf .u32 (zE x53.state (zF v54) 0) 8))) (zF (w64 ((w64 (4*v54))+3))) (v8 (zE x53.state (zF v54) 0))) h4)
 ·obtain rfl:=Zac h2
  exact af fol hE [.r [],.c false,.r []] [] 0 [] c212
theorem Zal.p3_ok {st tail_49 tail_50 v43 st51 r c3_ J3} (h:Zal.p3 N st v43 c3_ (tail_49,tail_50,st51)=some r) (hE:En Tryz.f212 g0 w0 (Zal.rs r) r.2 R) (hc3 : ∀tail_49 tail_50 st51,c3_ (tail_49,tail_50,st51)=some r→At g0 w0 (Zal.p3.S st tail_49 tail_50 v43 st51) J3):At g0 w0 (Zal.p3.S st tail_49 tail_50 v43 st51) (XK zG R (.c (csub Zal.B [1,1,1,1,1,1,1,0,0,0]) :: .h J3 :: [.b 4,.c (csub Zal.B [1,1,1,1,1,1,1,1])])):=by
 unfold Zal.p3 at h
 refine iteB h (fun c197 h5=>?_) (fun c197 h6=>?_)
 ·obtain ⟨c198,h7⟩:=ZaN h5
  obtain ⟨st52,c199,h8⟩:=Zae h7
  obtain ⟨c200,h9⟩:=ZaN h8
  exact an fol [.r [],.c true,.r [(2,{m:=9}),(3,{st:=st52,wm:=3,fz:=[22]})],.r []] [2,3,4] [2,22] (aO c197 (leI 0 64) (leN 0 64) c198 c198 (Zai.snd c199) (leI 0 64) (aI c200 (Nat.le_refl (tail_50)))) (hc3 (tail_49+64) (tail_50-64) st52 h9)
 ·obtain ⟨x53,c201,h10⟩:=Zcg h6
  exact aq fol [.r [],.c false,.r [],.r [(3,{oc:=x53.lo})]] [2,6,61,62] [2,6] (aI c197 c201) (At.loop N (At.loopN (fun y:Int×(List Int)=>Zal.p4.S x53 y.1 y.2 st51) (fun c J hc y h=>Zal.p4_ok (v54:=y.1) (out_55:=y.2) h hE (fun v54 out_55=>hc (v54,out_55))) N (0,zB 32 0) h10))
theorem Zal.p2_ok {i1 st v43 i_30 x2 r c2_ J2} (h:Zal.p2 N i1 st x2 c2_ (v43,i_30)=some r) (hE:En Tryz.f212 g0 w0 (Zal.rs r) r.2 R) (hc2 : ∀v43 i_30,c2_ (v43,i_30)=some r→At g0 w0 (Zal.p2.S i1 st v43 i_30 x2) J2):At g0 w0 (Zal.p2.S i1 st v43 i_30 x2) (XK zG R (.c (csub Zal.B [1,1,1,1,1,1,0,1,0,0]) :: .h J2 :: [.b 2,.c (csub Zal.B [1,1,1,1,1,1,1])])):=by
 unfold Zal.p2 at h
 refine iteB h (fun c169 h11=>?_) (fun c169 h12=>?_)
 ·obtain ⟨x44,c170,h13⟩:=Zcg h11
  obtain ⟨c171,c172,h14⟩:=ck2 h13
  exact an fol [.r [],.c true,.r [(4,{oc:=x44.lo})],.r []] [0,2,3,4,5] [2,22] (aO c169 c170 c171 z0 (eN (zI v43)) z0 (eN (1)) c172) (hc2 (v43 ++ [[zC .u8 (v8 (shrOf .u64 (v64 (x44.size*8)) (w64 (8*i_30))))]]) (w64 (i_30-1)) h14)
 ·exact aq fol [.r [],.c false] [2,3,4] [2,22] c169 (At.loop N (At.loopN (fun y:Nat×Nat×LL=>Zal.p3.S st y.1 y.2.1 v43 y.2.2) (fun c J hc y h=>Zal.p3_ok (tail_49:=y.1) (tail_50:=y.2.1) (st51:=y.2.2) h hE (fun tail_49 tail_50 st51=>hc (tail_49,tail_50,st51))) N (0,zI v43,st ++ [Zar.lo (Zar.mk x2.state [] 0)]) h12))
theorem Zal.p1_ok {i1 st v29 x2 r c1_ J1} (h:Zal.p1 N i1 st x2 c1_ v29=some r) (hE:En Tryz.f212 g0 w0 (Zal.rs r) r.2 R) (hc1 : ∀v29,c1_ v29=some r→At g0 w0 (Zal.p1.S i1 st v29 x2) J1):At g0 w0 (Zal.p1.S i1 st v29 x2) (XK zG R (.c (csub Zal.B [1,1,1,1,1,0,0,0]) :: .h J1 :: [.b 0,.c (csub Zal.B [1,1,1,1,1,1])])):=by
 unfold Zal.p1 at h
 refine iteB h (fun c114 h15=>?_) (fun c114 h16=>?_)
 ·obtain ⟨c115,h17⟩:=ZaN h15
  exact an fol [.r [],.c true,.r []] [0,2,3,4] [2,22] (aN (neI 64) c114 z0 (eN (zI v29)) z0 (eN (1)) c115) (hc1 (v29 ++ [[zC .u8 0]]) h17)
 ·exact aq fol [.r [],.c false,.r []] [0,2,3,4,5] [2,22] (aI (neI 64) c114) (At.loop N (At.loopN (fun y:LL×Int=>Zal.p2.S i1 st y.1 y.2 x2) (fun c J hc y h=>Zal.p2_ok (v43:=y.1) (i_30:=y.2) h hE (fun v43 i_30=>hc (v43,i_30))) N (v29,7) h16))
theorem Zal.snd {h_0:Option Nat} {st:LL} {r:(List Int)×LL} (h:Zal N h_0 st=some r):Snd zG 212 [.one (xQ h_0)] st (Zal.rs r) r.2:=
 sO Zal.B Tryz.func212 fun g0 w0 R hE=>by
  unfold Zal at h
  refine iteB h (fun c1 h18=>?_) (fun c1 h19=>?_)
  ·obtain rfl:=Zac h18
   exact af fol hE [.r [],.r [],.c true,.r []] [] 0 [] c1
  ·obtain ⟨i1,rfl,h20⟩:=Zae h19
   obtain ⟨x2,c3,h21⟩:=Zcg h20
   obtain ⟨c4,c5,h22⟩:=ck2 h21
   exact aq fol [.r [],.r [],.c false,.r [(3,{oc:=x2.lo}),(4,{mv:=[1]}),(5,{m:=1})],.r [(3,{oc:=x2.lo}),(4,{oc:=x2.lo}),(5,{fz:=[22]})],.r []] [0,2,3,4] [2,22] (aO c1 c3 (st_old c3 (Zar.lo (Zar.mk x2.state [] 0))) z0 (eN (zI x2.rest)) (st_old c3 (Zar.lo (Zar.mk x2.state [] 0))) c4 (aL z0 (eN (zI ([]++x2.rest))) z0 (eN (1)) c5)) (At.loop N (At.loopN (fun y:LL=>Zal.p1.S i1 st y x2) (fun c J hc y h=>Zal.p1_ok h hE (fun v29=>hc v29)) N (([]++x2.rest) ++ [[zC .u8 128]]) h22))
noncomputable def ZdN.B:Code:=Tryz.f188.body.getD .skip
noncomputable def ZdN.rs (r:(List Int)×LL):List CV:=[.agg [zH .u8 32 r.1]]
noncomputable def ZdN (N:Nat) (parts_0 st:LL):Option ((List Int)×LL):=
 optE (Zec N st) fun (x1,st2)=>
 optE (ZaB N x1 parts_0 st2) fun st3=>
 optE (Zal N x1 st3) fun (x4,st5)=>
 some (x4,st5)
theorem ZdN.snd {parts_0:LL} {st:LL} {r:(List Int)×LL} (h:ZdN N parts_0 st=some r):Snd zG 188 [.one (yM 1 parts_0)] st (ZdN.rs r) r.2:=
 sO ZdN.B Tryz.func188 fun g0 w0 R hE=>by
  unfold ZdN at h
  obtain ⟨⟨x1,st2⟩,c1,h1⟩:=Zae h
  obtain ⟨st3,c2,h2⟩:=Zae h1
  obtain ⟨⟨x4,st5⟩,c3,h3⟩:=Zae h2
  obtain rfl:=Zac h3
  exact af fol hE [.r [],.r [(0,{rs:=[.one (xQ x1)],st:=st2})],.r [(2,{st:=st3})],.r [(1,{rs:=[.agg [zH .u8 32 x4]],st:=st5})]] [] 0 [] (aJ (Zec.snd c1) (ZaB.snd c2) (Zal.snd c3))
noncomputable def ZcM.B:Code:=Tryz.f148.body.getD .skip
noncomputable def ZcM.rs (r:(List Int)×LL):List CV:=[.agg [zH .u8 32 r.1]]
noncomputable def ZcM (N:Nat) (parts_0 st:LL):Option ((List Int)×LL):=
 optE (ZdN N parts_0 st) fun (x1,st2)=>
 optE (ZdN N [[wS (istr x1)]] st2) fun (x3,st4)=>
 some (x3,st4)
theorem ZcM.snd {parts_0:LL} {st:LL} {r:(List Int)×LL} (h:ZcM N parts_0 st=some r):Snd zG 148 [.one (yM 1 parts_0)] st (ZcM.rs r) r.2:=
 sO ZcM.B Tryz.func148 fun g0 w0 R hE=>by
  unfold ZcM at h
  obtain ⟨⟨x1,st2⟩,c1,h1⟩:=Zae h
  obtain ⟨⟨x3,st4⟩,c2,h2⟩:=Zae h1
  obtain rfl:=Zac h2
  exact af fol hE [.r [],.r [(1,{rs:=[.agg [zH .u8 32 x1]],st:=st2})],.r [(3,{rs:=[.agg [zH .u8 32 x3]],st:=st4,fz:=[8]})]] [] 0 [] (aM (ZdN.snd c1) (leN 0 32) (leN 32 32) z0 (eN (1)) (ZdN.snd c2))
noncomputable def ZdF.B:Code:=Tryz.f91.body.getD .skip
noncomputable def ZdF.rs (r:(List Int)×LL):List CV:=[.agg [zH .u8 32 r.1]]
noncomputable def ZdF (N:Nat) (h_0:Zaa) (st:LL):Option ((List Int)×LL):=
 optE (ZcU N h_0 st) fun (x1,x2,st3)=>
 if (x2 != 0)=true then
  some (zB 32 0,st3)
 else
 optE (ZcM N [[wS x1]] st3) fun (x4,st5)=>
 some (x4,st5)
theorem ZdF.snd {h_0:Zaa} {st:LL} {r:(List Int)×LL} (h:ZdF N h_0 st=some r):Snd zG 91 [.agg h_0.ls] st (ZdF.rs r) r.2:=
 sO ZdF.B Tryz.func91 fun g0 w0 R hE=>by
  unfold ZdF at h
  obtain ⟨⟨x1,x2,st3⟩,c1,h1⟩:=Zae h
  let o1:List PS:=[.r [],.r [(1,{rs:=[.one (wS x1),oI x2],st:=st3})],.r []]
  refine iteB h1 (fun c2 h2=>?_) (fun c2 h3=>?_)
  ·obtain rfl:=Zac h2
   exact af fol hE (o1 ++ [.c true,.r []]) [] 0 [] (aI (ZcU.snd c1) c2)
  ·obtain ⟨⟨x4,st5⟩,c3,h4⟩:=Zae h3
   obtain rfl:=Zac h4
   exact af fol hE (o1 ++ [.c false,.r [(2,{rs:=[.agg [zH .u8 32 x4]],st:=st5,fz:=[14]})]]) [] 0 [] (aL (ZcU.snd c1) c2 z0 (eN (1)) (ZcM.snd c3))
noncomputable def ZaS.B:Code:=Tryz.f156.body.getD .skip
noncomputable def ZaS.rs (r:LL):List CV:=[]
noncomputable def ZaS.p1 (N:Nat) (times_1:LL) (c1_:((Option Nat)×Int×LL)→Option LL):((Option Nat)×Int×LL)→Option LL:=fun (w_5,v1,st6)=>
 if (decide (v1<(len times_1)))=true then
  chk (0≤v1)<|
  getE (times_1[zF v1]?) ZeD fun x7=>
  optE w_5 fun i8=>
  getE (st6[i8]?) Zgm fun x9=>
  chk (0≤(if (10:Int)<(len x9) then 10 else (len x9)))<|
  chk ((zF (if (10:Int)<(len x9) then 10 else (len x9)))≤(zI x9))<|
  chk (zI ([[zC .i64 x7]]++(vL (zF (if (10:Int)<(len x9) then 10 else (len x9))) x9))*8≤140737488355328)<|
  c1_ ((some i8),w64 (v1+1),zO st6 i8 [xS true 1 ([[zC .i64 x7]]++(vL (zF (if (10:Int)<(len x9) then 10 else (len x9))) x9))])
 else
 some st6
noncomputable def ZaS (N:Nat) (w_0:Option Nat) (times_1 st:LL):Option LL:=
 if (wI w_0)=true then
  some st
 else
 loopN (ZaS.p1 N times_1) N (w_0,0,st)
noncomputable def ZaS.p1.S (w_5:Option Nat) (times_1:LL) (v1:Int) (st6:LL):S:=mkS 32 [(0,sP w_5),(8,sV 1 times_1),(9,sI (len times_1)),(10,sI v1)] [] st6
theorem ZaS.p1_ok {w_5 times_1 v1 st6 r c1_ J1} (h:ZaS.p1 N times_1 c1_ (w_5,v1,st6)=some r) (hE:En Tryz.f156 g0 w0 (ZaS.rs r) r R) (hc1 : ∀w_5 v1 st6,c1_ (w_5,v1,st6)=some r→At g0 w0 (ZaS.p1.S w_5 times_1 v1 st6) J1):At g0 w0 (ZaS.p1.S w_5 times_1 v1 st6) (XK zG R (.c (csub ZaS.B [1,1,0,0]) :: .h J1 :: [.b 0])):=by
 unfold ZaS.p1 at h
 refine iteB h (fun c10 h1=>?_) (fun c10 h2=>?_)
 ·obtain ⟨c11,h3⟩:=ZaN h1
  obtain ⟨x7,c12,h4⟩:=ZdA h3
  obtain ⟨i8,rfl,h5⟩:=Zae h4
  obtain ⟨x9,c14,h6⟩:=ZeI h5
  obtain ⟨c15,c16,c17,h7⟩:=ck3 h6
  exact and_ fol [.r [],.c true,.r [(1,{oe:=[zC .i64 x7]})],.d {ds:=[(6,{oc:=[xS true 1 x9]}),(10,{oc:=[xS true 1 x9]}),(13,{oc:=[xS true 1 x9]}),(14,{oc:=[xS true 1 x9],wm:=2}),(17,{oc:=[xS true 1 x9],mv:=[16]})],hv:=147460,Hs:=[4,16388,147460]},.r []] [0,8,9,10] [] (aO c10 c11 (oD c10) c12 c14 c14 c14 (aO c14 c15 (Nat.zero_le (zF (if (10:Int)<(len x9) then 10 else (len x9)))) c16 c14 c15 (Nat.zero_le (zF (if (10:Int)<(len x9) then 10 else (len x9)))) (aO c16 c14 z0 (eN (1)) z0 c16 c14 (aK c17 c14 z0 (eN (zI ([[zC .i64 x7]]++(vL (zF (if (10:Int)<(len x9) then 10 else (len x9))) x9)))))))) (hc1 (some i8) (w64 (v1+1)) (zO st6 i8 [xS true 1 ([[zC .i64 x7]]++(vL (zF (if (10:Int)<(len x9) then 10 else (len x9))) x9))]) h7)
 ·obtain rfl:=Zac h2
  exact af fol hE [.r [],.c false] [] 0 [] c10
theorem ZaS.snd {w_0:Option Nat} {times_1:LL} {st:LL} {r:LL} (h:ZaS N w_0 times_1 st=some r):Snd zG 156 [.one (xQ w_0),.one (yM 1 times_1)] st (ZaS.rs r) r:=
 sO ZaS.B Tryz.func156 fun g0 w0 R hE=>by
  unfold ZaS at h
  refine iteB h (fun c1 h8=>?_) (fun c1 h9=>?_)
  ·obtain rfl:=Zac h8
   exact af fol hE [.r [],.c true] [] 0 [] c1
  ·exact aq fol [.r [],.c false,.r []] [0,8,9,10] [] c1 (At.loop N (At.loopN (fun y:(Option Nat)×Int×LL=>ZaS.p1.S y.1 times_1 y.2.1 y.2.2) (fun c J hc y h=>ZaS.p1_ok (w_5:=y.1) (v1:=y.2.1) (st6:=y.2.2) h hE (fun w_5 v1 st6=>hc (w_5,v1,st6))) N (w_0,0,st) h9))
noncomputable def ZcT.B:Code:=Tryz.f157.body.getD .skip
noncomputable def ZcT.rs (r:LL×LL):List CV:=[.row true 1 r.1]
noncomputable def ZcT (N:Nat) (w_0:Option Nat) (st:LL):Option (LL×LL):=
 if (wI w_0)=true then
  some ([],st)
 else
 optE w_0 fun i1=>
 getE (st[i1]?) Zgm fun x2=>
 optE (ZbB N x2) fun x3=>
 chk (plainRow x3=true)<|
 some (x3,st)
theorem ZcT.snd {w_0:Option Nat} {st:LL} {r:LL×LL} (h:ZcT N w_0 st=some r):Snd zG 157 [.one (xQ w_0)] st (ZcT.rs r) r.2:=
 sO ZcT.B Tryz.func157 fun g0 w0 R hE=>by
  unfold ZcT at h
  refine iteB h (fun c1 h1=>?_) (fun c1 h2=>?_)
  ·obtain rfl:=Zac h1
   exact af fol hE [.r [(0,{m:=2})],.r [],.c true,.r [(0,{m:=2})]] [] 0 [0] c1
  ·obtain ⟨i1,rfl,h3⟩:=Zae h2
   obtain ⟨x2,c3,h4⟩:=ZeI h3
   obtain ⟨x3,c4,h5⟩:=Zae h4
   obtain ⟨c5,h6⟩:=ZaN h5
   obtain rfl:=Zac h6
   exact af fol hE [.r [(0,{m:=2})],.r [],.c false,.r [(3,{oc:=[xS true 1 x2]}),(4,{oc:=[xS true 1 x2],rs:=[.row true 1 x3],ns:=[9],m:=2})]] [] 0 [0] (aO c1 c3 z0 (eN (zI x2)) c3 c5 (ZbB.snd c4) (aI z0 (eN (zI x3))))
noncomputable def ZcS.B:Code:=Tryz.f155.body.getD .skip
noncomputable def ZcS.rs (r:Bool):List CV:=[oB r]
noncomputable def ZcS (N:Nat) (p_0:Zak) (height_1:Int):Option Bool:=
 if (decide (p_0.Interval>0))=true then
  chk (p_0.Interval≠0)<|
  some ((Int.tmod height_1 p_0.Interval)==0)
 else
 some false
theorem ZcS.snd {p_0:Zak} {height_1:Int} {r:Bool} (h:ZcS N p_0 height_1=some r):SndQ zG 155 [.agg p_0.ls,oI height_1] (ZcS.rs r):=fun st=>
 sO ZcS.B Tryz.func155 fun g0 w0 R hE=>by
  unfold ZcS at h
  refine iteB h (fun c1 h1=>?_) (fun c1 h2=>?_)
  ·obtain ⟨c2,h3⟩:=ZaN h1
   obtain rfl:=Zac h3
   exact af fol hE [.r [],.r []] [] 0 [] (aN c1 c1 c1 c1 c2 c1 c1)
  ·obtain rfl:=Zac h2
   exact af fol hE [.r [],.r [(4,wF),(5,wF),(6,wF),(7,wF),(8,wF),(9,yF)]] [] 0 [] (aM c1 c1 c1 c1 c1 c1)
noncomputable def ZbY.B:Code:=Tryz.f157.body.getD .skip
noncomputable def ZbY.rs (r:LL):List CV:=[.row true 1 r]
noncomputable def ZbY (N:Nat) (w_0:LL):Option LL:=
 optE (ZbB N w_0) fun x1=>
 some x1
theorem ZbY.snd {w_0:LL} {r:LL} (h:ZbY N w_0=some r):SndQ zG 157 [.one (L.bx 1 [yM 1 w_0])] (ZbY.rs r):=fun st=>
 sO ZbY.B Tryz.func157 fun g0 w0 R hE=>by
  unfold ZbY at h
  obtain ⟨x1,c1,h1⟩:=Zae h
  obtain rfl:=Zac h1
  exact af fol hE [.r [(0,{m:=2})],.r [],.c false,.r [(3,{oe:=[yM 1 w_0]}),(4,{rs:=[.row true 1 x1],ns:=[9],m:=1})]] [] 0 [0] (aL eF (eO [yM 1 w_0]) (ZbB.snd c1) z0 (eN (zI x1)))
noncomputable def ZaL.B:Code:=Tryz.f93.body.getD .skip
noncomputable def ZaL.rs (r:Zat×LL):List CV:=[.agg r.1.ls]
noncomputable def ZaL.p3 (N:Nat) (st2:LL) (at_1:Zat) (h_2:Zaa) (out_8:Zat) (c3_:(Int×LL)→Option (Zat×LL)):(Int×LL)→Option (Zat×LL):=fun (i_9,st15)=>
 if (decide (i_9≥0))=true then
  chk (0≤i_9)<|
  chk (i_9<(len at_1.Times))<|
  getE (at_1.Times[zF i_9]?) ZeD fun x16=>
  optE (ZaS N (some (zI st2)) [[zC .i64 x16]] st15) fun st17=>
  c3_ (w64 (i_9-1),st17)
 else
 optE (ZaS N (some (zI st2)) [[zC .i64 h_2.Time]] st15) fun st18=>
 getE (st18[zI st2]?) Zgm fun x19=>
 optE (ZbY N x19) fun x20=>
 chk (plainRow x20=true)<|
 some ({out_8 with Times:=x20},st18)
noncomputable def ZaL.p2 (N:Nat) (at_1:Zat) (h_2:Zaa) (out_8:Zat) (st2:LL):Option (Zat×LL):=
 loopN (ZaL.p3 N st2 at_1 h_2 out_8) N (w64 ((if (11:Int)<(len at_1.Times) then 11 else (len at_1.Times))-1),st2 ++ [[xS true 1 []]])
noncomputable def ZaL.p1 (N:Nat) (p_0:Zak) (at_1:Zat) (h_2:Zaa) (out_5:Zat) (st2:LL):Option (Zat×LL):=
 if p_0.Easy=true then
  if (h_2.Bits==p_0.Limit)=true then
   optE (ZcS N p_0 at_1.Point.Height) fun x6=>
   if (!x6)=true then
    ZaL.p2 N at_1 h_2 {out_5 with Point:={out_5.Point with Hard:=at_1.Point.Hard}} st2
   else
   ZaL.p2 N at_1 h_2 out_5 st2
  else
  ZaL.p2 N at_1 h_2 out_5 st2
 else
 ZaL.p2 N at_1 h_2 out_5 st2
noncomputable def ZaL (N:Nat) (p_0:Zak) (at_1:Zat) (h_2:Zaa) (st:LL):Option (Zat×LL):=
 optE (ZdF N h_2 st) fun (x1,st2)=>
 optE (ZcS N p_0 at_1.Point.Height) fun x3=>
 if x3=true then
  ZaL.p1 N p_0 at_1 h_2 (Zat.mk (ZaQ.mk (w64 (at_1.Point.Height+1)) h_2.Bits h_2.Time h_2.Time h_2.Bits) x1 []) st2
 else
 ZaL.p1 N p_0 at_1 h_2 (Zat.mk (ZaQ.mk (w64 (at_1.Point.Height+1)) h_2.Bits h_2.Time at_1.Point.First h_2.Bits) x1 []) st2
noncomputable def ZaL.p3.S (st2:LL) (i_9:Int) (at_1:Zat) (h_2:Zaa) (out_8:Zat) (st15:LL):S:=mkS 81 [(4,sA 4),(5,sA 5),(6,sA 6),(7,sA 7),(8,sP (some (zI st2))),(9,sI i_9)] [(4,.cells at_1.ls),(5,.cells h_2.ls),(6,.cells [zC .i64 0,zC .i64 0,zC .i64 0,zC .i64 0,zC .i64 0,zH .u8 32 (zB 32 0),xS true 1 []]),(7,.cells out_8.ls)] st15
noncomputable def ZaL.p2.S (at_1:Zat) (h_2:Zaa) (out_8:Zat) (st2:LL):S:=mkS 81 [(4,sA 4),(5,sA 5),(6,sA 6),(7,sA 7)] [(4,.cells at_1.ls),(5,.cells h_2.ls),(6,.cells [zC .i64 0,zC .i64 0,zC .i64 0,zC .i64 0,zC .i64 0,zH .u8 32 (zB 32 0),xS true 1 []]),(7,.cells out_8.ls)] st2
noncomputable def ZaL.p1.S (p_0:Zak) (at_1:Zat) (h_2:Zaa) (out_5:Zat) (st2:LL):S:=mkS 81 [(3,sA 3),(4,sA 4),(5,sA 5),(6,sA 6),(7,sA 7)] [(3,.cells p_0.ls),(4,.cells at_1.ls),(5,.cells h_2.ls),(6,.cells [zC .i64 0,zC .i64 0,zC .i64 0,zC .i64 0,zC .i64 0,zH .u8 32 (zB 32 0),xS true 1 []]),(7,.cells out_5.ls)] st2
theorem ZaL.p3_ok {st2 i_9 at_1 h_2 out_8 st15 r c3_ J3} (h:ZaL.p3 N st2 at_1 h_2 out_8 c3_ (i_9,st15)=some r) (hE:En Tryz.f93 g0 w0 (ZaL.rs r) r.2 R) (hc3 : ∀i_9 st15,c3_ (i_9,st15)=some r→At g0 w0 (ZaL.p3.S st2 i_9 at_1 h_2 out_8 st15) J3):At g0 w0 (ZaL.p3.S st2 i_9 at_1 h_2 out_8 st15) (XK zG R (.c (csub ZaL.B [1,1,1,1,1,0,1,0,0]) :: .h J3 :: [.b 0,.c (csub ZaL.B [1,1,1,1,1,1])])):=by
 unfold ZaL.p3 at h
 refine iteB h (fun c17 h1=>?_) (fun c17 h2=>?_)
 ·obtain ⟨c18,c19,h3⟩:=ck2 h1
  obtain ⟨x16,c20,h4⟩:=ZdA h3
  obtain ⟨st17,c21,h5⟩:=Zae h4
  exact an fol [.r [],.c true,.r [(4,{oe:=[zC .i64 x16]}),(6,{st:=st17,fz:=[72]})],.r []] [4,5,6,7,8,9] [4,5,6,7] (aN c17 c18 c19 c20 z0 (eN (1)) (ZaS.snd c21)) (hc3 (w64 (i_9-1)) st17 h5)
 ·obtain ⟨st18,c22,h6⟩:=Zae h2
  obtain ⟨x19,c23,h7⟩:=ZeI h6
  obtain ⟨x20,c24,h8⟩:=Zae h7
  obtain ⟨c25,h9⟩:=ZaN h8
  obtain rfl:=Zac h9
  exact af fol hE [.r [],.c false,.r [(3,{st:=st18,fz:=[76]})],.r [(0,{rs:=[.row true 1 x20],ns:=[78],m:=10,cv:=[.one (L.bx 1 [yM 1 x19])]}),(2,{fz:=[78]})],.r []] [] 0 [] (aO c17 z0 (eN (1)) (ZaS.snd c22) (bO 1 c23 ((bW bN):BVs st18 [xS true 1 x19] [yM 1 x19])) c25 (ZbY.snd c24) (aI z0 (eN (zI x20))))
theorem ZaL.p2_ok {at_1 h_2 out_8 st2 r} (h:ZaL.p2 N at_1 h_2 out_8 st2=some r) (hE:En Tryz.f93 g0 w0 (ZaL.rs r) r.2 R):At g0 w0 (ZaL.p2.S at_1 h_2 out_8 st2) (XK zG R [.c (csub ZaL.B [1,1,1,1])]):=by
 unfold ZaL.p2 at h
 exact aq fol [.r [(0,{m:=1})],.r []] [4,5,6,7,8,9] [4,5,6,7] trivial (At.loop N (At.loopN (fun y:Int×LL=>ZaL.p3.S st2 y.1 at_1 h_2 out_8 y.2) (fun c J hc y h=>ZaL.p3_ok (i_9:=y.1) (st15:=y.2) h hE (fun i_9 st15=>hc (i_9,st15))) N (w64 ((if (11:Int)<(len at_1.Times) then 11 else (len at_1.Times))-1),st2 ++ [[xS true 1 []]]) h))
theorem ZaL.p1_ok {p_0 at_1 h_2 out_5 st2 r} (h:ZaL.p1 N p_0 at_1 h_2 out_5 st2=some r) (hE:En Tryz.f93 g0 w0 (ZaL.rs r) r.2 R):At g0 w0 (ZaL.p1.S p_0 at_1 h_2 out_5 st2) (XK zG R [.c (csub ZaL.B [1,1,1])]):=by
 unfold ZaL.p1 at h
 refine iteB h (fun c4 h10=>?_) (fun c4 h11=>?_)
 ·have t1 {Q:Prop} (q:Q):=aN c4 c4 c4 c4 c4 c4 q
  refine iteB h10 (fun c5 h12=>?_) (fun c5 h13=>?_)
  ·obtain ⟨x6,c6,h14⟩:=Zae h12
   let o1:List PS:=[.r [(14,q1 [oB x6])]]
   have t2 {Q:Prop} (q:Q):=t1 (aO c5 c5 c5 c5 c5 (ZcS.snd c6) c5 (aI c5 q))
   refine iteB h14 (fun c7 h15=>?_) (fun c7 h16=>?_)
   ·exact aq fol (o1 ++ [.c true,.r [],.s 1]) [4,5,6,7] [4,5,6,7] (t2 c7) (ZaL.p2_ok h15 hE)
   ·exact aq fol (o1 ++ [.c false,.s 1]) [4,5,6,7] [4,5,6,7] (t2 c7) (ZaL.p2_ok h16 hE)
  ·exact aq fol [.r [(10,wF),(11,wF),(12,wF),(13,wF),(14,wF),(15,wF),(16,yF)],.c false,.s 1] [4,5,6,7] [4,5,6,7] (t1 (aO c5 c5 c5 c5 c5 c5 c5 eF)) (ZaL.p2_ok h13 hE)
 ·exact aq fol [.r [(3,wF),(4,wF),(5,wF),(6,wF),(7,wF),(8,yF),(10,wF),(11,wF),(12,wF),(13,wF),(14,wF),(15,wF),(16,yF)],.c false,.s 1] [4,5,6,7] [4,5,6,7] (aO c4 c4 c4 c4 c4 c4 eF (aN eF eF eF eF eF eF eF)) (ZaL.p2_ok h11 hE)
theorem ZaL.snd {p_0:Zak} {at_1:Zat} {h_2:Zaa} {st:LL} {r:Zat×LL} (h:ZaL N p_0 at_1 h_2 st=some r):Snd zG 93 [.agg p_0.ls,.agg at_1.ls,.agg h_2.ls] st (ZaL.rs r) r.2:=
 sO ZaL.B Tryz.func93 fun g0 w0 R hE=>by
  unfold ZaL at h
  obtain ⟨⟨x1,st2⟩,c1,h17⟩:=Zae h
  obtain ⟨x3,c2,h18⟩:=Zae h17
  let o2:List PS:=[.r [],.d {ds:=[(15,{rs:=[.agg [zH .u8 32 x1]],st:=st2})],hv:=425984,Hs:=[32768,131072,163840,425984]},.r [(4,q1 [oB x3])]]
  have t3 {Q:Prop} (q:Q):=aK (ZdF.snd c1) (ZdF.snd c1) (ZcS.snd c2) q
  refine iteB h18 (fun c3 h19=>?_) (fun c3 h20=>?_)
  ·exact aqd fol (o2 ++ [.c true,.r [],.s 1]) [3,4,5,6,7] [3,4,5,6,7] (t3 c3) (ZaL.p1_ok h19 hE)
  ·exact aqd fol (o2 ++ [.c false,.s 1]) [3,4,5,6,7] [3,4,5,6,7] (t3 c3) (ZaL.p1_ok h20 hE)
noncomputable def ZdZ.B:Code:=Tryz.f89.body.getD .skip
noncomputable def ZdZ.rs (r:Zat×LL):List CV:=[.agg r.1.ls]
noncomputable def ZdZ (N:Nat) (p_0:Zak) (st:LL):Option (Zat×LL):=
 optE (ZaL N p_0 (Zat.mk (ZaQ.mk 0 0 0 0 p_0.Limit) (zB 32 0) []) p_0.Genesis st) fun (x1,st2)=>
 some (x1,st2)
theorem ZdZ.snd {p_0:Zak} {st:LL} {r:Zat×LL} (h:ZdZ N p_0 st=some r):Snd zG 89 [.agg p_0.ls] st (ZdZ.rs r) r.2:=
 sO ZdZ.B Tryz.func89 fun g0 w0 R hE=>by
  unfold ZdZ at h
  obtain ⟨⟨x1,st2⟩,c1,h1⟩:=Zae h
  obtain rfl:=Zac h1
  exact af fol hE [.r [],.r [(7,{rs:=[.agg x1.ls],st:=st2})]] [] 0 [] (ZaL.snd c1)
end Go.Dn.F
