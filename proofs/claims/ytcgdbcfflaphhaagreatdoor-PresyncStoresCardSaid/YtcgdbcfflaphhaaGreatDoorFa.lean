/- Contracts of functions of the program, as shallow functions, and their proofs. -/
import Derived.Test.YtcgdbcfflaphhaaGreatDoorProg
import Derived.Test.YtcgdbcfflaphhaaGreatDoorKc
set_option linter.all false
set_option maxRecDepth 100000
namespace Go.Dn.F
open Go.Proofs
noncomputable def glob_digest_steps:List Int:=[1116352408,1899447441,3049323471,3921009573,961987163,1508970993,2453635748,2870763221,3624381080,310598401,607225278,1426881987,1925078388,2162078206,2614888103,3248222580,3835390401,4022224774,264347078,604807628,770255983,1249150122,1555081692,1996064986,2554220882,2821834349,2952996808,3210313671,3336571891,3584528711,113926993,338241895,666307205,773529912,1294757372,1396182291,1695183700,1986661051,2177026350,2456956037,2730485921,2820302411,3259730800,3345764771,3516065817,3600352804,4094571909,275423344,430227734,506948616,659060556,883997877,958139571,1322822218,1537002063,1747873779,1955562222,2024104815,2227730452,2361852424,2428436474,2756734187,3204031479,3329325298]
noncomputable def glob_digest_starts:List Int:=[1779033703,3144134277,1013904242,2773480762,1359893119,2600822924,528734635,1541459225]
noncomputable instance glob:Globs:=⟨fun k=>match k with
  | 0=>some [L.arr .u32 8 glob_digest_starts]
  | 1=>some [L.arr .u32 64 glob_digest_steps]
  | _=>none⟩
theorem fol:Tryz.prog.follows .mixedOrders=true:=by kernel_rfl
abbrev En (f:Func) (g0:G) (w0:World) (rs:List CV) (st:LL) (R:Exit→Act→World→Prop):Prop:=Ends Tryz.prog f g0 w0 rs st R
variable {N:Nat} {g0:G} {w0:World} {R:Exit→Act→World→Prop}
structure Zaa where
  Version:Int
  Prev:List Int
  Root:List Int
  Time:Int
  Bits:Int
  Nonce:Int
noncomputable def Zaa.ls (x:Zaa):List L:=[L.int .i64 x.Version,L.arr .u8 32 x.Prev,L.arr .u8 32 x.Root,L.int .i64 x.Time,L.int .i64 x.Bits,L.int .i64 x.Nonce]
noncomputable def Zcs {α:Type} (l:List L) (k:Zaa→Option α):Option α:=match l with
  | [L.int .i64 x0,L.arr .u8 32 x1,L.arr .u8 32 x2,L.int .i64 x3,L.int .i64 x4,L.int .i64 x5]=>k ⟨x0,x1,x2,x3,x4,x5⟩
  | _=>none
theorem Zco {α:Type} {o:Option (List L)} {k:Zaa→Option α} {r:α} (h:getE o Zcs k=some r) : ∃x:Zaa,o=some x.ls∧k x=some r:=by
  obtain ⟨l,e,k1⟩:=Zad h;subst e;unfold Zcs at k1;split at k1
  · exact ⟨_,rfl,k1⟩
  · cases k1
@[simp] theorem Zcv {α:Type} (x:Zaa) (k:Zaa→Option α):Zcs x.ls k=k x:=rfl
theorem Zaa.bv {st:LL} (x:Zaa):BVs st x.ls x.ls:=(bP (bP (bP (bP (bP (bP bN))))))
structure Zao where
  state:List Int
  rest:LL
  size:Int
noncomputable def Zao.lo (x:Zao):List L:=[L.arr .u32 8 x.state,L.own false 1 x.rest,L.int .u64 x.size]
noncomputable def ZbH {α:Type} (l:List L) (k:Zao→Option α):Option α:=match l with
  | [L.arr .u32 8 x0,L.own false 1 x1,L.int .u64 x2]=>k ⟨x0,x1,x2⟩
  | _=>none
theorem ZbS {α:Type} {o:Option (List L)} {k:Zao→Option α} {r:α} (h:getE o ZbH k=some r) : ∃x:Zao,o=some x.lo∧k x=some r:=by
  obtain ⟨l,e,k1⟩:=Zad h;subst e;unfold ZbH at k1;split at k1
  · exact ⟨_,rfl,k1⟩
  · cases k1
@[simp] theorem ZdK {α:Type} (x:Zao) (k:Zao→Option α):ZbH x.lo k=k x:=rfl
noncomputable def Zao.ls (x:Zao):List L:=[L.arr .u32 8 x.state,L.sl 1 x.rest,L.int .u64 x.size]
theorem Zao.bv {st:LL} (x:Zao):BVs st x.lo x.ls:=(bP (bW (bP bN)))
structure Zag where
  Limit:Int
  Interval:Int
  Spacing:Int
  Future:Int
  Easy:Bool
  Gates:LL
  Checks:LL
  MinWork:List Int
  Margin:List Int
  Genesis:Zaa
noncomputable def Zag.ls (x:Zag):List L:=[L.int .i64 x.Limit,L.int .i64 x.Interval,L.int .i64 x.Spacing,L.int .i64 x.Future,L.bool x.Easy,L.sl 2 x.Gates,L.sl 33 x.Checks,L.arr .u64 4 x.MinWork,L.arr .u64 4 x.Margin,L.int .i64 x.Genesis.Version,L.arr .u8 32 x.Genesis.Prev,L.arr .u8 32 x.Genesis.Root,L.int .i64 x.Genesis.Time,L.int .i64 x.Genesis.Bits,L.int .i64 x.Genesis.Nonce]
structure Zbb where
  Height:Int
  Bits:Int
  Time:Int
  First:Int
  Hard:Int
noncomputable def Zbb.ls (x:Zbb):List L:=[L.int .i64 x.Height,L.int .i64 x.Bits,L.int .i64 x.Time,L.int .i64 x.First,L.int .i64 x.Hard]
theorem Zbb.bv {st:LL} (x:Zbb):BVs st x.ls x.ls:=(bP (bP (bP (bP (bP bN)))))
structure Zax where
  Point:Zbb
  Prev:List Int
  Times:LL
noncomputable def Zax.ls (x:Zax):List L:=[L.int .i64 x.Point.Height,L.int .i64 x.Point.Bits,L.int .i64 x.Point.Time,L.int .i64 x.Point.First,L.int .i64 x.Point.Hard,L.arr .u8 32 x.Prev,L.sl 1 x.Times]
noncomputable def Zax.lo (x:Zax):List L:=[L.int .i64 x.Point.Height,L.int .i64 x.Point.Bits,L.int .i64 x.Point.Time,L.int .i64 x.Point.First,L.int .i64 x.Point.Hard,L.arr .u8 32 x.Prev,L.own true 1 x.Times]
theorem Zax.bv {st:LL} (x:Zax):BVs st x.lo x.ls:=(bP (bP (bP (bP (bP (bP (bW bN)))))))
noncomputable def Zej {α:Type} (l:List L) (k:Int→Option α):Option α:=match l with
  | [L.int .i64 x0]=>k x0
  | _=>none
theorem Zdh {α:Type} {o:Option (List L)} {k:Int→Option α} {r:α} (h:getE o Zej k=some r) : ∃x0,o=some [L.int .i64 x0]∧k x0=some r:=by
  obtain ⟨l,e,k1⟩:=Zad h;subst e;unfold Zej at k1;split at k1
  · exact ⟨_,rfl,k1⟩
  · cases k1
@[simp] theorem Zdw {α:Type} (x0:Int) (k:Int→Option α):Zej [L.int .i64 x0] k=k x0:=rfl
noncomputable def ZfR {α:Type} (l:List L) (k:LL→Option α):Option α:=match l with
  | [L.own true 1 x0]=>k x0
  | _=>none
theorem Zep {α:Type} {o:Option (List L)} {k:LL→Option α} {r:α} (h:getE o ZfR k=some r) : ∃x0,o=some [L.own true 1 x0]∧k x0=some r:=by
  obtain ⟨l,e,k1⟩:=Zad h;subst e;unfold ZfR at k1;split at k1
  · exact ⟨_,rfl,k1⟩
  · cases k1
@[simp] theorem ZeY {α:Type} (x0:LL) (k:LL→Option α):ZfR [L.own true 1 x0] k=k x0:=rfl
noncomputable def ZfC {α:Type} (l:List L) (k:(List Int)→Option α):Option α:=match l with
  | [L.arr .u8 32 x0]=>k x0
  | _=>none
theorem Zgr {α:Type} {o:Option (List L)} {k:(List Int)→Option α} {r:α} (h:getE o ZfC k=some r) : ∃x0,o=some [L.arr .u8 32 x0]∧k x0=some r:=by
  obtain ⟨l,e,k1⟩:=Zad h;subst e;unfold ZfC at k1;split at k1
  · exact ⟨_,rfl,k1⟩
  · cases k1
@[simp] theorem Zhb {α:Type} (x0:List Int) (k:(List Int)→Option α):ZfC [L.arr .u8 32 x0] k=k x0:=rfl
noncomputable def dec_t {α:Type} (l:List L) (k:ByteArray→Option α):Option α:=match l with
  | [L.str x0]=>k x0
  | _=>none
theorem ZmN {α:Type} {o:Option (List L)} {k:ByteArray→Option α} {r:α} (h:getE o dec_t k=some r) : ∃x0,o=some [L.str x0]∧k x0=some r:=by
  obtain ⟨l,e,k1⟩:=Zad h;subst e;unfold dec_t at k1;split at k1
  · exact ⟨_,rfl,k1⟩
  · cases k1
@[simp] theorem dec_t_ls {α:Type} (x0:ByteArray) (k:ByteArray→Option α):dec_t [L.str x0] k=k x0:=rfl
noncomputable def ZhR {α:Type} (l:List L) (k:Int→Option α):Option α:=match l with
  | [L.int .u8 x0]=>k x0
  | _=>none
theorem ZfL {α:Type} {o:Option (List L)} {k:Int→Option α} {r:α} (h:getE o ZhR k=some r) : ∃x0,o=some [L.int .u8 x0]∧k x0=some r:=by
  obtain ⟨l,e,k1⟩:=Zad h;subst e;unfold ZhR at k1;split at k1
  · exact ⟨_,rfl,k1⟩
  · cases k1
@[simp] theorem Zgs {α:Type} (x0:Int) (k:Int→Option α):ZhR [L.int .u8 x0] k=k x0:=rfl
noncomputable def Zbp.B:Code:=Tryz.f191.body.getD .skip
noncomputable def Zbp.rs (r:List (List L)):List CV:=[.row true 1 r]
noncomputable def Zbp (N:Nat) (s_0:List (List L)):Option (List (List L)):=chk (List.length s_0*8≤140737488355328) (some s_0)
theorem Zbp.snd {s_0:LL} {r:LL} (h:Zbp N s_0=some r):SndQ Tryz.prog 191 [.one (.sl 1 s_0)] (Zbp.rs r):=fun st=>
  Snd.of (fn:=Tryz.f191) (c:=Zbp.B) Tryz.func191 (by kernel_rfl) (by kernel_rfl) (of_decide_eq_true (by kernel_rfl)) fun g w R hE=>by
    unfold Zbp at h
    obtain ⟨c1,h⟩:=ZaN h
    obtain rfl:=Zac h
    refine At.q (s':=mkS 8 [(0,.one (.l (.sl 1 s_0)))] [] st) (ks':=[.c (.seq (.region 1 #[{ dst:=some 3,op:=.move (.tmp 0),type:=66,pos:=opPos (csub Zbp.B [1,0]) 0,after:=#[],guard:=none},{ dst:=some 4,op:=.binOp .eql 66 (.tmp 3) (.const (.slice none 0 0)) 66,type:=4,pos:=opPos (csub Zbp.B [1,0]) 1,after:=#[⟨0,.data⟩],guard:=none}] false) (csub Zbp.B [1,0,1])),.c (csub Zbp.B [1,1])]) fol 400 [.r [(0,{m:=2})],.s 2] [0] [] trivial ?_ (by kernel_rfl)
    refine At.nilcmp (T:=66) (E:=3) (sz:=1) (xs:=s_0) (Zfd _) rfl rfl rfl rfl rfl rfl Tryz.underlying66 (by kernel_rfl) (of_decide_eq_true (by kernel_rfl)) fun b hb=>?_
    cases b with
    | true=>
      obtain rfl:=hb rfl
      exact At.f fol hE 400 [.c true,.r [(0,{m:=2})]] [] 0 [0] (rfl:true=true) (by kernel_rfl)
    | false=>
      exact At.f fol hE 400 [.c false,.r []] [] 0 [0] (And.intro (rfl:false=false) (And.intro (rfl:(0:Nat)=0) (And.intro (@rfl Nat (List.length ([]:List (List L)))) (And.intro c1 (And.intro (rfl:(0:Nat)=0) (@rfl Nat (List.length s_0))))))) (by kernel_rfl)
noncomputable def ZcG.B:Code:=Tryz.f146.body.getD .skip
noncomputable def ZcG.rs (r:Bool):List CV:=[oB r]
noncomputable def ZcG (N:Nat) (bits_0:Int):Option Bool:=
 if (decide (bits_0≥0))=true then
  some (decide (bits_0≤4294967295))
 else
 some false
theorem ZcG.snd {bits_0:Int} {r:Bool} (h:ZcG N bits_0=some r):SndQ Tryz.prog 146 [oI bits_0] (ZcG.rs r):=fun st=>
 sO ZcG.B Tryz.func146 fun g0 w0 R hE=>by
  unfold ZcG at h
  refine iteB h (fun c1 h1=>?_) (fun c1 h2=>?_)
  ·obtain rfl:=Zac h1
   exact af fol hE [.r [],.r []] [] 0 [] (aJ c1 c1 c1)
  ·obtain rfl:=Zac h2
   exact af fol hE [.r [],.r [(3,wF),(4,wF),(5,yF)]] [] 0 [] (aJ c1 c1 c1)
noncomputable def Zce.B:Code:=Tryz.f90.body.getD .skip
noncomputable def Zce.rs (r:Bool):List CV:=[oB r]
noncomputable def Zce (N:Nat) (h_0:Zaa):Option Bool:=
 if (decide (h_0.Version≥(-2147483648)))=true then
  if (decide (h_0.Version<2147483648))=true then
   if (decide (h_0.Time≥0))=true then
    if (decide (h_0.Time<4294967296))=true then
     optE (ZcG N h_0.Bits) fun x1=>
     if x1=true then
      if (decide (h_0.Nonce≥0))=true then
       some (decide (h_0.Nonce<4294967296))
      else
      some false
     else
     some false
    else
    some false
   else
   some false
  else
  some false
 else
 some false
theorem Zce.snd {h_0:Zaa} {r:Bool} (h:Zce N h_0=some r):SndQ Tryz.prog 90 [.agg h_0.ls] (Zce.rs r):=fun st=>
 sO Zce.B Tryz.func90 fun g0 w0 R hE=>by
  unfold Zce at h
  refine iteB h (fun c1 h1=>?_) (fun c1 h2=>?_)
  ·have t1 {Q:Prop} (q:Q):=aL c1 c1 c1 c1 q
   refine iteB h1 (fun c2 h3=>?_) (fun c2 h4=>?_)
   ·have t2 {Q:Prop} (q:Q):=t1 (aL c2 c2 c2 c2 q)
    refine iteB h3 (fun c3 h5=>?_) (fun c3 h6=>?_)
    ·have t3 {Q:Prop} (q:Q):=t2 (aL c3 c3 c3 c3 q)
     refine iteB h5 (fun c4 h7=>?_) (fun c4 h8=>?_)
     ·obtain ⟨x1,c5,h9⟩:=Zad h7
      have t4 {Q:Prop} (q:Q):=t3 (aM c4 c4 c4 (ZcG.snd c5) c4 q)
      refine iteB h9 (fun c6 h10=>?_) (fun c6 h11=>?_)
      ·refine iteB h10 (fun c7 h12=>?_) (fun c7 h13=>?_)
       ·obtain rfl:=Zac h12
        exact af fol hE [.r [],.r [(21,q1 [oB x1])]] [] 0 [] (t4 (aO c6 c6 c6 c6 c7 c7 c7 c7))
       ·obtain rfl:=Zac h13
        exact af fol hE [.r [],.r [(21,q1 [oB x1]),(29,wF),(30,wF),(31,wF),(32,yF)]] [] 0 [] (t4 (aO c6 c6 c6 c6 c7 c7 c7 c7))
      ·obtain rfl:=Zac h11
       exact af fol hE [.r [],.r [(21,q1 [oB x1]),(24,wF),(25,wF),(26,wF),(27,yF),(29,wF),(30,wF),(31,wF),(32,yF)]] [] 0 [] (t4 (aO c6 c6 c6 c6 eF eF eF eF))
     ·obtain rfl:=Zac h8
      exact af fol hE [.r [],.r [(19,wF),(20,wF),(21,wF),(22,yF),(24,wF),(25,wF),(26,wF),(27,yF),(29,wF),(30,wF),(31,wF),(32,yF)]] [] 0 [] (t3 (aO c4 c4 c4 c4 eF eF eF (aL eF eF eF eF eF)))
    ·obtain rfl:=Zac h6
     exact af fol hE [.r [],.r [(14,wF),(15,wF),(16,wF),(17,yF),(19,wF),(20,wF),(21,wF),(22,yF),(24,wF),(25,wF),(26,wF),(27,yF),(29,wF),(30,wF),(31,wF),(32,yF)]] [] 0 [] (t2 (aO c3 c3 c3 c3 eF eF eF (aO eF eF eF eF eF eF eF (aI eF eF))))
   ·obtain rfl:=Zac h4
    exact af fol hE [.r [],.r [(9,wF),(10,wF),(11,wF),(12,yF),(14,wF),(15,wF),(16,wF),(17,yF),(19,wF),(20,wF),(21,wF),(22,yF),(24,wF),(25,wF),(26,wF),(27,yF),(29,wF),(30,wF),(31,wF),(32,yF)]] [] 0 [] (t1 (aO c2 c2 c2 c2 eF eF eF (aO eF eF eF eF eF eF eF (aM eF eF eF eF eF eF))))
  ·obtain rfl:=Zac h2
   exact af fol hE [.r [],.r [(4,wF),(5,wF),(6,wF),(7,yF),(9,wF),(10,wF),(11,wF),(12,yF),(14,wF),(15,wF),(16,wF),(17,yF),(19,wF),(20,wF),(21,wF),(22,yF),(24,wF),(25,wF),(26,wF),(27,yF),(29,wF),(30,wF),(31,wF),(32,yF)]] [] 0 [] (aO c1 c1 c1 c1 eF eF eF (aO eF eF eF eF eF eF eF (aO eF eF eF eF eF eF eF (aJ eF eF eF))))
noncomputable def ZaE.B:Code:=Tryz.f208.body.getD .skip
noncomputable def ZaE.rs (r:LL):List CV:=[]
noncomputable def ZaE.p2 (N:Nat) (c1_:((Option Nat)×Int×LL)→Option LL) (size_1 x12:Int) (list_2:LL) (v1:Int) (c2_:((Option Nat)×Int×LL)→Option LL):((Option Nat)×Int×LL)→Option LL:=fun (p_16,v13,st17)=>
 if (decide (v13<(if (8:Int)<(if (1:Int)>size_1 then 1 else size_1) then 8 else (if (1:Int)>size_1 then 1 else size_1))))=true then
  optE p_16 fun i18=>
  getE (st17[i18]?) ZfR fun x19=>
  chk (0≤(w64 (8*v13)))<|
  chk (List.length (x19 ++ [[L.int .u8 (v8 (shrOf .i64 x12 (w64 (8*v13))))]])*1≤140737488355328)<|
  c2_ ((some i18),w64 (v13+1),List.set (List.set st17 i18 [L.gone]) i18 [L.own true 1 (x19 ++ [[L.int .u8 (v8 (shrOf .i64 x12 (w64 (8*v13))))]])])
 else
 c1_ (p_16,w64 (v1+1),st17)
noncomputable def ZaE.p1 (N:Nat) (size_1:Int) (list_2:LL) (c1_:((Option Nat)×Int×LL)→Option LL):((Option Nat)×Int×LL)→Option LL:=fun (p_10,v1,st11)=>
 if (decide (v1<(len list_2)))=true then
  chk (0≤v1)<|
  getE (list_2[Int.toNat v1]?) Zej fun x12=>
  loopN (ZaE.p2 N c1_ size_1 x12 list_2 v1) N (p_10,0,st11)
 else
 some st11
noncomputable def ZaE (N:Nat) (p_0:Option Nat) (size_1:Int) (list_2 st:LL):Option LL:=
 loopN (ZaE.p1 N size_1 list_2) N (p_0,0,st)
noncomputable def ZaE.p2.S (p_16:Option Nat) (size_1 x12:Int) (list_2:LL) (v1 v13:Int) (st17:LL):S:=mkS 37 [(0,sP p_16),(1,sI size_1),(7,sI x12),(9,sV 1 list_2),(10,sI (len list_2)),(11,sI v1),(17,sI (if (8:Int)<(if (1:Int)>size_1 then 1 else size_1) then 8 else (if (1:Int)>size_1 then 1 else size_1))),(18,sI v13)] [] st17
noncomputable def ZaE.p1.S (p_10:Option Nat) (size_1:Int) (list_2:LL) (v1:Int) (st11:LL):S:=mkS 37 [(0,sP p_10),(1,sI size_1),(9,sV 1 list_2),(10,sI (len list_2)),(11,sI v1)] [] st11
theorem ZaE.p2_ok {p_16 size_1 x12 list_2 v1 v13 st17 r c1_ c2_ J1 J2} (h:ZaE.p2 N c1_ size_1 x12 list_2 v1 c2_ (p_16,v13,st17)=some r) (hE:En Tryz.f208 g0 w0 (ZaE.rs r) r R) (hc1 : ∀p_10 v1 st11,c1_ (p_10,v1,st11)=some r→At g0 w0 (ZaE.p1.S p_10 size_1 list_2 v1 st11) J1) (hc2 : ∀p_16 v13 st17,c2_ (p_16,v13,st17)=some r→At g0 w0 (ZaE.p2.S p_16 size_1 x12 list_2 v1 v13 st17) J2):At g0 w0 (ZaE.p2.S p_16 size_1 x12 list_2 v1 v13 st17) (XK Tryz.prog R (.c (csub ZaE.B [1,0,0,1,1,0,0,1,1,0,0]) :: .h J2 :: [.b 2,.b 1,.c (csub ZaE.B [1,0,0,1,1,1]),.h J1,.b 0])):=by
 unfold ZaE.p2 at h
 refine iteB h (fun c22 h1=>?_) (fun c22 h2=>?_)
 ·obtain ⟨i18,rfl,h3⟩:=Zad h1
  obtain ⟨x19,c24,h4⟩:=Zep h3
  obtain ⟨c25,c26,h5⟩:=ck2 h4
  exact and_ fol [.r [],.c true,.r [],.d {ds:=[(4,{oc:=[L.own true 1 x19]}),(11,{oe:=[L.own true 1 x19]}),(14,{oc:=[L.gone],mv:=[32]})],hv:=19456,Hs:=[1024,3072,19456]},.r []] [0,1,7,9,10,11,17,18] [] (aO c22 c24 c24 c25 z0 (eN (List.length x19)) c24 (aM z0 (eN (1)) c26 (Zcf c24 [L.gone]) z0 (eN (List.length (x19 ++ [[L.int .u8 (v8 (shrOf .i64 x12 (w64 (8*v13))))]]))))) (hc2 (some i18) (w64 (v13+1)) (List.set (List.set st17 i18 [L.gone]) i18 [L.own true 1 (x19 ++ [[L.int .u8 (v8 (shrOf .i64 x12 (w64 (8*v13))))]])]) h5)
 ·exact an fol [.r [],.c false,.r []] [0,1,9,10,11] [] c22 (hc1 p_16 (w64 (v1+1)) st17 h2)
theorem ZaE.p1_ok {p_10 size_1 list_2 v1 st11 r c1_ J1} (h:ZaE.p1 N size_1 list_2 c1_ (p_10,v1,st11)=some r) (hE:En Tryz.f208 g0 w0 (ZaE.rs r) r R) (hc1 : ∀p_10 v1 st11,c1_ (p_10,v1,st11)=some r→At g0 w0 (ZaE.p1.S p_10 size_1 list_2 v1 st11) J1):At g0 w0 (ZaE.p1.S p_10 size_1 list_2 v1 st11) (XK Tryz.prog R (.c (csub ZaE.B [1,0,0]) :: .h J1 :: [.b 0])):=by
 unfold ZaE.p1 at h
 refine iteB h (fun c14 h6=>?_) (fun c14 h7=>?_)
 ·obtain ⟨c15,h8⟩:=ZaN h6
  obtain ⟨x12,c16,h9⟩:=Zdh h8
  exact aq fol [.r [],.c true,.r [(1,{oe:=[L.int .i64 x12]})],.r []] [0,1,7,9,10,11,17,18] [] (aK c14 c15 (oD c14) c16) (At.loop N (At.loopN (fun y:(Option Nat)×Int×LL=>ZaE.p2.S y.1 size_1 x12 list_2 v1 y.2.1 y.2.2) (fun c J hc y h=>ZaE.p2_ok (p_16:=y.1) (v13:=y.2.1) (st17:=y.2.2) h hE hc1 (fun p_16 v13 st17=>hc (p_16,v13,st17))) N (p_10,0,st11) h9))
 ·obtain rfl:=Zac h7
  exact af fol hE [.r [],.c false] [] 0 [] c14
theorem ZaE.snd {p_0:Option Nat} {size_1:Int} {list_2:LL} {st:LL} {r:LL} (h:ZaE N p_0 size_1 list_2 st=some r):Snd Tryz.prog 208 [.one (L.ptr p_0),oI size_1,.one (L.sl 1 list_2)] st (ZaE.rs r) r:=
 sO ZaE.B Tryz.func208 fun g0 w0 R hE=>by
  unfold ZaE at h
  exact aq fol [.r []] [0,1,9,10,11] [] trivial (At.loop N (At.loopN (fun y:(Option Nat)×Int×LL=>ZaE.p1.S y.1 size_1 list_2 y.2.1 y.2.2) (fun c J hc y h=>ZaE.p1_ok (p_10:=y.1) (v1:=y.2.1) (st11:=y.2.2) h hE (fun p_10 v1 st11=>hc (p_10,v1,st11))) N (p_0,0,st) h))
noncomputable def ZaU.B:Code:=Tryz.f209.body.getD .skip
noncomputable def ZaU.rs (r:LL):List CV:=[]
noncomputable def ZaU.p1 (N:Nat) (list_1:LL) (c1_:((Option Nat)×Int×LL)→Option LL):((Option Nat)×Int×LL)→Option LL:=fun (p_5,v1,st6)=>
 if (decide (v1<(len list_1)))=true then
  chk (0≤v1)<|
  getE (list_1[Int.toNat v1]?) ZfC fun x7=>
  optE p_5 fun i8=>
  getE (st6[i8]?) ZfR fun x9=>
  chk (List.length (x9++(List.map (fun x=>[L.int .u8 x]) x7))*1≤140737488355328)<|
  c1_ ((some i8),w64 (v1+1),List.set (List.set st6 i8 [L.gone]) i8 [L.own true 1 (x9++(List.map (fun x=>[L.int .u8 x]) x7))])
 else
 some st6
noncomputable def ZaU (N:Nat) (p_0:Option Nat) (list_1 st:LL):Option LL:=
 loopN (ZaU.p1 N list_1) N (p_0,0,st)
noncomputable def ZaU.p1.S (p_5:Option Nat) (list_1:LL) (v1:Int) (st6:LL):S:=mkS 22 [(0,sP p_5),(6,sV 32 list_1),(7,sI (len list_1)),(8,sI v1)] [] st6
theorem ZaU.p1_ok {p_5 list_1 v1 st6 r c1_ J1} (h:ZaU.p1 N list_1 c1_ (p_5,v1,st6)=some r) (hE:En Tryz.f209 g0 w0 (ZaU.rs r) r R) (hc1 : ∀p_5 v1 st6,c1_ (p_5,v1,st6)=some r→At g0 w0 (ZaU.p1.S p_5 list_1 v1 st6) J1):At g0 w0 (ZaU.p1.S p_5 list_1 v1 st6) (XK Tryz.prog R (.c (csub ZaU.B [1,0,0]) :: .h J1 :: [.b 0])):=by
 unfold ZaU.p1 at h
 refine iteB h (fun c7 h1=>?_) (fun c7 h2=>?_)
 ·obtain ⟨c8,h3⟩:=ZaN h1
  obtain ⟨x7,c9,h4⟩:=Zgr h3
  obtain ⟨i8,rfl,h5⟩:=Zad h4
  obtain ⟨x9,c11,h6⟩:=Zep h5
  obtain ⟨c12,h7⟩:=ZaN h6
  exact and_ fol [.r [],.c true,.r [(1,{oe:=[L.arr .u8 32 x7]})],.d {ds:=[(4,{oc:=[L.own true 1 x9]}),(6,{oe:=[L.own true 1 x9]}),(9,{oc:=[L.gone],mv:=[18]})],hv:=576,Hs:=[64,576]},.r []] [0,6,7,8] [] (aO c7 c8 (oD c7) c9 c11 (leN 0 32) (leN 32 32) (aN z0 (eN (List.length x9)) c11 c12 (Zcf c11 [L.gone]) z0 (eN (List.length (x9++(List.map (fun x=>[L.int .u8 x]) x7)))))) (hc1 (some i8) (w64 (v1+1)) (List.set (List.set st6 i8 [L.gone]) i8 [L.own true 1 (x9++(List.map (fun x=>[L.int .u8 x]) x7))]) h7)
 ·obtain rfl:=Zac h2
  exact af fol hE [.r [],.c false] [] 0 [] c7
theorem ZaU.snd {p_0:Option Nat} {list_1:LL} {st:LL} {r:LL} (h:ZaU N p_0 list_1 st=some r):Snd Tryz.prog 209 [.one (L.ptr p_0),.one (L.sl 32 list_1)] st (ZaU.rs r) r:=
 sO ZaU.B Tryz.func209 fun g0 w0 R hE=>by
  unfold ZaU at h
  exact aq fol [.r []] [0,6,7,8] [] trivial (At.loop N (At.loopN (fun y:(Option Nat)×Int×LL=>ZaU.p1.S y.1 list_1 y.2.1 y.2.2) (fun c J hc y h=>ZaU.p1_ok (p_5:=y.1) (v1:=y.2.1) (st6:=y.2.2) h hE (fun p_5 v1 st6=>hc (p_5,v1,st6))) N (p_0,0,st) h))
noncomputable def ZbL.B:Code:=Tryz.f186.body.getD .skip
noncomputable def ZbL.rs (r:LL):List CV:=[]
noncomputable def ZbL.p1 (N:Nat) (p_0:Option Nat) (h_2:Zaa) (st:LL):Option LL:=
 optE (ZaE N p_0 4 [[L.int .i64 h_2.Version]] st) fun st3=>
 optE (ZaU N p_0 [[L.arr .u8 32 h_2.Prev],[L.arr .u8 32 h_2.Root]] st3) fun st4=>
 optE (ZaE N p_0 4 [[L.int .i64 h_2.Time],[L.int .i64 h_2.Bits],[L.int .i64 h_2.Nonce]] st4) fun st5=>
 some st5
noncomputable def ZbL (N:Nat) (p_0:Option Nat) (h_1:Zaa) (st:LL):Option LL:=
 optE (Zce N h_1) fun x1=>
 if (!x1)=true then
  ZbL.p1 N p_0 (Zaa.mk 0 (List.replicate 32 0) (List.replicate 32 0) 0 0 0) st
 else
 ZbL.p1 N p_0 h_1 st
noncomputable def ZbL.p1.S (p_0:Option Nat) (h_2:Zaa) (st:LL):S:=mkS 29 [(0,sP p_0),(3,sA 3)] [(3,.cells h_2.ls)] st
theorem ZbL.p1_ok {p_0 h_2 st r} (h:ZbL.p1 N p_0 h_2 st=some r) (hE:En Tryz.f186 g0 w0 (ZbL.rs r) r R):At g0 w0 (ZbL.p1.S p_0 h_2 st) (XK Tryz.prog R [.c (csub ZbL.B [1,1])]):=by
 unfold ZbL.p1 at h
 obtain ⟨st3,c3,h1⟩:=Zad h
 obtain ⟨st4,c4,h2⟩:=Zad h1
 obtain ⟨st5,c5,h3⟩:=Zad h2
 obtain rfl:=Zac h3
 exact af fol hE [.r [(4,{st:=st3,fz:=[11]})],.r [(6,{st:=st4,fz:=[18]})],.r [(8,{st:=st5,fz:=[27]})]] [] 0 [] (aO z0 (eN (1)) (ZaE.snd c3) z0 (eN (2)) (ZaU.snd c4) z0 (aI (eN (3)) (ZaE.snd c5)))
theorem ZbL.snd {p_0:Option Nat} {h_1:Zaa} {st:LL} {r:LL} (h:ZbL N p_0 h_1 st=some r):Snd Tryz.prog 186 [.one (L.ptr p_0),.agg h_1.ls] st (ZbL.rs r) r:=
 sO ZbL.B Tryz.func186 fun g0 w0 R hE=>by
  unfold ZbL at h
  obtain ⟨x1,c1,h4⟩:=Zad h
  let o1:List PS:=[.r [],.r [(1,q1 [oB x1])]]
  refine iteB h4 (fun c2 h5=>?_) (fun c2 h6=>?_)
  ·exact aq fol (o1 ++ [.c true,.r [],.s 1]) [0,3] [3] (aI (Zce.snd c1) c2) (ZbL.p1_ok h5 hE)
  ·exact aq fol (o1 ++ [.c false,.s 1]) [0,3] [3] (aI (Zce.snd c1) c2) (ZbL.p1_ok h6 hE)
noncomputable def ZbU.B:Code:=Tryz.f187.body.getD .skip
noncomputable def ZbU.rs (r:ByteArray):List CV:=[.one (L.str r)]
noncomputable def ZbU (N:Nat) (p_0:LL):Option ByteArray:=
 chk (isB p_0=true)<|
 some (istr (List.map leafI p_0))
theorem ZbU.snd {p_0:LL} {r:ByteArray} (h:ZbU N p_0=some r):SndQ Tryz.prog 187 [.one (L.bx 1 [L.sl 1 p_0])] (ZbU.rs r):=fun st=>
 sO ZbU.B Tryz.func187 fun g0 w0 R hE=>by
  unfold ZbU at h
  obtain ⟨c1,h1⟩:=ZaN h
  obtain rfl:=Zac h1
  exact af fol hE [.r [],.r [(3,{oe:=[L.sl 1 p_0]})]] [] 0 [] (aI (eO [L.sl 1 p_0]) c1)
noncomputable def ZcF.B:Code:=Tryz.f147.body.getD .skip
noncomputable def ZcF.rs (r:ByteArray×Int×LL):List CV:=[.one (L.str r.1),oI r.2.1]
noncomputable def ZcF (N:Nat) (h_0:Zaa) (st:LL):Option (ByteArray×Int×LL):=
 optE (Zce N h_0) fun x1=>
 if (!x1)=true then
  some ((ByteArray.mk #[]),1,st)
 else
 optE (ZbL N (some (List.length st)) h_0 (st ++ [[L.own true 1 []]])) fun st2=>
 getE (st2[List.length st]?) ZfR fun x3=>
 optE (ZbU N x3) fun x4=>
 some (x4,0,st2)
theorem ZcF.snd {h_0:Zaa} {st:LL} {r:ByteArray×Int×LL} (h:ZcF N h_0 st=some r):Snd Tryz.prog 147 [.agg h_0.ls] st (ZcF.rs r) r.2.2:=
 sO ZcF.B Tryz.func147 fun g0 w0 R hE=>by
  unfold ZcF at h
  obtain ⟨x1,c1,h1⟩:=Zad h
  let o1:List PS:=[.r [],.r [(1,q1 [oB x1])]]
  refine iteB h1 (fun c2 h2=>?_) (fun c2 h3=>?_)
  ·obtain rfl:=Zac h2
   exact af fol hE (o1 ++ [.c true,.r []]) [] 0 [] (aI (Zce.snd c1) c2)
  ·obtain ⟨st2,c3,h4⟩:=Zad h3
   obtain ⟨x3,c4,h5⟩:=Zep h4
   obtain ⟨x4,c5,h6⟩:=Zad h5
   obtain rfl:=Zac h6
   exact af fol hE (o1 ++ [.c false,.r [(0,{ns:=[0]}),(1,{m:=1})],.r [(2,{st:=st2})],.r [(1,{rs:=[.one (L.str x4)],m:=10,cv:=[.one (L.bx 1 [L.sl 1 x3])]})]]) [] 0 [] (aL (Zce.snd c1) c2 (ZbL.snd c3) (bO 1 c4 ((bW bN):BVs st2 [L.own true 1 x3] [L.sl 1 x3])) (ZbU.snd c5))
noncomputable def ZdJ.B:Code:=Tryz.f210.body.getD .skip
noncomputable def ZdJ.rs (r:(Option Nat)×LL):List CV:=[.one (L.ptr r.1)]
noncomputable def ZdJ (N:Nat) (st:LL):Option ((Option Nat)×LL):=
 some ((some (List.length st)),st ++ [Zao.lo (Zao.mk glob_digest_starts [] 0)])
theorem ZdJ.snd {st:LL} {r:(Option Nat)×LL} (h:ZdJ N st=some r):Snd Tryz.prog 210 [] st (ZdJ.rs r) r.2:=
 sO ZdJ.B Tryz.func210 fun g0 w0 R hE=>by
  unfold ZdJ at h
  obtain rfl:=Zac h
  exact af fol hE [.r [],.r [(1,{mv:=[1]}),(2,{m:=1})]] [] 0 [] trivial
noncomputable def ZbG.B:Code:=Tryz.f245.body.getD .skip
noncomputable def ZbG.rs (r:Int):List CV:=[.one (L.int .u32 r)]
noncomputable def ZbG (N:Nat) (x_0 k_1:Int):Option Int:=
 chk (0≤(bitsOf .and .u64 (v64 (k_1)) 31))<|
 chk (0≤(v64 (32-(bitsOf .and .u64 (v64 (k_1)) 31))))<|
 some (bitsOf .or .u32 (shlOf .u32 x_0 (bitsOf .and .u64 (v64 (k_1)) 31)) (shrOf .u32 x_0 (v64 (32-(bitsOf .and .u64 (v64 (k_1)) 31)))))
theorem ZbG.snd {x_0 k_1:Int} {r:Int} (h:ZbG N x_0 k_1=some r):SndQ Tryz.prog 245 [.one (L.int .u32 x_0),oI k_1] (ZbG.rs r):=fun st=>
 sO ZbG.B Tryz.func245 fun g0 w0 R hE=>by
  unfold ZbG at h
  obtain ⟨c1,c2,h1⟩:=ck2 h
  obtain rfl:=Zac h1
  exact af fol hE [.r [],.r [],.r []] [] 0 [] (aI c1 c2)
noncomputable def ZaT.B:Code:=Tryz.f237.body.getD .skip
noncomputable def ZaT.rs (r:Int):List CV:=[.one (L.int .u32 r)]
noncomputable def ZaT.p1 (N:Nat) (x_0:Int) (by_1:LL) (c1_:(Int×Int)→Option Int):(Int×Int)→Option Int:=fun (out_1,v2)=>
 if (decide (v2<(len by_1)))=true then
  chk (0≤v2)<|
  getE (by_1[Int.toNat v2]?) Zej fun x3=>
  optE (ZbG N x_0 (w64 (0-x3))) fun x4=>
  c1_ (bitsOf .xor .u32 out_1 x4,w64 (v2+1))
 else
 some out_1
noncomputable def ZaT (N:Nat) (x_0:Int) (by_1:LL):Option Int:=
 loopN (ZaT.p1 N x_0 by_1) N (0,0)
noncomputable def ZaT.p1.S (x_0 out_1:Int) (by_1:LL) (v2:Int) (st:LL):S:=mkS 22 [(0,.one (.l (L.int .u32 x_0))),(5,.one (.l (L.int .u32 out_1))),(8,sV 1 by_1),(9,sI (len by_1)),(10,sI v2)] [] st
theorem ZaT.p1_ok {x_0 out_1 by_1 v2 st r c1_ J1} (h:ZaT.p1 N x_0 by_1 c1_ (out_1,v2)=some r) (hE:En Tryz.f237 g0 w0 (ZaT.rs r) st R) (hc1 : ∀out_1 v2,c1_ (out_1,v2)=some r→At g0 w0 (ZaT.p1.S x_0 out_1 by_1 v2 st) J1):At g0 w0 (ZaT.p1.S x_0 out_1 by_1 v2 st) (XK Tryz.prog R (.c (csub ZaT.B [1,1,0,1,0,0]) :: .h J1 :: [.b 0,.c (csub ZaT.B [1,1,1])])):=by
 unfold ZaT.p1 at h
 refine iteB h (fun c1 h1=>?_) (fun c1 h2=>?_)
 ·obtain ⟨c2,h3⟩:=ZaN h1
  obtain ⟨x3,c3,h4⟩:=Zdh h3
  obtain ⟨x4,c4,h5⟩:=Zad h4
  exact an fol [.r [],.c true,.r [(1,{oe:=[L.int .i64 x3]})],.r [(4,q1 [.one (L.int .u32 x4)])],.r []] [0,5,8,9,10] [] (aL c1 c2 (oD c1) c3 (ZbG.snd c4)) (hc1 (bitsOf .xor .u32 out_1 x4) (w64 (v2+1)) h5)
 ·obtain rfl:=Zac h2
  exact af fol hE [.r [],.c false,.r []] [] 0 [] c1
theorem ZaT.snd {x_0:Int} {by_1:LL} {r:Int} (h:ZaT N x_0 by_1=some r):SndQ Tryz.prog 237 [.one (L.int .u32 x_0),.one (L.sl 1 by_1)] (ZaT.rs r):=fun st=>
 sO ZaT.B Tryz.func237 fun g0 w0 R hE=>by
  unfold ZaT at h
  exact aq fol [.r [],.r [],.r []] [0,5,8,9,10] [] trivial (At.loop N (At.loopN (fun y:Int×Int=>ZaT.p1.S x_0 y.1 by_1 y.2 st) (fun c J hc y h=>ZaT.p1_ok (out_1:=y.1) (v2:=y.2) h hE (fun out_1 v2=>hc (out_1,v2))) N (0,0) h))
noncomputable def Zae.B:Code:=Tryz.f224.body.getD .skip
noncomputable def Zae.rs (r:LL):List CV:=[]
noncomputable def Zae.p4 (N:Nat) (i71:Nat) (s_80:List Int) (c4_:(Int×LL)→Option LL):(Int×LL)→Option LL:=fun (v83,st85)=>
 if (decide (v83<8))=true then
  chk (0≤v83)<|
  getE (st85[i71]?) ZbH fun x86=>
  c4_ (w64 (v83+1),List.set st85 i71 (Zao.lo {x86 with state:=List.set x86.state (Int.toNat v83) (v32 ((List.getD x86.state (Int.toNat v83) 0)+(List.getD s_80 (Int.toNat v83) 0)))}))
 else
 some st85
noncomputable def Zae.p3 (N:Nat) (i71:Nat) (w_68:List Int) (st:LL) (c3_:(Int×(List Int))→Option LL):(Int×(List Int))→Option LL:=fun (v73,s_80)=>
 if (decide (v73<64))=true then
  optE (ZaT N (List.getD s_80 4 0) [[L.int .i64 6],[L.int .i64 11],[L.int .i64 25]]) fun x81=>
  chk (0≤v73)<|
  optE (ZaT N (List.getD s_80 0 0) [[L.int .i64 2],[L.int .i64 13],[L.int .i64 22]]) fun x82=>
  c3_ (w64 (v73+1),[v32 ((v32 ((v32 ((v32 ((v32 ((List.getD s_80 7 0)+x81))+(bitsOf .xor .u32 (bitsOf .and .u32 (List.getD s_80 4 0) (List.getD s_80 5 0)) (bitsOf .and .u32 (bitsOf .xor .u32 (IntKind.max IntKind.u32) (List.getD s_80 4 0)) (List.getD s_80 6 0)))))+(List.getD glob_digest_steps (Int.toNat v73) 0)))+(List.getD w_68 (Int.toNat v73) 0)))+(v32 (x82+(bitsOf .xor .u32 (bitsOf .xor .u32 (bitsOf .and .u32 (List.getD s_80 0 0) (List.getD s_80 1 0)) (bitsOf .and .u32 (List.getD s_80 0 0) (List.getD s_80 2 0))) (bitsOf .and .u32 (List.getD s_80 1 0) (List.getD s_80 2 0)))))),List.getD s_80 0 0,List.getD s_80 1 0,List.getD s_80 2 0,v32 ((List.getD s_80 3 0)+(v32 ((v32 ((v32 ((v32 ((List.getD s_80 7 0)+x81))+(bitsOf .xor .u32 (bitsOf .and .u32 (List.getD s_80 4 0) (List.getD s_80 5 0)) (bitsOf .and .u32 (bitsOf .xor .u32 (IntKind.max IntKind.u32) (List.getD s_80 4 0)) (List.getD s_80 6 0)))))+(List.getD glob_digest_steps (Int.toNat v73) 0)))+(List.getD w_68 (Int.toNat v73) 0)))),List.getD s_80 4 0,List.getD s_80 5 0,List.getD s_80 6 0])
 else
 loopN (Zae.p4 N i71 s_80) N (0,st)
noncomputable def Zae.p2 (N:Nat) (h_0:Option Nat) (st:LL) (c2_:(Int×(List Int))→Option LL):(Int×(List Int))→Option LL:=fun (i_49,w_68)=>
 if (decide (i_49<64))=true then
  chk (0≤(w64 (i_49-15)))<|
  chk ((w64 (i_49-15))<64)<|
  chk (0≤(w64 (i_49-2)))<|
  chk ((w64 (i_49-2))<64)<|
  chk (0≤(w64 (i_49-16)))<|
  chk ((w64 (i_49-16))<64)<|
  optE (ZaT N (List.getD w_68 (Int.toNat (w64 (i_49-15))) 0) [[L.int .i64 7],[L.int .i64 18]]) fun x69=>
  chk (0≤(w64 (i_49-7)))<|
  chk ((w64 (i_49-7))<64)<|
  optE (ZaT N (List.getD w_68 (Int.toNat (w64 (i_49-2))) 0) [[L.int .i64 17],[L.int .i64 19]]) fun x70=>
  chk (0≤i_49)<|
  c2_ (w64 (i_49+1),List.set w_68 (Int.toNat i_49) (v32 ((v32 ((v32 ((List.getD w_68 (Int.toNat (w64 (i_49-16))) 0)+(bitsOf .xor .u32 x69 (shrOf .u32 (List.getD w_68 (Int.toNat (w64 (i_49-15))) 0) 3))))+(List.getD w_68 (Int.toNat (w64 (i_49-7))) 0)))+(bitsOf .xor .u32 x70 (shrOf .u32 (List.getD w_68 (Int.toNat (w64 (i_49-2))) 0) 10)))))
 else
 optE h_0 fun i71=>
 getE (st[i71]?) ZbH fun x72=>
 loopN (Zae.p3 N i71 w_68 st) N (0,x72.state)
noncomputable def Zae.p1 (N:Nat) (h_0:Option Nat) (b_1 st:LL) (c1_:(Int×(List Int))→Option LL):(Int×(List Int))→Option LL:=fun (v1,w_44)=>
 if (decide (v1<16))=true then
  chk (0≤(w64 (4*v1)))<|
  chk ((w64 (4*v1))<(len b_1))<|
  getE (b_1[Int.toNat (w64 (4*v1))]?) ZhR fun x45=>
  chk (0≤(w64 ((w64 (4*v1))+1)))<|
  chk ((w64 ((w64 (4*v1))+1))<(len b_1))<|
  getE (b_1[Int.toNat (w64 ((w64 (4*v1))+1))]?) ZhR fun x46=>
  chk (0≤(w64 ((w64 (4*v1))+2)))<|
  chk ((w64 ((w64 (4*v1))+2))<(len b_1))<|
  getE (b_1[Int.toNat (w64 ((w64 (4*v1))+2))]?) ZhR fun x47=>
  chk (0≤(w64 ((w64 (4*v1))+3)))<|
  chk ((w64 ((w64 (4*v1))+3))<(len b_1))<|
  getE (b_1[Int.toNat (w64 ((w64 (4*v1))+3))]?) ZhR fun x48=>
  chk (0≤v1)<|
  chk (v1<64)<|
  c1_ (w64 (v1+1),List.set w_44 (Int.toNat v1) (bitsOf .or .u32 (bitsOf .or .u32 (bitsOf .or .u32 (shlOf .u32 (v32 (x45)) 24) (shlOf .u32 (v32 (x46)) 16)) (shlOf .u32 (v32 (x47)) 8)) (v32 (x48))))
 else
 loopN (Zae.p2 N h_0 st) N (16,w_44)
noncomputable def Zae (N:Nat) (h_0:Option Nat) (b_1 st:LL):Option LL:=
 loopN (Zae.p1 N h_0 b_1 st) N (0,List.replicate 64 0)
noncomputable def Zae.p4.S (i71:Nat) (v83:Int) (s_80:List Int) (st85:LL):S:=mkS 189 [(0,sP (some i71)),(9,sA 9),(172,sI v83)] [(9,.cells [L.arr .u32 8 s_80])] st85
noncomputable def Zae.p3.S (i71:Nat) (v73:Int) (w_68 s_80:List Int) (st:LL):S:=mkS 189 [(0,sP (some i71)),(4,sA 4),(9,sA 9),(96,sI v73)] [(4,.cells [L.arr .u32 64 w_68]),(9,.cells [L.arr .u32 8 s_80])] st
noncomputable def Zae.p2.S (h_0:Option Nat) (i_49:Int) (w_68:List Int) (st:LL):S:=mkS 189 [(0,sP h_0),(4,sA 4),(6,sI i_49)] [(4,.cells [L.arr .u32 64 w_68])] st
noncomputable def Zae.p1.S (h_0:Option Nat) (b_1:LL) (v1:Int) (w_44:List Int) (st:LL):S:=mkS 189 [(0,sP h_0),(1,sV 1 b_1),(4,sA 4),(16,sI v1)] [(4,.cells [L.arr .u32 64 w_44])] st
theorem Zae.p4_ok {i71 v83 s_80 st85 r c4_ J4} (h:Zae.p4 N i71 s_80 c4_ (v83,st85)=some r) (hE:En Tryz.f224 g0 w0 (Zae.rs r) r R) (hc4 : ∀v83 st85,c4_ (v83,st85)=some r→At g0 w0 (Zae.p4.S i71 v83 s_80 st85) J4):At g0 w0 (Zae.p4.S i71 v83 s_80 st85) (XK Tryz.prog R (.c (csub Zae.B [1,1,1,1,1,1,0,0]) :: .h J4 :: [.b 6])):=by
 unfold Zae.p4 at h
 refine iteB h (fun c164 h1=>?_) (fun c164 h2=>?_)
 ·obtain ⟨c165,h3⟩:=ZaN h1
  obtain ⟨x86,c166,h4⟩:=ZbS h3
  exact and_ fol [.r [],.c true,.r [],.d {ds:=[(5,{oc:=x86.lo}),(13,{oc:=x86.lo})],hv:=8192,Hs:=[8192]},.r []] [0,9,172] [9] (aO c164 c165 (oD c164) c166 c165 (oD c164) c165 (aI (oD c164) c166)) (hc4 (w64 (v83+1)) (List.set st85 i71 (Zao.lo {x86 with state:=List.set x86.state (Int.toNat v83) (v32 ((List.getD x86.state (Int.toNat v83) 0)+(List.getD s_80 (Int.toNat v83) 0)))})) h4)
 ·obtain rfl:=Zac h2
  exact af fol hE [.r [],.c false] [] 0 [] c164
theorem Zae.p3_ok {i71 v73 w_68 s_80 st r c3_ J3} (h:Zae.p3 N i71 w_68 st c3_ (v73,s_80)=some r) (hE:En Tryz.f224 g0 w0 (Zae.rs r) r R) (hc3 : ∀v73 s_80,c3_ (v73,s_80)=some r→At g0 w0 (Zae.p3.S i71 v73 w_68 s_80 st) J3):At g0 w0 (Zae.p3.S i71 v73 w_68 s_80 st) (XK Tryz.prog R (.c (csub Zae.B [1,1,1,1,0,1,0,0]) :: .h J3 :: [.b 4,.c (csub Zae.B [1,1,1,1,1])])):=by
 unfold Zae.p3 at h
 refine iteB h (fun c157 h5=>?_) (fun c157 h6=>?_)
 ·obtain ⟨x81,c158,h7⟩:=Zad h5
  obtain ⟨c159,h8⟩:=ZaN h7
  obtain ⟨x82,c160,h9⟩:=Zad h8
  exact and_ fol [.r [],.c true,.r [],.r [],.r [],.d {ds:=[(5,{rs:=[.one (L.int .u32 x81)],m:=2})],hv:=16,Hs:=[16]},.r [(3,{rs:=[.one (L.int .u32 x82)],m:=2})],.r [(19,{m:=3})],.r []] [0,4,9,96] [4,9] (aI c157 (ix 4 8 (ix 5 8 (ix 4 8 (ix 6 8 (ix 0 8 (ix 1 8 (ix 0 8 (ix 2 8 (ix 1 8 (ix 2 8 (ix 7 8 (ix 7 8 (ix 4 8 (ix 4 8 (aO z0 (eN (3)) (ZaT.snd c158) c159 (oD c157) c159 (oD c157) (aL c159 (oD c157) c159 (oD c157) (ix 0 8 (aK z0 (eN (3)) (ZaT.snd c160) (ix 0 8 (ix 1 8 (ix 2 8 (ix 3 8 (ix 4 8 (ix 5 8 (aI (leI 0 6) (ltI 6 8))))))))))))))))))))))))))) (hc3 (w64 (v73+1)) [v32 ((v32 ((v32 ((v32 ((v32 ((List.getD s_80 7 0)+x81))+(bitsOf .xor .u32 (bitsOf .and .u32 (List.getD s_80 4 0) (List.getD s_80 5 0)) (bitsOf .and .u32 (bitsOf .xor .u32 (IntKind.max IntKind.u32) (List.getD s_80 4 0)) (List.getD s_80 6 0)))))+(List.getD glob_digest_steps (Int.toNat v73) 0)))+(List.getD w_68 (Int.toNat v73) 0)))+(v32 (x82+(bitsOf .xor .u32 (bitsOf .xor .u32 (bitsOf .and .u32 (List.getD s_80 0 0) (List.getD s_80 1 0)) (bitsOf .and .u32 (List.getD s_80 0 0) (List.getD s_80 2 0))) (bitsOf .and .u32 (List.getD s_80 1 0) (List.getD s_80 2 0)))))),List.getD s_80 0 0,List.getD s_80 1 0,List.getD s_80 2 0,v32 ((List.getD s_80 3 0)+(v32 ((v32 ((v32 ((v32 ((List.getD s_80 7 0)+x81))+(bitsOf .xor .u32 (bitsOf .and .u32 (List.getD s_80 4 0) (List.getD s_80 5 0)) (bitsOf .and .u32 (bitsOf .xor .u32 (IntKind.max IntKind.u32) (List.getD s_80 4 0)) (List.getD s_80 6 0)))))+(List.getD glob_digest_steps (Int.toNat v73) 0)))+(List.getD w_68 (Int.toNat v73) 0)))),List.getD s_80 4 0,List.getD s_80 5 0,List.getD s_80 6 0] h9)
 ·exact aq fol [.r [],.c false,.r []] [0,9,172] [9] c157 (At.loop N (At.loopN (fun y:Int×LL=>Zae.p4.S i71 y.1 s_80 y.2) (fun c J hc y h=>Zae.p4_ok (v83:=y.1) (st85:=y.2) h hE (fun v83 st85=>hc (v83,st85))) N (0,st) h6))
theorem Zae.p2_ok {h_0 i_49 w_68 st r c2_ J2} (h:Zae.p2 N h_0 st c2_ (i_49,w_68)=some r) (hE:En Tryz.f224 g0 w0 (Zae.rs r) r R) (hc2 : ∀i_49 w_68,c2_ (i_49,w_68)=some r→At g0 w0 (Zae.p2.S h_0 i_49 w_68 st) J2):At g0 w0 (Zae.p2.S h_0 i_49 w_68 st) (XK Tryz.prog R (.c (csub Zae.B [1,1,0,1,0,0]) :: .h J2 :: [.b 2,.c (csub Zae.B [1,1,1])])):=by
 unfold Zae.p2 at h
 refine iteB h (fun c133 h10=>?_) (fun c133 h11=>?_)
 ·obtain ⟨c134,c135,c136,c137,c138,c139,h12⟩:=ck6 h10
  obtain ⟨x69,c140,h13⟩:=Zad h12
  obtain ⟨c141,c142,h14⟩:=ck2 h13
  obtain ⟨x70,c143,h15⟩:=Zad h14
  obtain ⟨c144,h16⟩:=ZaN h15
  exact and_ fol [.r [],.c true,.d {ds:=[],hv:=0,Hs:=[]},.d {ds:=[(7,{rs:=[.one (L.int .u32 x69)],m:=2}),(19,{rs:=[.one (L.int .u32 x70)],m:=2})],hv:=33816640,Hs:=[64,262144,262208,33816640]},.r []] [0,4,6] [4] (aO c133 c134 c135 c136 c137 c138 c139 (aO c138 c139 c138 c139 c138 c139 z0 (aO (eN (2)) (ZaT.snd c140) z0 (eN (2)) (ZaT.snd c140) (leI 0 3) (leI 0 3) (aO (leI 0 3) (leI 0 3) c141 c142 c141 c142 c141 (aO c142 c141 c142 z0 (eN (2)) (ZaT.snd c143) (leI 0 10) (aL (leI 0 10) (leI 0 10) (leI 0 10) c144 (oD c133))))))) (hc2 (w64 (i_49+1)) (List.set w_68 (Int.toNat i_49) (v32 ((v32 ((v32 ((List.getD w_68 (Int.toNat (w64 (i_49-16))) 0)+(bitsOf .xor .u32 x69 (shrOf .u32 (List.getD w_68 (Int.toNat (w64 (i_49-15))) 0) 3))))+(List.getD w_68 (Int.toNat (w64 (i_49-7))) 0)))+(bitsOf .xor .u32 x70 (shrOf .u32 (List.getD w_68 (Int.toNat (w64 (i_49-2))) 0) 10))))) h16)
 ·obtain ⟨i71,rfl,h17⟩:=Zad h11
  obtain ⟨x72,c146,h18⟩:=ZbS h17
  exact aq fol [.r [],.c false,.r [(3,{oc:=x72.lo})],.r []] [0,4,9,96] [4,9] (aI c133 c146) (At.loop N (At.loopN (fun y:Int×(List Int)=>Zae.p3.S i71 y.1 w_68 y.2 st) (fun c J hc y h=>Zae.p3_ok (v73:=y.1) (s_80:=y.2) h hE (fun v73 s_80=>hc (v73,s_80))) N (0,x72.state) h18))
theorem Zae.p1_ok {h_0 b_1 v1 w_44 st r c1_ J1} (h:Zae.p1 N h_0 b_1 st c1_ (v1,w_44)=some r) (hE:En Tryz.f224 g0 w0 (Zae.rs r) r R) (hc1 : ∀v1 w_44,c1_ (v1,w_44)=some r→At g0 w0 (Zae.p1.S h_0 b_1 v1 w_44 st) J1):At g0 w0 (Zae.p1.S h_0 b_1 v1 w_44 st) (XK Tryz.prog R (.c (csub Zae.B [1,0,1,0,0]) :: .h J1 :: [.b 0,.c (csub Zae.B [1,1])])):=by
 unfold Zae.p1 at h
 refine iteB h (fun c84 h19=>?_) (fun c84 h20=>?_)
 ·obtain ⟨c85,c86,h21⟩:=ck2 h19
  obtain ⟨x45,c87,h22⟩:=ZfL h21
  obtain ⟨c88,c89,h23⟩:=ck2 h22
  obtain ⟨x46,c90,h24⟩:=ZfL h23
  obtain ⟨c91,c92,h25⟩:=ck2 h24
  obtain ⟨x47,c93,h26⟩:=ZfL h25
  obtain ⟨c94,c95,h27⟩:=ck2 h26
  obtain ⟨x48,c96,h28⟩:=ZfL h27
  obtain ⟨c97,c98,h29⟩:=ck2 h28
  exact and_ fol [.r [],.c true,.r [],.d {ds:=[(5,{oe:=[L.int .u8 x45]}),(13,{oe:=[L.int .u8 x46]}),(22,{oe:=[L.int .u8 x47]}),(31,{oe:=[L.int .u8 x48]})],hv:=34359738368,Hs:=[34359738368]},.r []] [0,1,4,16] [4] (aO c84 c85 c86 c87 (leI 0 24) c88 c89 (aO c90 (leI 0 16) c91 c92 c93 (leI 0 8) c94 (aK c95 c96 c97 c98))) (hc1 (w64 (v1+1)) (List.set w_44 (Int.toNat v1) (bitsOf .or .u32 (bitsOf .or .u32 (bitsOf .or .u32 (shlOf .u32 (v32 (x45)) 24) (shlOf .u32 (v32 (x46)) 16)) (shlOf .u32 (v32 (x47)) 8)) (v32 (x48)))) h29)
 ·exact aq fol [.r [],.c false,.r []] [0,4,6] [4] c84 (At.loop N (At.loopN (fun y:Int×(List Int)=>Zae.p2.S h_0 y.1 y.2 st) (fun c J hc y h=>Zae.p2_ok (i_49:=y.1) (w_68:=y.2) h hE (fun i_49 w_68=>hc (i_49,w_68))) N (16,w_44) h20))
theorem Zae.snd {h_0:Option Nat} {b_1:LL} {st:LL} {r:LL} (h:Zae N h_0 b_1 st=some r):Snd Tryz.prog 224 [.one (L.ptr h_0),.one (L.sl 1 b_1)] st (Zae.rs r) r:=
 sO Zae.B Tryz.func224 fun g0 w0 R hE=>by
  unfold Zae at h
  exact aq fol [.r [],.r []] [0,1,4,16] [4] trivial (At.loop N (At.loopN (fun y:Int×(List Int)=>Zae.p1.S h_0 b_1 y.1 y.2 st) (fun c J hc y h=>Zae.p1_ok (v1:=y.1) (w_44:=y.2) h hE (fun v1 w_44=>hc (v1,w_44))) N (0,List.replicate 64 0) h))
noncomputable def Zaw.B:Code:=Tryz.f211.body.getD .skip
noncomputable def Zaw.rs (r:LL):List CV:=[]
noncomputable def Zaw.p2 (N:Nat) (c1_:((Option Nat)×Int×LL)→Option LL) (i15:Nat) (parts_1:LL) (v1:Int) (c2_:LL→Option LL):LL→Option LL:=fun st20=>
 getE (st20[i15]?) ZbH fun x21=>
 if (decide ((len x21.rest)≥64))=true then
  chk (64≤(List.length x21.rest))<|
  optE (Zae N (some i15) (List.take 64 x21.rest) st20) fun st22=>
  getE (st22[i15]?) ZbH fun x23=>
  chk (64≤(List.length x23.rest))<|
  c2_ (List.set st22 i15 (Zao.lo {x23 with rest:=List.drop 64 x23.rest}))
 else
 c1_ ((some i15),w64 (v1+1),st20)
noncomputable def Zaw.p1 (N:Nat) (parts_1:LL) (c1_:((Option Nat)×Int×LL)→Option LL):((Option Nat)×Int×LL)→Option LL:=fun (h_12,v1,st13)=>
 if (decide (v1<(len parts_1)))=true then
  chk (0≤v1)<|
  getE (parts_1[Int.toNat v1]?) dec_t fun x14=>
  optE h_12 fun i15=>
  getE (st13[i15]?) ZbH fun x16=>
  chk (List.length (x16.rest++(byteL x14))*1≤140737488355328)<|
  loopN (Zaw.p2 N c1_ i15 parts_1 v1) N (List.set (List.set (List.set st13 i15 (Zao.lo {x16 with size:=v64 (x16.size+(v64 (((ByteArray.size x14:Nat):Int))))})) i15 (gs (Zao.lo {x16 with size:=v64 (x16.size+(v64 (((ByteArray.size x14:Nat):Int))))}) 1)) i15 (Zao.lo (Zao.mk x16.state (x16.rest++(byteL x14)) (v64 (x16.size+(v64 (((ByteArray.size x14:Nat):Int))))))))
 else
 some st13
noncomputable def Zaw (N:Nat) (h_0:Option Nat) (parts_1 st:LL):Option LL:=
 if (Option.isNone h_0)=true then
  some st
 else
 loopN (Zaw.p1 N parts_1) N (h_0,0,st)
noncomputable def Zaw.p2.S (i15:Nat) (parts_1:LL) (v1:Int) (st20:LL):S:=mkS 55 [(0,sP (some i15)),(8,sV 1 parts_1),(9,sI (len parts_1)),(10,sI v1)] [] st20
noncomputable def Zaw.p1.S (h_12:Option Nat) (parts_1:LL) (v1:Int) (st13:LL):S:=mkS 55 [(0,sP h_12),(8,sV 1 parts_1),(9,sI (len parts_1)),(10,sI v1)] [] st13
theorem Zaw.p2_ok {i15 parts_1 v1 st20 r c1_ c2_ J1 J2} (h:Zaw.p2 N c1_ i15 parts_1 v1 c2_ st20=some r) (hE:En Tryz.f211 g0 w0 (Zaw.rs r) r R) (hc1 : ∀h_12 v1 st13,c1_ (h_12,v1,st13)=some r→At g0 w0 (Zaw.p1.S h_12 parts_1 v1 st13) J1) (hc2 : ∀st20,c2_ st20=some r→At g0 w0 (Zaw.p2.S i15 parts_1 v1 st20) J2):At g0 w0 (Zaw.p2.S i15 parts_1 v1 st20) (XK Tryz.prog R (.c (csub Zaw.B [1,1,0,0,1,1,0,0,1,1,1,0,0]) :: .h J2 :: [.b 2,.b 1,.c (csub Zaw.B [1,1,0,0,1,1,1]),.h J1,.b 0])):=by
 unfold Zaw.p2 at h
 obtain ⟨x21,c32,h1⟩:=ZbS h
 refine iteB h1 (fun c33 h2=>?_) (fun c33 h3=>?_)
 ·obtain ⟨c34,h4⟩:=ZaN h2
  obtain ⟨st22,c35,h5⟩:=Zad h4
  obtain ⟨x23,c36,h6⟩:=ZbS h5
  obtain ⟨c37,h7⟩:=ZaN h6
  exact an fol [.r [(3,{oc:=x21.lo})],.c true,.r [(4,{oc:=x21.lo}),(5,{oc:=x21.lo}),(6,{oc:=x21.lo,st:=st22,wm:=2})],.r [(4,{oc:=x23.lo}),(5,{oc:=x23.lo}),(8,{oc:=x23.lo,m:=8,wm:=1})]] [0,8,9,10] [] (aO c32 c33 c32 (leI 0 64) (leN 0 64) c34 c32 (aO z0 c34 c32 (Zae.snd c35) c36 (leI 0 64) c37 (aM (Nat.le_refl (List.length x23.rest)) c36 (rfl:Root.obj i15=Root.obj i15) c36 c37 (eN ((List.length x23.rest)-64))))) (hc2 (List.set st22 i15 (Zao.lo {x23 with rest:=List.drop 64 x23.rest})) h7)
 ·exact an fol [.r [(3,{oc:=x21.lo})],.c false,.r []] [0,8,9,10] [] (aI c32 c33) (hc1 (some i15) (w64 (v1+1)) st20 h3)
theorem Zaw.p1_ok {h_12 parts_1 v1 st13 r c1_ J1} (h:Zaw.p1 N parts_1 c1_ (h_12,v1,st13)=some r) (hE:En Tryz.f211 g0 w0 (Zaw.rs r) r R) (hc1 : ∀h_12 v1 st13,c1_ (h_12,v1,st13)=some r→At g0 w0 (Zaw.p1.S h_12 parts_1 v1 st13) J1):At g0 w0 (Zaw.p1.S h_12 parts_1 v1 st13) (XK Tryz.prog R (.c (csub Zaw.B [1,1,0,0]) :: .h J1 :: [.b 0])):=by
 unfold Zaw.p1 at h
 refine iteB h (fun c20 h8=>?_) (fun c20 h9=>?_)
 ·obtain ⟨c21,h10⟩:=ZaN h8
  obtain ⟨x14,c22,h11⟩:=ZmN h10
  obtain ⟨i15,rfl,h12⟩:=Zad h11
  obtain ⟨x16,c24,h13⟩:=ZbS h12
  obtain ⟨c25,h14⟩:=ZaN h13
  exact aq fol [.r [],.c true,.r [(1,{oe:=[L.str x14]})],.r [(3,{oc:=x16.lo}),(10,{oc:=x16.lo})],.r [(4,{oc:=Zao.lo {x16 with size:=v64 (x16.size+(v64 (((ByteArray.size x14:Nat):Int))))}}),(6,{oe:=Zao.lo {x16 with size:=v64 (x16.size+(v64 (((ByteArray.size x14:Nat):Int))))}}),(9,{oc:=gs (Zao.lo {x16 with size:=v64 (x16.size+(v64 (((ByteArray.size x14:Nat):Int))))}) 1,mv:=[30]})]] [0,8,9,10] [] (aO c20 c21 (oD c20) c22 c24 c24 (Zcf c24 (Zao.lo {x16 with size:=v64 (x16.size+(v64 (((ByteArray.size x14:Nat):Int))))})) (aN z0 (eN (List.length x16.rest)) (Zcf c24 (Zao.lo {x16 with size:=v64 (x16.size+(v64 (((ByteArray.size x14:Nat):Int))))})) c25 (Zcf (Zcf c24 (Zao.lo {x16 with size:=v64 (x16.size+(v64 (((ByteArray.size x14:Nat):Int))))})) (gs (Zao.lo {x16 with size:=v64 (x16.size+(v64 (((ByteArray.size x14:Nat):Int))))}) 1)) z0 (eN (List.length (x16.rest++(byteL x14)))))) (At.loop N (At.loopN (fun y:LL=>Zaw.p2.S i15 parts_1 v1 y) (fun c J hc y h=>Zaw.p2_ok h hE hc1 (fun st20=>hc st20)) N (List.set (List.set (List.set st13 i15 (Zao.lo {x16 with size:=v64 (x16.size+(v64 (((ByteArray.size x14:Nat):Int))))})) i15 (gs (Zao.lo {x16 with size:=v64 (x16.size+(v64 (((ByteArray.size x14:Nat):Int))))}) 1)) i15 (Zao.lo (Zao.mk x16.state (x16.rest++(byteL x14)) (v64 (x16.size+(v64 (((ByteArray.size x14:Nat):Int)))))))) h14))
 ·obtain rfl:=Zac h9
  exact af fol hE [.r [],.c false] [] 0 [] c20
theorem Zaw.snd {h_0:Option Nat} {parts_1:LL} {st:LL} {r:LL} (h:Zaw N h_0 parts_1 st=some r):Snd Tryz.prog 211 [.one (L.ptr h_0),.one (L.sl 1 parts_1)] st (Zaw.rs r) r:=
 sO Zaw.B Tryz.func211 fun g0 w0 R hE=>by
  unfold Zaw at h
  refine iteB h (fun c1 h15=>?_) (fun c1 h16=>?_)
  ·obtain rfl:=Zac h15
   exact af fol hE [.r [],.c true] [] 0 [] c1
  ·exact aq fol [.r [],.c false,.r []] [0,8,9,10] [] c1 (At.loop N (At.loopN (fun y:(Option Nat)×Int×LL=>Zaw.p1.S y.1 parts_1 y.2.1 y.2.2) (fun c J hc y h=>Zaw.p1_ok (h_12:=y.1) (v1:=y.2.1) (st13:=y.2.2) h hE (fun h_12 v1 st13=>hc (h_12,v1,st13))) N (h_0,0,st) h16))
noncomputable def Zal.B:Code:=Tryz.f212.body.getD .skip
noncomputable def Zal.rs (r:(List Int)×LL):List CV:=[.agg [L.arr .u8 32 r.1]]
noncomputable def Zal.p4 (N:Nat) (x47:Zao) (st45:LL) (c4_:(Int×(List Int))→Option ((List Int)×LL)):(Int×(List Int))→Option ((List Int)×LL):=fun (v48,out_49)=>
 if (decide (v48<8))=true then
  chk (0≤v48)<|
  chk (0≤(w64 (4*v48)))<|
  chk ((w64 (4*v48))<32)<|
  chk (0≤(w64 ((w64 (4*v48))+1)))<|
  chk ((w64 ((w64 (4*v48))+1))<32)<|
  chk (0≤(w64 ((w64 (4*v48))+2)))<|
  chk ((w64 ((w64 (4*v48))+2))<32)<|
  chk (0≤(w64 ((w64 (4*v48))+3)))<|
  chk ((w64 ((w64 (4*v48))+3))<32)<|
  c4_ (w64 (v48+1),List.set (List.set (List.set (List.set out_49 (Int.toNat (w64 (4*v48))) (v8 (shrOf .u32 (List.getD x47.state (Int.toNat v48) 0) 24))) (Int.toNat (w64 ((w64 (4*v48))+1))) (v8 (shrOf .u32 (List.getD x47.state (Int.toNat v48) 0) 16))) (Int.toNat (w64 ((w64 (4*v48))+2))) (v8 (shrOf .u32 (List.getD x47.state (Int.toNat v48) 0) 8))) (Int.toNat (w64 ((w64 (4*v48))+3))) (v8 (List.getD x47.state (Int.toNat v48) 0)))
 else
 some (out_49,st45)
noncomputable def Zal.p3 (N:Nat) (st v38:LL) (c3_:(Nat×Nat×LL)→Option ((List Int)×LL)):(Nat×Nat×LL)→Option ((List Int)×LL):=fun (tail_43,tail_44,st45)=>
 if (decide (((tail_44:Nat):Int)>0))=true then
  chk ((tail_43+64)≤(List.length v38))<|
  optE (Zae N (some (List.length st)) (List.take 64 (List.drop tail_43 v38)) st45) fun st46=>
  chk (64≤tail_44)<|
  c3_ (tail_43+64,tail_44-64,st46)
 else
 getE (st45[List.length st]?) ZbH fun x47=>
 loopN (Zal.p4 N x47 st45) N (0,List.replicate 32 0)
noncomputable def Zal.p2 (N:Nat) (h_0:Zao) (st:LL) (c2_:(LL×Int)→Option ((List Int)×LL)):(LL×Int)→Option ((List Int)×LL):=fun (v38,i_26)=>
 if (decide (i_26≥0))=true then
  chk (0≤(w64 (8*i_26)))<|
  chk (List.length (v38 ++ [[L.int .u8 (v8 (shrOf .u64 (v64 (h_0.size*8)) (w64 (8*i_26))))]])*1≤140737488355328)<|
  c2_ (v38 ++ [[L.int .u8 (v8 (shrOf .u64 (v64 (h_0.size*8)) (w64 (8*i_26))))]],w64 (i_26-1))
 else
 loopN (Zal.p3 N st v38) N (0,List.length v38,st ++ [Zao.lo (Zao.mk h_0.state [] 0)])
noncomputable def Zal.p1 (N:Nat) (h_0:Zao) (st:LL) (c1_:LL→Option ((List Int)×LL)):LL→Option ((List Int)×LL):=fun v25=>
 if ((Int.tmod (len v25) 64) != 56)=true then
  chk (List.length (v25 ++ [[L.int .u8 0]])*1≤140737488355328)<|
  c1_ (v25 ++ [[L.int .u8 0]])
 else
 loopN (Zal.p2 N h_0 st) N (v25,7)
noncomputable def Zal (N:Nat) (h_0:Zao) (st:LL):Option ((List Int)×LL):=
 chk (List.length ([]++h_0.rest)*1≤140737488355328)<|
 chk (List.length (([]++h_0.rest) ++ [[L.int .u8 128]])*1≤140737488355328)<|
 loopN (Zal.p1 N h_0 st) N (([]++h_0.rest) ++ [[L.int .u8 128]])
noncomputable def Zal.p4.S (x47:Zao) (v48:Int) (out_49:List Int) (st45:LL):S:=mkS 94 [(2,sA 2),(6,sA 6),(61,.agg [.l (L.arr .u32 8 x47.state)]),(62,sI v48)] [(2,.cells [L.arr .u8 32 (List.replicate 32 0)]),(6,.cells [L.arr .u8 32 out_49])] st45
noncomputable def Zal.p3.S (st:LL) (tail_43 tail_44:Nat) (v38 st45:LL):S:=mkS 94 [(2,sA 2),(3,sP (some (List.length st))),(4,.one (.h (.row 22 0) 1 tail_43 tail_44))] [(2,.cells [L.arr .u8 32 (List.replicate 32 0)]),(22,.row 0 false 1 v38)] st45
noncomputable def Zal.p2.S (h_0:Zao) (st v38:LL) (i_26:Int):S:=mkS 94 [(0,.one (.l (L.bx 10 h_0.ls))),(2,sA 2),(3,sP (some (List.length st))),(4,.one (.h (.row 22 0) 1 0 (List.length v38))),(5,sI i_26)] [(2,.cells [L.arr .u8 32 (List.replicate 32 0)]),(22,.row 0 false 1 v38)] (st ++ [Zao.lo (Zao.mk h_0.state [] 0)])
noncomputable def Zal.p1.S (h_0:Zao) (st v25:LL):S:=mkS 94 [(0,.one (.l (L.bx 10 h_0.ls))),(2,sA 2),(3,sP (some (List.length st))),(4,.one (.h (.row 22 0) 1 0 (List.length v25)))] [(2,.cells [L.arr .u8 32 (List.replicate 32 0)]),(22,.row 0 false 1 v25)] (st ++ [Zao.lo (Zao.mk h_0.state [] 0)])
theorem Zal.p4_ok {x47 v48 out_49 st45 r c4_ J4} (h:Zal.p4 N x47 st45 c4_ (v48,out_49)=some r) (hE:En Tryz.f212 g0 w0 (Zal.rs r) r.2 R) (hc4 : ∀v48 out_49,c4_ (v48,out_49)=some r→At g0 w0 (Zal.p4.S x47 v48 out_49 st45) J4):At g0 w0 (Zal.p4.S x47 v48 out_49 st45) (XK Tryz.prog R (.c (csub Zal.B [1,1,1,1,1,1,1,1,1,0,1,0,0]) :: .h J4 :: [.b 6,.c (csub Zal.B [1,1,1,1,1,1,1,1,1,1])])):=by
 unfold Zal.p4 at h
 refine iteB h (fun c205 h1=>?_) (fun c205 h2=>?_)
 ·obtain ⟨c206,c207,c208,c209,c210,c211,c212,c213,h3⟩:=ck8 h1
  obtain ⟨c214,h4⟩:=ZaN h3
  exact an fol [.r [],.c true,.r [],.r [],.r []] [2,6,61,62] [2,6] (aO c205 c206 (oD c205) (leI 0 24) (leI 0 16) (leI 0 8) c207 (aN c208 c209 c210 c211 c212 c213 c214)) (hc4 (w64 (v48+1)) (List.set (List.set (List.set (List.set out_49 (Int.toNat (w64 (4*v48))) (v8 (shrOf .u32 (List.getD x47.state (Int.toNat v48) 0) 24))) (Int.toNat (w64 ((w64 (4*v48))+1))) (v8 (shrOf .u32 (List.getD x47.state (Int.toNat v48) 0) 16))) (Int.toNat (w64 ((w64 (4*v48))+2))) (v8 (shrOf .u32 (List.getD x47.state (Int.toNat v48) 0) 8))) (Int.toNat (w64 ((w64 (4*v48))+3))) (v8 (List.getD x47.state (Int.toNat v48) 0))) h4)
 ·obtain rfl:=Zac h2
  exact af fol hE [.r [],.c false,.r []] [] 0 [] c205
theorem Zal.p3_ok {st tail_43 tail_44 v38 st45 r c3_ J3} (h:Zal.p3 N st v38 c3_ (tail_43,tail_44,st45)=some r) (hE:En Tryz.f212 g0 w0 (Zal.rs r) r.2 R) (hc3 : ∀tail_43 tail_44 st45,c3_ (tail_43,tail_44,st45)=some r→At g0 w0 (Zal.p3.S st tail_43 tail_44 v38 st45) J3):At g0 w0 (Zal.p3.S st tail_43 tail_44 v38 st45) (XK Tryz.prog R (.c (csub Zal.B [1,1,1,1,1,1,1,0,0,0]) :: .h J3 :: [.b 4,.c (csub Zal.B [1,1,1,1,1,1,1,1])])):=by
 unfold Zal.p3 at h
 refine iteB h (fun c190 h5=>?_) (fun c190 h6=>?_)
 ·obtain ⟨c191,h7⟩:=ZaN h5
  obtain ⟨st46,c192,h8⟩:=Zad h7
  obtain ⟨c193,h9⟩:=ZaN h8
  exact an fol [.r [],.c true,.r [(2,{m:=9}),(3,{st:=st46,wm:=3,fz:=[22]})],.r []] [2,3,4] [2,22] (aO c190 (leI 0 64) (leN 0 64) c191 c191 (Zae.snd c192) (leI 0 64) (aI c193 (Nat.le_refl (tail_44)))) (hc3 (tail_43+64) (tail_44-64) st46 h9)
 ·obtain ⟨x47,c194,h10⟩:=ZbS h6
  exact aq fol [.r [],.c false,.r [],.r [(3,{oc:=x47.lo})]] [2,6,61,62] [2,6] (aI c190 c194) (At.loop N (At.loopN (fun y:Int×(List Int)=>Zal.p4.S x47 y.1 y.2 st45) (fun c J hc y h=>Zal.p4_ok (v48:=y.1) (out_49:=y.2) h hE (fun v48 out_49=>hc (v48,out_49))) N (0,List.replicate 32 0) h10))
theorem Zal.p2_ok {h_0 st v38 i_26 r c2_ J2} (h:Zal.p2 N h_0 st c2_ (v38,i_26)=some r) (hE:En Tryz.f212 g0 w0 (Zal.rs r) r.2 R) (hc2 : ∀v38 i_26,c2_ (v38,i_26)=some r→At g0 w0 (Zal.p2.S h_0 st v38 i_26) J2):At g0 w0 (Zal.p2.S h_0 st v38 i_26) (XK Tryz.prog R (.c (csub Zal.B [1,1,1,1,1,1,0,1,0,0]) :: .h J2 :: [.b 2,.c (csub Zal.B [1,1,1,1,1,1,1])])):=by
 unfold Zal.p2 at h
 refine iteB h (fun c163 h11=>?_) (fun c163 h12=>?_)
 ·obtain ⟨c164,c165,h13⟩:=ck2 h11
  exact an fol [.r [],.c true,.r [(4,{oe:=h_0.ls})],.r []] [0,2,3,4,5] [2,22] (aO c163 (eO h_0.ls) c164 z0 (eN (List.length v38)) z0 (eN (1)) c165) (hc2 (v38 ++ [[L.int .u8 (v8 (shrOf .u64 (v64 (h_0.size*8)) (w64 (8*i_26))))]]) (w64 (i_26-1)) h13)
 ·exact aq fol [.r [],.c false] [2,3,4] [2,22] c163 (At.loop N (At.loopN (fun y:Nat×Nat×LL=>Zal.p3.S st y.1 y.2.1 v38 y.2.2) (fun c J hc y h=>Zal.p3_ok (tail_43:=y.1) (tail_44:=y.2.1) (st45:=y.2.2) h hE (fun tail_43 tail_44 st45=>hc (tail_43,tail_44,st45))) N (0,List.length v38,st ++ [Zao.lo (Zao.mk h_0.state [] 0)]) h12))
theorem Zal.p1_ok {h_0 st v25 r c1_ J1} (h:Zal.p1 N h_0 st c1_ v25=some r) (hE:En Tryz.f212 g0 w0 (Zal.rs r) r.2 R) (hc1 : ∀v25,c1_ v25=some r→At g0 w0 (Zal.p1.S h_0 st v25) J1):At g0 w0 (Zal.p1.S h_0 st v25) (XK Tryz.prog R (.c (csub Zal.B [1,1,1,1,1,0,0,0]) :: .h J1 :: [.b 0,.c (csub Zal.B [1,1,1,1,1,1])])):=by
 unfold Zal.p1 at h
 refine iteB h (fun c109 h14=>?_) (fun c109 h15=>?_)
 ·obtain ⟨c110,h16⟩:=ZaN h14
  exact an fol [.r [],.c true,.r []] [0,2,3,4] [2,22] (aN (neI 64) c109 z0 (eN (List.length v25)) z0 (eN (1)) c110) (hc1 (v25 ++ [[L.int .u8 0]]) h16)
 ·exact aq fol [.r [],.c false,.r []] [0,2,3,4,5] [2,22] (aI (neI 64) c109) (At.loop N (At.loopN (fun y:LL×Int=>Zal.p2.S h_0 st y.1 y.2) (fun c J hc y h=>Zal.p2_ok (v38:=y.1) (i_26:=y.2) h hE (fun v38 i_26=>hc (v38,i_26))) N (v25,7) h15))
theorem Zal.snd {h_0:Zao} {st:LL} {r:(List Int)×LL} (h:Zal N h_0 st=some r):Snd Tryz.prog 212 [.one (L.bx 10 h_0.ls)] st (Zal.rs r) r.2:=
 sO Zal.B Tryz.func212 fun g0 w0 R hE=>by
  unfold Zal at h
  obtain ⟨c1,c2,h17⟩:=ck2 h
  exact aq fol [.r [],.r [],.c false,.r [(3,{oe:=h_0.ls}),(4,{mv:=[1]}),(5,{m:=1})],.r [(3,{oe:=h_0.ls}),(5,{fz:=[22]})],.r []] [0,2,3,4] [2,22] (aO eF (eO h_0.ls) (eO h_0.ls) c1 z0 (eN (List.length ([]++h_0.rest))) z0 (aI (eN (1)) c2)) (At.loop N (At.loopN (fun y:LL=>Zal.p1.S h_0 st y) (fun c J hc y h=>Zal.p1_ok h hE (fun v25=>hc v25)) N (([]++h_0.rest) ++ [[L.int .u8 128]]) h17))
noncomputable def Zai.B:Code:=Tryz.f212.body.getD .skip
noncomputable def Zai.rs (r:(List Int)×LL):List CV:=[.agg [L.arr .u8 32 r.1]]
noncomputable def Zai.p4 (N:Nat) (x53:Zao) (st51:LL) (c4_:(Int×(List Int))→Option ((List Int)×LL)):(Int×(List Int))→Option ((List Int)×LL):=fun (v54,out_55)=>
 if (decide (v54<8))=true then
  chk (0≤v54)<|
  chk (0≤(w64 (4*v54)))<|
  chk ((w64 (4*v54))<32)<|
  chk (0≤(w64 ((w64 (4*v54))+1)))<|
  chk ((w64 ((w64 (4*v54))+1))<32)<|
  chk (0≤(w64 ((w64 (4*v54))+2)))<|
  chk ((w64 ((w64 (4*v54))+2))<32)<|
  chk (0≤(w64 ((w64 (4*v54))+3)))<|
  chk ((w64 ((w64 (4*v54))+3))<32)<|
  c4_ (w64 (v54+1),List.set (List.set (List.set (List.set out_55 (Int.toNat (w64 (4*v54))) (v8 (shrOf .u32 (List.getD x53.state (Int.toNat v54) 0) 24))) (Int.toNat (w64 ((w64 (4*v54))+1))) (v8 (shrOf .u32 (List.getD x53.state (Int.toNat v54) 0) 16))) (Int.toNat (w64 ((w64 (4*v54))+2))) (v8 (shrOf .u32 (List.getD x53.state (Int.toNat v54) 0) 8))) (Int.toNat (w64 ((w64 (4*v54))+3))) (v8 (List.getD x53.state (Int.toNat v54) 0)))
 else
 some (out_55,st51)
noncomputable def Zai.p3 (N:Nat) (st v43:LL) (c3_:(Nat×Nat×LL)→Option ((List Int)×LL)):(Nat×Nat×LL)→Option ((List Int)×LL):=fun (tail_49,tail_50,st51)=>
 if (decide (((tail_50:Nat):Int)>0))=true then
  chk ((tail_49+64)≤(List.length v43))<|
  optE (Zae N (some (List.length st)) (List.take 64 (List.drop tail_49 v43)) st51) fun st52=>
  chk (64≤tail_50)<|
  c3_ (tail_49+64,tail_50-64,st52)
 else
 getE (st51[List.length st]?) ZbH fun x53=>
 loopN (Zai.p4 N x53 st51) N (0,List.replicate 32 0)
noncomputable def Zai.p2 (N:Nat) (i1:Nat) (st:LL) (x2:Zao) (c2_:(LL×Int)→Option ((List Int)×LL)):(LL×Int)→Option ((List Int)×LL):=fun (v43,i_30)=>
 if (decide (i_30≥0))=true then
  getE ((st ++ [Zao.lo (Zao.mk x2.state [] 0)])[i1]?) ZbH fun x44=>
  chk (0≤(w64 (8*i_30)))<|
  chk (List.length (v43 ++ [[L.int .u8 (v8 (shrOf .u64 (v64 (x44.size*8)) (w64 (8*i_30))))]])*1≤140737488355328)<|
  c2_ (v43 ++ [[L.int .u8 (v8 (shrOf .u64 (v64 (x44.size*8)) (w64 (8*i_30))))]],w64 (i_30-1))
 else
 loopN (Zai.p3 N st v43) N (0,List.length v43,st ++ [Zao.lo (Zao.mk x2.state [] 0)])
noncomputable def Zai.p1 (N:Nat) (i1:Nat) (st:LL) (x2:Zao) (c1_:LL→Option ((List Int)×LL)):LL→Option ((List Int)×LL):=fun v29=>
 if ((Int.tmod (len v29) 64) != 56)=true then
  chk (List.length (v29 ++ [[L.int .u8 0]])*1≤140737488355328)<|
  c1_ (v29 ++ [[L.int .u8 0]])
 else
 loopN (Zai.p2 N i1 st x2) N (v29,7)
noncomputable def Zai (N:Nat) (h_0:Option Nat) (st:LL):Option ((List Int)×LL):=
 if (Option.isNone h_0)=true then
  some (List.replicate 32 0,st)
 else
 optE h_0 fun i1=>
 getE (st[i1]?) ZbH fun x2=>
 chk (List.length ([]++x2.rest)*1≤140737488355328)<|
 chk (List.length (([]++x2.rest) ++ [[L.int .u8 128]])*1≤140737488355328)<|
 loopN (Zai.p1 N i1 st x2) N (([]++x2.rest) ++ [[L.int .u8 128]])
noncomputable def Zai.p4.S (x53:Zao) (v54:Int) (out_55:List Int) (st51:LL):S:=mkS 94 [(2,sA 2),(6,sA 6),(61,.agg [.l (L.arr .u32 8 x53.state)]),(62,sI v54)] [(2,.cells [L.arr .u8 32 (List.replicate 32 0)]),(6,.cells [L.arr .u8 32 out_55])] st51
noncomputable def Zai.p3.S (st:LL) (tail_49 tail_50:Nat) (v43 st51:LL):S:=mkS 94 [(2,sA 2),(3,sP (some (List.length st))),(4,.one (.h (.row 22 0) 1 tail_49 tail_50))] [(2,.cells [L.arr .u8 32 (List.replicate 32 0)]),(22,.row 0 false 1 v43)] st51
noncomputable def Zai.p2.S (i1:Nat) (st v43:LL) (i_30:Int) (x2:Zao):S:=mkS 94 [(0,sP (some i1)),(2,sA 2),(3,sP (some (List.length st))),(4,.one (.h (.row 22 0) 1 0 (List.length v43))),(5,sI i_30)] [(2,.cells [L.arr .u8 32 (List.replicate 32 0)]),(22,.row 0 false 1 v43)] (st ++ [Zao.lo (Zao.mk x2.state [] 0)])
noncomputable def Zai.p1.S (i1:Nat) (st v29:LL) (x2:Zao):S:=mkS 94 [(0,sP (some i1)),(2,sA 2),(3,sP (some (List.length st))),(4,.one (.h (.row 22 0) 1 0 (List.length v29)))] [(2,.cells [L.arr .u8 32 (List.replicate 32 0)]),(22,.row 0 false 1 v29)] (st ++ [Zao.lo (Zao.mk x2.state [] 0)])
theorem Zai.p4_ok {x53 v54 out_55 st51 r c4_ J4} (h:Zai.p4 N x53 st51 c4_ (v54,out_55)=some r) (hE:En Tryz.f212 g0 w0 (Zai.rs r) r.2 R) (hc4 : ∀v54 out_55,c4_ (v54,out_55)=some r→At g0 w0 (Zai.p4.S x53 v54 out_55 st51) J4):At g0 w0 (Zai.p4.S x53 v54 out_55 st51) (XK Tryz.prog R (.c (csub Zai.B [1,1,1,1,1,1,1,1,1,0,1,0,0]) :: .h J4 :: [.b 6,.c (csub Zai.B [1,1,1,1,1,1,1,1,1,1])])):=by
 unfold Zai.p4 at h
 refine iteB h (fun c212 h1=>?_) (fun c212 h2=>?_)
 ·obtain ⟨c213,c214,c215,c216,c217,c218,c219,c220,h3⟩:=ck8 h1
  obtain ⟨c221,h4⟩:=ZaN h3
  exact an fol [.r [],.c true,.r [],.r [],.r []] [2,6,61,62] [2,6] (aO c212 c213 (oD c212) (leI 0 24) (leI 0 16) (leI 0 8) c214 (aN c215 c216 c217 c218 c219 c220 c221)) (hc4 (w64 (v54+1)) (List.set (List.set (List.set (List.set out_55 (Int.toNat (w64 (4*v54))) (v8 (shrOf .u32 (List.getD x53.state (Int.toNat v54) 0) 24))) (Int.toNat (w64 ((w64 (4*v54))+1))) (v8 (shrOf .u32 (List.getD x53.state (Int.toNat v54) 0) 16))) (Int.toNat (w64 ((w64 (4*v54))+2))) (v8 (shrOf .u32 (List.getD x53.state (Int.toNat v54) 0) 8))) (Int.toNat (w64 ((w64 (4*v54))+3))) (v8 (List.getD x53.state (Int.toNat v54) 0))) h4)
 ·obtain rfl:=Zac h2
  exact af fol hE [.r [],.c false,.r []] [] 0 [] c212
theorem Zai.p3_ok {st tail_49 tail_50 v43 st51 r c3_ J3} (h:Zai.p3 N st v43 c3_ (tail_49,tail_50,st51)=some r) (hE:En Tryz.f212 g0 w0 (Zai.rs r) r.2 R) (hc3 : ∀tail_49 tail_50 st51,c3_ (tail_49,tail_50,st51)=some r→At g0 w0 (Zai.p3.S st tail_49 tail_50 v43 st51) J3):At g0 w0 (Zai.p3.S st tail_49 tail_50 v43 st51) (XK Tryz.prog R (.c (csub Zai.B [1,1,1,1,1,1,1,0,0,0]) :: .h J3 :: [.b 4,.c (csub Zai.B [1,1,1,1,1,1,1,1])])):=by
 unfold Zai.p3 at h
 refine iteB h (fun c197 h5=>?_) (fun c197 h6=>?_)
 ·obtain ⟨c198,h7⟩:=ZaN h5
  obtain ⟨st52,c199,h8⟩:=Zad h7
  obtain ⟨c200,h9⟩:=ZaN h8
  exact an fol [.r [],.c true,.r [(2,{m:=9}),(3,{st:=st52,wm:=3,fz:=[22]})],.r []] [2,3,4] [2,22] (aO c197 (leI 0 64) (leN 0 64) c198 c198 (Zae.snd c199) (leI 0 64) (aI c200 (Nat.le_refl (tail_50)))) (hc3 (tail_49+64) (tail_50-64) st52 h9)
 ·obtain ⟨x53,c201,h10⟩:=ZbS h6
  exact aq fol [.r [],.c false,.r [],.r [(3,{oc:=x53.lo})]] [2,6,61,62] [2,6] (aI c197 c201) (At.loop N (At.loopN (fun y:Int×(List Int)=>Zai.p4.S x53 y.1 y.2 st51) (fun c J hc y h=>Zai.p4_ok (v54:=y.1) (out_55:=y.2) h hE (fun v54 out_55=>hc (v54,out_55))) N (0,List.replicate 32 0) h10))
theorem Zai.p2_ok {i1 st v43 i_30 x2 r c2_ J2} (h:Zai.p2 N i1 st x2 c2_ (v43,i_30)=some r) (hE:En Tryz.f212 g0 w0 (Zai.rs r) r.2 R) (hc2 : ∀v43 i_30,c2_ (v43,i_30)=some r→At g0 w0 (Zai.p2.S i1 st v43 i_30 x2) J2):At g0 w0 (Zai.p2.S i1 st v43 i_30 x2) (XK Tryz.prog R (.c (csub Zai.B [1,1,1,1,1,1,0,1,0,0]) :: .h J2 :: [.b 2,.c (csub Zai.B [1,1,1,1,1,1,1])])):=by
 unfold Zai.p2 at h
 refine iteB h (fun c169 h11=>?_) (fun c169 h12=>?_)
 ·obtain ⟨x44,c170,h13⟩:=ZbS h11
  obtain ⟨c171,c172,h14⟩:=ck2 h13
  exact an fol [.r [],.c true,.r [(4,{oc:=x44.lo})],.r []] [0,2,3,4,5] [2,22] (aO c169 c170 c171 z0 (eN (List.length v43)) z0 (eN (1)) c172) (hc2 (v43 ++ [[L.int .u8 (v8 (shrOf .u64 (v64 (x44.size*8)) (w64 (8*i_30))))]]) (w64 (i_30-1)) h14)
 ·exact aq fol [.r [],.c false] [2,3,4] [2,22] c169 (At.loop N (At.loopN (fun y:Nat×Nat×LL=>Zai.p3.S st y.1 y.2.1 v43 y.2.2) (fun c J hc y h=>Zai.p3_ok (tail_49:=y.1) (tail_50:=y.2.1) (st51:=y.2.2) h hE (fun tail_49 tail_50 st51=>hc (tail_49,tail_50,st51))) N (0,List.length v43,st ++ [Zao.lo (Zao.mk x2.state [] 0)]) h12))
theorem Zai.p1_ok {i1 st v29 x2 r c1_ J1} (h:Zai.p1 N i1 st x2 c1_ v29=some r) (hE:En Tryz.f212 g0 w0 (Zai.rs r) r.2 R) (hc1 : ∀v29,c1_ v29=some r→At g0 w0 (Zai.p1.S i1 st v29 x2) J1):At g0 w0 (Zai.p1.S i1 st v29 x2) (XK Tryz.prog R (.c (csub Zai.B [1,1,1,1,1,0,0,0]) :: .h J1 :: [.b 0,.c (csub Zai.B [1,1,1,1,1,1])])):=by
 unfold Zai.p1 at h
 refine iteB h (fun c114 h15=>?_) (fun c114 h16=>?_)
 ·obtain ⟨c115,h17⟩:=ZaN h15
  exact an fol [.r [],.c true,.r []] [0,2,3,4] [2,22] (aN (neI 64) c114 z0 (eN (List.length v29)) z0 (eN (1)) c115) (hc1 (v29 ++ [[L.int .u8 0]]) h17)
 ·exact aq fol [.r [],.c false,.r []] [0,2,3,4,5] [2,22] (aI (neI 64) c114) (At.loop N (At.loopN (fun y:LL×Int=>Zai.p2.S i1 st y.1 y.2 x2) (fun c J hc y h=>Zai.p2_ok (v43:=y.1) (i_30:=y.2) h hE (fun v43 i_30=>hc (v43,i_30))) N (v29,7) h16))
theorem Zai.snd {h_0:Option Nat} {st:LL} {r:(List Int)×LL} (h:Zai N h_0 st=some r):Snd Tryz.prog 212 [.one (L.ptr h_0)] st (Zai.rs r) r.2:=
 sO Zai.B Tryz.func212 fun g0 w0 R hE=>by
  unfold Zai at h
  refine iteB h (fun c1 h18=>?_) (fun c1 h19=>?_)
  ·obtain rfl:=Zac h18
   exact af fol hE [.r [],.r [],.c true,.r []] [] 0 [] c1
  ·obtain ⟨i1,rfl,h20⟩:=Zad h19
   obtain ⟨x2,c3,h21⟩:=ZbS h20
   obtain ⟨c4,c5,h22⟩:=ck2 h21
   exact aq fol [.r [],.r [],.c false,.r [(3,{oc:=x2.lo}),(4,{mv:=[1]}),(5,{m:=1})],.r [(3,{oc:=x2.lo}),(4,{oc:=x2.lo}),(5,{fz:=[22]})],.r []] [0,2,3,4] [2,22] (aO c1 c3 (st_old c3 (Zao.lo (Zao.mk x2.state [] 0))) z0 (eN (List.length x2.rest)) (st_old c3 (Zao.lo (Zao.mk x2.state [] 0))) c4 (aL z0 (eN (List.length ([]++x2.rest))) z0 (eN (1)) c5)) (At.loop N (At.loopN (fun y:LL=>Zai.p1.S i1 st y x2) (fun c J hc y h=>Zai.p1_ok h hE (fun v29=>hc v29)) N (([]++x2.rest) ++ [[L.int .u8 128]]) h22))
noncomputable def Zdv.B:Code:=Tryz.f188.body.getD .skip
noncomputable def Zdv.rs (r:(List Int)×LL):List CV:=[.agg [L.arr .u8 32 r.1]]
noncomputable def Zdv (N:Nat) (parts_0 st:LL):Option ((List Int)×LL):=
 optE (ZdJ N st) fun (x1,st2)=>
 optE (Zaw N x1 parts_0 st2) fun st3=>
 optE (Zai N x1 st3) fun (x4,st5)=>
 some (x4,st5)
theorem Zdv.snd {parts_0:LL} {st:LL} {r:(List Int)×LL} (h:Zdv N parts_0 st=some r):Snd Tryz.prog 188 [.one (L.sl 1 parts_0)] st (Zdv.rs r) r.2:=
 sO Zdv.B Tryz.func188 fun g0 w0 R hE=>by
  unfold Zdv at h
  obtain ⟨⟨x1,st2⟩,c1,h1⟩:=Zad h
  obtain ⟨st3,c2,h2⟩:=Zad h1
  obtain ⟨⟨x4,st5⟩,c3,h3⟩:=Zad h2
  obtain rfl:=Zac h3
  exact af fol hE [.r [],.r [(0,{rs:=[.one (L.ptr x1)],st:=st2})],.r [(2,{st:=st3})],.r [(1,{rs:=[.agg [L.arr .u8 32 x4]],st:=st5})]] [] 0 [] (aJ (ZdJ.snd c1) (Zaw.snd c2) (Zai.snd c3))
noncomputable def Zcu.B:Code:=Tryz.f148.body.getD .skip
noncomputable def Zcu.rs (r:(List Int)×LL):List CV:=[.agg [L.arr .u8 32 r.1]]
noncomputable def Zcu (N:Nat) (parts_0 st:LL):Option ((List Int)×LL):=
 optE (Zdv N parts_0 st) fun (x1,st2)=>
 optE (Zdv N [[L.str (istr x1)]] st2) fun (x3,st4)=>
 some (x3,st4)
theorem Zcu.snd {parts_0:LL} {st:LL} {r:(List Int)×LL} (h:Zcu N parts_0 st=some r):Snd Tryz.prog 148 [.one (L.sl 1 parts_0)] st (Zcu.rs r) r.2:=
 sO Zcu.B Tryz.func148 fun g0 w0 R hE=>by
  unfold Zcu at h
  obtain ⟨⟨x1,st2⟩,c1,h1⟩:=Zad h
  obtain ⟨⟨x3,st4⟩,c2,h2⟩:=Zad h1
  obtain rfl:=Zac h2
  exact af fol hE [.r [],.r [(1,{rs:=[.agg [L.arr .u8 32 x1]],st:=st2})],.r [(3,{rs:=[.agg [L.arr .u8 32 x3]],st:=st4,fz:=[8]})]] [] 0 [] (aM (Zdv.snd c1) (leN 0 32) (leN 32 32) z0 (eN (1)) (Zdv.snd c2))
noncomputable def Zdo.B:Code:=Tryz.f91.body.getD .skip
noncomputable def Zdo.rs (r:(List Int)×LL):List CV:=[.agg [L.arr .u8 32 r.1]]
noncomputable def Zdo (N:Nat) (h_0:Zaa) (st:LL):Option ((List Int)×LL):=
 optE (ZcF N h_0 st) fun (x1,x2,st3)=>
 if (x2 != 0)=true then
  some (List.replicate 32 0,st3)
 else
 optE (Zcu N [[L.str x1]] st3) fun (x4,st5)=>
 some (x4,st5)
theorem Zdo.snd {h_0:Zaa} {st:LL} {r:(List Int)×LL} (h:Zdo N h_0 st=some r):Snd Tryz.prog 91 [.agg h_0.ls] st (Zdo.rs r) r.2:=
 sO Zdo.B Tryz.func91 fun g0 w0 R hE=>by
  unfold Zdo at h
  obtain ⟨⟨x1,x2,st3⟩,c1,h1⟩:=Zad h
  let o1:List PS:=[.r [],.r [(1,{rs:=[.one (L.str x1),oI x2],st:=st3})],.r []]
  refine iteB h1 (fun c2 h2=>?_) (fun c2 h3=>?_)
  ·obtain rfl:=Zac h2
   exact af fol hE (o1 ++ [.c true,.r []]) [] 0 [] (aI (ZcF.snd c1) c2)
  ·obtain ⟨⟨x4,st5⟩,c3,h4⟩:=Zad h3
   obtain rfl:=Zac h4
   exact af fol hE (o1 ++ [.c false,.r [(2,{rs:=[.agg [L.arr .u8 32 x4]],st:=st5,fz:=[14]})]]) [] 0 [] (aL (ZcF.snd c1) c2 z0 (eN (1)) (Zcu.snd c3))
noncomputable def ZaK.B:Code:=Tryz.f156.body.getD .skip
noncomputable def ZaK.rs (r:LL):List CV:=[]
noncomputable def ZaK.p1 (N:Nat) (times_1:LL) (c1_:((Option Nat)×Int×LL)→Option LL):((Option Nat)×Int×LL)→Option LL:=fun (w_5,v1,st6)=>
 if (decide (v1<(len times_1)))=true then
  chk (0≤v1)<|
  getE (times_1[Int.toNat v1]?) Zej fun x7=>
  optE w_5 fun i8=>
  getE (st6[i8]?) ZfR fun x9=>
  chk (0≤(if (10:Int)<(len x9) then 10 else (len x9)))<|
  chk ((Int.toNat (if (10:Int)<(len x9) then 10 else (len x9)))≤(List.length x9))<|
  chk (List.length ([[L.int .i64 x7]]++(List.take (Int.toNat (if (10:Int)<(len x9) then 10 else (len x9))) x9))*8≤140737488355328)<|
  c1_ ((some i8),w64 (v1+1),List.set st6 i8 [L.own true 1 ([[L.int .i64 x7]]++(List.take (Int.toNat (if (10:Int)<(len x9) then 10 else (len x9))) x9))])
 else
 some st6
noncomputable def ZaK (N:Nat) (w_0:Option Nat) (times_1 st:LL):Option LL:=
 if (Option.isNone w_0)=true then
  some st
 else
 loopN (ZaK.p1 N times_1) N (w_0,0,st)
noncomputable def ZaK.p1.S (w_5:Option Nat) (times_1:LL) (v1:Int) (st6:LL):S:=mkS 32 [(0,sP w_5),(8,sV 1 times_1),(9,sI (len times_1)),(10,sI v1)] [] st6
theorem ZaK.p1_ok {w_5 times_1 v1 st6 r c1_ J1} (h:ZaK.p1 N times_1 c1_ (w_5,v1,st6)=some r) (hE:En Tryz.f156 g0 w0 (ZaK.rs r) r R) (hc1 : ∀w_5 v1 st6,c1_ (w_5,v1,st6)=some r→At g0 w0 (ZaK.p1.S w_5 times_1 v1 st6) J1):At g0 w0 (ZaK.p1.S w_5 times_1 v1 st6) (XK Tryz.prog R (.c (csub ZaK.B [1,1,0,0]) :: .h J1 :: [.b 0])):=by
 unfold ZaK.p1 at h
 refine iteB h (fun c10 h1=>?_) (fun c10 h2=>?_)
 ·obtain ⟨c11,h3⟩:=ZaN h1
  obtain ⟨x7,c12,h4⟩:=Zdh h3
  obtain ⟨i8,rfl,h5⟩:=Zad h4
  obtain ⟨x9,c14,h6⟩:=Zep h5
  obtain ⟨c15,c16,c17,h7⟩:=ck3 h6
  exact and_ fol [.r [],.c true,.r [(1,{oe:=[L.int .i64 x7]})],.d {ds:=[(6,{oc:=[L.own true 1 x9]}),(10,{oc:=[L.own true 1 x9]}),(13,{oc:=[L.own true 1 x9]}),(14,{oc:=[L.own true 1 x9],wm:=2}),(17,{oc:=[L.own true 1 x9],mv:=[16]})],hv:=147460,Hs:=[4,16388,147460]},.r []] [0,8,9,10] [] (aO c10 c11 (oD c10) c12 c14 c14 c14 (aO c14 c15 (Nat.zero_le (Int.toNat (if (10:Int)<(len x9) then 10 else (len x9)))) c16 c14 c15 (Nat.zero_le (Int.toNat (if (10:Int)<(len x9) then 10 else (len x9)))) (aO c16 c14 z0 (eN (1)) z0 c16 c14 (aK c17 c14 z0 (eN (List.length ([[L.int .i64 x7]]++(List.take (Int.toNat (if (10:Int)<(len x9) then 10 else (len x9))) x9)))))))) (hc1 (some i8) (w64 (v1+1)) (List.set st6 i8 [L.own true 1 ([[L.int .i64 x7]]++(List.take (Int.toNat (if (10:Int)<(len x9) then 10 else (len x9))) x9))]) h7)
 ·obtain rfl:=Zac h2
  exact af fol hE [.r [],.c false] [] 0 [] c10
theorem ZaK.snd {w_0:Option Nat} {times_1:LL} {st:LL} {r:LL} (h:ZaK N w_0 times_1 st=some r):Snd Tryz.prog 156 [.one (L.ptr w_0),.one (L.sl 1 times_1)] st (ZaK.rs r) r:=
 sO ZaK.B Tryz.func156 fun g0 w0 R hE=>by
  unfold ZaK at h
  refine iteB h (fun c1 h8=>?_) (fun c1 h9=>?_)
  ·obtain rfl:=Zac h8
   exact af fol hE [.r [],.c true] [] 0 [] c1
  ·exact aq fol [.r [],.c false,.r []] [0,8,9,10] [] c1 (At.loop N (At.loopN (fun y:(Option Nat)×Int×LL=>ZaK.p1.S y.1 times_1 y.2.1 y.2.2) (fun c J hc y h=>ZaK.p1_ok (w_5:=y.1) (v1:=y.2.1) (st6:=y.2.2) h hE (fun w_5 v1 st6=>hc (w_5,v1,st6))) N (w_0,0,st) h9))
noncomputable def ZcE.B:Code:=Tryz.f157.body.getD .skip
noncomputable def ZcE.rs (r:LL×LL):List CV:=[.row true 1 r.1]
noncomputable def ZcE (N:Nat) (w_0:Option Nat) (st:LL):Option (LL×LL):=
 if (Option.isNone w_0)=true then
  some ([],st)
 else
 optE w_0 fun i1=>
 getE (st[i1]?) ZfR fun x2=>
 optE (Zbp N x2) fun x3=>
 chk (plainRow x3=true)<|
 some (x3,st)
theorem ZcE.snd {w_0:Option Nat} {st:LL} {r:LL×LL} (h:ZcE N w_0 st=some r):Snd Tryz.prog 157 [.one (L.ptr w_0)] st (ZcE.rs r) r.2:=
 sO ZcE.B Tryz.func157 fun g0 w0 R hE=>by
  unfold ZcE at h
  refine iteB h (fun c1 h1=>?_) (fun c1 h2=>?_)
  ·obtain rfl:=Zac h1
   exact af fol hE [.r [(0,{m:=2})],.r [],.c true,.r [(0,{m:=2})]] [] 0 [0] c1
  ·obtain ⟨i1,rfl,h3⟩:=Zad h2
   obtain ⟨x2,c3,h4⟩:=Zep h3
   obtain ⟨x3,c4,h5⟩:=Zad h4
   obtain ⟨c5,h6⟩:=ZaN h5
   obtain rfl:=Zac h6
   exact af fol hE [.r [(0,{m:=2})],.r [],.c false,.r [(3,{oc:=[L.own true 1 x2]}),(4,{oc:=[L.own true 1 x2],rs:=[.row true 1 x3],ns:=[9],m:=2})]] [] 0 [0] (aO c1 c3 z0 (eN (List.length x2)) c3 c5 (Zbp.snd c4) (aI z0 (eN (List.length x3))))
noncomputable def ZcD.B:Code:=Tryz.f155.body.getD .skip
noncomputable def ZcD.rs (r:Bool):List CV:=[oB r]
noncomputable def ZcD (N:Nat) (p_0:Zag) (height_1:Int):Option Bool:=
 if (decide (p_0.Interval>0))=true then
  chk (p_0.Interval≠0)<|
  some ((Int.tmod height_1 p_0.Interval)==0)
 else
 some false
theorem ZcD.snd {p_0:Zag} {height_1:Int} {r:Bool} (h:ZcD N p_0 height_1=some r):SndQ Tryz.prog 155 [.agg p_0.ls,oI height_1] (ZcD.rs r):=fun st=>
 sO ZcD.B Tryz.func155 fun g0 w0 R hE=>by
  unfold ZcD at h
  refine iteB h (fun c1 h1=>?_) (fun c1 h2=>?_)
  ·obtain ⟨c2,h3⟩:=ZaN h1
   obtain rfl:=Zac h3
   exact af fol hE [.r [],.r []] [] 0 [] (aN c1 c1 c1 c1 c2 c1 c1)
  ·obtain rfl:=Zac h2
   exact af fol hE [.r [],.r [(4,wF),(5,wF),(6,wF),(7,wF),(8,wF),(9,yF)]] [] 0 [] (aM c1 c1 c1 c1 c1 c1)
noncomputable def ZbK.B:Code:=Tryz.f157.body.getD .skip
noncomputable def ZbK.rs (r:LL):List CV:=[.row true 1 r]
noncomputable def ZbK (N:Nat) (w_0:LL):Option LL:=
 optE (Zbp N w_0) fun x1=>
 some x1
theorem ZbK.snd {w_0:LL} {r:LL} (h:ZbK N w_0=some r):SndQ Tryz.prog 157 [.one (L.bx 1 [L.sl 1 w_0])] (ZbK.rs r):=fun st=>
 sO ZbK.B Tryz.func157 fun g0 w0 R hE=>by
  unfold ZbK at h
  obtain ⟨x1,c1,h1⟩:=Zad h
  obtain rfl:=Zac h1
  exact af fol hE [.r [(0,{m:=2})],.r [],.c false,.r [(3,{oe:=[L.sl 1 w_0]}),(4,{rs:=[.row true 1 x1],ns:=[9],m:=1})]] [] 0 [0] (aL eF (eO [L.sl 1 w_0]) (Zbp.snd c1) z0 (eN (List.length x1)))
noncomputable def ZaG.B:Code:=Tryz.f93.body.getD .skip
noncomputable def ZaG.rs (r:Zax×LL):List CV:=[.agg r.1.ls]
noncomputable def ZaG.p3 (N:Nat) (st2:LL) (at_1:Zax) (h_2:Zaa) (out_8:Zax) (c3_:(Int×LL)→Option (Zax×LL)):(Int×LL)→Option (Zax×LL):=fun (i_9,st15)=>
 if (decide (i_9≥0))=true then
  chk (0≤i_9)<|
  chk (i_9<(len at_1.Times))<|
  getE (at_1.Times[Int.toNat i_9]?) Zej fun x16=>
  optE (ZaK N (some (List.length st2)) [[L.int .i64 x16]] st15) fun st17=>
  c3_ (w64 (i_9-1),st17)
 else
 optE (ZaK N (some (List.length st2)) [[L.int .i64 h_2.Time]] st15) fun st18=>
 getE (st18[List.length st2]?) ZfR fun x19=>
 optE (ZbK N x19) fun x20=>
 chk (plainRow x20=true)<|
 some ({out_8 with Times:=x20},st18)
noncomputable def ZaG.p2 (N:Nat) (at_1:Zax) (h_2:Zaa) (out_8:Zax) (st2:LL):Option (Zax×LL):=
 loopN (ZaG.p3 N st2 at_1 h_2 out_8) N (w64 ((if (11:Int)<(len at_1.Times) then 11 else (len at_1.Times))-1),st2 ++ [[L.own true 1 []]])
noncomputable def ZaG.p1 (N:Nat) (p_0:Zag) (at_1:Zax) (h_2:Zaa) (out_5:Zax) (st2:LL):Option (Zax×LL):=
 if p_0.Easy=true then
  if (h_2.Bits==p_0.Limit)=true then
   optE (ZcD N p_0 at_1.Point.Height) fun x6=>
   if (!x6)=true then
    ZaG.p2 N at_1 h_2 {out_5 with Point:={out_5.Point with Hard:=at_1.Point.Hard}} st2
   else
   ZaG.p2 N at_1 h_2 out_5 st2
  else
  ZaG.p2 N at_1 h_2 out_5 st2
 else
 ZaG.p2 N at_1 h_2 out_5 st2
noncomputable def ZaG (N:Nat) (p_0:Zag) (at_1:Zax) (h_2:Zaa) (st:LL):Option (Zax×LL):=
 optE (Zdo N h_2 st) fun (x1,st2)=>
 optE (ZcD N p_0 at_1.Point.Height) fun x3=>
 if x3=true then
  ZaG.p1 N p_0 at_1 h_2 (Zax.mk (Zbb.mk (w64 (at_1.Point.Height+1)) h_2.Bits h_2.Time h_2.Time h_2.Bits) x1 []) st2
 else
 ZaG.p1 N p_0 at_1 h_2 (Zax.mk (Zbb.mk (w64 (at_1.Point.Height+1)) h_2.Bits h_2.Time at_1.Point.First h_2.Bits) x1 []) st2
noncomputable def ZaG.p3.S (st2:LL) (i_9:Int) (at_1:Zax) (h_2:Zaa) (out_8:Zax) (st15:LL):S:=mkS 81 [(4,sA 4),(5,sA 5),(6,sA 6),(7,sA 7),(8,sP (some (List.length st2))),(9,sI i_9)] [(4,.cells at_1.ls),(5,.cells h_2.ls),(6,.cells [L.int .i64 0,L.int .i64 0,L.int .i64 0,L.int .i64 0,L.int .i64 0,L.arr .u8 32 (List.replicate 32 0),L.own true 1 []]),(7,.cells out_8.ls)] st15
noncomputable def ZaG.p2.S (at_1:Zax) (h_2:Zaa) (out_8:Zax) (st2:LL):S:=mkS 81 [(4,sA 4),(5,sA 5),(6,sA 6),(7,sA 7)] [(4,.cells at_1.ls),(5,.cells h_2.ls),(6,.cells [L.int .i64 0,L.int .i64 0,L.int .i64 0,L.int .i64 0,L.int .i64 0,L.arr .u8 32 (List.replicate 32 0),L.own true 1 []]),(7,.cells out_8.ls)] st2
noncomputable def ZaG.p1.S (p_0:Zag) (at_1:Zax) (h_2:Zaa) (out_5:Zax) (st2:LL):S:=mkS 81 [(3,sA 3),(4,sA 4),(5,sA 5),(6,sA 6),(7,sA 7)] [(3,.cells p_0.ls),(4,.cells at_1.ls),(5,.cells h_2.ls),(6,.cells [L.int .i64 0,L.int .i64 0,L.int .i64 0,L.int .i64 0,L.int .i64 0,L.arr .u8 32 (List.replicate 32 0),L.own true 1 []]),(7,.cells out_5.ls)] st2
theorem ZaG.p3_ok {st2 i_9 at_1 h_2 out_8 st15 r c3_ J3} (h:ZaG.p3 N st2 at_1 h_2 out_8 c3_ (i_9,st15)=some r) (hE:En Tryz.f93 g0 w0 (ZaG.rs r) r.2 R) (hc3 : ∀i_9 st15,c3_ (i_9,st15)=some r→At g0 w0 (ZaG.p3.S st2 i_9 at_1 h_2 out_8 st15) J3):At g0 w0 (ZaG.p3.S st2 i_9 at_1 h_2 out_8 st15) (XK Tryz.prog R (.c (csub ZaG.B [1,1,1,1,1,0,1,0,0]) :: .h J3 :: [.b 0,.c (csub ZaG.B [1,1,1,1,1,1])])):=by
 unfold ZaG.p3 at h
 refine iteB h (fun c17 h1=>?_) (fun c17 h2=>?_)
 ·obtain ⟨c18,c19,h3⟩:=ck2 h1
  obtain ⟨x16,c20,h4⟩:=Zdh h3
  obtain ⟨st17,c21,h5⟩:=Zad h4
  exact an fol [.r [],.c true,.r [(4,{oe:=[L.int .i64 x16]}),(6,{st:=st17,fz:=[72]})],.r []] [4,5,6,7,8,9] [4,5,6,7] (aN c17 c18 c19 c20 z0 (eN (1)) (ZaK.snd c21)) (hc3 (w64 (i_9-1)) st17 h5)
 ·obtain ⟨st18,c22,h6⟩:=Zad h2
  obtain ⟨x19,c23,h7⟩:=Zep h6
  obtain ⟨x20,c24,h8⟩:=Zad h7
  obtain ⟨c25,h9⟩:=ZaN h8
  obtain rfl:=Zac h9
  exact af fol hE [.r [],.c false,.r [(3,{st:=st18,fz:=[76]})],.r [(0,{rs:=[.row true 1 x20],ns:=[78],m:=10,cv:=[.one (L.bx 1 [L.sl 1 x19])]}),(2,{fz:=[78]})],.r []] [] 0 [] (aO c17 z0 (eN (1)) (ZaK.snd c22) (bO 1 c23 ((bW bN):BVs st18 [L.own true 1 x19] [L.sl 1 x19])) c25 (ZbK.snd c24) (aI z0 (eN (List.length x20))))
theorem ZaG.p2_ok {at_1 h_2 out_8 st2 r} (h:ZaG.p2 N at_1 h_2 out_8 st2=some r) (hE:En Tryz.f93 g0 w0 (ZaG.rs r) r.2 R):At g0 w0 (ZaG.p2.S at_1 h_2 out_8 st2) (XK Tryz.prog R [.c (csub ZaG.B [1,1,1,1])]):=by
 unfold ZaG.p2 at h
 exact aq fol [.r [(0,{m:=1})],.r []] [4,5,6,7,8,9] [4,5,6,7] trivial (At.loop N (At.loopN (fun y:Int×LL=>ZaG.p3.S st2 y.1 at_1 h_2 out_8 y.2) (fun c J hc y h=>ZaG.p3_ok (i_9:=y.1) (st15:=y.2) h hE (fun i_9 st15=>hc (i_9,st15))) N (w64 ((if (11:Int)<(len at_1.Times) then 11 else (len at_1.Times))-1),st2 ++ [[L.own true 1 []]]) h))
theorem ZaG.p1_ok {p_0 at_1 h_2 out_5 st2 r} (h:ZaG.p1 N p_0 at_1 h_2 out_5 st2=some r) (hE:En Tryz.f93 g0 w0 (ZaG.rs r) r.2 R):At g0 w0 (ZaG.p1.S p_0 at_1 h_2 out_5 st2) (XK Tryz.prog R [.c (csub ZaG.B [1,1,1])]):=by
 unfold ZaG.p1 at h
 refine iteB h (fun c4 h10=>?_) (fun c4 h11=>?_)
 ·have t1 {Q:Prop} (q:Q):=aN c4 c4 c4 c4 c4 c4 q
  refine iteB h10 (fun c5 h12=>?_) (fun c5 h13=>?_)
  ·obtain ⟨x6,c6,h14⟩:=Zad h12
   let o1:List PS:=[.r [(14,q1 [oB x6])]]
   have t2 {Q:Prop} (q:Q):=t1 (aO c5 c5 c5 c5 c5 (ZcD.snd c6) c5 (aI c5 q))
   refine iteB h14 (fun c7 h15=>?_) (fun c7 h16=>?_)
   ·exact aq fol (o1 ++ [.c true,.r [],.s 1]) [4,5,6,7] [4,5,6,7] (t2 c7) (ZaG.p2_ok h15 hE)
   ·exact aq fol (o1 ++ [.c false,.s 1]) [4,5,6,7] [4,5,6,7] (t2 c7) (ZaG.p2_ok h16 hE)
  ·exact aq fol [.r [(10,wF),(11,wF),(12,wF),(13,wF),(14,wF),(15,wF),(16,yF)],.c false,.s 1] [4,5,6,7] [4,5,6,7] (t1 (aO c5 c5 c5 c5 c5 c5 c5 eF)) (ZaG.p2_ok h13 hE)
 ·exact aq fol [.r [(3,wF),(4,wF),(5,wF),(6,wF),(7,wF),(8,yF),(10,wF),(11,wF),(12,wF),(13,wF),(14,wF),(15,wF),(16,yF)],.c false,.s 1] [4,5,6,7] [4,5,6,7] (aO c4 c4 c4 c4 c4 c4 eF (aN eF eF eF eF eF eF eF)) (ZaG.p2_ok h11 hE)
theorem ZaG.snd {p_0:Zag} {at_1:Zax} {h_2:Zaa} {st:LL} {r:Zax×LL} (h:ZaG N p_0 at_1 h_2 st=some r):Snd Tryz.prog 93 [.agg p_0.ls,.agg at_1.ls,.agg h_2.ls] st (ZaG.rs r) r.2:=
 sO ZaG.B Tryz.func93 fun g0 w0 R hE=>by
  unfold ZaG at h
  obtain ⟨⟨x1,st2⟩,c1,h17⟩:=Zad h
  obtain ⟨x3,c2,h18⟩:=Zad h17
  let o2:List PS:=[.r [],.d {ds:=[(15,{rs:=[.agg [L.arr .u8 32 x1]],st:=st2})],hv:=425984,Hs:=[32768,131072,163840,425984]},.r [(4,q1 [oB x3])]]
  have t3 {Q:Prop} (q:Q):=aK (Zdo.snd c1) (Zdo.snd c1) (ZcD.snd c2) q
  refine iteB h18 (fun c3 h19=>?_) (fun c3 h20=>?_)
  ·exact aqd fol (o2 ++ [.c true,.r [],.s 1]) [3,4,5,6,7] [3,4,5,6,7] (t3 c3) (ZaG.p1_ok h19 hE)
  ·exact aqd fol (o2 ++ [.c false,.s 1]) [3,4,5,6,7] [3,4,5,6,7] (t3 c3) (ZaG.p1_ok h20 hE)
noncomputable def ZdH.B:Code:=Tryz.f89.body.getD .skip
noncomputable def ZdH.rs (r:Zax×LL):List CV:=[.agg r.1.ls]
noncomputable def ZdH (N:Nat) (p_0:Zag) (st:LL):Option (Zax×LL):=
 optE (ZaG N p_0 (Zax.mk (Zbb.mk 0 0 0 0 p_0.Limit) (List.replicate 32 0) []) p_0.Genesis st) fun (x1,st2)=>
 some (x1,st2)
theorem ZdH.snd {p_0:Zag} {st:LL} {r:Zax×LL} (h:ZdH N p_0 st=some r):Snd Tryz.prog 89 [.agg p_0.ls] st (ZdH.rs r) r.2:=
 sO ZdH.B Tryz.func89 fun g0 w0 R hE=>by
  unfold ZdH at h
  obtain ⟨⟨x1,st2⟩,c1,h1⟩:=Zad h
  obtain rfl:=Zac h1
  exact af fol hE [.r [],.r [(7,{rs:=[.agg x1.ls],st:=st2})]] [] 0 [] (ZaG.snd c1)
end Go.Dn.F
