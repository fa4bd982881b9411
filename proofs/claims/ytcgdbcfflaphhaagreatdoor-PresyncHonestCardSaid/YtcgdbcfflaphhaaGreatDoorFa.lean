/- Contracts of functions of the program, as shallow functions, and their proofs. -/
import Derived.Test.YtcgdbcfflaphhaaGreatDoorProg
import Derived.Test.YtcgdbcfflaphhaaGreatDoorKc
set_option linter.all false
set_option maxRecDepth 100000
namespace Go.Dn.F
open Go.Proofs
noncomputable def glob_digest_steps:List Int:=[1116352408,1899447441,3049323471,3921009573,961987163,1508970993,2453635748,2870763221,3624381080,310598401,607225278,1426881987,1925078388,2162078206,2614888103,3248222580,3835390401,4022224774,264347078,604807628,770255983,1249150122,1555081692,1996064986,2554220882,2821834349,2952996808,3210313671,3336571891,3584528711,113926993,338241895,666307205,773529912,1294757372,1396182291,1695183700,1986661051,2177026350,2456956037,2730485921,2820302411,3259730800,3345764771,3516065817,3600352804,4094571909,275423344,430227734,506948616,659060556,883997877,958139571,1322822218,1537002063,1747873779,1955562222,2024104815,2227730452,2361852424,2428436474,2756734187,3204031479,3329325298]
noncomputable def glob_digest_starts:List Int:=[1779033703,3144134277,1013904242,2773480762,1359893119,2600822924,528734635,1541459225]
noncomputable instance glob:Globs:=⟨fun k=>match k with
  | 0=>some [L.arr .u32 8 glob_digest_starts]
  | 1=>some [L.arr .u32 64 glob_digest_steps]
  | _=>none⟩
theorem fol:Tryz.prog.follows .mixedOrders=true:=by kernel_rfl
abbrev En (f:Func) (g0:G) (w0:World) (rs:List CV) (st:LL) (R:Exit→Act→World→Prop):Prop:=Ends Tryz.prog f g0 w0 rs st R
variable {N:Nat} {g0:G} {w0:World} {R:Exit→Act→World→Prop}
structure Zac where
  Version:Int
  Prev:List Int
  Root:List Int
  Time:Int
  Bits:Int
  Nonce:Int
noncomputable def Zac.ls (x:Zac):List L:=[L.int .i64 x.Version,L.arr .u8 32 x.Prev,L.arr .u8 32 x.Root,L.int .i64 x.Time,L.int .i64 x.Bits,L.int .i64 x.Nonce]
noncomputable def Zch {α:Type} (l:List L) (k:Zac→Option α):Option α:=match l with
  | [L.int .i64 x0,L.arr .u8 32 x1,L.arr .u8 32 x2,L.int .i64 x3,L.int .i64 x4,L.int .i64 x5]=>k ⟨x0,x1,x2,x3,x4,x5⟩
  | _=>none
theorem ZbX {α:Type} {o:Option (List L)} {k:Zac→Option α} {r:α} (h:getE o Zch k=some r) : ∃x:Zac,o=some x.ls∧k x=some r:=by
  obtain ⟨l,e,k1⟩:=Zae h;subst e;unfold Zch at k1;split at k1
  · exact ⟨_,rfl,k1⟩
  · cases k1
@[simp] theorem Zce {α:Type} (x:Zac) (k:Zac→Option α):Zch x.ls k=k x:=rfl
theorem Zac.bv {st:LL} (x:Zac):BVs st x.ls x.ls:=(bP (bP (bP (bP (bP (bP bN))))))
structure Zao where
  state:List Int
  rest:LL
  size:Int
noncomputable def Zao.lo (x:Zao):List L:=[L.arr .u32 8 x.state,L.own false 1 x.rest,L.int .u64 x.size]
noncomputable def ZbK {α:Type} (l:List L) (k:Zao→Option α):Option α:=match l with
  | [L.arr .u32 8 x0,L.own false 1 x1,L.int .u64 x2]=>k ⟨x0,x1,x2⟩
  | _=>none
theorem ZbU {α:Type} {o:Option (List L)} {k:Zao→Option α} {r:α} (h:getE o ZbK k=some r) : ∃x:Zao,o=some x.lo∧k x=some r:=by
  obtain ⟨l,e,k1⟩:=Zae h;subst e;unfold ZbK at k1;split at k1
  · exact ⟨_,rfl,k1⟩
  · cases k1
@[simp] theorem ZdK {α:Type} (x:Zao) (k:Zao→Option α):ZbK x.lo k=k x:=rfl
noncomputable def Zao.ls (x:Zao):List L:=[L.arr .u32 8 x.state,L.sl 1 x.rest,L.int .u64 x.size]
theorem Zao.bv {st:LL} (x:Zao):BVs st x.lo x.ls:=(bP (bW (bP bN)))
structure Zai where
  Limit:Int
  Interval:Int
  Spacing:Int
  Future:Int
  Easy:Bool
  Gates:LL
  Checks:LL
  MinWork:List Int
  Margin:List Int
  Genesis:Zac
noncomputable def Zai.ls (x:Zai):List L:=[L.int .i64 x.Limit,L.int .i64 x.Interval,L.int .i64 x.Spacing,L.int .i64 x.Future,L.bool x.Easy,L.sl 2 x.Gates,L.sl 33 x.Checks,L.arr .u64 4 x.MinWork,L.arr .u64 4 x.Margin,L.int .i64 x.Genesis.Version,L.arr .u8 32 x.Genesis.Prev,L.arr .u8 32 x.Genesis.Root,L.int .i64 x.Genesis.Time,L.int .i64 x.Genesis.Bits,L.int .i64 x.Genesis.Nonce]
structure ZaQ where
  Height:Int
  Bits:Int
  Time:Int
  First:Int
  Hard:Int
noncomputable def ZaQ.ls (x:ZaQ):List L:=[L.int .i64 x.Height,L.int .i64 x.Bits,L.int .i64 x.Time,L.int .i64 x.First,L.int .i64 x.Hard]
theorem ZaQ.bv {st:LL} (x:ZaQ):BVs st x.ls x.ls:=(bP (bP (bP (bP (bP bN)))))
structure Zat where
  Point:ZaQ
  Prev:List Int
  Times:LL
noncomputable def Zat.ls (x:Zat):List L:=[L.int .i64 x.Point.Height,L.int .i64 x.Point.Bits,L.int .i64 x.Point.Time,L.int .i64 x.Point.First,L.int .i64 x.Point.Hard,L.arr .u8 32 x.Prev,L.sl 1 x.Times]
noncomputable def Zat.lo (x:Zat):List L:=[L.int .i64 x.Point.Height,L.int .i64 x.Point.Bits,L.int .i64 x.Point.Time,L.int .i64 x.Point.First,L.int .i64 x.Point.Hard,L.arr .u8 32 x.Prev,L.own true 1 x.Times]
theorem Zat.bv {st:LL} (x:Zat):BVs st x.lo x.ls:=(bP (bP (bP (bP (bP (bP (bW bN)))))))
noncomputable def Zel {α:Type} (l:List L) (k:Int→Option α):Option α:=match l with
  | [L.int .i64 x0]=>k x0
  | _=>none
theorem Zdh {α:Type} {o:Option (List L)} {k:Int→Option α} {r:α} (h:getE o Zel k=some r) : ∃x0,o=some [L.int .i64 x0]∧k x0=some r:=by
  obtain ⟨l,e,k1⟩:=Zae h;subst e;unfold Zel at k1;split at k1
  · exact ⟨_,rfl,k1⟩
  · cases k1
@[simp] theorem Zdx {α:Type} (x0:Int) (k:Int→Option α):Zel [L.int .i64 x0] k=k x0:=rfl
noncomputable def ZfS {α:Type} (l:List L) (k:LL→Option α):Option α:=match l with
  | [L.own true 1 x0]=>k x0
  | _=>none
theorem Zeq {α:Type} {o:Option (List L)} {k:LL→Option α} {r:α} (h:getE o ZfS k=some r) : ∃x0,o=some [L.own true 1 x0]∧k x0=some r:=by
  obtain ⟨l,e,k1⟩:=Zae h;subst e;unfold ZfS at k1;split at k1
  · exact ⟨_,rfl,k1⟩
  · cases k1
@[simp] theorem Zfa {α:Type} (x0:LL) (k:LL→Option α):ZfS [L.own true 1 x0] k=k x0:=rfl
noncomputable def ZfF {α:Type} (l:List L) (k:(List Int)→Option α):Option α:=match l with
  | [L.arr .u8 32 x0]=>k x0
  | _=>none
theorem Zgt {α:Type} {o:Option (List L)} {k:(List Int)→Option α} {r:α} (h:getE o ZfF k=some r) : ∃x0,o=some [L.arr .u8 32 x0]∧k x0=some r:=by
  obtain ⟨l,e,k1⟩:=Zae h;subst e;unfold ZfF at k1;split at k1
  · exact ⟨_,rfl,k1⟩
  · cases k1
@[simp] theorem Zhb {α:Type} (x0:List Int) (k:(List Int)→Option α):ZfF [L.arr .u8 32 x0] k=k x0:=rfl
noncomputable def dec_t {α:Type} (l:List L) (k:ByteArray→Option α):Option α:=match l with
  | [L.str x0]=>k x0
  | _=>none
theorem ZmM {α:Type} {o:Option (List L)} {k:ByteArray→Option α} {r:α} (h:getE o dec_t k=some r) : ∃x0,o=some [L.str x0]∧k x0=some r:=by
  obtain ⟨l,e,k1⟩:=Zae h;subst e;unfold dec_t at k1;split at k1
  · exact ⟨_,rfl,k1⟩
  · cases k1
@[simp] theorem dec_t_ls {α:Type} (x0:ByteArray) (k:ByteArray→Option α):dec_t [L.str x0] k=k x0:=rfl
noncomputable def ZhQ {α:Type} (l:List L) (k:Int→Option α):Option α:=match l with
  | [L.int .u8 x0]=>k x0
  | _=>none
theorem ZfO {α:Type} {o:Option (List L)} {k:Int→Option α} {r:α} (h:getE o ZhQ k=some r) : ∃x0,o=some [L.int .u8 x0]∧k x0=some r:=by
  obtain ⟨l,e,k1⟩:=Zae h;subst e;unfold ZhQ at k1;split at k1
  · exact ⟨_,rfl,k1⟩
  · cases k1
@[simp] theorem Zgu {α:Type} (x0:Int) (k:Int→Option α):ZhQ [L.int .u8 x0] k=k x0:=rfl
noncomputable def Zbt.B:Code:=Tryz.f191.body.getD .skip
noncomputable def Zbt.rs (r:List (List L)):List CV:=[.row true 1 r]
noncomputable def Zbt (N:Nat) (s_0:List (List L)):Option (List (List L)):=chk (List.length s_0*8≤140737488355328) (some s_0)
theorem Zbt.snd {s_0:LL} {r:LL} (h:Zbt N s_0=some r):SndQ Tryz.prog 191 [.one (.sl 1 s_0)] (Zbt.rs r):=fun st=>
  Snd.of (fn:=Tryz.f191) (c:=Zbt.B) Tryz.func191 (by kernel_rfl) (by kernel_rfl) (of_decide_eq_true (by kernel_rfl)) fun g w R hE=>by
    unfold Zbt at h
    obtain ⟨c1,h⟩:=ZaO h
    obtain rfl:=Zad h
    refine At.q (s':=mkS 8 [(0,.one (.l (.sl 1 s_0)))] [] st) (ks':=[.c (.seq (.region 1 #[{ dst:=some 3,op:=.move (.tmp 0),type:=66,pos:=opPos (csub Zbt.B [1,0]) 0,after:=#[],guard:=none},{ dst:=some 4,op:=.binOp .eql 66 (.tmp 3) (.const (.slice none 0 0)) 66,type:=4,pos:=opPos (csub Zbt.B [1,0]) 1,after:=#[⟨0,.data⟩],guard:=none}] false) (csub Zbt.B [1,0,1])),.c (csub Zbt.B [1,1])]) fol 400 [.r [(0,{m:=2})],.s 2] [0] [] trivial ?_ (by kernel_rfl)
    refine At.nilcmp (T:=66) (E:=3) (sz:=1) (xs:=s_0) (Zfg _) rfl rfl rfl rfl rfl rfl Tryz.underlying66 (by kernel_rfl) (of_decide_eq_true (by kernel_rfl)) fun b hb=>?_
    cases b with
    | true=>
      obtain rfl:=hb rfl
      exact At.f fol hE 400 [.c true,.r [(0,{m:=2})]] [] 0 [0] (rfl:true=true) (by kernel_rfl)
    | false=>
      exact At.f fol hE 400 [.c false,.r []] [] 0 [0] (And.intro (rfl:false=false) (And.intro (rfl:(0:Nat)=0) (And.intro (@rfl Nat (List.length ([]:List (List L)))) (And.intro c1 (And.intro (rfl:(0:Nat)=0) (@rfl Nat (List.length s_0))))))) (by kernel_rfl)
noncomputable def ZcG.B:Code:=Tryz.f146.body.getD .skip
noncomputable def ZcG.rs (r:Bool):List CV:=[oB r]
noncomputable def ZcG (N:Nat) (bits_0:Int):Option Bool:=
 if (decide (bits_0≥0))=true then
  some (decide (bits_0≤4294967295))
 else
 some false
theorem ZcG.snd {bits_0:Int} {r:Bool} (h:ZcG N bits_0=some r):SndQ Tryz.prog 146 [oI bits_0] (ZcG.rs r):=fun st=>
 sO ZcG.B Tryz.func146 fun g0 w0 R hE=>by
  unfold ZcG at h
  refine iteB h (fun c1 h1=>?_) (fun c1 h2=>?_)
  ·obtain rfl:=Zad h1
   exact af fol hE [.r [],.r []] [] 0 [] (aJ c1 c1 c1)
  ·obtain rfl:=Zad h2
   exact af fol hE [.r [],.r [(3,wF),(4,wF),(5,yF)]] [] 0 [] (aJ c1 c1 c1)
noncomputable def Zcg.B:Code:=Tryz.f90.body.getD .skip
noncomputable def Zcg.rs (r:Bool):List CV:=[oB r]
noncomputable def Zcg (N:Nat) (h_0:Zac):Option Bool:=
 if (decide (h_0.Version≥(-2147483648)))=true then
  if (decide (h_0.Version<2147483648))=true then
   if (decide (h_0.Time≥0))=true then
    if (decide (h_0.Time<4294967296))=true then
     optE (ZcG N h_0.Bits) fun x1=>
     if x1=true then
      if (decide (h_0.Nonce≥0))=true then
       some (decide (h_0.Nonce<4294967296))
      else
      some false
     else
     some false
    else
    some false
   else
   some false
  else
  some false
 else
 some false
theorem Zcg.snd {h_0:Zac} {r:Bool} (h:Zcg N h_0=some r):SndQ Tryz.prog 90 [.agg h_0.ls] (Zcg.rs r):=fun st=>
 sO Zcg.B Tryz.func90 fun g0 w0 R hE=>by
  unfold Zcg at h
  refine iteB h (fun c1 h1=>?_) (fun c1 h2=>?_)
  ·have t1 {Q:Prop} (q:Q):=aL c1 c1 c1 c1 q
   refine iteB h1 (fun c2 h3=>?_) (fun c2 h4=>?_)
   ·have t2 {Q:Prop} (q:Q):=t1 (aL c2 c2 c2 c2 q)
    refine iteB h3 (fun c3 h5=>?_) (fun c3 h6=>?_)
    ·have t3 {Q:Prop} (q:Q):=t2 (aL c3 c3 c3 c3 q)
     refine iteB h5 (fun c4 h7=>?_) (fun c4 h8=>?_)
     ·obtain ⟨x1,c5,h9⟩:=Zae h7
      have t4 {Q:Prop} (q:Q):=t3 (aM c4 c4 c4 (ZcG.snd c5) c4 q)
      refine iteB h9 (fun c6 h10=>?_) (fun c6 h11=>?_)
      ·refine iteB h10 (fun c7 h12=>?_) (fun c7 h13=>?_)
       ·obtain rfl:=Zad h12
        exact af fol hE [.r [],.r [(21,q1 [oB x1])]] [] 0 [] (t4 (aO c6 c6 c6 c6 c7 c7 c7 c7))
       ·obtain rfl:=Zad h13
        exact af fol hE [.r [],.r [(21,q1 [oB x1]),(29,wF),(30,wF),(31,wF),(32,yF)]] [] 0 [] (t4 (aO c6 c6 c6 c6 c7 c7 c7 c7))
      ·obtain rfl:=Zad h11
       exact af fol hE [.r [],.r [(21,q1 [oB x1]),(24,wF),(25,wF),(26,wF),(27,yF),(29,wF),(30,wF),(31,wF),(32,yF)]] [] 0 [] (t4 (aO c6 c6 c6 c6 eF eF eF eF))
     ·obtain rfl:=Zad h8
      exact af fol hE [.r [],.r [(19,wF),(20,wF),(21,wF),(22,yF),(24,wF),(25,wF),(26,wF),(27,yF),(29,wF),(30,wF),(31,wF),(32,yF)]] [] 0 [] (t3 (aO c4 c4 c4 c4 eF eF eF (aL eF eF eF eF eF)))
    ·obtain rfl:=Zad h6
     exact af fol hE [.r [],.r [(14,wF),(15,wF),(16,wF),(17,yF),(19,wF),(20,wF),(21,wF),(22,yF),(24,wF),(25,wF),(26,wF),(27,yF),(29,wF),(30,wF),(31,wF),(32,yF)]] [] 0 [] (t2 (aO c3 c3 c3 c3 eF eF eF (aO eF eF eF eF eF eF eF (aI eF eF))))
   ·obtain rfl:=Zad h4
    exact af fol hE [.r [],.r [(9,wF),(10,wF),(11,wF),(12,yF),(14,wF),(15,wF),(16,wF),(17,yF),(19,wF),(20,wF),(21,wF),(22,yF),(24,wF),(25,wF),(26,wF),(27,yF),(29,wF),(30,wF),(31,wF),(32,yF)]] [] 0 [] (t1 (aO c2 c2 c2 c2 eF eF eF (aO eF eF eF eF eF eF eF (aM eF eF eF eF eF eF))))
  ·obtain rfl:=Zad h2
   exact af fol hE [.r [],.r [(4,wF),(5,wF),(6,wF),(7,yF),(9,wF),(10,wF),(11,wF),(12,yF),(14,wF),(15,wF),(16,wF),(17,yF),(19,wF),(20,wF),(21,wF),(22,yF),(24,wF),(25,wF),(26,wF),(27,yF),(29,wF),(30,wF),(31,wF),(32,yF)]] [] 0 [] (aO c1 c1 c1 c1 eF eF eF (aO eF eF eF eF eF eF eF (aO eF eF eF eF eF eF eF (aJ eF eF eF))))
noncomputable def ZaF.B:Code:=Tryz.f208.body.getD .skip
noncomputable def ZaF.rs (r:LL):List CV:=[]
noncomputable def ZaF.p2 (N:Nat) (c1_:((Option Nat)×Int×LL)→Option LL) (size_1 x12:Int) (list_2:LL) (v1:Int) (c2_:((Option Nat)×Int×LL)→Option LL):((Option Nat)×Int×LL)→Option LL:=fun (p_16,v13,st17)=>
 if (decide (v13<(if (8:Int)<(if (1:Int)>size_1 then 1 else size_1) then 8 else (if (1:Int)>size_1 then 1 else size_1))))=true then
  optE p_16 fun i18=>
  getE (st17[i18]?) ZfS fun x19=>
  chk (0≤(w64 (8*v13)))<|
  chk (List.length (x19 ++ [[L.int .u8 (v8 (shrOf .i64 x12 (w64 (8*v13))))]])*1≤140737488355328)<|
  c2_ ((some i18),w64 (v13+1),List.set (List.set st17 i18 [L.gone]) i18 [L.own true 1 (x19 ++ [[L.int .u8 (v8 (shrOf .i64 x12 (w64 (8*v13))))]])])
 else
 c1_ (p_16,w64 (v1+1),st17)
noncomputable def ZaF.p1 (N:Nat) (size_1:Int) (list_2:LL) (c1_:((Option Nat)×Int×LL)→Option LL):((Option Nat)×Int×LL)→Option LL:=fun (p_10,v1,st11)=>
 if (decide (v1<(len list_2)))=true then
  chk (0≤v1)<|
  getE (list_2[Int.toNat v1]?) Zel fun x12=>
  loopN (ZaF.p2 N c1_ size_1 x12 list_2 v1) N (p_10,0,st11)
 else
 some st11
noncomputable def ZaF (N:Nat) (p_0:Option Nat) (size_1:Int) (list_2 st:LL):Option LL:=
 loopN (ZaF.p1 N size_1 list_2) N (p_0,0,st)
noncomputable def ZaF.p2.S (p_16:Option Nat) (size_1 x12:Int) (list_2:LL) (v1 v13:Int) (st17:LL):S:=mkS 37 [(0,sP p_16),(1,sI size_1),(7,sI x12),(9,sV 1 list_2),(10,sI (len list_2)),(11,sI v1),(17,sI (if (8:Int)<(if (1:Int)>size_1 then 1 else size_1) then 8 else (if (1:Int)>size_1 then 1 else size_1))),(18,sI v13)] [] st17
noncomputable def ZaF.p1.S (p_10:Option Nat) (size_1:Int) (list_2:LL) (v1:Int) (st11:LL):S:=mkS 37 [(0,sP p_10),(1,sI size_1),(9,sV 1 list_2),(10,sI (len list_2)),(11,sI v1)] [] st11
theorem ZaF.p2_ok {p_16 size_1 x12 list_2 v1 v13 st17 r c1_ c2_ J1 J2} (h:ZaF.p2 N c1_ size_1 x12 list_2 v1 c2_ (p_16,v13,st17)=some r) (hE:En Tryz.f208 g0 w0 (ZaF.rs r) r R) (hc1 : ∀p_10 v1 st11,c1_ (p_10,v1,st11)=some r→At g0 w0 (ZaF.p1.S p_10 size_1 list_2 v1 st11) J1) (hc2 : ∀p_16 v13 st17,c2_ (p_16,v13,st17)=some r→At g0 w0 (ZaF.p2.S p_16 size_1 x12 list_2 v1 v13 st17) J2):At g0 w0 (ZaF.p2.S p_16 size_1 x12 list_2 v1 v13 st17) (XK Tryz.prog R (.c (csub ZaF.B [1,0,0,1,1,0,0,1,1,0,0]) :: .h J2 :: [.b 2,.b 1,.c (csub ZaF.B [1,0,0,1,1,1]),.h J1,.b 0])):=by
 unfold ZaF.p2 at h
 refine iteB h (fun c22 h1=>?_) (fun c22 h2=>?_)
 ·obtain ⟨i18,rfl,h3⟩:=Zae h1
  obtain ⟨x19,c24,h4⟩:=Zeq h3
  obtain ⟨c25,c26,h5⟩:=ck2 h4
  exact and_ fol [.r [],.c true,.r [],.d {ds:=[(4,{oc:=[L.own true 1 x19]}),(11,{oe:=[L.own true 1 x19]}),(14,{oc:=[L.gone],mv:=[32]})],hv:=19456,Hs:=[1024,3072,19456]},.r []] [0,1,7,9,10,11,17,18] [] (aO c22 c24 c24 c25 z0 (eN (List.length x19)) c24 (aM z0 (eN (1)) c26 (Zci c24 [L.gone]) z0 (eN (List.length (x19 ++ [[L.int .u8 (v8 (shrOf .i64 x12 (w64 (8*v13))))]]))))) (hc2 (some i18) (w64 (v13+1)) (List.set (List.set st17 i18 [L.gone]) i18 [L.own true 1 (x19 ++ [[L.int .u8 (v8 (shrOf .i64 x12 (w64 (8*v13))))]])]) h5)
 ·exact an fol [.r [],.c false,.r []] [0,1,9,10,11] [] c22 (hc1 p_16 (w64 (v1+1)) st17 h2)
theorem ZaF.p1_ok {p_10 size_1 list_2 v1 st11 r c1_ J1} (h:ZaF.p1 N size_1 list_2 c1_ (p_10,v1,st11)=some r) (hE:En Tryz.f208 g0 w0 (ZaF.rs r) r R) (hc1 : ∀p_10 v1 st11,c1_ (p_10,v1,st11)=some r→At g0 w0 (ZaF.p1.S p_10 size_1 list_2 v1 st11) J1):At g0 w0 (ZaF.p1.S p_10 size_1 list_2 v1 st11) (XK Tryz.prog R (.c (csub ZaF.B [1,0,0]) :: .h J1 :: [.b 0])):=by
 unfold ZaF.p1 at h
 refine iteB h (fun c14 h6=>?_) (fun c14 h7=>?_)
 ·obtain ⟨c15,h8⟩:=ZaO h6
  obtain ⟨x12,c16,h9⟩:=Zdh h8
  exact aq fol [.r [],.c true,.r [(1,{oe:=[L.int .i64 x12]})],.r []] [0,1,7,9,10,11,17,18] [] (aK c14 c15 (oD c14) c16) (At.loop N (At.loopN (fun y:(Option Nat)×Int×LL=>ZaF.p2.S y.1 size_1 x12 list_2 v1 y.2.1 y.2.2) (fun c J hc y h=>ZaF.p2_ok (p_16:=y.1) (v13:=y.2.1) (st17:=y.2.2) h hE hc1 (fun p_16 v13 st17=>hc (p_16,v13,st17))) N (p_10,0,st11) h9))
 ·obtain rfl:=Zad h7
  exact af fol hE [.r [],.c false] [] 0 [] c14
theorem ZaF.snd {p_0:Option Nat} {size_1:Int} {list_2:LL} {st:LL} {r:LL} (h:ZaF N p_0 size_1 list_2 st=some r):Snd Tryz.prog 208 [.one (L.ptr p_0),oI size_1,.one (L.sl 1 list_2)] st (ZaF.rs r) r:=
 sO ZaF.B Tryz.func208 fun g0 w0 R hE=>by
  unfold ZaF at h
  exact aq fol [.r []] [0,1,9,10,11] [] trivial (At.loop N (At.loopN (fun y:(Option Nat)×Int×LL=>ZaF.p1.S y.1 size_1 list_2 y.2.1 y.2.2) (fun c J hc y h=>ZaF.p1_ok (p_10:=y.1) (v1:=y.2.1) (st11:=y.2.2) h hE (fun p_10 v1 st11=>hc (p_10,v1,st11))) N (p_0,0,st) h))
noncomputable def ZaY.B:Code:=Tryz.f209.body.getD .skip
noncomputable def ZaY.rs (r:LL):List CV:=[]
noncomputable def ZaY.p1 (N:Nat) (list_1:LL) (c1_:((Option Nat)×Int×LL)→Option LL):((Option Nat)×Int×LL)→Option LL:=fun (p_5,v1,st6)=>
 if (decide (v1<(len list_1)))=true then
  chk (0≤v1)<|
  getE (list_1[Int.toNat v1]?) ZfF fun x7=>
  optE p_5 fun i8=>
  getE (st6[i8]?) ZfS fun x9=>
  chk (List.length (x9++(List.map (fun x=>[L.int .u8 x]) x7))*1≤140737488355328)<|
  c1_ ((some i8),w64 (v1+1),List.set (List.set st6 i8 [L.gone]) i8 [L.own true 1 (x9++(List.map (fun x=>[L.int .u8 x]) x7))])
 else
 some st6
noncomputable def ZaY (N:Nat) (p_0:Option Nat) (list_1 st:LL):Option LL:=
 loopN (ZaY.p1 N list_1) N (p_0,0,st)
noncomputable def ZaY.p1.S (p_5:Option Nat) (list_1:LL) (v1:Int) (st6:LL):S:=mkS 22 [(0,sP p_5),(6,sV 32 list_1),(7,sI (len list_1)),(8,sI v1)] [] st6
theorem ZaY.p1_ok {p_5 list_1 v1 st6 r c1_ J1} (h:ZaY.p1 N list_1 c1_ (p_5,v1,st6)=some r) (hE:En Tryz.f209 g0 w0 (ZaY.rs r) r R) (hc1 : ∀p_5 v1 st6,c1_ (p_5,v1,st6)=some r→At g0 w0 (ZaY.p1.S p_5 list_1 v1 st6) J1):At g0 w0 (ZaY.p1.S p_5 list_1 v1 st6) (XK Tryz.prog R (.c (csub ZaY.B [1,0,0]) :: .h J1 :: [.b 0])):=by
 unfold ZaY.p1 at h
 refine iteB h (fun c7 h1=>?_) (fun c7 h2=>?_)
 ·obtain ⟨c8,h3⟩:=ZaO h1
  obtain ⟨x7,c9,h4⟩:=Zgt h3
  obtain ⟨i8,rfl,h5⟩:=Zae h4
  obtain ⟨x9,c11,h6⟩:=Zeq h5
  obtain ⟨c12,h7⟩:=ZaO h6
  exact and_ fol [.r [],.c true,.r [(1,{oe:=[L.arr .u8 32 x7]})],.d {ds:=[(4,{oc:=[L.own true 1 x9]}),(6,{oe:=[L.own true 1 x9]}),(9,{oc:=[L.gone],mv:=[18]})],hv:=576,Hs:=[64,576]},.r []] [0,6,7,8] [] (aO c7 c8 (oD c7) c9 c11 (leN 0 32) (leN 32 32) (aN z0 (eN (List.length x9)) c11 c12 (Zci c11 [L.gone]) z0 (eN (List.length (x9++(List.map (fun x=>[L.int .u8 x]) x7)))))) (hc1 (some i8) (w64 (v1+1)) (List.set (List.set st6 i8 [L.gone]) i8 [L.own true 1 (x9++(List.map (fun x=>[L.int .u8 x]) x7))]) h7)
 ·obtain rfl:=Zad h2
  exact af fol hE [.r [],.c false] [] 0 [] c7
theorem ZaY.snd {p_0:Option Nat} {list_1:LL} {st:LL} {r:LL} (h:ZaY N p_0 list_1 st=some r):Snd Tryz.prog 209 [.one (L.ptr p_0),.one (L.sl 32 list_1)] st (ZaY.rs r) r:=
 sO ZaY.B Tryz.func209 fun g0 w0 R hE=>by
  unfold ZaY at h
  exact aq fol [.r []] [0,6,7,8] [] trivial (At.loop N (At.loopN (fun y:(Option Nat)×Int×LL=>ZaY.p1.S y.1 list_1 y.2.1 y.2.2) (fun c J hc y h=>ZaY.p1_ok (p_5:=y.1) (v1:=y.2.1) (st6:=y.2.2) h hE (fun p_5 v1 st6=>hc (p_5,v1,st6))) N (p_0,0,st) h))
noncomputable def ZbN.B:Code:=Tryz.f186.body.getD .skip
noncomputable def ZbN.rs (r:LL):List CV:=[]
noncomputable def ZbN.p1 (N:Nat) (p_0:Option Nat) (h_2:Zac) (st:LL):Option LL:=
 optE (ZaF N p_0 4 [[L.int .i64 h_2.Version]] st) fun st3=>
 optE (ZaY N p_0 [[L.arr .u8 32 h_2.Prev],[L.arr .u8 32 h_2.Root]] st3) fun st4=>
 optE (ZaF N p_0 4 [[L.int .i64 h_2.Time],[L.int .i64 h_2.Bits],[L.int .i64 h_2.Nonce]] st4) fun st5=>
 some st5
noncomputable def ZbN (N:Nat) (p_0:Option Nat) (h_1:Zac) (st:LL):Option LL:=
 optE (Zcg N h_1) fun x1=>
 if (!x1)=true then
  ZbN.p1 N p_0 (Zac.mk 0 (List.replicate 32 0) (List.replicate 32 0) 0 0 0) st
 else
 ZbN.p1 N p_0 h_1 st
noncomputable def ZbN.p1.S (p_0:Option Nat) (h_2:Zac) (st:LL):S:=mkS 29 [(0,sP p_0),(3,sA 3)] [(3,.cells h_2.ls)] st
theorem ZbN.p1_ok {p_0 h_2 st r} (h:ZbN.p1 N p_0 h_2 st=some r) (hE:En Tryz.f186 g0 w0 (ZbN.rs r) r R):At g0 w0 (ZbN.p1.S p_0 h_2 st) (XK Tryz.prog R [.c (csub ZbN.B [1,1])]):=by
 unfold ZbN.p1 at h
 obtain ⟨st3,c3,h1⟩:=Zae h
 obtain ⟨st4,c4,h2⟩:=Zae h1
 obtain ⟨st5,c5,h3⟩:=Zae h2
 obtain rfl:=Zad h3
 exact af fol hE [.r [(4,{st:=st3,fz:=[11]})],.r [(6,{st:=st4,fz:=[18]})],.r [(8,{st:=st5,fz:=[27]})]] [] 0 [] (aO z0 (eN (1)) (ZaF.snd c3) z0 (eN (2)) (ZaY.snd c4) z0 (aI (eN (3)) (ZaF.snd c5)))
theorem ZbN.snd {p_0:Option Nat} {h_1:Zac} {st:LL} {r:LL} (h:ZbN N p_0 h_1 st=some r):Snd Tryz.prog 186 [.one (L.ptr p_0),.agg h_1.ls] st (ZbN.rs r) r:=
 sO ZbN.B Tryz.func186 fun g0 w0 R hE=>by
  unfold ZbN at h
  obtain ⟨x1,c1,h4⟩:=Zae h
  let o1:List PS:=[.r [],.r [(1,q1 [oB x1])]]
  refine iteB h4 (fun c2 h5=>?_) (fun c2 h6=>?_)
  ·exact aq fol (o1 ++ [.c true,.r [],.s 1]) [0,3] [3] (aI (Zcg.snd c1) c2) (ZbN.p1_ok h5 hE)
  ·exact aq fol (o1 ++ [.c false,.s 1]) [0,3] [3] (aI (Zcg.snd c1) c2) (ZbN.p1_ok h6 hE)
noncomputable def ZbW.B:Code:=Tryz.f187.body.getD .skip
noncomputable def ZbW.rs (r:ByteArray):List CV:=[.one (L.str r)]
noncomputable def ZbW (N:Nat) (p_0:LL):Option ByteArray:=
 chk (isB p_0=true)<|
 some (istr (List.map leafI p_0))
theorem ZbW.snd {p_0:LL} {r:ByteArray} (h:ZbW N p_0=some r):SndQ Tryz.prog 187 [.one (L.bx 1 [L.sl 1 p_0])] (ZbW.rs r):=fun st=>
 sO ZbW.B Tryz.func187 fun g0 w0 R hE=>by
  unfold ZbW at h
  obtain ⟨c1,h1⟩:=ZaO h
  obtain rfl:=Zad h1
  exact af fol hE [.r [],.r [(3,{oe:=[L.sl 1 p_0]})]] [] 0 [] (aI (eO [L.sl 1 p_0]) c1)
noncomputable def ZcF.B:Code:=Tryz.f147.body.getD .skip
noncomputable def ZcF.rs (r:ByteArray×Int×LL):List CV:=[.one (L.str r.1),oI r.2.1]
noncomputable def ZcF (N:Nat) (h_0:Zac) (st:LL):Option (ByteArray×Int×LL):=
 optE (Zcg N h_0) fun x1=>
 if (!x1)=true then
  some ((ByteArray.mk #[]),1,st)
 else
 optE (ZbN N (some (List.length st)) h_0 (st ++ [[L.own true 1 []]])) fun st2=>
 getE (st2[List.length st]?) ZfS fun x3=>
 optE (ZbW N x3) fun x4=>
 some (x4,0,st2)
theorem ZcF.snd {h_0:Zac} {st:LL} {r:ByteArray×Int×LL} (h:ZcF N h_0 st=some r):Snd Tryz.prog 147 [.agg h_0.ls] st (ZcF.rs r) r.2.2:=
 sO ZcF.B Tryz.func147 fun g0 w0 R hE=>by
  unfold ZcF at h
  obtain ⟨x1,c1,h1⟩:=Zae h
  let o1:List PS:=[.r [],.r [(1,q1 [oB x1])]]
  refine iteB h1 (fun c2 h2=>?_) (fun c2 h3=>?_)
  ·obtain rfl:=Zad h2
   exact af fol hE (o1 ++ [.c true,.r []]) [] 0 [] (aI (Zcg.snd c1) c2)
  ·obtain ⟨st2,c3,h4⟩:=Zae h3
   obtain ⟨x3,c4,h5⟩:=Zeq h4
   obtain ⟨x4,c5,h6⟩:=Zae h5
   obtain rfl:=Zad h6
   exact af fol hE (o1 ++ [.c false,.r [(0,{ns:=[0]}),(1,{m:=1})],.r [(2,{st:=st2})],.r [(1,{rs:=[.one (L.str x4)],m:=10,cv:=[.one (L.bx 1 [L.sl 1 x3])]})]]) [] 0 [] (aL (Zcg.snd c1) c2 (ZbN.snd c3) (bO 1 c4 ((bW bN):BVs st2 [L.own true 1 x3] [L.sl 1 x3])) (ZbW.snd c5))
noncomputable def ZdJ.B:Code:=Tryz.f210.body.getD .skip
noncomputable def ZdJ.rs (r:(Option Nat)×LL):List CV:=[.one (L.ptr r.1)]
noncomputable def ZdJ (N:Nat) (st:LL):Option ((Option Nat)×LL):=
 some ((some (List.length st)),st ++ [Zao.lo (Zao.mk glob_digest_starts [] 0)])
theorem ZdJ.snd {st:LL} {r:(Option Nat)×LL} (h:ZdJ N st=some r):Snd Tryz.prog 210 [] st (ZdJ.rs r) r.2:=
 sO ZdJ.B Tryz.func210 fun g0 w0 R hE=>by
  unfold ZdJ at h
  obtain rfl:=Zad h
  exact af fol hE [.r [],.r [(1,{mv:=[1]}),(2,{m:=1})]] [] 0 [] trivial
noncomputable def ZbI.B:Code:=Tryz.f245.body.getD .skip
noncomputable def ZbI.rs (r:Int):List CV:=[.one (L.int .u32 r)]
noncomputable def ZbI (N:Nat) (x_0 k_1:Int):Option Int:=
 chk (0≤(bitsOf .and .u64 (v64 (k_1)) 31))<|
 chk (0≤(v64 (32-(bitsOf .and .u64 (v64 (k_1)) 31))))<|
 some (bitsOf .or .u32 (shlOf .u32 x_0 (bitsOf .and .u64 (v64 (k_1)) 31)) (shrOf .u32 x_0 (v64 (32-(bitsOf .and .u64 (v64 (k_1)) 31)))))
theorem ZbI.snd {x_0 k_1:Int} {r:Int} (h:ZbI N x_0 k_1=some r):SndQ Tryz.prog 245 [.one (L.int .u32 x_0),oI k_1] (ZbI.rs r):=fun st=>
 sO ZbI.B Tryz.func245 fun g0 w0 R hE=>by
  unfold ZbI at h
  obtain ⟨c1,c2,h1⟩:=ck2 h
  obtain rfl:=Zad h1
  exact af fol hE [.r [],.r [],.r []] [] 0 [] (aI c1 c2)
noncomputable def ZaX.B:Code:=Tryz.f237.body.getD .skip
noncomputable def ZaX.rs (r:Int):List CV:=[.one (L.int .u32 r)]
noncomputable def ZaX.p1 (N:Nat) (x_0:Int) (by_1:LL) (c1_:(Int×Int)→Option Int):(Int×Int)→Option Int:=fun (out_1,v2)=>
 if (decide (v2<(len by_1)))=true then
  chk (0≤v2)<|
  getE (by_1[Int.toNat v2]?) Zel fun x3=>
  optE (ZbI N x_0 (w64 (0-x3))) fun x4=>
  c1_ (bitsOf .xor .u32 out_1 x4,w64 (v2+1))
 else
 some out_1
noncomputable def ZaX (N:Nat) (x_0:Int) (by_1:LL):Option Int:=
 loopN (ZaX.p1 N x_0 by_1) N (0,0)
noncomputable def ZaX.p1.S (x_0 out_1:Int) (by_1:LL) (v2:Int) (st:LL):S:=mkS 22 [(0,.one (.l (L.int .u32 x_0))),(5,.one (.l (L.int .u32 out_1))),(8,sV 1 by_1),(9,sI (len by_1)),(10,sI v2)] [] st
theorem ZaX.p1_ok {x_0 out_1 by_1 v2 st r c1_ J1} (h:ZaX.p1 N x_0 by_1 c1_ (out_1,v2)=some r) (hE:En Tryz.f237 g0 w0 (ZaX.rs r) st R) (hc1 : ∀out_1 v2,c1_ (out_1,v2)=some r→At g0 w0 (ZaX.p1.S x_0 out_1 by_1 v2 st) J1):At g0 w0 (ZaX.p1.S x_0 out_1 by_1 v2 st) (XK Tryz.prog R (.c (csub ZaX.B [1,1,0,1,0,0]) :: .h J1 :: [.b 0,.c (csub ZaX.B [1,1,1])])):=by
 unfold ZaX.p1 at h
 refine iteB h (fun c1 h1=>?_) (fun c1 h2=>?_)
 ·obtain ⟨c2,h3⟩:=ZaO h1
  obtain ⟨x3,c3,h4⟩:=Zdh h3
  obtain ⟨x4,c4,h5⟩:=Zae h4
  exact an fol [.r [],.c true,.r [(1,{oe:=[L.int .i64 x3]})],.r [(4,q1 [.one (L.int .u32 x4)])],.r []] [0,5,8,9,10] [] (aL c1 c2 (oD c1) c3 (ZbI.snd c4)) (hc1 (bitsOf .xor .u32 out_1 x4) (w64 (v2+1)) h5)
 ·obtain rfl:=Zad h2
  exact af fol hE [.r [],.c false,.r []] [] 0 [] c1
theorem ZaX.snd {x_0:Int} {by_1:LL} {r:Int} (h:ZaX N x_0 by_1=some r):SndQ Tryz.prog 237 [.one (L.int .u32 x_0),.one (L.sl 1 by_1)] (ZaX.rs r):=fun st=>
 sO ZaX.B Tryz.func237 fun g0 w0 R hE=>by
  unfold ZaX at h
  exact aq fol [.r [],.r [],.r []] [0,5,8,9,10] [] trivial (At.loop N (At.loopN (fun y:Int×Int=>ZaX.p1.S x_0 y.1 by_1 y.2 st) (fun c J hc y h=>ZaX.p1_ok (out_1:=y.1) (v2:=y.2) h hE (fun out_1 v2=>hc (out_1,v2))) N (0,0) h))
noncomputable def Zaf.B:Code:=Tryz.f224.body.getD .skip
noncomputable def Zaf.rs (r:LL):List CV:=[]
noncomputable def Zaf.p4 (N:Nat) (i71:Nat) (s_80:List Int) (c4_:(Int×LL)→Option LL):(Int×LL)→Option LL:=fun (v83,st85)=>
 if (decide (v83<8))=true then
  chk (0≤v83)<|
  getE (st85[i71]?) ZbK fun x86=>
  c4_ (w64 (v83+1),List.set st85 i71 (Zao.lo {x86 with state:=List.set x86.state (Int.toNat v83) (v32 ((List.getD x86.state (Int.toNat v83) 0)+(List.getD s_80 (Int.toNat v83) 0)))}))
 else
 some st85
noncomputable def Zaf.p3 (N:Nat) (i71:Nat) (w_68:List Int) (st:LL) (c3_:(Int×(List Int))→Option LL):(Int×(List Int))→Option LL:=fun (v73,s_80)=>
 if (decide (v73<64))=true then
  optE (ZaX N (List.getD s_80 4 0) [[L.int .i64 6],[L.int .i64 11],[L.int .i64 25]]) fun x81=>
  chk (0≤v73)<|
  optE (ZaX N (List.getD s_80 0 0) [[L.int .i64 2],[L.int .i64 13],[L.int .i64 22]]) fun x82=>
  c3_ (w64 (v73+1),[v32 ((v32 ((v32 ((v32 ((v32 ((List.getD s_80 7 0)+x81))+(bitsOf .xor .u32 (bitsOf .and .u32 (List.getD s_80 4 0) (List.getD s_80 5 0)) (bitsOf .and .u32 (bitsOf .xor .u32 (IntKind.max IntKind.u32) (List.getD s_80 4 0)) (List.getD s_80 6 0)))))+(List.getD glob_digest_steps (Int.toNat v73) 0)))+(List.getD w_68 (Int.toNat v73) 0)))+(v32 (x82+(bitsOf .xor .u32 (bitsOf .xor .u32 (bitsOf .and .u32 (List.getD s_80 0 0) (List.getD s_80 1 0)) (bitsOf .and .u32 (List.getD s_80 0 0) (List.getD s_80 2 0))) (bitsOf .and .u32 (List.getD s_80 1 0) (List.getD s_80 2 0)))))),List.getD s_80 0 0,List.getD s_80 1 0,List.getD s_80 2 0,v32 ((List.getD s_80 3 0)+(v32 ((v32 ((v32 ((v32 ((List.getD s_80 7 0)+x81))+(bitsOf .xor .u32 (bitsOf .and .u32 (List.getD s_80 4 0) (List.getD s_80 5 0)) (bitsOf .and .u32 (bitsOf .xor .u32 (IntKind.max IntKind.u32) (List.getD s_80 4 0)) (List.getD s_80 6 0)))))+(List.getD glob_digest_steps (Int.toNat v73) 0)))+(List.getD w_68 (Int.toNat v73) 0)))),List.getD s_80 4 0,List.getD s_80 5 0,List.getD s_80 6 0])
 else
 loopN (Zaf.p4 N i71 s_80) N (0,st)
noncomputable def Zaf.p2 (N:Nat) (h_0:Option Nat) (st:LL) (c2_:(Int×(List Int))→Option LL):(Int×(List Int))→Option LL:=fun (i_49,w_68)=>
 if (decide (i_49<64))=true then
  chk (0≤(w64 (i_49-15)))<|
  chk ((w64 (i_49-15))<64)<|
  chk (0≤(w64 (i_49-2)))<|
  chk ((w64 (i_49-2))<64)<|
  chk (0≤(w64 (i_49-16)))<|
  chk ((w64 (i_49-16))<64)<|
  optE (ZaX N (List.getD w_68 (Int.toNat (w64 (i_49-15))) 0) [[L.int .i64 7],[L.int .i64 18]]) fun x69=>
  chk (0≤(w64 (i_49-7)))<|
  chk ((w64 (i_49-7))<64)<|
  optE (ZaX N (List.getD w_68 (Int.toNat (w64 (i_49-2))) 0) [[L.int .i64 17],[L.int .i64 19]]) fun x70=>
  chk (0≤i_49)<|
  c2_ (w64 (i_49+1),List.set w_68 (Int.toNat i_49) (v32 ((v32 ((v32 ((List.getD w_68 (Int.toNat (w64 (i_49-16))) 0)+(bitsOf .xor .u32 x69 (shrOf .u32 (List.getD w_68 (Int.toNat (w64 (i_49-15))) 0) 3))))+(List.getD w_68 (Int.toNat (w64 (i_49-7))) 0)))+(bitsOf .xor .u32 x70 (shrOf .u32 (List.getD w_68 (Int.toNat (w64 (i_49-2))) 0) 10)))))
 else
 optE h_0 fun i71=>
 getE (st[i71]?) ZbK fun x72=>
 loopN (Zaf.p3 N i71 w_68 st) N (0,x72.state)
noncomputable def Zaf.p1 (N:Nat) (h_0:Option Nat) (b_1 st:LL) (c1_:(Int×(List Int))→Option LL):(Int×(List Int))→Option LL:=fun (v1,w_44)=>
 if (decide (v1<16))=true then
  chk (0≤(w64 (4*v1)))<|
  chk ((w64 (4*v1))<(len b_1))<|
  getE (b_1[Int.toNat (w64 (4*v1))]?) ZhQ fun x45=>
  chk (0≤(w64 ((w64 (4*v1))+1)))<|
  chk ((w64 ((w64 (4*v1))+1))<(len b_1))<|
  getE (b_1[Int.toNat (w64 ((w64 (4*v1))+1))]?) ZhQ fun x46=>
  chk (0≤(w64 ((w64 (4*v1))+2)))<|
  chk ((w64 ((w64 (4*v1))+2))<(len b_1))<|
  getE (b_1[Int.toNat (w64 ((w64 (4*v1))+2))]?) ZhQ fun x47=>
  chk (0≤(w64 ((w64 (4*v1))+3)))<|
  chk ((w64 ((w64 (4*v1))+3))<(len b_1))<|
  getE (b_1[Int.toNat (w64 ((w64 (4*v1))+3))]?) ZhQ fun x48=>
  chk (0≤v1)<|
  chk (v1<64)<|
  c1_ (w64 (v1+1),List.set w_44 (Int.toNat v1) (bitsOf .or .u32 (bitsOf .or .u32 (bitsOf .or .u32 (shlOf .u32 (v32 (x45)) 24) (shlOf .u32 (v32 (x46)) 16)) (shlOf .u32 (v32 (x47)) 8)) (v32 (x48))))
 else
 loopN (Zaf.p2 N h_0 st) N (16,w_44)
noncomputable def Zaf (N:Nat) (h_0:Option Nat) (b_1 st:LL):Option LL:=
 loopN (Zaf.p1 N h_0 b_1 st) N (0,List.replicate 64 0)
noncomputable def Zaf.p4.S (i71:Nat) (v83:Int) (s_80:List Int) (st85:LL):S:=mkS 189 [(0,sP (some i71)),(9,sA 9),(172,sI v83)] [(9,.cells [L.arr .u32 8 s_80])] st85
noncomputable def Zaf.p3.S (i71:Nat) (v73:Int) (w_68 s_80:List Int) (st:LL):S:=mkS 189 [(0,sP (some i71)),(4,sA 4),(9,sA 9),(96,sI v73)] [(4,.cells [L.arr .u32 64 w_68]),(9,.cells [L.arr .u32 8 s_80])] st
noncomputable def Zaf.p2.S (h_0:Option Nat) (i_49:Int) (w_68:List Int) (st:LL):S:=mkS 189 [(0,sP h_0),(4,sA 4),(6,sI i_49)] [(4,.cells [L.arr .u32 64 w_68])] st
noncomputable def Zaf.p1.S (h_0:Option Nat) (b_1:LL) (v1:Int) (w_44:List Int) (st:LL):S:=mkS 189 [(0,sP h_0),(1,sV 1 b_1),(4,sA 4),(16,sI v1)] [(4,.cells [L.arr .u32 64 w_44])] st
theorem Zaf.p4_ok {i71 v83 s_80 st85 r c4_ J4} (h:Zaf.p4 N i71 s_80 c4_ (v83,st85)=some r) (hE:En Tryz.f224 g0 w0 (Zaf.rs r) r R) (hc4 : ∀v83 st85,c4_ (v83,st85)=some r→At g0 w0 (Zaf.p4.S i71 v83 s_80 st85) J4):At g0 w0 (Zaf.p4.S i71 v83 s_80 st85) (XK Tryz.prog R (.c (csub Zaf.B [1,1,1,1,1,1,0,0]) :: .h J4 :: [.b 6])):=by
 unfold Zaf.p4 at h
 refine iteB h (fun c164 h1=>?_) (fun c164 h2=>?_)
 ·obtain ⟨c165,h3⟩:=ZaO h1
  obtain ⟨x86,c166,h4⟩:=ZbU h3
  exact and_ fol [.r [],.c true,.r [],.d {ds:=[(5,{oc:=x86.lo}),(13,{oc:=x86.lo})],hv:=8192,Hs:=[8192]},.r []] [0,9,172] [9] (aO c164 c165 (oD c164) c166 c165 (oD c164) c165 (aI (oD c164) c166)) (hc4 (w64 (v83+1)) (List.set st85 i71 (Zao.lo {x86 with state:=List.set x86.state (Int.toNat v83) (v32 ((List.getD x86.state (Int.toNat v83) 0)+(List.getD s_80 (Int.toNat v83) 0)))})) h4)
 ·obtain rfl:=Zad h2
  exact af fol hE [.r [],.c false] [] 0 [] c164
theorem Zaf.p3_ok {i71 v73 w_68 s_80 st r c3_ J3} (h:Zaf.p3 N i71 w_68 st c3_ (v73,s_80)=some r) (hE:En Tryz.f224 g0 w0 (Zaf.rs r) r R) (hc3 : ∀v73 s_80,c3_ (v73,s_80)=some r→At g0 w0 (Zaf.p3.S i71 v73 w_68 s_80 st) J3):At g0 w0 (Zaf.p3.S i71 v73 w_68 s_80 st) (XK Tryz.prog R (.c (csub Zaf.B [1,1,1,1,0,1,0,0]) :: .h J3 :: [.b 4,.c (csub Zaf.B [1,1,1,1,1])])):=by
 unfold Zaf.p3 at h
 refine iteB h (fun c157 h5=>?_) (fun c157 h6=>?_)
 ·obtain ⟨x81,c158,h7⟩:=Zae h5
  obtain ⟨c159,h8⟩:=ZaO h7
  obtain ⟨x82,c160,h9⟩:=Zae h8
  exact and_ fol [.r [],.c true,.r [],.r [],.r [],.d {ds:=[(5,{rs:=[.one (L.int .u32 x81)],m:=2})],hv:=16,Hs:=[16]},.r [(3,{rs:=[.one (L.int .u32 x82)],m:=2})],.r [(19,{m:=3})],.r []] [0,4,9,96] [4,9] (aI c157 (ix 4 8 (ix 5 8 (ix 4 8 (ix 6 8 (ix 0 8 (ix 1 8 (ix 0 8 (ix 2 8 (ix 1 8 (ix 2 8 (ix 7 8 (ix 7 8 (ix 4 8 (ix 4 8 (aO z0 (eN (3)) (ZaX.snd c158) c159 (oD c157) c159 (oD c157) (aL c159 (oD c157) c159 (oD c157) (ix 0 8 (aK z0 (eN (3)) (ZaX.snd c160) (ix 0 8 (ix 1 8 (ix 2 8 (ix 3 8 (ix 4 8 (ix 5 8 (aI (leI 0 6) (ltI 6 8))))))))))))))))))))))))))) (hc3 (w64 (v73+1)) [v32 ((v32 ((v32 ((v32 ((v32 ((List.getD s_80 7 0)+x81))+(bitsOf .xor .u32 (bitsOf .and .u32 (List.getD s_80 4 0) (List.getD s_80 5 0)) (bitsOf .and .u32 (bitsOf .xor .u32 (IntKind.max IntKind.u32) (List.getD s_80 4 0)) (List.getD s_80 6 0)))))+(List.getD glob_digest_steps (Int.toNat v73) 0)))+(List.getD w_68 (Int.toNat v73) 0)))+(v32 (x82+(bitsOf .xor .u32 (bitsOf .xor .u32 (bitsOf .and .u32 (List.getD s_80 0 0) (List.getD s_80 1 0)) (bitsOf .and .u32 (List.getD s_80 0 0) (List.getD s_80 2 0))) (bitsOf .and .u32 (List.getD s_80 1 0) (List.getD s_80 2 0)))))),List.getD s_80 0 0,List.getD s_80 1 0,List.getD s_80 2 0,v32 ((List.getD s_80 3 0)+(v32 ((v32 ((v32 ((v32 ((List.getD s_80 7 0)+x81))+(bitsOf .xor .u32 (bitsOf .and .u32 (List.getD s_80 4 0) (List.getD s_80 5 0)) (bitsOf .and .u32 (bitsOf .xor .u32 (IntKind.max IntKind.u32) (List.getD s_80 4 0)) (List.getD s_80 6 0)))))+(List.getD glob_digest_steps (Int.toNat v73) 0)))+(List.getD w_68 (Int.toNat v73) 0)))),List.getD s_80 4 0,List.getD s_80 5 0,List.getD s_80 6 0] h9)
 ·exact aq fol [.r [],.c false,.r []] [0,9,172] [9] c157 (At.loop N (At.loopN (fun y:Int×LL=>Zaf.p4.S i71 y.1 s_80 y.2) (fun c J hc y h=>Zaf.p4_ok (v83:=y.1) (st85:=y.2) h hE (fun v83 st85=>hc (v83,st85))) N (0,st) h6))
theorem Zaf.p2_ok {h_0 i_49 w_68 st r c2_ J2} (h:Zaf.p2 N h_0 st c2_ (i_49,w_68)=some r) (hE:En Tryz.f224 g0 w0 (Zaf.rs r) r R) (hc2 : ∀i_49 w_68,c2_ (i_49,w_68)=some r→At g0 w0 (Zaf.p2.S h_0 i_49 w_68 st) J2):At g0 w0 (Zaf.p2.S h_0 i_49 w_68 st) (XK Tryz.prog R (.c (csub Zaf.B [1,1,0,1,0,0]) :: .h J2 :: [.b 2,.c (csub Zaf.B [1,1,1])])):=by
 unfold Zaf.p2 at h
 refine iteB h (fun c133 h10=>?_) (fun c133 h11=>?_)
 ·obtain ⟨c134,c135,c136,c137,c138,c139,h12⟩:=ck6 h10
  obtain ⟨x69,c140,h13⟩:=Zae h12
  obtain ⟨c141,c142,h14⟩:=ck2 h13
  obtain ⟨x70,c143,h15⟩:=Zae h14
  obtain ⟨c144,h16⟩:=ZaO h15
  exact and_ fol [.r [],.c true,.d {ds:=[],hv:=0,Hs:=[]},.d {ds:=[(7,{rs:=[.one (L.int .u32 x69)],m:=2}),(19,{rs:=[.one (L.int .u32 x70)],m:=2})],hv:=33816640,Hs:=[64,262144,262208,33816640]},.r []] [0,4,6] [4] (aO c133 c134 c135 c136 c137 c138 c139 (aO c138 c139 c138 c139 c138 c139 z0 (aO (eN (2)) (ZaX.snd c140) z0 (eN (2)) (ZaX.snd c140) (leI 0 3) (leI 0 3) (aO (leI 0 3) (leI 0 3) c141 c142 c141 c142 c141 (aO c142 c141 c142 z0 (eN (2)) (ZaX.snd c143) (leI 0 10) (aL (leI 0 10) (leI 0 10) (leI 0 10) c144 (oD c133))))))) (hc2 (w64 (i_49+1)) (List.set w_68 (Int.toNat i_49) (v32 ((v32 ((v32 ((List.getD w_68 (Int.toNat (w64 (i_49-16))) 0)+(bitsOf .xor .u32 x69 (shrOf .u32 (List.getD w_68 (Int.toNat (w64 (i_49-15))) 0) 3))))+(List.getD w_68 (Int.toNat (w64 (i_49-7))) 0)))+(bitsOf .xor .u32 x70 (shrOf .u32 (List.getD w_68 (Int.toNat (w64 (i_49-2))) 0) 10))))) h16)
 ·obtain ⟨i71,rfl,h17⟩:=Zae h11
  obtain ⟨x72,c146,h18⟩:=ZbU h17
  exact aq fol [.r [],.c false,.r [(3,{oc:=x72.lo})],.r []] [0,4,9,96] [4,9] (aI c133 c146) (At.loop N (At.loopN (fun y:Int×(List Int)=>Zaf.p3.S i71 y.1 w_68 y.2 st) (fun c J hc y h=>Zaf.p3_ok (v73:=y.1) (s_80:=y.2) h hE (fun v73 s_80=>hc (v73,s_80))) N (0,x72.state) h18))
theorem Zaf.p1_ok {h_0 b_1 v1 w_44 st r c1_ J1} (h:Zaf.p1 N h_0 b_1 st c1_ (v1,w_44)=some r) (hE:En Tryz.f224 g0 w0 (Zaf.rs r) r R) (hc1 : ∀v1 w_44,c1_ (v1,w_44)=some r→At g0 w0 (Zaf.p1.S h_0 b_1 v1 w_44 st) J1):At g0 w0 (Zaf.p1.S h_0 b_1 v1 w_44 st) (XK Tryz.prog R (.c (csub Zaf.B [1,0,1,0,0]) :: .h J1 :: [.b 0,.c (csub Zaf.B [1,1])])):=by
 unfold Zaf.p1 at h
 refine iteB h (fun c84 h19=>?_) (fun c84 h20=>?_)
 ·obtain ⟨c85,c86,h21⟩:=ck2 h19
  obtain ⟨x45,c87,h22⟩:=ZfO h21
  obtain ⟨c88,c89,h23⟩:=ck2 h22
  obtain ⟨x46,c90,h24⟩:=ZfO h23
  obtain ⟨c91,c92,h25⟩:=ck2 h24
  obtain ⟨x47,c93,h26⟩:=ZfO h25
  obtain ⟨c94,c95,h27⟩:=ck2 h26
  obtain ⟨x48,c96,h28⟩:=ZfO h27
  obtain ⟨c97,c98,h29⟩:=ck2 h28
  exact and_ fol [.r [],.c true,.r [],.d {ds:=[(5,{oe:=[L.int .u8 x45]}),(13,{oe:=[L.int .u8 x46]}),(22,{oe:=[L.int .u8 x47]}),(31,{oe:=[L.int .u8 x48]})],hv:=34359738368,Hs:=[34359738368]},.r []] [0,1,4,16] [4] (aO c84 c85 c86 c87 (leI 0 24) c88 c89 (aO c90 (leI 0 16) c91 c92 c93 (leI 0 8) c94 (aK c95 c96 c97 c98))) (hc1 (w64 (v1+1)) (List.set w_44 (Int.toNat v1) (bitsOf .or .u32 (bitsOf .or .u32 (bitsOf .or .u32 (shlOf .u32 (v32 (x45)) 24) (shlOf .u32 (v32 (x46)) 16)) (shlOf .u32 (v32 (x47)) 8)) (v32 (x48)))) h29)
 ·exact aq fol [.r [],.c false,.r []] [0,4,6] [4] c84 (At.loop N (At.loopN (fun y:Int×(List Int)=>Zaf.p2.S h_0 y.1 y.2 st) (fun c J hc y h=>Zaf.p2_ok (i_49:=y.1) (w_68:=y.2) h hE (fun i_49 w_68=>hc (i_49,w_68))) N (16,w_44) h20))
theorem Zaf.snd {h_0:Option Nat} {b_1:LL} {st:LL} {r:LL} (h:Zaf N h_0 b_1 st=some r):Snd Tryz.prog 224 [.one (L.ptr h_0),.one (L.sl 1 b_1)] st (Zaf.rs r) r:=
 sO Zaf.B Tryz.func224 fun g0 w0 R hE=>by
  unfold Zaf at h
  exact aq fol [.r [],.r []] [0,1,4,16] [4] trivial (At.loop N (At.loopN (fun y:Int×(List Int)=>Zaf.p1.S h_0 b_1 y.1 y.2 st) (fun c J hc y h=>Zaf.p1_ok (v1:=y.1) (w_44:=y.2) h hE (fun v1 w_44=>hc (v1,w_44))) N (0,List.replicate 64 0) h))
noncomputable def Zay.B:Code:=Tryz.f211.body.getD .skip
noncomputable def Zay.rs (r:LL):List CV:=[]
noncomputable def Zay.p2 (N:Nat) (c1_:((Option Nat)×Int×LL)→Option LL) (i15:Nat) (parts_1:LL) (v1:Int) (c2_:LL→Option LL):LL→Option LL:=fun st20=>
 getE (st20[i15]?) ZbK fun x21=>
 if (decide ((len x21.rest)≥64))=true then
  chk (64≤(List.length x21.rest))<|
  optE (Zaf N (some i15) (List.take 64 x21.rest) st20) fun st22=>
  getE (st22[i15]?) ZbK fun x23=>
  chk (64≤(List.length x23.rest))<|
  c2_ (List.set st22 i15 (Zao.lo {x23 with rest:=List.drop 64 x23.rest}))
 else
 c1_ ((some i15),w64 (v1+1),st20)
noncomputable def Zay.p1 (N:Nat) (parts_1:LL) (c1_:((Option Nat)×Int×LL)→Option LL):((Option Nat)×Int×LL)→Option LL:=fun (h_12,v1,st13)=>
 if (decide (v1<(len parts_1)))=true then
  chk (0≤v1)<|
  getE (parts_1[Int.toNat v1]?) dec_t fun x14=>
  optE h_12 fun i15=>
  getE (st13[i15]?) ZbK fun x16=>
  chk (List.length (x16.rest++(byteL x14))*1≤140737488355328)<|
  loopN (Zay.p2 N c1_ i15 parts_1 v1) N (List.set (List.set (List.set st13 i15 (Zao.lo {x16 with size:=v64 (x16.size+(v64 (((ByteArray.size x14:Nat):Int))))})) i15 (gs (Zao.lo {x16 with size:=v64 (x16.size+(v64 (((ByteArray.size x14:Nat):Int))))}) 1)) i15 (Zao.lo (Zao.mk x16.state (x16.rest++(byteL x14)) (v64 (x16.size+(v64 (((ByteArray.size x14:Nat):Int))))))))
 else
 some st13
noncomputable def Zay (N:Nat) (h_0:Option Nat) (parts_1 st:LL):Option LL:=
 if (Option.isNone h_0)=true then
  some st
 else
 loopN (Zay.p1 N parts_1) N (h_0,0,st)
noncomputable def Zay.p2.S (i15:Nat) (parts_1:LL) (v1:Int) (st20:LL):S:=mkS 55 [(0,sP (some i15)),(8,sV 1 parts_1),(9,sI (len parts_1)),(10,sI v1)] [] st20
noncomputable def Zay.p1.S (h_12:Option Nat) (parts_1:LL) (v1:Int) (st13:LL):S:=mkS 55 [(0,sP h_12),(8,sV 1 parts_1),(9,sI (len parts_1)),(10,sI v1)] [] st13
theorem Zay.p2_ok {i15 parts_1 v1 st20 r c1_ c2_ J1 J2} (h:Zay.p2 N c1_ i15 parts_1 v1 c2_ st20=some r) (hE:En Tryz.f211 g0 w0 (Zay.rs r) r R) (hc1 : ∀h_12 v1 st13,c1_ (h_12,v1,st13)=some r→At g0 w0 (Zay.p1.S h_12 parts_1 v1 st13) J1) (hc2 : ∀st20,c2_ st20=some r→At g0 w0 (Zay.p2.S i15 parts_1 v1 st20) J2):At g0 w0 (Zay.p2.S i15 parts_1 v1 st20) (XK Tryz.prog R (.c (csub Zay.B [1,1,0,0,1,1,0,0,1,1,1,0,0]) :: .h J2 :: [.b 2,.b 1,.c (csub Zay.B [1,1,0,0,1,1,1]),.h J1,.b 0])):=by
 unfold Zay.p2 at h
 obtain ⟨x21,c32,h1⟩:=ZbU h
 refine iteB h1 (fun c33 h2=>?_) (fun c33 h3=>?_)
 ·obtain ⟨c34,h4⟩:=ZaO h2
  obtain ⟨st22,c35,h5⟩:=Zae h4
  obtain ⟨x23,c36,h6⟩:=ZbU h5
  obtain ⟨c37,h7⟩:=ZaO h6
  exact an fol [.r [(3,{oc:=x21.lo})],.c true,.r [(4,{oc:=x21.lo}),(5,{oc:=x21.lo}),(6,{oc:=x21.lo,st:=st22,wm:=2})],.r [(4,{oc:=x23.lo}),(5,{oc:=x23.lo}),(8,{oc:=x23.lo,m:=8,wm:=1})]] [0,8,9,10] [] (aO c32 c33 c32 (leI 0 64) (leN 0 64) c34 c32 (aO z0 c34 c32 (Zaf.snd c35) c36 (leI 0 64) c37 (aM (Nat.le_refl (List.length x23.rest)) c36 (rfl:Root.obj i15=Root.obj i15) c36 c37 (eN ((List.length x23.rest)-64))))) (hc2 (List.set st22 i15 (Zao.lo {x23 with rest:=List.drop 64 x23.rest})) h7)
 ·exact an fol [.r [(3,{oc:=x21.lo})],.c false,.r []] [0,8,9,10] [] (aI c32 c33) (hc1 (some i15) (w64 (v1+1)) st20 h3)
theorem Zay.p1_ok {h_12 parts_1 v1 st13 r c1_ J1} (h:Zay.p1 N parts_1 c1_ (h_12,v1,st13)=some r) (hE:En Tryz.f211 g0 w0 (Zay.rs r) r R) (hc1 : ∀h_12 v1 st13,c1_ (h_12,v1,st13)=some r→At g0 w0 (Zay.p1.S h_12 parts_1 v1 st13) J1):At g0 w0 (Zay.p1.S h_12 parts_1 v1 st13) (XK Tryz.prog R (.c (csub Zay.B [1,1,0,0]) :: .h J1 :: [.b 0])):=by
 unfold Zay.p1 at h
 refine iteB h (fun c20 h8=>?_) (fun c20 h9=>?_)
 ·obtain ⟨c21,h10⟩:=ZaO h8
  obtain ⟨x14,c22,h11⟩:=ZmM h10
  obtain ⟨i15,rfl,h12⟩:=Zae h11
  obtain ⟨x16,c24,h13⟩:=ZbU h12
  obtain ⟨c25,h14⟩:=ZaO h13
  exact aq fol [.r [],.c true,.r [(1,{oe:=[L.str x14]})],.r [(3,{oc:=x16.lo}),(10,{oc:=x16.lo})],.r [(4,{oc:=Zao.lo {x16 with size:=v64 (x16.size+(v64 (((ByteArray.size x14:Nat):Int))))}}),(6,{oe:=Zao.lo {x16 with size:=v64 (x16.size+(v64 (((ByteArray.size x14:Nat):Int))))}}),(9,{oc:=gs (Zao.lo {x16 with size:=v64 (x16.size+(v64 (((ByteArray.size x14:Nat):Int))))}) 1,mv:=[30]})]] [0,8,9,10] [] (aO c20 c21 (oD c20) c22 c24 c24 (Zci c24 (Zao.lo {x16 with size:=v64 (x16.size+(v64 (((ByteArray.size x14:Nat):Int))))})) (aN z0 (eN (List.length x16.rest)) (Zci c24 (Zao.lo {x16 with size:=v64 (x16.size+(v64 (((ByteArray.size x14:Nat):Int))))})) c25 (Zci (Zci c24 (Zao.lo {x16 with size:=v64 (x16.size+(v64 (((ByteArray.size x14:Nat):Int))))})) (gs (Zao.lo {x16 with size:=v64 (x16.size+(v64 (((ByteArray.size x14:Nat):Int))))}) 1)) z0 (eN (List.length (x16.rest++(byteL x14)))))) (At.loop N (At.loopN (fun y:LL=>Zay.p2.S i15 parts_1 v1 y) (fun c J hc y h=>Zay.p2_ok h hE hc1 (fun st20=>hc st20)) N (List.set (List.set (List.set st13 i15 (Zao.lo {x16 with size:=v64 (x16.size+(v64 (((ByteArray.size x14:Nat):Int))))})) i15 (gs (Zao.lo {x16 with size:=v64 (x16.size+(v64 (((ByteArray.size x14:Nat):Int))))}) 1)) i15 (Zao.lo (Zao.mk x16.state (x16.rest++(byteL x14)) (v64 (x16.size+(v64 (((ByteArray.size x14:Nat):Int)))))))) h14))
 ·obtain rfl:=Zad h9
  exact af fol hE [.r [],.c false] [] 0 [] c20
theorem Zay.snd {h_0:Option Nat} {parts_1:LL} {st:LL} {r:LL} (h:Zay N h_0 parts_1 st=some r):Snd Tryz.prog 211 [.one (L.ptr h_0),.one (L.sl 1 parts_1)] st (Zay.rs r) r:=
 sO Zay.B Tryz.func211 fun g0 w0 R hE=>by
  unfold Zay at h
  refine iteB h (fun c1 h15=>?_) (fun c1 h16=>?_)
  ·obtain rfl:=Zad h15
   exact af fol hE [.r [],.c true] [] 0 [] c1
  ·exact aq fol [.r [],.c false,.r []] [0,8,9,10] [] c1 (At.loop N (At.loopN (fun y:(Option Nat)×Int×LL=>Zay.p1.S y.1 parts_1 y.2.1 y.2.2) (fun c J hc y h=>Zay.p1_ok (h_12:=y.1) (v1:=y.2.1) (st13:=y.2.2) h hE (fun h_12 v1 st13=>hc (h_12,v1,st13))) N (h_0,0,st) h16))
noncomputable def Zal.B:Code:=Tryz.f212.body.getD .skip
noncomputable def Zal.rs (r:(List Int)×LL):List CV:=[.agg [L.arr .u8 32 r.1]]
noncomputable def Zal.p4 (N:Nat) (x47:Zao) (st45:LL) (c4_:(Int×(List Int))→Option ((List Int)×LL)):(Int×(List Int))→Option ((List Int)×LL):=fun (v48,out_49)=>
 if (decide (v48<8))=true then
  chk (0≤v48)<|
  chk (0≤(w64 (4*v48)))<|
  chk ((w64 (4*v48))<32)<|
  chk (0≤(w64 ((w64 (4*v48))+1)))<|
  chk ((w64 ((w64 (4*v48))+1))<32)<|
  chk (0≤(w64 ((w64 (4*v48))+2)))<|
  chk ((w64 ((w64 (4*v48))+2))<32)<|
  chk (0≤(w64 ((w64 (4*v48))+3)))<|
  chk ((w64 ((w64 (4*v48))+3))<32)<|
  c4_ (w64 (v48+1),List.set (List.set (List.set (List.set out_49 (Int.toNat (w64 (4*v48))) (v8 (shrOf .u32 (List.getD x47.state (Int.toNat v48) 0) 24))) (Int.toNat (w64 ((w64 (4*v48))+1))) (v8 (shrOf .u32 (List.getD x47.state (Int.toNat v48) 0) 16))) (Int.toNat (w64 ((w64 (4*v48))+2))) (v8 (shrOf .u32 (List.getD x47.state (Int.toNat v48) 0) 8))) (Int.toNat (w64 ((w64 (4*v48))+3))) (v8 (List.getD x47.state (Int.toNat v48) 0)))
 else
 some (out_49,st45)
noncomputable def Zal.p3 (N:Nat) (st v38:LL) (c3_:(Nat×Nat×LL)→Option ((List Int)×LL)):(Nat×Nat×LL)→Option ((List Int)×LL):=fun (tail_43,tail_44,st45)=>
 if (decide (((tail_44:Nat):Int)>0))=true then
  chk ((tail_43+64)≤(List.length v38))<|
  optE (Zaf N (some (List.length st)) (List.take 64 (List.drop tail_43 v38)) st45) fun st46=>
  chk (64≤tail_44)<|
  c3_ (tail_43+64,tail_44-64,st46)
 else
 getE (st45[List.length st]?) ZbK fun x47=>
 loopN (Zal.p4 N x47 st45) N (0,List.replicate 32 0)
noncomputable def Zal.p2 (N:Nat) (h_0:Zao) (st:LL) (c2_:(LL×Int)→Option ((List Int)×LL)):(LL×Int)→Option ((List Int)×LL):=fun (v38,i_26)=>
 if (decide (i_26≥0))=true then
  chk (0≤(w64 (8*i_26)))<|
  chk (List.length (v38 ++ [[L.int .u8 (v8 (shrOf .u64 (v64 (h_0.size*8)) (w64 (8*i_26))))]])*1≤140737488355328)<|
  c2_ (v38 ++ [[L.int .u8 (v8 (shrOf .u64 (v64 (h_0.size*8)) (w64 (8*i_26))))]],w64 (i_26-1))
 else
 loopN (Zal.p3 N st v38) N (0,List.length v38,st ++ [Zao.lo (Zao.mk h_0.state [] 0)])
noncomputable def Zal.p1 (N:Nat) (h_0:Zao) (st:LL) (c1_:LL→Option ((List Int)×LL)):LL→Option ((List Int)×LL):=fun v25=>
 if ((Int.tmod (len v25) 64) != 56)=true then
  chk (List.length (v25 ++ [[L.int .u8 0]])*1≤140737488355328)<|
  c1_ (v25 ++ [[L.int .u8 0]])
 else
 loopN (Zal.p2 N h_0 st) N (v25,7)
noncomputable def Zal (N:Nat) (h_0:Zao) (st:LL):Option ((List Int)×LL):=
 chk (List.length ([]++h_0.rest)*1≤140737488355328)<|
 chk (List.length (([]++h_0.rest) ++ [[L.int .u8 128]])*1≤140737488355328)<|
 loopN (Zal.p1 N h_0 st) N (([]++h_0.rest) ++ [[L.int .u8 128]])
noncomputable def Zal.p4.S (x47:Zao) (v48:Int) (out_49:List Int) (st45:LL):S:=mkS 94 [(2,sA 2),(6,sA 6),(61,.agg [.l (L.arr .u32 8 x47.state)]),(62,sI v48)] [(2,.cells [L.arr .u8 32 (List.replicate 32 0)]),(6,.cells [L.arr .u8 32 out_49])] st45
noncomputable def Zal.p3.S (st:LL) (tail_43 tail_44:Nat) (v38 st45:LL):S:=mkS 94 [(2,sA 2),(3,sP (some (List.length st))),(4,.one (.h (.row 22 0) 1 tail_43 tail_44))] [(2,.cells [L.arr .u8 32 (List.replicate 32 0)]),(22,.row 0 false 1 v38)] st45
noncomputable def Zal.p2.S (h_0:Zao) (st v38:LL) (i_26:Int):S:=mkS 94 [(0,.one (.l (L.bx 10 h_0.ls))),(2,sA 2),(3,sP (some (List.length st))),(4,.one (.h (.row 22 0) 1 0 (List.length v38))),(5,sI i_26)] [(2,.cells [L.arr .u8 32 (List.replicate 32 0)]),(22,.row 0 false 1 v38)] (st ++ [Zao.lo (Zao.mk h_0.state [] 0)])
noncomputable def Zal.p1.S (h_0:Zao) (st v25:LL):S:=mkS 94 [(0,.one (.l (L.bx 10 h_0.ls))),(2,sA 2),(3,sP (some (List.length st))),(4,.one (.h (.row 22 0) 1 0 (List.length v25)))] [(2,.cells [L.arr .u8 32 (List.replicate 32 0)]),(22,.row 0 false 1 v25)] (st ++ [Zao.lo (Zao.mk h_0.state [] 0)])
theorem Zal.p4_ok {x47 v48 out_49 st45 r c4_ J4} (h:Zal.p4 N x47 st45 c4_ (v48,out_49)=some r) (hE:En Tryz.f212 g0 w0 (Zal.rs r) r.2 R) (hc4 : ∀v48 out_49,c4_ (v48,out_49)=some r→At g0 w0 (Zal.p4.S x47 v48 out_49 st45) J4):At g0 w0 (Zal.p4.S x47 v48 out_49 st45) (XK Tryz.prog R (.c (csub Zal.B [1,1,1,1,1,1,1,1,1,0,1,0,0]) :: .h J4 :: [.b 6,.c (csub Zal.B [1,1,1,1,1,1,1,1,1,1])])):=by
 unfold Zal.p4 at h
 refine iteB h (fun c205 h1=>?_) (fun c205 h2=>?_)
 ·obtain ⟨c206,c207,c208,c209,c210,c211,c212,c213,h3⟩:=ck8 h1
  obtain ⟨c214,h4⟩:=ZaO h3
  exact an fol [.r [],.c true,.r [],.r [],.r []] [2,6,61,62] [2,6] (aO c205 c206 (oD c205) (leI 0 24) (leI 0 16) (leI 0 8) c207 (aN c208 c209 c210 c211 c212 c213 c214)) (hc4 (w64 (v48+1)) (List.set (List.set (List.set (List.set out_49 (Int.toNat (w64 (4*v48))) (v8 (shrOf .u32 (List.getD x47.state (Int.toNat v48) 0) 24))) (Int.toNat (w64 ((w64 (4*v48))+1))) (v8 (shrOf .u32 (List.getD x47.state (Int.toNat v48) 0) 16))) (Int.toNat (w64 ((w64 (4*v48))+2))) (v8 (shrOf .u32 (List.getD x47.state (Int.toNat v48) 0) 8))) (Int.toNat (w64 ((w64 (4*v48))+3))) (v8 (List.getD x47.state (Int.toNat v48) 0))) h4)
 ·obtain rfl:=Zad h2
  exact af fol hE [.r [],.c false,.r []] [] 0 [] c205
theorem Zal.p3_ok {st tail_43 tail_44 v38 st45 r c3_ J3} (h:Zal.p3 N st v38 c3_ (tail_43,tail_44,st45)=some r) (hE:En Tryz.f212 g0 w0 (Zal.rs r) r.2 R) (hc3 : ∀tail_43 tail_44 st45,c3_ (tail_43,tail_44,st45)=some r→At g0 w0 (Zal.p3.S st tail_43 tail_44 v38 st45) J3):At g0 w0 (Zal.p3.S st tail_43 tail_44 v38 st45) (XK Tryz.prog R (.c (csub Zal.B [1,1,1,1,1,1,1,0,0,0]) :: .h J3 :: [.b 4,.c (csub Zal.B [1,1,1,1,1,1,1,1])])):=by
 unfold Zal.p3 at h
 refine iteB h (fun c190 h5=>?_) (fun c190 h6=>?_)
 ·obtain ⟨c191,h7⟩:=ZaO h5
  obtain ⟨st46,c192,h8⟩:=Zae h7
  obtain ⟨c193,h9⟩:=ZaO h8
  exact an fol [.r [],.c true,.r [(2,{m:=9}),(3,{st:=st46,wm:=3,fz:=[22]})],.r []] [2,3,4] [2,22] (aO c190 (leI 0 64) (leN 0 64) c191 c191 (Zaf.snd c192) (leI 0 64) (aI c193 (Nat.le_refl (tail_44)))) (hc3 (tail_43+64) (tail_44-64) st46 h9)
 ·obtain ⟨x47,c194,h10⟩:=ZbU h6
  exact aq fol [.r [],.c false,.r [],.r [(3,{oc:=x47.lo})]] [2,6,61,62] [2,6] (aI c190 c194) (At.loop N (At.loopN (fun y:Int×(List Int)=>Zal.p4.S x47 y.1 y.2 st45) (fun c J hc y h=>Zal.p4_ok (v48:=y.1) (out_49:=y.2) h hE (fun v48 out_49=>hc (v48,out_49))) N (0,List.replicate 32 0) h10))
theorem Zal.p2_ok {h_0 st v38 i_26 r c2_ J2} (h:Zal.p2 N h_0 st c2_ (v38,i_26)=some r) (hE:En Tryz.f212 g0 w0 (Zal.rs r) r.2 R) (hc2 : ∀v38 i_26,c2_ (v38,i_26)=some r→At g0 w0 (Zal.p2.S h_0 st v38 i_26) J2):At g0 w0 (Zal.p2.S h_0 st v38 i_26) (XK Tryz.prog R (.c (csub Zal.B [1,1,1,1,1,1,0,1,0,0]) :: .h J2 :: [.b 2,.c (csub Zal.B [1,1,1,1,1,1,1])])):=by
 unfold Zal.p2 at h
 refine iteB h (fun c163 h11=>?_) (fun c163 h12=>?_)
 ·obtain ⟨c164,c165,h13⟩:=ck2 h11
  exact an fol [.r [],.c true,.r [(4,{oe:=h_0.ls})],.r []] [0,2,3,4,5] [2,22] (aO c163 (eO h_0.ls) c164 z0 (eN (List.length v38)) z0 (eN (1)) c165) (hc2 (v38 ++ [[L.int .u8 (v8 (shrOf .u64 (v64 (h_0.size*8)) (w64 (8*i_26))))]]) (w64 (i_26-1)) h13)
 ·exact aq fol [.r [],.c false] [2,3,4] [2,22] c163 (At.loop N (At.loopN (fun y:Nat×Nat×LL=>Zal.p3.S st y.1 y.2.1 v38 y.2.2) (fun c J hc y h=>Zal.p3_ok (tail_43:=y.1) (tail_44:=y.2.1) (st45:=y.2.2) h hE (fun tail_43 tail_44 st45=>hc (tail_43,tail_44,st45))) N (0,List.length v38,st ++ [Zao.lo (Zao.mk h_0.state [] 0)]) h12))
theorem Zal.p1_ok {h_0 st v25 r c1_ J1} (h:Zal.p1 N h_0 st c1_ v25=some r) (hE:En Tryz.f212 g0 w0 (Zal.rs r) r.2 R) (hc1 : ∀v25,c1_ v25=some r→At g0 w0 (Zal.p1.S h_0 st v25) J1):At g0 w0 (Zal.p1.S h_0 st v25) (XK Tryz.prog R (.c (csub Zal.B [1,1,1,1,1,0,0,0]) :: .h J1 :: [.b 0,.c (csub Zal.B [1,1,1,1,1,1])])):=by
 unfold Zal.p1 at h
 refine iteB h (fun c109 h14=>?_) (fun c109 h15=>?_)
 ·obtain ⟨c110,h16⟩:=ZaO h14
  exact an fol [.r [],.c true,.r []] [0,2,3,4] [2,22] (aN (neI 64) c109 z0 (eN (List.length v25)) z0 (eN (1)) c110) (hc1 (v25 ++ [[L.int .u8 0]]) h16)
 ·exact aq fol [.r [],.c false,.r []] [0,2,3,4,5] [2,22] (aI (neI 64) c109) (At.loop N (At.loopN (fun y:LL×Int=>Zal.p2.S h_0 st y.1 y.2) (fun c J hc y h=>Zal.p2_ok (v38:=y.1) (i_26:=y.2) h hE (fun v38 i_26=>hc (v38,i_26))) N (v25,7) h15))
theorem Zal.snd {h_0:Zao} {st:LL} {r:(List Int)×LL} (h:Zal N h_0 st=some r):Snd Tryz.prog 212 [.one (L.bx 10 h_0.ls)] st (Zal.rs r) r.2:=
 sO Zal.B Tryz.func212 fun g0 w0 R hE=>by
  unfold Zal at h
  obtain ⟨c1,c2,h17⟩:=ck2 h
  exact aq fol [.r [],.r [],.c false,.r [(3,{oe:=h_0.ls}),(4,{mv:=[1]}),(5,{m:=1})],.r [(3,{oe:=h_0.ls}),(5,{fz:=[22]})],.r []] [0,2,3,4] [2,22] (aO eF (eO h_0.ls) (eO h_0.ls) c1 z0 (eN (List.length ([]++h_0.rest))) z0 (aI (eN (1)) c2)) (At.loop N (At.loopN (fun y:LL=>Zal.p1.S h_0 st y) (fun c J hc y h=>Zal.p1_ok h hE (fun v25=>hc v25)) N (([]++h_0.rest) ++ [[L.int .u8 128]]) h17))
noncomputable def Zaj.B:Code:=Tryz.f212.body.getD .skip
noncomputable def Zaj.rs (r:(List Int)×LL):List CV:=[.agg [L.arr .u8 32 r.1]]
noncomputable def Zaj.p4 (N:Nat) (x53:Zao) (st51:LL) (c4_:(Int×(List Int))→Option ((List Int)×LL)):(Int×(List Int))→Option ((List Int)×LL):=fun (v54,out_55)=>
 if (decide (v54<8))=true then
  chk (0≤v54)<|
  chk (0≤(w64 (4*v54)))<|
  chk ((w64 (4*v54))<32)<|
  chk (0≤(w64 ((w64 (4*v54))+1)))<|
  chk ((w64 ((w64 (4*v54))+1))<32)<|
  chk (0≤(w64 ((w64 (4*v54))+2)))<|
  chk ((w64 ((w64 (4*v54))+2))<32)<|
  chk (0≤(w64 ((w64 (4*v54))+3)))<|
  chk ((w64 ((w64 (4*v54))+3))<32)<|
  c4_ (w64 (v54+1),List.set (List.set (List.set (List.set out_55 (Int.toNat (w64 (4*v54))) (v8 (shrOf .u32 (List.getD x53.state (Int.toNat v54) 0) 24))) (Int.toNat (w64 ((w64 (4*v54))+1))) (v8 (shrOf .u32 (List.getD x53.state (Int.toNat v54) 0) 16))) (Int.toNat (w64 ((w64 (4*v54))+2))) (v8 (shrOf .u32 (List.getD x53.state (Int.toNat v54) 0) 8))) (Int.toNat (w64 ((w64 (4*v54))+3))) (v8 (List.getD x53.state (Int.toNat v54) 0)))
 else
 some (out_55,st51)
noncomputable def Zaj.p3 (N:Nat) (st v43:LL) (c3_:(Nat×Nat×LL)→Option ((List Int)×LL)):(Nat×Nat×LL)→Option ((List Int)×LL):=fun (tail_49,tail_50,st51)=>
 if (decide (((tail_50:Nat):Int)>0))=true then
  chk ((tail_49+64)≤(List.length v43))<|
  optE (Zaf N (some (List.length st)) (List.take 64 (List.drop tail_49 v43)) st51) fun st52=>
  chk (64≤tail_50)<|
  c3_ (tail_49+64,tail_50-64,st52)
 else
 getE (st51[List.length st]?) ZbK fun x53=>
 loopN (Zaj.p4 N x53 st51) N (0,List.replicate 32 0)
noncomputable def Zaj.p2 (N:Nat) (i1:Nat) (st:LL) (x2:Zao) (c2_:(LL×Int)→Option ((List Int)×LL)):(LL×Int)→Option ((List Int)×LL):=fun (v43,i_30)=>
 if (decide (i_30≥0))=true then
  getE ((st ++ [Zao.lo (Zao.mk x2.state [] 0)])[i1]?) ZbK fun x44=>
  chk (0≤(w64 (8*i_30)))<|
  chk (List.length (v43 ++ [[L.int .u8 (v8 (shrOf .u64 (v64 (x44.size*8)) (w64 (8*i_30))))]])*1≤140737488355328)<|
  c2_ (v43 ++ [[L.int .u8 (v8 (shrOf .u64 (v64 (x44.size*8)) (w64 (8*i_30))))]],w64 (i_30-1))
 else
 loopN (Zaj.p3 N st v43) N (0,List.length v43,st ++ [Zao.lo (Zao.mk x2.state [] 0)])
noncomputable def Zaj.p1 (N:Nat) (i1:Nat) (st:LL) (x2:Zao) (c1_:LL→Option ((List Int)×LL)):LL→Option ((List Int)×LL):=fun v29=>
 if ((Int.tmod (len v29) 64) != 56)=true then
  chk (List.length (v29 ++ [[L.int .u8 0]])*1≤140737488355328)<|
  c1_ (v29 ++ [[L.int .u8 0]])
 else
 loopN (Zaj.p2 N i1 st x2) N (v29,7)
noncomputable def Zaj (N:Nat) (h_0:Option Nat) (st:LL):Option ((List Int)×LL):=
 if (Option.isNone h_0)=true then
  some (List.replicate 32 0,st)
 else
 optE h_0 fun i1=>
 getE (st[i1]?) ZbK fun x2=>
 chk (List.length ([]++x2.rest)*1≤140737488355328)<|
 chk (List.length (([]++x2.rest) ++ [[L.int .u8 128]])*1≤140737488355328)<|
 loopN (Zaj.p1 N i1 st x2) N (([]++x2.rest) ++ [[L.int .u8 128]])
noncomputable def Zaj.p4.S (x53:Zao) (v54:Int) (out_55:List Int) (st51:LL):S:=mkS 94 [(2,sA 2),(6,sA 6),(61,.agg [.l (L.arr .u32 8 x53.state)]),(62,sI v54)] [(2,.cells [L.arr .u8 32 (List.replicate 32 0)]),(6,.cells [L.arr .u8 32 out_55])] st51
noncomputable def Zaj.p3.S (st:LL) (tail_49 tail_50:Nat) (v43 st51:LL):S:=mkS 94 [(2,sA 2),(3,sP (some (List.length st))),(4,.one (.h (.row 22 0) 1 tail_49 tail_50))] [(2,.cells [L.arr .u8 32 (List.replicate 32 0)]),(22,.row 0 false 1 v43)] st51
noncomputable def Zaj.p2.S (i1:Nat) (st v43:LL) (i_30:Int) (x2:Zao):S:=mkS 94 [(0,sP (some i1)),(2,sA 2),(3,sP (some (List.length st))),(4,.one (.h (.row 22 0) 1 0 (List.length v43))),(5,sI i_30)] [(2,.cells [L.arr .u8 32 (List.replicate 32 0)]),(22,.row 0 false 1 v43)] (st ++ [Zao.lo (Zao.mk x2.state [] 0)])
noncomputable def Zaj.p1.S (i1:Nat) (st v29:LL) (x2:Zao):S:=mkS 94 [(0,sP (some i1)),(2,sA 2),(3,sP (some (List.length st))),(4,.one (.h (.row 22 0) 1 0 (List.length v29)))] [(2,.cells [L.arr .u8 32 (List.replicate 32 0)]),(22,.row 0 false 1 v29)] (st ++ [Zao.lo (Zao.mk x2.state [] 0)])
theorem Zaj.p4_ok {x53 v54 out_55 st51 r c4_ J4} (h:Zaj.p4 N x53 st51 c4_ (v54,out_55)=some r) (hE:En Tryz.f212 g0 w0 (Zaj.rs r) r.2 R) (hc4 : ∀v54 out_55,c4_ (v54,out_55)=some r→At g0 w0 (Zaj.p4.S x53 v54 out_55 st51) J4):At g0 w0 (Zaj.p4.S x53 v54 out_55 st51) (XK Tryz.prog R (.c (csub Zaj.B [1,1,1,1,1,1,1,1,1,0,1,0,0]) :: .h J4 :: [.b 6,.c (csub Zaj.B [1,1,1,1,1,1,1,1,1,1])])):=by
 unfold Zaj.p4 at h
 refine iteB h (fun c212 h1=>?_) (fun c212 h2=>?_)
 ·obtain ⟨c213,c214,c215,c216,c217,c218,c219,c220,h3⟩:=ck8 h1
  obtain ⟨c221,h4⟩:=ZaO h3
  exact an fol [.r [],.c true,.r [],.r [],.r []] [2,6,61,62] [2,6] (aO c212 c213 (oD c212) (leI 0 24) (leI 0 16) (leI 0 8) c214 (aN c215 c216 c217 c218 c219 c220 c221)) (hc4 (w64 (v54+1)) (List.set (List.set (List.set (List.set out_55 (Int.toNat (w64 (4*v54))) (v8 (shrOf .u32 (List.getD x53.state (Int.toNat v54) 0) 24))) (Int.toNat (w64 ((w64 (4*v54))+1))) (v8 (shrOf .u32 (List.getD x53.state (Int.toNat v54) 0) 16))) (Int.toNat (w64 ((w64 (4*v54))+2))) (v8 (shrOf .u32 (List.getD x53.state (Int.toNat v54) 0) 8))) (Int.toNat (w64 ((w64 (4*v54))+3))) (v8 (List.getD x53.state (Int.toNat v54) 0))) h4)
 ·obtain rfl:=Zad h2
  exact af fol hE [.r [],.c false,.r []] [] 0 [] c212
theorem Zaj.p3_ok {st tail_49 tail_50 v43 st51 r c3_ J3} (h:Zaj.p3 N st v43 c3_ (tail_49,tail_50,st51)=some r) (hE:En Tryz.f212 g0 w0 (Zaj.rs r) r.2 R) (hc3 : ∀tail_49 tail_50 st51,c3_ (tail_49,tail_50,st51)=some r→At g0 w0 (Zaj.p3.S st tail_49 tail_50 v43 st51) J3):At g0 w0 (Zaj.p3.S st tail_49 tail_50 v43 st51) (XK Tryz.prog R (.c (csub Zaj.B [1,1,1,1,1,1,1,0,0,0]) :: .h J3 :: [.b 4,.c (csub Zaj.B [1,1,1,1,1,1,1,1])])):=by
 unfold Zaj.p3 at h
 refine iteB h (fun c197 h5=>?_) (fun c197 h6=>?_)
 ·obtain ⟨c198,h7⟩:=ZaO h5
  obtain ⟨st52,c199,h8⟩:=Zae h7
  obtain ⟨c200,h9⟩:=ZaO h8
  exact an fol [.r [],.c true,.r [(2,{m:=9}),(3,{st:=st52,wm:=3,fz:=[22]})],.r []] [2,3,4] [2,22] (aO c197 (leI 0 64) (leN 0 64) c198 c198 (Zaf.snd c199) (leI 0 64) (aI c200 (Nat.le_refl (tail_50)))) (hc3 (tail_49+64) (tail_50-64) st52 h9)
 ·obtain ⟨x53,c201,h10⟩:=ZbU h6
  exact aq fol [.r [],.c false,.r [],.r [(3,{oc:=x53.lo})]] [2,6,61,62] [2,6] (aI c197 c201) (At.loop N (At.loopN (fun y:Int×(List Int)=>Zaj.p4.S x53 y.1 y.2 st51) (fun c J hc y h=>Zaj.p4_ok (v54:=y.1) (out_55:=y.2) h hE (fun v54 out_55=>hc (v54,out_55))) N (0,List.replicate 32 0) h10))
theorem Zaj.p2_ok {i1 st v43 i_30 x2 r c2_ J2} (h:Zaj.p2 N i1 st x2 c2_ (v43,i_30)=some r) (hE:En Tryz.f212 g0 w0 (Zaj.rs r) r.2 R) (hc2 : ∀v43 i_30,c2_ (v43,i_30)=some r→At g0 w0 (Zaj.p2.S i1 st v43 i_30 x2) J2):At g0 w0 (Zaj.p2.S i1 st v43 i_30 x2) (XK Tryz.prog R (.c (csub Zaj.B [1,1,1,1,1,1,0,1,0,0]) :: .h J2 :: [.b 2,.c (csub Zaj.B [1,1,1,1,1,1,1])])):=by
 unfold Zaj.p2 at h
 refine iteB h (fun c169 h11=>?_) (fun c169 h12=>?_)
 ·obtain ⟨x44,c170,h13⟩:=ZbU h11
  obtain ⟨c171,c172,h14⟩:=ck2 h13
  exact an fol [.r [],.c true,.r [(4,{oc:=x44.lo})],.r []] [0,2,3,4,5] [2,22] (aO c169 c170 c171 z0 (eN (List.length v43)) z0 (eN (1)) c172) (hc2 (v43 ++ [[L.int .u8 (v8 (shrOf .u64 (v64 (x44.size*8)) (w64 (8*i_30))))]]) (w64 (i_30-1)) h14)
 ·exact aq fol [.r [],.c false] [2,3,4] [2,22] c169 (At.loop N (At.loopN (fun y:Nat×Nat×LL=>Zaj.p3.S st y.1 y.2.1 v43 y.2.2) (fun c J hc y h=>Zaj.p3_ok (tail_49:=y.1) (tail_50:=y.2.1) (st51:=y.2.2) h hE (fun tail_49 tail_50 st51=>hc (tail_49,tail_50,st51))) N (0,List.length v43,st ++ [Zao.lo (Zao.mk x2.state [] 0)]) h12))
theorem Zaj.p1_ok {i1 st v29 x2 r c1_ J1} (h:Zaj.p1 N i1 st x2 c1_ v29=some r) (hE:En Tryz.f212 g0 w0 (Zaj.rs r) r.2 R) (hc1 : ∀v29,c1_ v29=some r→At g0 w0 (Zaj.p1.S i1 st v29 x2) J1):At g0 w0 (Zaj.p1.S i1 st v29 x2) (XK Tryz.prog R (.c (csub Zaj.B [1,1,1,1,1,0,0,0]) :: .h J1 :: [.b 0,.c (csub Zaj.B [1,1,1,1,1,1])])):=by
 unfold Zaj.p1 at h
 refine iteB h (fun c114 h15=>?_) (fun c114 h16=>?_)
 ·obtain ⟨c115,h17⟩:=ZaO h15
  exact an fol [.r [],.c true,.r []] [0,2,3,4] [2,22] (aN (neI 64) c114 z0 (eN (List.length v29)) z0 (eN (1)) c115) (hc1 (v29 ++ [[L.int .u8 0]]) h17)
 ·exact aq fol [.r [],.c false,.r []] [0,2,3,4,5] [2,22] (aI (neI 64) c114) (At.loop N (At.loopN (fun y:LL×Int=>Zaj.p2.S i1 st y.1 y.2 x2) (fun c J hc y h=>Zaj.p2_ok (v43:=y.1) (i_30:=y.2) h hE (fun v43 i_30=>hc (v43,i_30))) N (v29,7) h16))
theorem Zaj.snd {h_0:Option Nat} {st:LL} {r:(List Int)×LL} (h:Zaj N h_0 st=some r):Snd Tryz.prog 212 [.one (L.ptr h_0)] st (Zaj.rs r) r.2:=
 sO Zaj.B Tryz.func212 fun g0 w0 R hE=>by
  unfold Zaj at h
  refine iteB h (fun c1 h18=>?_) (fun c1 h19=>?_)
  ·obtain rfl:=Zad h18
   exact af fol hE [.r [],.r [],.c true,.r []] [] 0 [] c1
  ·obtain ⟨i1,rfl,h20⟩:=Zae h19
   obtain ⟨x2,c3,h21⟩:=ZbU h20
   obtain ⟨c4,c5,h22⟩:=ck2 h21
   exact aq fol [.r [],.r [],.c false,.r [(3,{oc:=x2.lo}),(4,{mv:=[1]}),(5,{m:=1})],.r [(3,{oc:=x2.lo}),(4,{oc:=x2.lo}),(5,{fz:=[22]})],.r []] [0,2,3,4] [2,22] (aO c1 c3 (st_old c3 (Zao.lo (Zao.mk x2.state [] 0))) z0 (eN (List.length x2.rest)) (st_old c3 (Zao.lo (Zao.mk x2.state [] 0))) c4 (aL z0 (eN (List.length ([]++x2.rest))) z0 (eN (1)) c5)) (At.loop N (At.loopN (fun y:LL=>Zaj.p1.S i1 st y x2) (fun c J hc y h=>Zaj.p1_ok h hE (fun v29=>hc v29)) N (([]++x2.rest) ++ [[L.int .u8 128]]) h22))
noncomputable def Zdw.B:Code:=Tryz.f188.body.getD .skip
noncomputable def Zdw.rs (r:(List Int)×LL):List CV:=[.agg [L.arr .u8 32 r.1]]
noncomputable def Zdw (N:Nat) (parts_0 st:LL):Option ((List Int)×LL):=
 optE (ZdJ N st) fun (x1,st2)=>
 optE (Zay N x1 parts_0 st2) fun st3=>
 optE (Zaj N x1 st3) fun (x4,st5)=>
 some (x4,st5)
theorem Zdw.snd {parts_0:LL} {st:LL} {r:(List Int)×LL} (h:Zdw N parts_0 st=some r):Snd Tryz.prog 188 [.one (L.sl 1 parts_0)] st (Zdw.rs r) r.2:=
 sO Zdw.B Tryz.func188 fun g0 w0 R hE=>by
  unfold Zdw at h
  obtain ⟨⟨x1,st2⟩,c1,h1⟩:=Zae h
  obtain ⟨st3,c2,h2⟩:=Zae h1
  obtain ⟨⟨x4,st5⟩,c3,h3⟩:=Zae h2
  obtain rfl:=Zad h3
  exact af fol hE [.r [],.r [(0,{rs:=[.one (L.ptr x1)],st:=st2})],.r [(2,{st:=st3})],.r [(1,{rs:=[.agg [L.arr .u8 32 x4]],st:=st5})]] [] 0 [] (aJ (ZdJ.snd c1) (Zay.snd c2) (Zaj.snd c3))
noncomputable def Zcv.B:Code:=Tryz.f148.body.getD .skip
noncomputable def Zcv.rs (r:(List Int)×LL):List CV:=[.agg [L.arr .u8 32 r.1]]
noncomputable def Zcv (N:Nat) (parts_0 st:LL):Option ((List Int)×LL):=
 optE (Zdw N parts_0 st) fun (x1,st2)=>
 optE (Zdw N [[L.str (istr x1)]] st2) fun (x3,st4)=>
 some (x3,st4)
theorem Zcv.snd {parts_0:LL} {st:LL} {r:(List Int)×LL} (h:Zcv N parts_0 st=some r):Snd Tryz.prog 148 [.one (L.sl 1 parts_0)] st (Zcv.rs r) r.2:=
 sO Zcv.B Tryz.func148 fun g0 w0 R hE=>by
  unfold Zcv at h
  obtain ⟨⟨x1,st2⟩,c1,h1⟩:=Zae h
  obtain ⟨⟨x3,st4⟩,c2,h2⟩:=Zae h1
  obtain rfl:=Zad h2
  exact af fol hE [.r [],.r [(1,{rs:=[.agg [L.arr .u8 32 x1]],st:=st2})],.r [(3,{rs:=[.agg [L.arr .u8 32 x3]],st:=st4,fz:=[8]})]] [] 0 [] (aM (Zdw.snd c1) (leN 0 32) (leN 32 32) z0 (eN (1)) (Zdw.snd c2))
noncomputable def Zdo.B:Code:=Tryz.f91.body.getD .skip
noncomputable def Zdo.rs (r:(List Int)×LL):List CV:=[.agg [L.arr .u8 32 r.1]]
noncomputable def Zdo (N:Nat) (h_0:Zac) (st:LL):Option ((List Int)×LL):=
 optE (ZcF N h_0 st) fun (x1,x2,st3)=>
 if (x2 != 0)=true then
  some (List.replicate 32 0,st3)
 else
 optE (Zcv N [[L.str x1]] st3) fun (x4,st5)=>
 some (x4,st5)
theorem Zdo.snd {h_0:Zac} {st:LL} {r:(List Int)×LL} (h:Zdo N h_0 st=some r):Snd Tryz.prog 91 [.agg h_0.ls] st (Zdo.rs r) r.2:=
 sO Zdo.B Tryz.func91 fun g0 w0 R hE=>by
  unfold Zdo at h
  obtain ⟨⟨x1,x2,st3⟩,c1,h1⟩:=Zae h
  let o1:List PS:=[.r [],.r [(1,{rs:=[.one (L.str x1),oI x2],st:=st3})],.r []]
  refine iteB h1 (fun c2 h2=>?_) (fun c2 h3=>?_)
  ·obtain rfl:=Zad h2
   exact af fol hE (o1 ++ [.c true,.r []]) [] 0 [] (aI (ZcF.snd c1) c2)
  ·obtain ⟨⟨x4,st5⟩,c3,h4⟩:=Zae h3
   obtain rfl:=Zad h4
   exact af fol hE (o1 ++ [.c false,.r [(2,{rs:=[.agg [L.arr .u8 32 x4]],st:=st5,fz:=[14]})]]) [] 0 [] (aL (ZcF.snd c1) c2 z0 (eN (1)) (Zcv.snd c3))
noncomputable def ZaN.B:Code:=Tryz.f156.body.getD .skip
noncomputable def ZaN.rs (r:LL):List CV:=[]
noncomputable def ZaN.p1 (N:Nat) (times_1:LL) (c1_:((Option Nat)×Int×LL)→Option LL):((Option Nat)×Int×LL)→Option LL:=fun (w_5,v1,st6)=>
 if (decide (v1<(len times_1)))=true then
  chk (0≤v1)<|
  getE (times_1[Int.toNat v1]?) Zel fun x7=>
  optE w_5 fun i8=>
  getE (st6[i8]?) ZfS fun x9=>
  chk (0≤(if (10:Int)<(len x9) then 10 else (len x9)))<|
  chk ((Int.toNat (if (10:Int)<(len x9) then 10 else (len x9)))≤(List.length x9))<|
  chk (List.length ([[L.int .i64 x7]]++(List.take (Int.toNat (if (10:Int)<(len x9) then 10 else (len x9))) x9))*8≤140737488355328)<|
  c1_ ((some i8),w64 (v1+1),List.set st6 i8 [L.own true 1 ([[L.int .i64 x7]]++(List.take (Int.toNat (if (10:Int)<(len x9) then 10 else (len x9))) x9))])
 else
 some st6
noncomputable def ZaN (N:Nat) (w_0:Option Nat) (times_1 st:LL):Option LL:=
 if (Option.isNone w_0)=true then
  some st
 else
 loopN (ZaN.p1 N times_1) N (w_0,0,st)
noncomputable def ZaN.p1.S (w_5:Option Nat) (times_1:LL) (v1:Int) (st6:LL):S:=mkS 32 [(0,sP w_5),(8,sV 1 times_1),(9,sI (len times_1)),(10,sI v1)] [] st6
theorem ZaN.p1_ok {w_5 times_1 v1 st6 r c1_ J1} (h:ZaN.p1 N times_1 c1_ (w_5,v1,st6)=some r) (hE:En Tryz.f156 g0 w0 (ZaN.rs r) r R) (hc1 : ∀w_5 v1 st6,c1_ (w_5,v1,st6)=some r→At g0 w0 (ZaN.p1.S w_5 times_1 v1 st6) J1):At g0 w0 (ZaN.p1.S w_5 times_1 v1 st6) (XK Tryz.prog R (.c (csub ZaN.B [1,1,0,0]) :: .h J1 :: [.b 0])):=by
 unfold ZaN.p1 at h
 refine iteB h (fun c10 h1=>?_) (fun c10 h2=>?_)
 ·obtain ⟨c11,h3⟩:=ZaO h1
  obtain ⟨x7,c12,h4⟩:=Zdh h3
  obtain ⟨i8,rfl,h5⟩:=Zae h4
  obtain ⟨x9,c14,h6⟩:=Zeq h5
  obtain ⟨c15,c16,c17,h7⟩:=ck3 h6
  exact and_ fol [.r [],.c true,.r [(1,{oe:=[L.int .i64 x7]})],.d {ds:=[(6,{oc:=[L.own true 1 x9]}),(10,{oc:=[L.own true 1 x9]}),(13,{oc:=[L.own true 1 x9]}),(14,{oc:=[L.own true 1 x9],wm:=2}),(17,{oc:=[L.own true 1 x9],mv:=[16]})],hv:=147460,Hs:=[4,16388,147460]},.r []] [0,8,9,10] [] (aO c10 c11 (oD c10) c12 c14 c14 c14 (aO c14 c15 (Nat.zero_le (Int.toNat (if (10:Int)<(len x9) then 10 else (len x9)))) c16 c14 c15 (Nat.zero_le (Int.toNat (if (10:Int)<(len x9) then 10 else (len x9)))) (aO c16 c14 z0 (eN (1)) z0 c16 c14 (aK c17 c14 z0 (eN (List.length ([[L.int .i64 x7]]++(List.take (Int.toNat (if (10:Int)<(len x9) then 10 else (len x9))) x9)))))))) (hc1 (some i8) (w64 (v1+1)) (List.set st6 i8 [L.own true 1 ([[L.int .i64 x7]]++(List.take (Int.toNat (if (10:Int)<(len x9) then 10 else (len x9))) x9))]) h7)
 ·obtain rfl:=Zad h2
  exact af fol hE [.r [],.c false] [] 0 [] c10
theorem ZaN.snd {w_0:Option Nat} {times_1:LL} {st:LL} {r:LL} (h:ZaN N w_0 times_1 st=some r):Snd Tryz.prog 156 [.one (L.ptr w_0),.one (L.sl 1 times_1)] st (ZaN.rs r) r:=
 sO ZaN.B Tryz.func156 fun g0 w0 R hE=>by
  unfold ZaN at h
  refine iteB h (fun c1 h8=>?_) (fun c1 h9=>?_)
  ·obtain rfl:=Zad h8
   exact af fol hE [.r [],.c true] [] 0 [] c1
  ·exact aq fol [.r [],.c false,.r []] [0,8,9,10] [] c1 (At.loop N (At.loopN (fun y:(Option Nat)×Int×LL=>ZaN.p1.S y.1 times_1 y.2.1 y.2.2) (fun c J hc y h=>ZaN.p1_ok (w_5:=y.1) (v1:=y.2.1) (st6:=y.2.2) h hE (fun w_5 v1 st6=>hc (w_5,v1,st6))) N (w_0,0,st) h9))
noncomputable def ZcE.B:Code:=Tryz.f157.body.getD .skip
noncomputable def ZcE.rs (r:LL×LL):List CV:=[.row true 1 r.1]
noncomputable def ZcE (N:Nat) (w_0:Option Nat) (st:LL):Option (LL×LL):=
 if (Option.isNone w_0)=true then
  some ([],st)
 else
 optE w_0 fun i1=>
 getE (st[i1]?) ZfS fun x2=>
 optE (Zbt N x2) fun x3=>
 chk (plainRow x3=true)<|
 some (x3,st)
theorem ZcE.snd {w_0:Option Nat} {st:LL} {r:LL×LL} (h:ZcE N w_0 st=some r):Snd Tryz.prog 157 [.one (L.ptr w_0)] st (ZcE.rs r) r.2:=
 sO ZcE.B Tryz.func157 fun g0 w0 R hE=>by
  unfold ZcE at h
  refine iteB h (fun c1 h1=>?_) (fun c1 h2=>?_)
  ·obtain rfl:=Zad h1
   exact af fol hE [.r [(0,{m:=2})],.r [],.c true,.r [(0,{m:=2})]] [] 0 [0] c1
  ·obtain ⟨i1,rfl,h3⟩:=Zae h2
   obtain ⟨x2,c3,h4⟩:=Zeq h3
   obtain ⟨x3,c4,h5⟩:=Zae h4
   obtain ⟨c5,h6⟩:=ZaO h5
   obtain rfl:=Zad h6
   exact af fol hE [.r [(0,{m:=2})],.r [],.c false,.r [(3,{oc:=[L.own true 1 x2]}),(4,{oc:=[L.own true 1 x2],rs:=[.row true 1 x3],ns:=[9],m:=2})]] [] 0 [0] (aO c1 c3 z0 (eN (List.length x2)) c3 c5 (Zbt.snd c4) (aI z0 (eN (List.length x3))))
noncomputable def ZcD.B:Code:=Tryz.f155.body.getD .skip
noncomputable def ZcD.rs (r:Bool):List CV:=[oB r]
noncomputable def ZcD (N:Nat) (p_0:Zai) (height_1:Int):Option Bool:=
 if (decide (p_0.Interval>0))=true then
  chk (p_0.Interval≠0)<|
  some ((Int.tmod height_1 p_0.Interval)==0)
 else
 some false
theorem ZcD.snd {p_0:Zai} {height_1:Int} {r:Bool} (h:ZcD N p_0 height_1=some r):SndQ Tryz.prog 155 [.agg p_0.ls,oI height_1] (ZcD.rs r):=fun st=>
 sO ZcD.B Tryz.func155 fun g0 w0 R hE=>by
  unfold ZcD at h
  refine iteB h (fun c1 h1=>?_) (fun c1 h2=>?_)
  ·obtain ⟨c2,h3⟩:=ZaO h1
   obtain rfl:=Zad h3
   exact af fol hE [.r [],.r []] [] 0 [] (aN c1 c1 c1 c1 c2 c1 c1)
  ·obtain rfl:=Zad h2
   exact af fol hE [.r [],.r [(4,wF),(5,wF),(6,wF),(7,wF),(8,wF),(9,yF)]] [] 0 [] (aM c1 c1 c1 c1 c1 c1)
noncomputable def ZbM.B:Code:=Tryz.f157.body.getD .skip
noncomputable def ZbM.rs (r:LL):List CV:=[.row true 1 r]
noncomputable def ZbM (N:Nat) (w_0:LL):Option LL:=
 optE (Zbt N w_0) fun x1=>
 some x1
theorem ZbM.snd {w_0:LL} {r:LL} (h:ZbM N w_0=some r):SndQ Tryz.prog 157 [.one (L.bx 1 [L.sl 1 w_0])] (ZbM.rs r):=fun st=>
 sO ZbM.B Tryz.func157 fun g0 w0 R hE=>by
  unfold ZbM at h
  obtain ⟨x1,c1,h1⟩:=Zae h
  obtain rfl:=Zad h1
  exact af fol hE [.r [(0,{m:=2})],.r [],.c false,.r [(3,{oe:=[L.sl 1 w_0]}),(4,{rs:=[.row true 1 x1],ns:=[9],m:=1})]] [] 0 [0] (aL eF (eO [L.sl 1 w_0]) (Zbt.snd c1) z0 (eN (List.length x1)))
noncomputable def ZaH.B:Code:=Tryz.f93.body.getD .skip
noncomputable def ZaH.rs (r:Zat×LL):List CV:=[.agg r.1.ls]
noncomputable def ZaH.p3 (N:Nat) (st2:LL) (at_1:Zat) (h_2:Zac) (out_8:Zat) (c3_:(Int×LL)→Option (Zat×LL)):(Int×LL)→Option (Zat×LL):=fun (i_9,st15)=>
 if (decide (i_9≥0))=true then
  chk (0≤i_9)<|
  chk (i_9<(len at_1.Times))<|
  getE (at_1.Times[Int.toNat i_9]?) Zel fun x16=>
  optE (ZaN N (some (List.length st2)) [[L.int .i64 x16]] st15) fun st17=>
  c3_ (w64 (i_9-1),st17)
 else
 optE (ZaN N (some (List.length st2)) [[L.int .i64 h_2.Time]] st15) fun st18=>
 getE (st18[List.length st2]?) ZfS fun x19=>
 optE (ZbM N x19) fun x20=>
 chk (plainRow x20=true)<|
 some ({out_8 with Times:=x20},st18)
noncomputable def ZaH.p2 (N:Nat) (at_1:Zat) (h_2:Zac) (out_8:Zat) (st2:LL):Option (Zat×LL):=
 loopN (ZaH.p3 N st2 at_1 h_2 out_8) N (w64 ((if (11:Int)<(len at_1.Times) then 11 else (len at_1.Times))-1),st2 ++ [[L.own true 1 []]])
noncomputable def ZaH.p1 (N:Nat) (p_0:Zai) (at_1:Zat) (h_2:Zac) (out_5:Zat) (st2:LL):Option (Zat×LL):=
 if p_0.Easy=true then
  if (h_2.Bits==p_0.Limit)=true then
   optE (ZcD N p_0 at_1.Point.Height) fun x6=>
   if (!x6)=true then
    ZaH.p2 N at_1 h_2 {out_5 with Point:={out_5.Point with Hard:=at_1.Point.Hard}} st2
   else
   ZaH.p2 N at_1 h_2 out_5 st2
  else
  ZaH.p2 N at_1 h_2 out_5 st2
 else
 ZaH.p2 N at_1 h_2 out_5 st2
noncomputable def ZaH (N:Nat) (p_0:Zai) (at_1:Zat) (h_2:Zac) (st:LL):Option (Zat×LL):=
 optE (Zdo N h_2 st) fun (x1,st2)=>
 optE (ZcD N p_0 at_1.Point.Height) fun x3=>
 if x3=true then
  ZaH.p1 N p_0 at_1 h_2 (Zat.mk (ZaQ.mk (w64 (at_1.Point.Height+1)) h_2.Bits h_2.Time h_2.Time h_2.Bits) x1 []) st2
 else
 ZaH.p1 N p_0 at_1 h_2 (Zat.mk (ZaQ.mk (w64 (at_1.Point.Height+1)) h_2.Bits h_2.Time at_1.Point.First h_2.Bits) x1 []) st2
noncomputable def ZaH.p3.S (st2:LL) (i_9:Int) (at_1:Zat) (h_2:Zac) (out_8:Zat) (st15:LL):S:=mkS 81 [(4,sA 4),(5,sA 5),(6,sA 6),(7,sA 7),(8,sP (some (List.length st2))),(9,sI i_9)] [(4,.cells at_1.ls),(5,.cells h_2.ls),(6,.cells [L.int .i64 0,L.int .i64 0,L.int .i64 0,L.int .i64 0,L.int .i64 0,L.arr .u8 32 (List.replicate 32 0),L.own true 1 []]),(7,.cells out_8.ls)] st15
noncomputable def ZaH.p2.S (at_1:Zat) (h_2:Zac) (out_8:Zat) (st2:LL):S:=mkS 81 [(4,sA 4),(5,sA 5),(6,sA 6),(7,sA 7)] [(4,.cells at_1.ls),(5,.cells h_2.ls),(6,.cells [L.int .i64 0,L.int .i64 0,L.int .i64 0,L.int .i64 0,L.int .i64 0,L.arr .u8 32 (List.replicate 32 0),L.own true 1 []]),(7,.cells out_8.ls)] st2
noncomputable def ZaH.p1.S (p_0:Zai) (at_1:Zat) (h_2:Zac) (out_5:Zat) (st2:LL):S:=mkS 81 [(3,sA 3),(4,sA 4),(5,sA 5),(6,sA 6),(7,sA 7)] [(3,.cells p_0.ls),(4,.cells at_1.ls),(5,.cells h_2.ls),(6,.cells [L.int .i64 0,L.int .i64 0,L.int .i64 0,L.int .i64 0,L.int .i64 0,L.arr .u8 32 (List.replicate 32 0),L.own true 1 []]),(7,.cells out_5.ls)] st2
theorem ZaH.p3_ok {st2 i_9 at_1 h_2 out_8 st15 r c3_ J3} (h:ZaH.p3 N st2 at_1 h_2 out_8 c3_ (i_9,st15)=some r) (hE:En Tryz.f93 g0 w0 (ZaH.rs r) r.2 R) (hc3 : ∀i_9 st15,c3_ (i_9,st15)=some r→At g0 w0 (ZaH.p3.S st2 i_9 at_1 h_2 out_8 st15) J3):At g0 w0 (ZaH.p3.S st2 i_9 at_1 h_2 out_8 st15) (XK Tryz.prog R (.c (csub ZaH.B [1,1,1,1,1,0,1,0,0]) :: .h J3 :: [.b 0,.c (csub ZaH.B [1,1,1,1,1,1])])):=by
 unfold ZaH.p3 at h
 refine iteB h (fun c17 h1=>?_) (fun c17 h2=>?_)
 ·obtain ⟨c18,c19,h3⟩:=ck2 h1
  obtain ⟨x16,c20,h4⟩:=Zdh h3
  obtain ⟨st17,c21,h5⟩:=Zae h4
  exact an fol [.r [],.c true,.r [(4,{oe:=[L.int .i64 x16]}),(6,{st:=st17,fz:=[72]})],.r []] [4,5,6,7,8,9] [4,5,6,7] (aN c17 c18 c19 c20 z0 (eN (1)) (ZaN.snd c21)) (hc3 (w64 (i_9-1)) st17 h5)
 ·obtain ⟨st18,c22,h6⟩:=Zae h2
  obtain ⟨x19,c23,h7⟩:=Zeq h6
  obtain ⟨x20,c24,h8⟩:=Zae h7
  obtain ⟨c25,h9⟩:=ZaO h8
  obtain rfl:=Zad h9
  exact af fol hE [.r [],.c false,.r [(3,{st:=st18,fz:=[76]})],.r [(0,{rs:=[.row true 1 x20],ns:=[78],m:=10,cv:=[.one (L.bx 1 [L.sl 1 x19])]}),(2,{fz:=[78]})],.r []] [] 0 [] (aO c17 z0 (eN (1)) (ZaN.snd c22) (bO 1 c23 ((bW bN):BVs st18 [L.own true 1 x19] [L.sl 1 x19])) c25 (ZbM.snd c24) (aI z0 (eN (List.length x20))))
theorem ZaH.p2_ok {at_1 h_2 out_8 st2 r} (h:ZaH.p2 N at_1 h_2 out_8 st2=some r) (hE:En Tryz.f93 g0 w0 (ZaH.rs r) r.2 R):At g0 w0 (ZaH.p2.S at_1 h_2 out_8 st2) (XK Tryz.prog R [.c (csub ZaH.B [1,1,1,1])]):=by
 unfold ZaH.p2 at h
 exact aq fol [.r [(0,{m:=1})],.r []] [4,5,6,7,8,9] [4,5,6,7] trivial (At.loop N (At.loopN (fun y:Int×LL=>ZaH.p3.S st2 y.1 at_1 h_2 out_8 y.2) (fun c J hc y h=>ZaH.p3_ok (i_9:=y.1) (st15:=y.2) h hE (fun i_9 st15=>hc (i_9,st15))) N (w64 ((if (11:Int)<(len at_1.Times) then 11 else (len at_1.Times))-1),st2 ++ [[L.own true 1 []]]) h))
theorem ZaH.p1_ok {p_0 at_1 h_2 out_5 st2 r} (h:ZaH.p1 N p_0 at_1 h_2 out_5 st2=some r) (hE:En Tryz.f93 g0 w0 (ZaH.rs r) r.2 R):At g0 w0 (ZaH.p1.S p_0 at_1 h_2 out_5 st2) (XK Tryz.prog R [.c (csub ZaH.B [1,1,1])]):=by
 unfold ZaH.p1 at h
 refine iteB h (fun c4 h10=>?_) (fun c4 h11=>?_)
 ·have t1 {Q:Prop} (q:Q):=aN c4 c4 c4 c4 c4 c4 q
  refine iteB h10 (fun c5 h12=>?_) (fun c5 h13=>?_)
  ·obtain ⟨x6,c6,h14⟩:=Zae h12
   let o1:List PS:=[.r [(14,q1 [oB x6])]]
   have t2 {Q:Prop} (q:Q):=t1 (aO c5 c5 c5 c5 c5 (ZcD.snd c6) c5 (aI c5 q))
   refine iteB h14 (fun c7 h15=>?_) (fun c7 h16=>?_)
   ·exact aq fol (o1 ++ [.c true,.r [],.s 1]) [4,5,6,7] [4,5,6,7] (t2 c7) (ZaH.p2_ok h15 hE)
   ·exact aq fol (o1 ++ [.c false,.s 1]) [4,5,6,7] [4,5,6,7] (t2 c7) (ZaH.p2_ok h16 hE)
  ·exact aq fol [.r [(10,wF),(11,wF),(12,wF),(13,wF),(14,wF),(15,wF),(16,yF)],.c false,.s 1] [4,5,6,7] [4,5,6,7] (t1 (aO c5 c5 c5 c5 c5 c5 c5 eF)) (ZaH.p2_ok h13 hE)
 ·exact aq fol [.r [(3,wF),(4,wF),(5,wF),(6,wF),(7,wF),(8,yF),(10,wF),(11,wF),(12,wF),(13,wF),(14,wF),(15,wF),(16,yF)],.c false,.s 1] [4,5,6,7] [4,5,6,7] (aO c4 c4 c4 c4 c4 c4 eF (aN eF eF eF eF eF eF eF)) (ZaH.p2_ok h11 hE)
theorem ZaH.snd {p_0:Zai} {at_1:Zat} {h_2:Zac} {st:LL} {r:Zat×LL} (h:ZaH N p_0 at_1 h_2 st=some r):Snd Tryz.prog 93 [.agg p_0.ls,.agg at_1.ls,.agg h_2.ls] st (ZaH.rs r) r.2:=
 sO ZaH.B Tryz.func93 fun g0 w0 R hE=>by
  unfold ZaH at h
  obtain ⟨⟨x1,st2⟩,c1,h17⟩:=Zae h
  obtain ⟨x3,c2,h18⟩:=Zae h17
  let o2:List PS:=[.r [],.d {ds:=[(15,{rs:=[.agg [L.arr .u8 32 x1]],st:=st2})],hv:=425984,Hs:=[32768,131072,163840,425984]},.r [(4,q1 [oB x3])]]
  have t3 {Q:Prop} (q:Q):=aK (Zdo.snd c1) (Zdo.snd c1) (ZcD.snd c2) q
  refine iteB h18 (fun c3 h19=>?_) (fun c3 h20=>?_)
  ·exact aqd fol (o2 ++ [.c true,.r [],.s 1]) [3,4,5,6,7] [3,4,5,6,7] (t3 c3) (ZaH.p1_ok h19 hE)
  ·exact aqd fol (o2 ++ [.c false,.s 1]) [3,4,5,6,7] [3,4,5,6,7] (t3 c3) (ZaH.p1_ok h20 hE)
noncomputable def ZdG.B:Code:=Tryz.f89.body.getD .skip
noncomputable def ZdG.rs (r:Zat×LL):List CV:=[.agg r.1.ls]
noncomputable def ZdG (N:Nat) (p_0:Zai) (st:LL):Option (Zat×LL):=
 optE (ZaH N p_0 (Zat.mk (ZaQ.mk 0 0 0 0 p_0.Limit) (List.replicate 32 0) []) p_0.Genesis st) fun (x1,st2)=>
 some (x1,st2)
theorem ZdG.snd {p_0:Zai} {st:LL} {r:Zat×LL} (h:ZdG N p_0 st=some r):Snd Tryz.prog 89 [.agg p_0.ls] st (ZdG.rs r) r.2:=
 sO ZdG.B Tryz.func89 fun g0 w0 R hE=>by
  unfold ZdG at h
  obtain ⟨⟨x1,st2⟩,c1,h1⟩:=Zae h
  obtain rfl:=Zad h1
  exact af fol hE [.r [],.r [(7,{rs:=[.agg x1.ls],st:=st2})]] [] 0 [] (ZaH.snd c1)
end Go.Dn.F
