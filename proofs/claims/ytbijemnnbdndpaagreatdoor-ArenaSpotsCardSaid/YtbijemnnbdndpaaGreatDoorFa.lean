import Derived.Test.YtbijemnnbdndpaaGreatDoorProg
import Derived.Test.YtbijemnnbdndpaaGreatDoorKc
set_option linter.all false
open ByteArray renaming size→zU
open Go.Dn.L renaming arr→zH,int→zI,own→wL,sl→vK,str→wY,ptr→uJ
open Go.Proofs.Tryz renaming prog→zF
open Int renaming toNat→zE
open List renaming length→zK,set→zP,map→wX,replicate→zB,getD→zD,take→tQ,drop→rR
open Option renaming isNone→uE
set_option maxRecDepth 100000
namespace Go.Dn.F
open Go.Proofs
noncomputable def glob_digest_steps:List Int:=[1116352408,1899447441,3049323471,3921009573,961987163,1508970993,2453635748,2870763221,3624381080,310598401,607225278,1426881987,1925078388,2162078206,2614888103,3248222580,3835390401,4022224774,264347078,604807628,770255983,1249150122,1555081692,1996064986,2554220882,2821834349,2952996808,3210313671,3336571891,3584528711,113926993,338241895,666307205,773529912,1294757372,1396182291,1695183700,1986661051,2177026350,2456956037,2730485921,2820302411,3259730800,3345764771,3516065817,3600352804,4094571909,275423344,430227734,506948616,659060556,883997877,958139571,1322822218,1537002063,1747873779,1955562222,2024104815,2227730452,2361852424,2428436474,2756734187,3204031479,3329325298]
noncomputable def glob_digest_starts:List Int:=[1779033703,3144134277,1013904242,2773480762,1359893119,2600822924,528734635,1541459225]
noncomputable instance glob:Globs:=⟨fun k=>match k with
  | 0=>some [zH .u32 8 glob_digest_starts]
  | 1=>some [zH .u32 64 glob_digest_steps]
  | _=>none⟩
theorem fol:Tryz.prog.follows .mixedOrders=true:=by kernel_rfl
abbrev En (f:Func) (g0:G) (w0:World) (rs:List CV) (st:LL) (R:Exit→Act→World→Prop):Prop:=Zkm zF f g0 w0 rs st R
variable {N:Nat} {g0:G} {w0:World} {R:Exit→Act→World→Prop}
structure Zaj where
  Version:Int
  Prev:List Int
  Root:List Int
  Time:Int
  Bits:Int
  Nonce:Int
noncomputable def Zaj.ls (x:Zaj):List L:=[zI .i64 x.Version,zH .u8 32 x.Prev,zH .u8 32 x.Root,zI .i64 x.Time,zI .i64 x.Bits,zI .i64 x.Nonce]
noncomputable def ZcT {α:Type} (l:List L) (k:Zaj→Option α):Option α:=match l with
  | [zI .i64 x0,zH .u8 32 x1,zH .u8 32 x2,zI .i64 x3,zI .i64 x4,zI .i64 x5]=>k ⟨x0,x1,x2,x3,x4,x5⟩
  | _=>none
theorem Zda {α:Type} {o:Option (List L)} {k:Zaj→Option α} {r:α} (h:Zds o ZcT k=some r) : ∃x:Zaj,o=some x.ls∧k x=some r:=by
  obtain ⟨l,e,k1⟩:=Zaf h;subst e;unfold ZcT at k1;split at k1
  · exact ⟨_,rfl,k1⟩
  · cases k1
@[simp] theorem Zdj {α:Type} (x:Zaj) (k:Zaj→Option α):ZcT x.ls k=k x:=rfl
theorem Zaj.bv {st:LL} (x:Zaj):BVs st x.ls x.ls:=(bP (bP (bP (bP (bP (bP bN))))))
structure Zan where
  state:List Int
  rest:LL
  size:Int
noncomputable def Zan.lo (x:Zan):List L:=[zH .u32 8 x.state,wL false 1 x.rest,zI .u64 x.size]
noncomputable def ZbI {α:Type} (l:List L) (k:Zan→Option α):Option α:=match l with
  | [zH .u32 8 x0,wL false 1 x1,zI .u64 x2]=>k ⟨x0,x1,x2⟩
  | _=>none
theorem ZbU {α:Type} {o:Option (List L)} {k:Zan→Option α} {r:α} (h:Zds o ZbI k=some r) : ∃x:Zan,o=some x.lo∧k x=some r:=by
  obtain ⟨l,e,k1⟩:=Zaf h;subst e;unfold ZbI at k1;split at k1
  · exact ⟨_,rfl,k1⟩
  · cases k1
@[simp] theorem ZdT {α:Type} (x:Zan) (k:Zan→Option α):ZbI x.lo k=k x:=rfl
noncomputable def Zan.ls (x:Zan):List L:=[zH .u32 8 x.state,vK 1 x.rest,zI .u64 x.size]
theorem Zan.bv {st:LL} (x:Zan):BVs st x.lo x.ls:=(bP (bW (bP bN)))
structure Zae where
  Limit:Int
  Interval:Int
  Spacing:Int
  Future:Int
  Easy:Bool
  Gates:LL
  Checks:LL
  MinWork:List Int
  Margin:List Int
  Genesis:Zaj
noncomputable def Zae.ls (x:Zae):List L:=[zI .i64 x.Limit,zI .i64 x.Interval,zI .i64 x.Spacing,zI .i64 x.Future,L.bool x.Easy,vK 2 x.Gates,vK 33 x.Checks,zH .u64 4 x.MinWork,zH .u64 4 x.Margin,zI .i64 x.Genesis.Version,zH .u8 32 x.Genesis.Prev,zH .u8 32 x.Genesis.Root,zI .i64 x.Genesis.Time,zI .i64 x.Genesis.Bits,zI .i64 x.Genesis.Nonce]
structure ZcN where
  Height:Int
  Bits:Int
  Time:Int
  First:Int
  Hard:Int
noncomputable def ZcN.ls (x:ZcN):List L:=[zI .i64 x.Height,zI .i64 x.Bits,zI .i64 x.Time,zI .i64 x.First,zI .i64 x.Hard]
theorem ZcN.bv {st:LL} (x:ZcN):BVs st x.ls x.ls:=(bP (bP (bP (bP (bP bN)))))
structure Zaz where
  Point:ZcN
  Prev:List Int
  Times:LL
noncomputable def Zaz.ls (x:Zaz):List L:=[zI .i64 x.Point.Height,zI .i64 x.Point.Bits,zI .i64 x.Point.Time,zI .i64 x.Point.First,zI .i64 x.Point.Hard,zH .u8 32 x.Prev,vK 1 x.Times]
noncomputable def ZeB {α:Type} (l:List L) (k:Zaz→Option α):Option α:=match l with
  | [zI .i64 x0,zI .i64 x1,zI .i64 x2,zI .i64 x3,zI .i64 x4,zH .u8 32 x5,vK 1 x6]=>k ⟨⟨x0,x1,x2,x3,x4⟩,x5,x6⟩
  | _=>none
theorem ZeM {α:Type} {o:Option (List L)} {k:Zaz→Option α} {r:α} (h:Zds o ZeB k=some r) : ∃x:Zaz,o=some x.ls∧k x=some r:=by
  obtain ⟨l,e,k1⟩:=Zaf h;subst e;unfold ZeB at k1;split at k1
  · exact ⟨_,rfl,k1⟩
  · cases k1
@[simp] theorem Zgn {α:Type} (x:Zaz) (k:Zaz→Option α):ZeB x.ls k=k x:=rfl
noncomputable def Zaz.lo (x:Zaz):List L:=[zI .i64 x.Point.Height,zI .i64 x.Point.Bits,zI .i64 x.Point.Time,zI .i64 x.Point.First,zI .i64 x.Point.Hard,zH .u8 32 x.Prev,wL true 1 x.Times]
theorem Zaz.bv {st:LL} (x:Zaz):BVs st x.lo x.ls:=(bP (bP (bP (bP (bP (bP (bW bN)))))))
noncomputable def Zdq {α:Type} (l:List L) (k:Int→Option α):Option α:=match l with
  | [zI .i64 x0]=>k x0
  | _=>none
theorem Zgf {α:Type} {l:List L} {k:Int→Option α} {r:α} (h:Zdq l k=some r) : ∃x0,l = [zI .i64 x0]∧k x0=some r:=by
  unfold Zdq at h;split at h
  · exact ⟨_,rfl,h⟩
  · cases h
theorem ZcK {α:Type} {o:Option (List L)} {k:Int→Option α} {r:α} (h:Zds o Zdq k=some r) : ∃x0,o=some [zI .i64 x0]∧k x0=some r:=by
  obtain ⟨l,e,k1⟩:=Zaf h;subst e;unfold Zdq at k1;split at k1
  · exact ⟨_,rfl,k1⟩
  · cases k1
@[simp] theorem ZcZ {α:Type} (x0:Int) (k:Int→Option α):Zdq [zI .i64 x0] k=k x0:=rfl
noncomputable def ZhX {α:Type} (l:List L) (k:LL→Option α):Option α:=match l with
  | [wL true 1 x0]=>k x0
  | _=>none
theorem Zfh {α:Type} {o:Option (List L)} {k:LL→Option α} {r:α} (h:Zds o ZhX k=some r) : ∃x0,o=some [wL true 1 x0]∧k x0=some r:=by
  obtain ⟨l,e,k1⟩:=Zaf h;subst e;unfold ZhX at k1;split at k1
  · exact ⟨_,rfl,k1⟩
  · cases k1
@[simp] theorem ZgL {α:Type} (x0:LL) (k:LL→Option α):ZhX [wL true 1 x0] k=k x0:=rfl
noncomputable def ZfS {α:Type} (l:List L) (k:(List Int)→Option α):Option α:=match l with
  | [zH .u8 32 x0]=>k x0
  | _=>none
theorem Zge {α:Type} {o:Option (List L)} {k:(List Int)→Option α} {r:α} (h:Zds o ZfS k=some r) : ∃x0,o=some [zH .u8 32 x0]∧k x0=some r:=by
  obtain ⟨l,e,k1⟩:=Zaf h;subst e;unfold ZfS at k1;split at k1
  · exact ⟨_,rfl,k1⟩
  · cases k1
@[simp] theorem ZiQ {α:Type} (x0:List Int) (k:(List Int)→Option α):ZfS [zH .u8 32 x0] k=k x0:=rfl
noncomputable def dec_t {α:Type} (l:List L) (k:ByteArray→Option α):Option α:=match l with
  | [wY x0]=>k x0
  | _=>none
theorem ZqD {α:Type} {o:Option (List L)} {k:ByteArray→Option α} {r:α} (h:Zds o dec_t k=some r) : ∃x0,o=some [wY x0]∧k x0=some r:=by
  obtain ⟨l,e,k1⟩:=Zaf h;subst e;unfold dec_t at k1;split at k1
  · exact ⟨_,rfl,k1⟩
  · cases k1
@[simp] theorem dec_t_ls {α:Type} (x0:ByteArray) (k:ByteArray→Option α):dec_t [wY x0] k=k x0:=rfl
noncomputable def Zkc {α:Type} (l:List L) (k:Int→Option α):Option α:=match l with
  | [zI .u8 x0]=>k x0
  | _=>none
theorem Zhd {α:Type} {o:Option (List L)} {k:Int→Option α} {r:α} (h:Zds o Zkc k=some r) : ∃x0,o=some [zI .u8 x0]∧k x0=some r:=by
  obtain ⟨l,e,k1⟩:=Zaf h;subst e;unfold Zkc at k1;split at k1
  · exact ⟨_,rfl,k1⟩
  · cases k1
@[simp] theorem ZhV {α:Type} (x0:Int) (k:Int→Option α):Zkc [zI .u8 x0] k=k x0:=rfl
noncomputable def Zbl.B:Code:=Tryz.f58.body.getD .skip
noncomputable def Zbl.rs (r:List (List L)):List CV:=[.row true 1 r]
noncomputable def Zbl (N:Nat) (s_0:List (List L)):Option (List (List L)):=chk (zK s_0*8≤140737488355328) (some s_0)
theorem Zbl.snd {s_0:LL} {r:LL} (h:Zbl N s_0=some r):Zde zF 58 [.one (.sl 1 s_0)] (Zbl.rs r):=fun st=>
  Snd.of (fn:=Tryz.f58) (c:=Zbl.B) Tryz.func58 (by kernel_rfl) (by kernel_rfl) (of_decide_eq_true (by kernel_rfl)) fun g w R hE=>by
    unfold Zbl at h
    obtain ⟨c1,h⟩:=ZaP h
    obtain rfl:=Zac h
    refine At.q (s':=mkS 8 [(0,.one (.l (.sl 1 s_0)))] [] st) (ks':=[.c (.seq (.region 1 #[{ dst:=some 3,op:=.move (.tmp 0),type:=52,pos:=opPos (Zbn Zbl.B [1,0]) 0,after:=#[],guard:=none},{ dst:=some 4,op:=.binOp .eql 52 (.tmp 3) (.const (.slice none 0 0)) 52,type:=4,pos:=opPos (Zbn Zbl.B [1,0]) 1,after:=#[⟨0,.data⟩],guard:=none}] false) (Zbn Zbl.B [1,0,1])),.c (Zbn Zbl.B [1,1])]) fol 400 [.r [(0,{m:=2})],.s 2] [0] [] trivial ?_ (by kernel_rfl)
    refine At.nilcmp (T:=52) (E:=3) (sz:=1) (xs:=s_0) (Zfz _) rfl rfl rfl rfl rfl rfl Tryz.underlying52 (by kernel_rfl) (of_decide_eq_true (by kernel_rfl)) fun b hb=>?_
    cases b with
    | true=>
      obtain rfl:=hb rfl
      exact At.f fol hE 400 [.c true,.r [(0,{m:=2})]] [] 0 [0] (rfl:true=true) (by kernel_rfl)
    | false=>
      exact At.f fol hE 400 [.c false,.r []] [] 0 [0] (And.intro (rfl:false=false) (And.intro (rfl:(0:Nat)=0) (And.intro (@rfl Nat (zK ([]:List (List L)))) (And.intro c1 (And.intro (rfl:(0:Nat)=0) (@rfl Nat (zK s_0))))))) (by kernel_rfl)
noncomputable def ZcG.B:Code:=Tryz.f43.body.getD .skip
noncomputable def ZcG.rs (r:Bool):List CV:=[oB r]
noncomputable def ZcG (N:Nat) (bits_0:Int):Option Bool:=
 if (decide (bits_0≥0))=true then
  some (decide (bits_0≤4294967295))
 else
 some false
theorem ZcG.snd {bits_0:Int} {r:Bool} (h:ZcG N bits_0=some r):Zde zF 43 [oI bits_0] (ZcG.rs r):=fun st=>
 sO ZcG.B Tryz.func43 fun g0 w0 R hE=>by
  unfold ZcG at h
  refine ZaY h (fun c1 h1=>?_) (fun c1 h2=>?_)
  ·obtain rfl:=Zac h1
   exact af fol hE [.r [],.r []] [] 0 [] (aJ c1 c1 c1)
  ·obtain rfl:=Zac h2
   exact af fol hE [.r [],.r [(3,wF),(4,wF),(5,yF)]] [] 0 [] (aJ c1 c1 c1)
noncomputable def ZbY.B:Code:=Tryz.f25.body.getD .skip
noncomputable def ZbY.rs (r:Bool):List CV:=[oB r]
noncomputable def ZbY (N:Nat) (h_0:Zaj):Option Bool:=
 if (decide (h_0.Version≥(-2147483648)))=true then
  if (decide (h_0.Version<2147483648))=true then
   if (decide (h_0.Time≥0))=true then
    if (decide (h_0.Time<4294967296))=true then
     Zbt (ZcG N h_0.Bits) fun x1=>
     if x1=true then
      if (decide (h_0.Nonce≥0))=true then
       some (decide (h_0.Nonce<4294967296))
      else
      some false
     else
     some false
    else
    some false
   else
   some false
  else
  some false
 else
 some false
theorem ZbY.snd {h_0:Zaj} {r:Bool} (h:ZbY N h_0=some r):Zde zF 25 [.agg h_0.ls] (ZbY.rs r):=fun st=>
 sO ZbY.B Tryz.func25 fun g0 w0 R hE=>by
  unfold ZbY at h
  refine ZaY h (fun c1 h1=>?_) (fun c1 h2=>?_)
  ·have t1 {Q:Prop} (q:Q):=aL c1 c1 c1 c1 q
   refine ZaY h1 (fun c2 h3=>?_) (fun c2 h4=>?_)
   ·have t2 {Q:Prop} (q:Q):=t1 (aL c2 c2 c2 c2 q)
    refine ZaY h3 (fun c3 h5=>?_) (fun c3 h6=>?_)
    ·have t3 {Q:Prop} (q:Q):=t2 (aL c3 c3 c3 c3 q)
     refine ZaY h5 (fun c4 h7=>?_) (fun c4 h8=>?_)
     ·obtain ⟨x1,c5,h9⟩:=Zaf h7
      have t4 {Q:Prop} (q:Q):=t3 (aM c4 c4 c4 (ZcG.snd c5) c4 q)
      refine ZaY h9 (fun c6 h10=>?_) (fun c6 h11=>?_)
      ·refine ZaY h10 (fun c7 h12=>?_) (fun c7 h13=>?_)
       ·obtain rfl:=Zac h12
        exact af fol hE [.r [],.r [(21,q1 [oB x1])]] [] 0 [] (t4 (aO c6 c6 c6 c6 c7 c7 c7 c7))
       ·obtain rfl:=Zac h13
        exact af fol hE [.r [],.r [(21,q1 [oB x1]),(29,wF),(30,wF),(31,wF),(32,yF)]] [] 0 [] (t4 (aO c6 c6 c6 c6 c7 c7 c7 c7))
      ·obtain rfl:=Zac h11
       exact af fol hE [.r [],.r [(21,q1 [oB x1]),(24,wF),(25,wF),(26,wF),(27,yF),(29,wF),(30,wF),(31,wF),(32,yF)]] [] 0 [] (t4 (aO c6 c6 c6 c6 eF eF eF eF))
     ·obtain rfl:=Zac h8
      exact af fol hE [.r [],.r [(19,wF),(20,wF),(21,wF),(22,yF),(24,wF),(25,wF),(26,wF),(27,yF),(29,wF),(30,wF),(31,wF),(32,yF)]] [] 0 [] (t3 (aO c4 c4 c4 c4 eF eF eF (aL eF eF eF eF eF)))
    ·obtain rfl:=Zac h6
     exact af fol hE [.r [],.r [(14,wF),(15,wF),(16,wF),(17,yF),(19,wF),(20,wF),(21,wF),(22,yF),(24,wF),(25,wF),(26,wF),(27,yF),(29,wF),(30,wF),(31,wF),(32,yF)]] [] 0 [] (t2 (aO c3 c3 c3 c3 eF eF eF (aO eF eF eF eF eF eF eF (aI eF eF))))
   ·obtain rfl:=Zac h4
    exact af fol hE [.r [],.r [(9,wF),(10,wF),(11,wF),(12,yF),(14,wF),(15,wF),(16,wF),(17,yF),(19,wF),(20,wF),(21,wF),(22,yF),(24,wF),(25,wF),(26,wF),(27,yF),(29,wF),(30,wF),(31,wF),(32,yF)]] [] 0 [] (t1 (aO c2 c2 c2 c2 eF eF eF (aO eF eF eF eF eF eF eF (aM eF eF eF eF eF eF))))
  ·obtain rfl:=Zac h2
   exact af fol hE [.r [],.r [(4,wF),(5,wF),(6,wF),(7,yF),(9,wF),(10,wF),(11,wF),(12,yF),(14,wF),(15,wF),(16,wF),(17,yF),(19,wF),(20,wF),(21,wF),(22,yF),(24,wF),(25,wF),(26,wF),(27,yF),(29,wF),(30,wF),(31,wF),(32,yF)]] [] 0 [] (aO c1 c1 c1 c1 eF eF eF (aO eF eF eF eF eF eF eF (aO eF eF eF eF eF eF eF (aJ eF eF eF))))
noncomputable def ZaI.B:Code:=Tryz.f92.body.getD .skip
noncomputable def ZaI.rs (r:LL):List CV:=[]
noncomputable def ZaI.p2 (N:Nat) (c1_:((Option Nat)×Int×LL)→Option LL) (size_1 x12:Int) (list_2:LL) (v1:Int) (c2_:((Option Nat)×Int×LL)→Option LL):((Option Nat)×Int×LL)→Option LL:=fun (p_16,v13,st17)=>
 if (decide (v13<(if (8:Int)<(if (1:Int)>size_1 then 1 else size_1) then 8 else (if (1:Int)>size_1 then 1 else size_1))))=true then
  Zbt p_16 fun i18=>
  Zds (st17[i18]?) ZhX fun x19=>
  chk (0≤(w64 (8*v13)))<|
  chk (zK (x19 ++ [[zI .u8 (v8 (Zba .i64 x12 (w64 (8*v13))))]])*1≤140737488355328)<|
  c2_ ((some i18),w64 (v13+1),zP (zP st17 i18 [L.gone]) i18 [wL true 1 (x19 ++ [[zI .u8 (v8 (Zba .i64 x12 (w64 (8*v13))))]])])
 else
 c1_ (p_16,w64 (v1+1),st17)
noncomputable def ZaI.p1 (N:Nat) (size_1:Int) (list_2:LL) (c1_:((Option Nat)×Int×LL)→Option LL):((Option Nat)×Int×LL)→Option LL:=fun (p_10,v1,st11)=>
 if (decide (v1<(len list_2)))=true then
  chk (0≤v1)<|
  Zds (list_2[zE v1]?) Zdq fun x12=>
  loopN (ZaI.p2 N c1_ size_1 x12 list_2 v1) N (p_10,0,st11)
 else
 some st11
noncomputable def ZaI (N:Nat) (p_0:Option Nat) (size_1:Int) (list_2 st:LL):Option LL:=
 loopN (ZaI.p1 N size_1 list_2) N (p_0,0,st)
noncomputable def ZaI.p2.S (p_16:Option Nat) (size_1 x12:Int) (list_2:LL) (v1 v13:Int) (st17:LL):S:=mkS 37 [(0,sP p_16),(1,sI size_1),(7,sI x12),(9,sV 1 list_2),(10,sI (len list_2)),(11,sI v1),(17,sI (if (8:Int)<(if (1:Int)>size_1 then 1 else size_1) then 8 else (if (1:Int)>size_1 then 1 else size_1))),(18,sI v13)] [] st17
noncomputable def ZaI.p1.S (p_10:Option Nat) (size_1:Int) (list_2:LL) (v1:Int) (st11:LL):S:=mkS 37 [(0,sP p_10),(1,sI size_1),(9,sV 1 list_2),(10,sI (len list_2)),(11,sI v1)] [] st11
theorem ZaI.p2_ok {p_16 size_1 x12 list_2 v1 v13 st17 r c1_ c2_ J1 J2} (h:ZaI.p2 N c1_ size_1 x12 list_2 v1 c2_ (p_16,v13,st17)=some r) (hE:En Tryz.f92 g0 w0 (ZaI.rs r) r R) (hc1 : ∀p_10 v1 st11,c1_ (p_10,v1,st11)=some r→At g0 w0 (ZaI.p1.S p_10 size_1 list_2 v1 st11) J1) (hc2 : ∀p_16 v13 st17,c2_ (p_16,v13,st17)=some r→At g0 w0 (ZaI.p2.S p_16 size_1 x12 list_2 v1 v13 st17) J2):At g0 w0 (ZaI.p2.S p_16 size_1 x12 list_2 v1 v13 st17) (XK zF R (.c (Zbn ZaI.B [1,0,0,1,1,0,0,1,1,0,0]) :: .h J2 :: [.b 2,.b 1,.c (Zbn ZaI.B [1,0,0,1,1,1]),.h J1,.b 0])):=by
 unfold ZaI.p2 at h
 refine ZaY h (fun c22 h1=>?_) (fun c22 h2=>?_)
 ·obtain ⟨i18,rfl,h3⟩:=Zaf h1
  obtain ⟨x19,c24,h4⟩:=Zfh h3
  obtain ⟨c25,c26,h5⟩:=ck2 h4
  exact ZiS fol [.r [],.c true,.r [],.d {ds:=[(4,{oc:=[wL true 1 x19]}),(11,{oe:=[wL true 1 x19]}),(14,{oc:=[L.gone],mv:=[32]})],hv:=19456,Hs:=[1024,3072,19456]},.r []] [0,1,7,9,10,11,17,18] [] (aO c22 c24 c24 c25 z0 (eN (zK x19)) c24 (aM z0 (eN (1)) c26 (Zaq c24 [L.gone]) z0 (eN (zK (x19 ++ [[zI .u8 (v8 (Zba .i64 x12 (w64 (8*v13))))]]))))) (hc2 (some i18) (w64 (v13+1)) (zP (zP st17 i18 [L.gone]) i18 [wL true 1 (x19 ++ [[zI .u8 (v8 (Zba .i64 x12 (w64 (8*v13))))]])]) h5)
 ·exact an fol [.r [],.c false,.r []] [0,1,9,10,11] [] c22 (hc1 p_16 (w64 (v1+1)) st17 h2)
theorem ZaI.p1_ok {p_10 size_1 list_2 v1 st11 r c1_ J1} (h:ZaI.p1 N size_1 list_2 c1_ (p_10,v1,st11)=some r) (hE:En Tryz.f92 g0 w0 (ZaI.rs r) r R) (hc1 : ∀p_10 v1 st11,c1_ (p_10,v1,st11)=some r→At g0 w0 (ZaI.p1.S p_10 size_1 list_2 v1 st11) J1):At g0 w0 (ZaI.p1.S p_10 size_1 list_2 v1 st11) (XK zF R (.c (Zbn ZaI.B [1,0,0]) :: .h J1 :: [.b 0])):=by
 unfold ZaI.p1 at h
 refine ZaY h (fun c14 h6=>?_) (fun c14 h7=>?_)
 ·obtain ⟨c15,h8⟩:=ZaP h6
  obtain ⟨x12,c16,h9⟩:=ZcK h8
  exact aq fol [.r [],.c true,.r [(1,{oe:=[zI .i64 x12]})],.r []] [0,1,7,9,10,11,17,18] [] (aK c14 c15 (oD c14) c16) (At.loop N (At.loopN (fun y:(Option Nat)×Int×LL=>ZaI.p2.S y.1 size_1 x12 list_2 v1 y.2.1 y.2.2) (fun c J hc y h=>ZaI.p2_ok (p_16:=y.1) (v13:=y.2.1) (st17:=y.2.2) h hE hc1 (fun p_16 v13 st17=>hc (p_16,v13,st17))) N (p_10,0,st11) h9))
 ·obtain rfl:=Zac h7
  exact af fol hE [.r [],.c false] [] 0 [] c14
theorem ZaI.snd {p_0:Option Nat} {size_1:Int} {list_2:LL} {st:LL} {r:LL} (h:ZaI N p_0 size_1 list_2 st=some r):Snd zF 92 [.one (uJ p_0),oI size_1,.one (vK 1 list_2)] st (ZaI.rs r) r:=
 sO ZaI.B Tryz.func92 fun g0 w0 R hE=>by
  unfold ZaI at h
  exact aq fol [.r []] [0,1,9,10,11] [] trivial (At.loop N (At.loopN (fun y:(Option Nat)×Int×LL=>ZaI.p1.S y.1 size_1 list_2 y.2.1 y.2.2) (fun c J hc y h=>ZaI.p1_ok (p_10:=y.1) (v1:=y.2.1) (st11:=y.2.2) h hE (fun p_10 v1 st11=>hc (p_10,v1,st11))) N (p_0,0,st) h))
noncomputable def ZaZ.B:Code:=Tryz.f93.body.getD .skip
noncomputable def ZaZ.rs (r:LL):List CV:=[]
noncomputable def ZaZ.p1 (N:Nat) (list_1:LL) (c1_:((Option Nat)×Int×LL)→Option LL):((Option Nat)×Int×LL)→Option LL:=fun (p_5,v1,st6)=>
 if (decide (v1<(len list_1)))=true then
  chk (0≤v1)<|
  Zds (list_1[zE v1]?) ZfS fun x7=>
  Zbt p_5 fun i8=>
  Zds (st6[i8]?) ZhX fun x9=>
  chk (zK (x9++(wX (fun x=>[zI .u8 x]) x7))*1≤140737488355328)<|
  c1_ ((some i8),w64 (v1+1),zP (zP st6 i8 [L.gone]) i8 [wL true 1 (x9++(wX (fun x=>[zI .u8 x]) x7))])
 else
 some st6
noncomputable def ZaZ (N:Nat) (p_0:Option Nat) (list_1 st:LL):Option LL:=
 loopN (ZaZ.p1 N list_1) N (p_0,0,st)
noncomputable def ZaZ.p1.S (p_5:Option Nat) (list_1:LL) (v1:Int) (st6:LL):S:=mkS 22 [(0,sP p_5),(6,sV 32 list_1),(7,sI (len list_1)),(8,sI v1)] [] st6
theorem ZaZ.p1_ok {p_5 list_1 v1 st6 r c1_ J1} (h:ZaZ.p1 N list_1 c1_ (p_5,v1,st6)=some r) (hE:En Tryz.f93 g0 w0 (ZaZ.rs r) r R) (hc1 : ∀p_5 v1 st6,c1_ (p_5,v1,st6)=some r→At g0 w0 (ZaZ.p1.S p_5 list_1 v1 st6) J1):At g0 w0 (ZaZ.p1.S p_5 list_1 v1 st6) (XK zF R (.c (Zbn ZaZ.B [1,0,0]) :: .h J1 :: [.b 0])):=by
 unfold ZaZ.p1 at h
 refine ZaY h (fun c7 h1=>?_) (fun c7 h2=>?_)
 ·obtain ⟨c8,h3⟩:=ZaP h1
  obtain ⟨x7,c9,h4⟩:=Zge h3
  obtain ⟨i8,rfl,h5⟩:=Zaf h4
  obtain ⟨x9,c11,h6⟩:=Zfh h5
  obtain ⟨c12,h7⟩:=ZaP h6
  exact ZiS fol [.r [],.c true,.r [(1,{oe:=[zH .u8 32 x7]})],.d {ds:=[(4,{oc:=[wL true 1 x9]}),(6,{oe:=[wL true 1 x9]}),(9,{oc:=[L.gone],mv:=[18]})],hv:=576,Hs:=[64,576]},.r []] [0,6,7,8] [] (aO c7 c8 (oD c7) c9 c11 (leN 0 32) (leN 32 32) (aN z0 (eN (zK x9)) c11 c12 (Zaq c11 [L.gone]) z0 (eN (zK (x9++(wX (fun x=>[zI .u8 x]) x7)))))) (hc1 (some i8) (w64 (v1+1)) (zP (zP st6 i8 [L.gone]) i8 [wL true 1 (x9++(wX (fun x=>[zI .u8 x]) x7))]) h7)
 ·obtain rfl:=Zac h2
  exact af fol hE [.r [],.c false] [] 0 [] c7
theorem ZaZ.snd {p_0:Option Nat} {list_1:LL} {st:LL} {r:LL} (h:ZaZ N p_0 list_1 st=some r):Snd zF 93 [.one (uJ p_0),.one (vK 32 list_1)] st (ZaZ.rs r) r:=
 sO ZaZ.B Tryz.func93 fun g0 w0 R hE=>by
  unfold ZaZ at h
  exact aq fol [.r []] [0,6,7,8] [] trivial (At.loop N (At.loopN (fun y:(Option Nat)×Int×LL=>ZaZ.p1.S y.1 list_1 y.2.1 y.2.2) (fun c J hc y h=>ZaZ.p1_ok (p_5:=y.1) (v1:=y.2.1) (st6:=y.2.2) h hE (fun p_5 v1 st6=>hc (p_5,v1,st6))) N (p_0,0,st) h))
noncomputable def ZbL.B:Code:=Tryz.f71.body.getD .skip
noncomputable def ZbL.rs (r:LL):List CV:=[]
noncomputable def ZbL.p1 (N:Nat) (p_0:Option Nat) (h_2:Zaj) (st:LL):Option LL:=
 Zbt (ZaI N p_0 4 [[zI .i64 h_2.Version]] st) fun st3=>
 Zbt (ZaZ N p_0 [[zH .u8 32 h_2.Prev],[zH .u8 32 h_2.Root]] st3) fun st4=>
 Zbt (ZaI N p_0 4 [[zI .i64 h_2.Time],[zI .i64 h_2.Bits],[zI .i64 h_2.Nonce]] st4) fun st5=>
 some st5
noncomputable def ZbL (N:Nat) (p_0:Option Nat) (h_1:Zaj) (st:LL):Option LL:=
 Zbt (ZbY N h_1) fun x1=>
 if (!x1)=true then
  ZbL.p1 N p_0 (Zaj.mk 0 (zB 32 0) (zB 32 0) 0 0 0) st
 else
 ZbL.p1 N p_0 h_1 st
noncomputable def ZbL.p1.S (p_0:Option Nat) (h_2:Zaj) (st:LL):S:=mkS 29 [(0,sP p_0),(3,sA 3)] [(3,.cells h_2.ls)] st
theorem ZbL.p1_ok {p_0 h_2 st r} (h:ZbL.p1 N p_0 h_2 st=some r) (hE:En Tryz.f71 g0 w0 (ZbL.rs r) r R):At g0 w0 (ZbL.p1.S p_0 h_2 st) (XK zF R [.c (Zbn ZbL.B [1,1])]):=by
 unfold ZbL.p1 at h
 obtain ⟨st3,c3,h1⟩:=Zaf h
 obtain ⟨st4,c4,h2⟩:=Zaf h1
 obtain ⟨st5,c5,h3⟩:=Zaf h2
 obtain rfl:=Zac h3
 exact af fol hE [.r [(4,{st:=st3,fz:=[11]})],.r [(6,{st:=st4,fz:=[18]})],.r [(8,{st:=st5,fz:=[27]})]] [] 0 [] (aO z0 (eN (1)) (ZaI.snd c3) z0 (eN (2)) (ZaZ.snd c4) z0 (aI (eN (3)) (ZaI.snd c5)))
theorem ZbL.snd {p_0:Option Nat} {h_1:Zaj} {st:LL} {r:LL} (h:ZbL N p_0 h_1 st=some r):Snd zF 71 [.one (uJ p_0),.agg h_1.ls] st (ZbL.rs r) r:=
 sO ZbL.B Tryz.func71 fun g0 w0 R hE=>by
  unfold ZbL at h
  obtain ⟨x1,c1,h4⟩:=Zaf h
  let o1:List PS:=[.r [],.r [(1,q1 [oB x1])]]
  refine ZaY h4 (fun c2 h5=>?_) (fun c2 h6=>?_)
  ·exact aq fol (o1 ++ [.c true,.r [],.s 1]) [0,3] [3] (aI (ZbY.snd c1) c2) (ZbL.p1_ok h5 hE)
  ·exact aq fol (o1 ++ [.c false,.s 1]) [0,3] [3] (aI (ZbY.snd c1) c2) (ZbL.p1_ok h6 hE)
noncomputable def Zce.B:Code:=Tryz.f72.body.getD .skip
noncomputable def Zce.rs (r:ByteArray):List CV:=[.one (wY r)]
noncomputable def Zce (N:Nat) (p_0:LL):Option ByteArray:=
 chk (isB p_0=true)<|
 some (ZiZ (wX Zez p_0))
theorem Zce.snd {p_0:LL} {r:ByteArray} (h:Zce N p_0=some r):Zde zF 72 [.one (L.bx 1 [vK 1 p_0])] (Zce.rs r):=fun st=>
 sO Zce.B Tryz.func72 fun g0 w0 R hE=>by
  unfold Zce at h
  obtain ⟨c1,h1⟩:=ZaP h
  obtain rfl:=Zac h1
  exact af fol hE [.r [],.r [(3,{oe:=[vK 1 p_0]})]] [] 0 [] (aI (eO [vK 1 p_0]) c1)
noncomputable def ZcF.B:Code:=Tryz.f44.body.getD .skip
noncomputable def ZcF.rs (r:ByteArray×Int×LL):List CV:=[.one (wY r.1),oI r.2.1]
noncomputable def ZcF (N:Nat) (h_0:Zaj) (st:LL):Option (ByteArray×Int×LL):=
 Zbt (ZbY N h_0) fun x1=>
 if (!x1)=true then
  some ((ByteArray.mk #[]),1,st)
 else
 Zbt (ZbL N (some (zK st)) h_0 (st ++ [[wL true 1 []]])) fun st2=>
 Zds (st2[zK st]?) ZhX fun x3=>
 Zbt (Zce N x3) fun x4=>
 some (x4,0,st2)
theorem ZcF.snd {h_0:Zaj} {st:LL} {r:ByteArray×Int×LL} (h:ZcF N h_0 st=some r):Snd zF 44 [.agg h_0.ls] st (ZcF.rs r) r.2.2:=
 sO ZcF.B Tryz.func44 fun g0 w0 R hE=>by
  unfold ZcF at h
  obtain ⟨x1,c1,h1⟩:=Zaf h
  let o1:List PS:=[.r [],.r [(1,q1 [oB x1])]]
  refine ZaY h1 (fun c2 h2=>?_) (fun c2 h3=>?_)
  ·obtain rfl:=Zac h2
   exact af fol hE (o1 ++ [.c true,.r []]) [] 0 [] (aI (ZbY.snd c1) c2)
  ·obtain ⟨st2,c3,h4⟩:=Zaf h3
   obtain ⟨x3,c4,h5⟩:=Zfh h4
   obtain ⟨x4,c5,h6⟩:=Zaf h5
   obtain rfl:=Zac h6
   exact af fol hE (o1 ++ [.c false,.r [(0,{ns:=[0]}),(1,{m:=1})],.r [(2,{st:=st2})],.r [(1,{rs:=[.one (wY x4)],m:=10,cv:=[.one (L.bx 1 [vK 1 x3])]})]]) [] 0 [] (aL (ZbY.snd c1) c2 (ZbL.snd c3) (bO 1 c4 ((bW bN):BVs st2 [wL true 1 x3] [vK 1 x3])) (Zce.snd c5))
noncomputable def ZdR.B:Code:=Tryz.f94.body.getD .skip
noncomputable def ZdR.rs (r:(Option Nat)×LL):List CV:=[.one (uJ r.1)]
noncomputable def ZdR (N:Nat) (st:LL):Option ((Option Nat)×LL):=
 some ((some (zK st)),st ++ [Zan.lo (Zan.mk glob_digest_starts [] 0)])
theorem ZdR.snd {st:LL} {r:(Option Nat)×LL} (h:ZdR N st=some r):Snd zF 94 [] st (ZdR.rs r) r.2:=
 sO ZdR.B Tryz.func94 fun g0 w0 R hE=>by
  unfold ZdR at h
  obtain rfl:=Zac h
  exact af fol hE [.r [],.r [(1,{mv:=[1]}),(2,{m:=1})]] [] 0 [] trivial
noncomputable def ZbG.B:Code:=Tryz.f129.body.getD .skip
noncomputable def ZbG.rs (r:Int):List CV:=[.one (zI .u32 r)]
noncomputable def ZbG (N:Nat) (x_0 k_1:Int):Option Int:=
 chk (0≤(Zay .and .u64 (v64 (k_1)) 31))<|
 chk (0≤(v64 (32-(Zay .and .u64 (v64 (k_1)) 31))))<|
 some (Zay .or .u32 (Zbi .u32 x_0 (Zay .and .u64 (v64 (k_1)) 31)) (Zba .u32 x_0 (v64 (32-(Zay .and .u64 (v64 (k_1)) 31)))))
theorem ZbG.snd {x_0 k_1:Int} {r:Int} (h:ZbG N x_0 k_1=some r):Zde zF 129 [.one (zI .u32 x_0),oI k_1] (ZbG.rs r):=fun st=>
 sO ZbG.B Tryz.func129 fun g0 w0 R hE=>by
  unfold ZbG at h
  obtain ⟨c1,c2,h1⟩:=ck2 h
  obtain rfl:=Zac h1
  exact af fol hE [.r [],.r [],.r []] [] 0 [] (aI c1 c2)
noncomputable def ZaT.B:Code:=Tryz.f117.body.getD .skip
noncomputable def ZaT.rs (r:Int):List CV:=[.one (zI .u32 r)]
noncomputable def ZaT.p1 (N:Nat) (x_0:Int) (by_1:LL) (c1_:(Int×Int)→Option Int):(Int×Int)→Option Int:=fun (out_1,v2)=>
 if (decide (v2<(len by_1)))=true then
  chk (0≤v2)<|
  Zds (by_1[zE v2]?) Zdq fun x3=>
  Zbt (ZbG N x_0 (w64 (0-x3))) fun x4=>
  c1_ (Zay .xor .u32 out_1 x4,w64 (v2+1))
 else
 some out_1
noncomputable def ZaT (N:Nat) (x_0:Int) (by_1:LL):Option Int:=
 loopN (ZaT.p1 N x_0 by_1) N (0,0)
noncomputable def ZaT.p1.S (x_0 out_1:Int) (by_1:LL) (v2:Int) (st:LL):S:=mkS 22 [(0,.one (.l (zI .u32 x_0))),(5,.one (.l (zI .u32 out_1))),(8,sV 1 by_1),(9,sI (len by_1)),(10,sI v2)] [] st
theorem ZaT.p1_ok {x_0 out_1 by_1 v2 st r c1_ J1} (h:ZaT.p1 N x_0 by_1 c1_ (out_1,v2)=some r) (hE:En Tryz.f117 g0 w0 (ZaT.rs r) st R) (hc1 : ∀out_1 v2,c1_ (out_1,v2)=some r→At g0 w0 (ZaT.p1.S x_0 out_1 by_1 v2 st) J1):At g0 w0 (ZaT.p1.S x_0 out_1 by_1 v2 st) (XK zF R (.c (Zbn ZaT.B [1,1,0,1,0,0]) :: .h J1 :: [.b 0,.c (Zbn ZaT.B [1,1,1])])):=by
 unfold ZaT.p1 at h
 refine ZaY h (fun c1 h1=>?_) (fun c1 h2=>?_)
 ·obtain ⟨c2,h3⟩:=ZaP h1
  obtain ⟨x3,c3,h4⟩:=ZcK h3
  obtain ⟨x4,c4,h5⟩:=Zaf h4
  exact an fol [.r [],.c true,.r [(1,{oe:=[zI .i64 x3]})],.r [(4,q1 [.one (zI .u32 x4)])],.r []] [0,5,8,9,10] [] (aL c1 c2 (oD c1) c3 (ZbG.snd c4)) (hc1 (Zay .xor .u32 out_1 x4) (w64 (v2+1)) h5)
 ·obtain rfl:=Zac h2
  exact af fol hE [.r [],.c false,.r []] [] 0 [] c1
theorem ZaT.snd {x_0:Int} {by_1:LL} {r:Int} (h:ZaT N x_0 by_1=some r):Zde zF 117 [.one (zI .u32 x_0),.one (vK 1 by_1)] (ZaT.rs r):=fun st=>
 sO ZaT.B Tryz.func117 fun g0 w0 R hE=>by
  unfold ZaT at h
  exact aq fol [.r [],.r [],.r []] [0,5,8,9,10] [] trivial (At.loop N (At.loopN (fun y:Int×Int=>ZaT.p1.S x_0 y.1 by_1 y.2 st) (fun c J hc y h=>ZaT.p1_ok (out_1:=y.1) (v2:=y.2) h hE (fun out_1 v2=>hc (out_1,v2))) N (0,0) h))
noncomputable def Zag.B:Code:=Tryz.f108.body.getD .skip
noncomputable def Zag.rs (r:LL):List CV:=[]
noncomputable def Zag.p4 (N:Nat) (i71:Nat) (s_80:List Int) (c4_:(Int×LL)→Option LL):(Int×LL)→Option LL:=fun (v83,st85)=>
 if (decide (v83<8))=true then
  chk (0≤v83)<|
  Zds (st85[i71]?) ZbI fun x86=>
  c4_ (w64 (v83+1),zP st85 i71 (Zan.lo {x86 with state:=zP x86.state (zE v83) (v32 ((zD x86.state (zE v83) 0)+(zD s_80 (zE v83) 0)))}))
 else
 some st85
noncomputable def Zag.p3 (N:Nat) (i71:Nat) (w_68:List Int) (st:LL) (c3_:(Int×(List Int))→Option LL):(Int×(List Int))→Option LL:=fun (v73,s_80)=>
 if (decide (v73<64))=true then
  Zbt (ZaT N (zD s_80 4 0) [[zI .i64 6],[zI .i64 11],[zI .i64 25]]) fun x81=>
  chk (0≤v73)<|
  Zbt (ZaT N (zD s_80 0 0) [[zI .i64 2],[zI .i64 13],[zI .i64 22]]) fun x82=>
  c3_ (w64 (v73+1),[v32 ((v32 ((v32 ((v32 ((v32 ((zD s_80 7 0)+x81))+(Zay .xor .u32 (Zay .and .u32 (zD s_80 4 0) (zD s_80 5 0)) (Zay .and .u32 (Zay .xor .u32 (IntKind.max IntKind.u32) (zD s_80 4 0)) (zD s_80 6 0)))))+(zD glob_digest_steps (zE v73) 0)))+(zD w_68 (zE v73) 0)))+(v32 (x82+(Zay .xor .u32 (Zay .xor .u32 (Zay .and .u32 (zD s_80 0 0) (zD s_80 1 0)) (Zay .and .u32 (zD s_80 0 0) (zD s_80 2 0))) (Zay .and .u32 (zD s_80 1 0) (zD s_80 2 0)))))),zD s_80 0 0,zD s_80 1 0,zD s_80 2 0,v32 ((zD s_80 3 0)+(v32 ((v32 ((v32 ((v32 ((zD s_80 7 0)+x81))+(Zay .xor .u32 (Zay .and .u32 (zD s_80 4 0) (zD s_80 5 0)) (Zay .and .u32 (Zay .xor .u32 (IntKind.max IntKind.u32) (zD s_80 4 0)) (zD s_80 6 0)))))+(zD glob_digest_steps (zE v73) 0)))+(zD w_68 (zE v73) 0)))),zD s_80 4 0,zD s_80 5 0,zD s_80 6 0])
 else
 loopN (Zag.p4 N i71 s_80) N (0,st)
noncomputable def Zag.p2 (N:Nat) (h_0:Option Nat) (st:LL) (c2_:(Int×(List Int))→Option LL):(Int×(List Int))→Option LL:=fun (i_49,w_68)=>
 if (decide (i_49<64))=true then
  chk (0≤(w64 (i_49-15)))<|
  chk ((w64 (i_49-15))<64)<|
  chk (0≤(w64 (i_49-2)))<|
  chk ((w64 (i_49-2))<64)<|
  chk (0≤(w64 (i_49-16)))<|
  chk ((w64 (i_49-16))<64)<|
  Zbt (ZaT N (zD w_68 (zE (w64 (i_49-15))) 0) [[zI .i64 7],[zI .i64 18]]) fun x69=>
  chk (0≤(w64 (i_49-7)))<|
  chk ((w64 (i_49-7))<64)<|
  Zbt (ZaT N (zD w_68 (zE (w64 (i_49-2))) 0) [[zI .i64 17],[zI .i64 19]]) fun x70=>
  chk (0≤i_49)<|
  c2_ (w64 (i_49+1),zP w_68 (zE i_49) (v32 ((v32 ((v32 ((zD w_68 (zE (w64 (i_49-16))) 0)+(Zay .xor .u32 x69 (Zba .u32 (zD w_68 (zE (w64 (i_49-15))) 0) 3))))+(zD w_68 (zE (w64 (i_49-7))) 0)))+(Zay .xor .u32 x70 (Zba .u32 (zD w_68 (zE (w64 (i_49-2))) 0) 10)))))
 else
 Zbt h_0 fun i71=>
 Zds (st[i71]?) ZbI fun x72=>
 loopN (Zag.p3 N i71 w_68 st) N (0,x72.state)
noncomputable def Zag.p1 (N:Nat) (h_0:Option Nat) (b_1 st:LL) (c1_:(Int×(List Int))→Option LL):(Int×(List Int))→Option LL:=fun (v1,w_44)=>
 if (decide (v1<16))=true then
  chk (0≤(w64 (4*v1)))<|
  chk ((w64 (4*v1))<(len b_1))<|
  Zds (b_1[zE (w64 (4*v1))]?) Zkc fun x45=>
  chk (0≤(w64 ((w64 (4*v1))+1)))<|
  chk ((w64 ((w64 (4*v1))+1))<(len b_1))<|
  Zds (b_1[zE (w64 ((w64 (4*v1))+1))]?) Zkc fun x46=>
  chk (0≤(w64 ((w64 (4*v1))+2)))<|
  chk ((w64 ((w64 (4*v1))+2))<(len b_1))<|
  Zds (b_1[zE (w64 ((w64 (4*v1))+2))]?) Zkc fun x47=>
  chk (0≤(w64 ((w64 (4*v1))+3)))<|
  chk ((w64 ((w64 (4*v1))+3))<(len b_1))<|
  Zds (b_1[zE (w64 ((w64 (4*v1))+3))]?) Zkc fun x48=>
  chk (0≤v1)<|
  chk (v1<64)<|
  c1_ (w64 (v1+1),zP w_44 (zE v1) (Zay .or .u32 (Zay .or .u32 (Zay .or .u32 (Zbi .u32 (v32 (x45)) 24) (Zbi .u32 (v32 (x46)) 16)) (Zbi .u32 (v32 (x47)) 8)) (v32 (x48))))
 else
 loopN (Zag.p2 N h_0 st) N (16,w_44)
noncomputable def Zag (N:Nat) (h_0:Option Nat) (b_1 st:LL):Option LL:=
 loopN (Zag.p1 N h_0 b_1 st) N (0,zB 64 0)
noncomputable def Zag.p4.S (i71:Nat) (v83:Int) (s_80:List Int) (st85:LL):S:=mkS 189 [(0,sP (some i71)),(9,sA 9),(172,sI v83)] [(9,.cells [zH .u32 8 s_80])] st85
noncomputable def Zag.p3.S (i71:Nat) (v73:Int) (w_68 s_80:List Int) (st:LL):S:=mkS 189 [(0,sP (some i71)),(4,sA 4),(9,sA 9),(96,sI v73)] [(4,.cells [zH .u32 64 w_68]),(9,.cells [zH .u32 8 s_80])] st
noncomputable def Zag.p2.S (h_0:Option Nat) (i_49:Int) (w_68:List Int) (st:LL):S:=mkS 189 [(0,sP h_0),(4,sA 4),(6,sI i_49)] [(4,.cells [zH .u32 64 w_68])] st
noncomputable def Zag.p1.S (h_0:Option Nat) (b_1:LL) (v1:Int) (w_44:List Int) (st:LL):S:=mkS 189 [(0,sP h_0),(1,sV 1 b_1),(4,sA 4),(16,sI v1)] [(4,.cells [zH .u32 64 w_44])] st
theorem Zag.p4_ok {i71 v83 s_80 st85 r c4_ J4} (h:Zag.p4 N i71 s_80 c4_ (v83,st85)=some r) (hE:En Tryz.f108 g0 w0 (Zag.rs r) r R) (hc4 : ∀v83 st85,c4_ (v83,st85)=some r→At g0 w0 (Zag.p4.S i71 v83 s_80 st85) J4):At g0 w0 (Zag.p4.S i71 v83 s_80 st85) (XK zF R (.c (Zbn Zag.B [1,1,1,1,1,1,0,0]) :: .h J4 :: [.b 6])):=by
 unfold Zag.p4 at h
 refine ZaY h (fun c164 h1=>?_) (fun c164 h2=>?_)
 ·obtain ⟨c165,h3⟩:=ZaP h1
  obtain ⟨x86,c166,h4⟩:=ZbU h3
  exact ZiS fol [.r [],.c true,.r [],.d {ds:=[(5,{oc:=x86.lo}),(13,{oc:=x86.lo})],hv:=8192,Hs:=[8192]},.r []] [0,9,172] [9] (aO c164 c165 (oD c164) c166 c165 (oD c164) c165 (aI (oD c164) c166)) (hc4 (w64 (v83+1)) (zP st85 i71 (Zan.lo {x86 with state:=zP x86.state (zE v83) (v32 ((zD x86.state (zE v83) 0)+(zD s_80 (zE v83) 0)))})) h4)
 ·obtain rfl:=Zac h2
  exact af fol hE [.r [],.c false] [] 0 [] c164
theorem Zag.p3_ok {i71 v73 w_68 s_80 st r c3_ J3} (h:Zag.p3 N i71 w_68 st c3_ (v73,s_80)=some r) (hE:En Tryz.f108 g0 w0 (Zag.rs r) r R) (hc3 : ∀v73 s_80,c3_ (v73,s_80)=some r→At g0 w0 (Zag.p3.S i71 v73 w_68 s_80 st) J3):At g0 w0 (Zag.p3.S i71 v73 w_68 s_80 st) (XK zF R (.c (Zbn Zag.B [1,1,1,1,0,1,0,0]) :: .h J3 :: [.b 4,.c (Zbn Zag.B [1,1,1,1,1])])):=by
 unfold Zag.p3 at h
 refine ZaY h (fun c157 h5=>?_) (fun c157 h6=>?_)
 ·obtain ⟨x81,c158,h7⟩:=Zaf h5
  obtain ⟨c159,h8⟩:=ZaP h7
  obtain ⟨x82,c160,h9⟩:=Zaf h8
  exact ZiS fol [.r [],.c true,.r [],.r [],.r [],.d {ds:=[(5,{rs:=[.one (zI .u32 x81)],m:=2})],hv:=16,Hs:=[16]},.r [(3,{rs:=[.one (zI .u32 x82)],m:=2})],.r [(19,{m:=3})],.r []] [0,4,9,96] [4,9] (aI c157 (ix 4 8 (ix 5 8 (ix 4 8 (ix 6 8 (ix 0 8 (ix 1 8 (ix 0 8 (ix 2 8 (ix 1 8 (ix 2 8 (ix 7 8 (ix 7 8 (ix 4 8 (ix 4 8 (aO z0 (eN (3)) (ZaT.snd c158) c159 (oD c157) c159 (oD c157) (aL c159 (oD c157) c159 (oD c157) (ix 0 8 (aK z0 (eN (3)) (ZaT.snd c160) (ix 0 8 (ix 1 8 (ix 2 8 (ix 3 8 (ix 4 8 (ix 5 8 (aI (leI 0 6) (ltI 6 8))))))))))))))))))))))))))) (hc3 (w64 (v73+1)) [v32 ((v32 ((v32 ((v32 ((v32 ((zD s_80 7 0)+x81))+(Zay .xor .u32 (Zay .and .u32 (zD s_80 4 0) (zD s_80 5 0)) (Zay .and .u32 (Zay .xor .u32 (IntKind.max IntKind.u32) (zD s_80 4 0)) (zD s_80 6 0)))))+(zD glob_digest_steps (zE v73) 0)))+(zD w_68 (zE v73) 0)))+(v32 (x82+(Zay .xor .u32 (Zay .xor .u32 (Zay .and .u32 (zD s_80 0 0) (zD s_80 1 0)) (Zay .and .u32 (zD s_80 0 0) (zD s_80 2 0))) (Zay .and .u32 (zD s_80 1 0) (zD s_80 2 0)))))),zD s_80 0 0,zD s_80 1 0,zD s_80 2 0,v32 ((zD s_80 3 0)+(v32 ((v32 ((v32 ((v32 ((zD s_80 7 0)+x81))+(Zay .xor .u32 (Zay .and .u32 (zD s_80 4 0) (zD s_80 5 0)) (Zay .and .u32 (Zay .xor .u32 (IntKind.max IntKind.u32) (zD s_80 4 0)) (zD s_80 6 0)))))+(zD glob_digest_steps (zE v73) 0)))+(zD w_68 (zE v73) 0)))),zD s_80 4 0,zD s_80 5 0,zD s_80 6 0] h9)
 ·exact aq fol [.r [],.c false,.r []] [0,9,172] [9] c157 (At.loop N (At.loopN (fun y:Int×LL=>Zag.p4.S i71 y.1 s_80 y.2) (fun c J hc y h=>Zag.p4_ok (v83:=y.1) (st85:=y.2) h hE (fun v83 st85=>hc (v83,st85))) N (0,st) h6))
theorem Zag.p2_ok {h_0 i_49 w_68 st r c2_ J2} (h:Zag.p2 N h_0 st c2_ (i_49,w_68)=some r) (hE:En Tryz.f108 g0 w0 (Zag.rs r) r R) (hc2 : ∀i_49 w_68,c2_ (i_49,w_68)=some r→At g0 w0 (Zag.p2.S h_0 i_49 w_68 st) J2):At g0 w0 (Zag.p2.S h_0 i_49 w_68 st) (XK zF R (.c (Zbn Zag.B [1,1,0,1,0,0]) :: .h J2 :: [.b 2,.c (Zbn Zag.B [1,1,1])])):=by
 unfold Zag.p2 at h
 refine ZaY h (fun c133 h10=>?_) (fun c133 h11=>?_)
 ·obtain ⟨c134,c135,c136,c137,c138,c139,h12⟩:=ck6 h10
  obtain ⟨x69,c140,h13⟩:=Zaf h12
  obtain ⟨c141,c142,h14⟩:=ck2 h13
  obtain ⟨x70,c143,h15⟩:=Zaf h14
  obtain ⟨c144,h16⟩:=ZaP h15
  exact ZiS fol [.r [],.c true,.d {ds:=[],hv:=0,Hs:=[]},.d {ds:=[(7,{rs:=[.one (zI .u32 x69)],m:=2}),(19,{rs:=[.one (zI .u32 x70)],m:=2})],hv:=33816640,Hs:=[64,262144,262208,33816640]},.r []] [0,4,6] [4] (aO c133 c134 c135 c136 c137 c138 c139 (aO c138 c139 c138 c139 c138 c139 z0 (aO (eN (2)) (ZaT.snd c140) z0 (eN (2)) (ZaT.snd c140) (leI 0 3) (leI 0 3) (aO (leI 0 3) (leI 0 3) c141 c142 c141 c142 c141 (aO c142 c141 c142 z0 (eN (2)) (ZaT.snd c143) (leI 0 10) (aL (leI 0 10) (leI 0 10) (leI 0 10) c144 (oD c133))))))) (hc2 (w64 (i_49+1)) (zP w_68 (zE i_49) (v32 ((v32 ((v32 ((zD w_68 (zE (w64 (i_49-16))) 0)+(Zay .xor .u32 x69 (Zba .u32 (zD w_68 (zE (w64 (i_49-15))) 0) 3))))+(zD w_68 (zE (w64 (i_49-7))) 0)))+(Zay .xor .u32 x70 (Zba .u32 (zD w_68 (zE (w64 (i_49-2))) 0) 10))))) h16)
 ·obtain ⟨i71,rfl,h17⟩:=Zaf h11
  obtain ⟨x72,c146,h18⟩:=ZbU h17
  exact aq fol [.r [],.c false,.r [(3,{oc:=x72.lo})],.r []] [0,4,9,96] [4,9] (aI c133 c146) (At.loop N (At.loopN (fun y:Int×(List Int)=>Zag.p3.S i71 y.1 w_68 y.2 st) (fun c J hc y h=>Zag.p3_ok (v73:=y.1) (s_80:=y.2) h hE (fun v73 s_80=>hc (v73,s_80))) N (0,x72.state) h18))
theorem Zag.p1_ok {h_0 b_1 v1 w_44 st r c1_ J1} (h:Zag.p1 N h_0 b_1 st c1_ (v1,w_44)=some r) (hE:En Tryz.f108 g0 w0 (Zag.rs r) r R) (hc1 : ∀v1 w_44,c1_ (v1,w_44)=some r→At g0 w0 (Zag.p1.S h_0 b_1 v1 w_44 st) J1):At g0 w0 (Zag.p1.S h_0 b_1 v1 w_44 st) (XK zF R (.c (Zbn Zag.B [1,0,1,0,0]) :: .h J1 :: [.b 0,.c (Zbn Zag.B [1,1])])):=by
 unfold Zag.p1 at h
 refine ZaY h (fun c84 h19=>?_) (fun c84 h20=>?_)
 ·obtain ⟨c85,c86,h21⟩:=ck2 h19
  obtain ⟨x45,c87,h22⟩:=Zhd h21
  obtain ⟨c88,c89,h23⟩:=ck2 h22
  obtain ⟨x46,c90,h24⟩:=Zhd h23
  obtain ⟨c91,c92,h25⟩:=ck2 h24
  obtain ⟨x47,c93,h26⟩:=Zhd h25
  obtain ⟨c94,c95,h27⟩:=ck2 h26
  obtain ⟨x48,c96,h28⟩:=Zhd h27
  obtain ⟨c97,c98,h29⟩:=ck2 h28
  exact ZiS fol [.r [],.c true,.r [],.d {ds:=[(5,{oe:=[zI .u8 x45]}),(13,{oe:=[zI .u8 x46]}),(22,{oe:=[zI .u8 x47]}),(31,{oe:=[zI .u8 x48]})],hv:=34359738368,Hs:=[34359738368]},.r []] [0,1,4,16] [4] (aO c84 c85 c86 c87 (leI 0 24) c88 c89 (aO c90 (leI 0 16) c91 c92 c93 (leI 0 8) c94 (aK c95 c96 c97 c98))) (hc1 (w64 (v1+1)) (zP w_44 (zE v1) (Zay .or .u32 (Zay .or .u32 (Zay .or .u32 (Zbi .u32 (v32 (x45)) 24) (Zbi .u32 (v32 (x46)) 16)) (Zbi .u32 (v32 (x47)) 8)) (v32 (x48)))) h29)
 ·exact aq fol [.r [],.c false,.r []] [0,4,6] [4] c84 (At.loop N (At.loopN (fun y:Int×(List Int)=>Zag.p2.S h_0 y.1 y.2 st) (fun c J hc y h=>Zag.p2_ok (i_49:=y.1) (w_68:=y.2) h hE (fun i_49 w_68=>hc (i_49,w_68))) N (16,w_44) h20))
theorem Zag.snd {h_0:Option Nat} {b_1:LL} {st:LL} {r:LL} (h:Zag N h_0 b_1 st=some r):Snd zF 108 [.one (uJ h_0),.one (vK 1 b_1)] st (Zag.rs r) r:=
 sO Zag.B Tryz.func108 fun g0 w0 R hE=>by
  unfold Zag at h
  exact aq fol [.r [],.r []] [0,1,4,16] [4] trivial (At.loop N (At.loopN (fun y:Int×(List Int)=>Zag.p1.S h_0 b_1 y.1 y.2 st) (fun c J hc y h=>Zag.p1_ok (v1:=y.1) (w_44:=y.2) h hE (fun v1 w_44=>hc (v1,w_44))) N (0,zB 64 0) h))
noncomputable def Zaw.B:Code:=Tryz.f95.body.getD .skip
noncomputable def Zaw.rs (r:LL):List CV:=[]
noncomputable def Zaw.p2 (N:Nat) (c1_:((Option Nat)×Int×LL)→Option LL) (i15:Nat) (parts_1:LL) (v1:Int) (c2_:LL→Option LL):LL→Option LL:=fun st20=>
 Zds (st20[i15]?) ZbI fun x21=>
 if (decide ((len x21.rest)≥64))=true then
  chk (64≤(zK x21.rest))<|
  Zbt (Zag N (some i15) (tQ 64 x21.rest) st20) fun st22=>
  Zds (st22[i15]?) ZbI fun x23=>
  chk (64≤(zK x23.rest))<|
  c2_ (zP st22 i15 (Zan.lo {x23 with rest:=rR 64 x23.rest}))
 else
 c1_ ((some i15),w64 (v1+1),st20)
noncomputable def Zaw.p1 (N:Nat) (parts_1:LL) (c1_:((Option Nat)×Int×LL)→Option LL):((Option Nat)×Int×LL)→Option LL:=fun (h_12,v1,st13)=>
 if (decide (v1<(len parts_1)))=true then
  chk (0≤v1)<|
  Zds (parts_1[zE v1]?) dec_t fun x14=>
  Zbt h_12 fun i15=>
  Zds (st13[i15]?) ZbI fun x16=>
  chk (zK (x16.rest++(ZlT x14))*1≤140737488355328)<|
  loopN (Zaw.p2 N c1_ i15 parts_1 v1) N (zP (zP (zP st13 i15 (Zan.lo {x16 with size:=v64 (x16.size+(v64 (((zU x14:Nat):Int))))})) i15 (gs (Zan.lo {x16 with size:=v64 (x16.size+(v64 (((zU x14:Nat):Int))))}) 1)) i15 (Zan.lo (Zan.mk x16.state (x16.rest++(ZlT x14)) (v64 (x16.size+(v64 (((zU x14:Nat):Int))))))))
 else
 some st13
noncomputable def Zaw (N:Nat) (h_0:Option Nat) (parts_1 st:LL):Option LL:=
 if (uE h_0)=true then
  some st
 else
 loopN (Zaw.p1 N parts_1) N (h_0,0,st)
noncomputable def Zaw.p2.S (i15:Nat) (parts_1:LL) (v1:Int) (st20:LL):S:=mkS 55 [(0,sP (some i15)),(8,sV 1 parts_1),(9,sI (len parts_1)),(10,sI v1)] [] st20
noncomputable def Zaw.p1.S (h_12:Option Nat) (parts_1:LL) (v1:Int) (st13:LL):S:=mkS 55 [(0,sP h_12),(8,sV 1 parts_1),(9,sI (len parts_1)),(10,sI v1)] [] st13
theorem Zaw.p2_ok {i15 parts_1 v1 st20 r c1_ c2_ J1 J2} (h:Zaw.p2 N c1_ i15 parts_1 v1 c2_ st20=some r) (hE:En Tryz.f95 g0 w0 (Zaw.rs r) r R) (hc1 : ∀h_12 v1 st13,c1_ (h_12,v1,st13)=some r→At g0 w0 (Zaw.p1.S h_12 parts_1 v1 st13) J1) (hc2 : ∀st20,c2_ st20=some r→At g0 w0 (Zaw.p2.S i15 parts_1 v1 st20) J2):At g0 w0 (Zaw.p2.S i15 parts_1 v1 st20) (XK zF R (.c (Zbn Zaw.B [1,1,0,0,1,1,0,0,1,1,1,0,0]) :: .h J2 :: [.b 2,.b 1,.c (Zbn Zaw.B [1,1,0,0,1,1,1]),.h J1,.b 0])):=by
 unfold Zaw.p2 at h
 obtain ⟨x21,c32,h1⟩:=ZbU h
 refine ZaY h1 (fun c33 h2=>?_) (fun c33 h3=>?_)
 ·obtain ⟨c34,h4⟩:=ZaP h2
  obtain ⟨st22,c35,h5⟩:=Zaf h4
  obtain ⟨x23,c36,h6⟩:=ZbU h5
  obtain ⟨c37,h7⟩:=ZaP h6
  exact an fol [.r [(3,{oc:=x21.lo})],.c true,.r [(4,{oc:=x21.lo}),(5,{oc:=x21.lo}),(6,{oc:=x21.lo,st:=st22,wm:=2})],.r [(4,{oc:=x23.lo}),(5,{oc:=x23.lo}),(8,{oc:=x23.lo,m:=8,wm:=1})]] [0,8,9,10] [] (aO c32 c33 c32 (leI 0 64) (leN 0 64) c34 c32 (aO z0 c34 c32 (Zag.snd c35) c36 (leI 0 64) c37 (aM (Nat.le_refl (zK x23.rest)) c36 (rfl:Root.obj i15=Root.obj i15) c36 c37 (eN ((zK x23.rest)-64))))) (hc2 (zP st22 i15 (Zan.lo {x23 with rest:=rR 64 x23.rest})) h7)
 ·exact an fol [.r [(3,{oc:=x21.lo})],.c false,.r []] [0,8,9,10] [] (aI c32 c33) (hc1 (some i15) (w64 (v1+1)) st20 h3)
theorem Zaw.p1_ok {h_12 parts_1 v1 st13 r c1_ J1} (h:Zaw.p1 N parts_1 c1_ (h_12,v1,st13)=some r) (hE:En Tryz.f95 g0 w0 (Zaw.rs r) r R) (hc1 : ∀h_12 v1 st13,c1_ (h_12,v1,st13)=some r→At g0 w0 (Zaw.p1.S h_12 parts_1 v1 st13) J1):At g0 w0 (Zaw.p1.S h_12 parts_1 v1 st13) (XK zF R (.c (Zbn Zaw.B [1,1,0,0]) :: .h J1 :: [.b 0])):=by
 unfold Zaw.p1 at h
 refine ZaY h (fun c20 h8=>?_) (fun c20 h9=>?_)
 ·obtain ⟨c21,h10⟩:=ZaP h8
  obtain ⟨x14,c22,h11⟩:=ZqD h10
  obtain ⟨i15,rfl,h12⟩:=Zaf h11
  obtain ⟨x16,c24,h13⟩:=ZbU h12
  obtain ⟨c25,h14⟩:=ZaP h13
  exact aq fol [.r [],.c true,.r [(1,{oe:=[wY x14]})],.r [(3,{oc:=x16.lo}),(10,{oc:=x16.lo})],.r [(4,{oc:=Zan.lo {x16 with size:=v64 (x16.size+(v64 (((zU x14:Nat):Int))))}}),(6,{oe:=Zan.lo {x16 with size:=v64 (x16.size+(v64 (((zU x14:Nat):Int))))}}),(9,{oc:=gs (Zan.lo {x16 with size:=v64 (x16.size+(v64 (((zU x14:Nat):Int))))}) 1,mv:=[30]})]] [0,8,9,10] [] (aO c20 c21 (oD c20) c22 c24 c24 (Zaq c24 (Zan.lo {x16 with size:=v64 (x16.size+(v64 (((zU x14:Nat):Int))))})) (aN z0 (eN (zK x16.rest)) (Zaq c24 (Zan.lo {x16 with size:=v64 (x16.size+(v64 (((zU x14:Nat):Int))))})) c25 (Zaq (Zaq c24 (Zan.lo {x16 with size:=v64 (x16.size+(v64 (((zU x14:Nat):Int))))})) (gs (Zan.lo {x16 with size:=v64 (x16.size+(v64 (((zU x14:Nat):Int))))}) 1)) z0 (eN (zK (x16.rest++(ZlT x14)))))) (At.loop N (At.loopN (fun y:LL=>Zaw.p2.S i15 parts_1 v1 y) (fun c J hc y h=>Zaw.p2_ok h hE hc1 (fun st20=>hc st20)) N (zP (zP (zP st13 i15 (Zan.lo {x16 with size:=v64 (x16.size+(v64 (((zU x14:Nat):Int))))})) i15 (gs (Zan.lo {x16 with size:=v64 (x16.size+(v64 (((zU x14:Nat):Int))))}) 1)) i15 (Zan.lo (Zan.mk x16.state (x16.rest++(ZlT x14)) (v64 (x16.size+(v64 (((zU x14:Nat):Int)))))))) h14))
 ·obtain rfl:=Zac h9
  exact af fol hE [.r [],.c false] [] 0 [] c20
theorem Zaw.snd {h_0:Option Nat} {parts_1:LL} {st:LL} {r:LL} (h:Zaw N h_0 parts_1 st=some r):Snd zF 95 [.one (uJ h_0),.one (vK 1 parts_1)] st (Zaw.rs r) r:=
 sO Zaw.B Tryz.func95 fun g0 w0 R hE=>by
  unfold Zaw at h
  refine ZaY h (fun c1 h15=>?_) (fun c1 h16=>?_)
  ·obtain rfl:=Zac h15
   exact af fol hE [.r [],.c true] [] 0 [] c1
  ·exact aq fol [.r [],.c false,.r []] [0,8,9,10] [] c1 (At.loop N (At.loopN (fun y:(Option Nat)×Int×LL=>Zaw.p1.S y.1 parts_1 y.2.1 y.2.2) (fun c J hc y h=>Zaw.p1_ok (h_12:=y.1) (v1:=y.2.1) (st13:=y.2.2) h hE (fun h_12 v1 st13=>hc (h_12,v1,st13))) N (h_0,0,st) h16))
noncomputable def Zal.B:Code:=Tryz.f96.body.getD .skip
noncomputable def Zal.rs (r:(List Int)×LL):List CV:=[.agg [zH .u8 32 r.1]]
noncomputable def Zal.p4 (N:Nat) (x47:Zan) (st45:LL) (c4_:(Int×(List Int))→Option ((List Int)×LL)):(Int×(List Int))→Option ((List Int)×LL):=fun (v48,out_49)=>
 if (decide (v48<8))=true then
  chk (0≤v48)<|
  chk (0≤(w64 (4*v48)))<|
  chk ((w64 (4*v48))<32)<|
  chk (0≤(w64 ((w64 (4*v48))+1)))<|
  chk ((w64 ((w64 (4*v48))+1))<32)<|
  chk (0≤(w64 ((w64 (4*v48))+2)))<|
  chk ((w64 ((w64 (4*v48))+2))<32)<|
  chk (0≤(w64 ((w64 (4*v48))+3)))<|
  chk ((w64 ((w64 (4*v48))+3))<32)<|
  c4_ (w64 (v48+1),zP (zP (zP (zP out_49 (zE (w64 (4*v48))) (v8 (Zba .u32 (zD x47.state (zE v48) 0) 24))) (zE (w64 ((w64 (4*v48))+1))) (v8 (Zba .u32 (zD x47.state (zE v48) 0) 16))) (zE (w64 ((w64 (4*v48))+2))) (v8 (Zba .u32 (zD x47.state (zE v48) 0) 8))) (zE (w64 ((w64 (4*v48))+3))) (v8 (zD x47.state (zE v48) 0)))
 else
 some (out_49,st45)
noncomputable def Zal.p3 (N:Nat) (st v38:LL) (c3_:(Nat×Nat×LL)→Option ((List Int)×LL)):(Nat×Nat×LL)→Option ((List Int)×LL):=fun (tail_43,tail_44,st45)=>
 if (decide (((tail_44:Nat):Int)>0))=true then
  chk ((tail_43+64)≤(zK v38))<|
  Zbt (Zag N (some (zK st)) (tQ 64 (rR tail_43 v38)) st45) fun st46=>
  chk (64≤tail_44)<|
  c3_ (tail_43+64,tail_44-64,st46)
 else
 Zds (st45[zK st]?) ZbI fun x47=>
 loopN (Zal.p4 N x47 st45) N (0,zB 32 0)
noncomputable def Zal.p2 (N:Nat) (h_0:Zan) (st:LL) (c2_:(LL×Int)→Option ((List Int)×LL)):(LL×Int)→Option ((List Int)×LL):=fun (v38,i_26)=>
 if (decide (i_26≥0))=true then
  chk (0≤(w64 (8*i_26)))<|
  chk (zK (v38 ++ [[zI .u8 (v8 (Zba .u64 (v64 (h_0.size*8)) (w64 (8*i_26))))]])*1≤140737488355328)<|
  c2_ (v38 ++ [[zI .u8 (v8 (Zba .u64 (v64 (h_0.size*8)) (w64 (8*i_26))))]],w64 (i_26-1))
 else
 loopN (Zal.p3 N st v38) N (0,zK v38,st ++ [Zan.lo (Zan.mk h_0.state [] 0)])
noncomputable def Zal.p1 (N:Nat) (h_0:Zan) (st:LL) (c1_:LL→Option ((List Int)×LL)):LL→Option ((List Int)×LL):=fun v25=>
 if ((Int.tmod (len v25) 64) != 56)=true then
  chk (zK (v25 ++ [[zI .u8 0]])*1≤140737488355328)<|
  c1_ (v25 ++ [[zI .u8 0]])
 else
 loopN (Zal.p2 N h_0 st) N (v25,7)
noncomputable def Zal (N:Nat) (h_0:Zan) (st:LL):Option ((List Int)×LL):=
 chk (zK ([]++h_0.rest)*1≤140737488355328)<|
 chk (zK (([]++h_0.rest) ++ [[zI .u8 128]])*1≤140737488355328)<|
 loopN (Zal.p1 N h_0 st) N (([]++h_0.rest) ++ [[zI .u8 128]])
noncomputable def Zal.p4.S (x47:Zan) (v48:Int) (out_49:List Int) (st45:LL):S:=mkS 94 [(2,sA 2),(6,sA 6),(61,.agg [.l (zH .u32 8 x47.state)]),(62,sI v48)] [(2,.cells [zH .u8 32 (zB 32 0)]),(6,.cells [zH .u8 32 out_49])] st45
noncomputable def Zal.p3.S (st:LL) (tail_43 tail_44:Nat) (v38 st45:LL):S:=mkS 94 [(2,sA 2),(3,sP (some (zK st))),(4,.one (.h (.row 22 0) 1 tail_43 tail_44))] [(2,.cells [zH .u8 32 (zB 32 0)]),(22,.row 0 false 1 v38)] st45
noncomputable def Zal.p2.S (h_0:Zan) (st v38:LL) (i_26:Int):S:=mkS 94 [(0,.one (.l (L.bx 10 h_0.ls))),(2,sA 2),(3,sP (some (zK st))),(4,.one (.h (.row 22 0) 1 0 (zK v38))),(5,sI i_26)] [(2,.cells [zH .u8 32 (zB 32 0)]),(22,.row 0 false 1 v38)] (st ++ [Zan.lo (Zan.mk h_0.state [] 0)])
noncomputable def Zal.p1.S (h_0:Zan) (st v25:LL):S:=mkS 94 [(0,.one (.l (L.bx 10 h_0.ls))),(2,sA 2),(3,sP (some (zK st))),(4,.one (.h (.row 22 0) 1 0 (zK v25)))] [(2,.cells [zH .u8 32 (zB 32 0)]),(22,.row 0 false 1 v25)] (st ++ [Zan.lo (Zan.mk h_0.state [] 0)])
theorem Zal.p4_ok {x47 v48 out_49 st45 r c4_ J4} (h:Zal.p4 N x47 st45 c4_ (v48,out_49)=some r) (hE:En Tryz.f96 g0 w0 (Zal.rs r) r.2 R) (hc4 : ∀v48 out_49,c4_ (v48,out_49)=some r→At g0 w0 (Zal.p4.S x47 v48 out_49 st45) J4):At g0 w0 (Zal.p4.S x47 v48 out_49 st45) (XK zF R (.c (Zbn Zal.B [1,1,1,1,1,1,1,1,1,0,1,0,0]) :: .h J4 :: [.b 6,.c (Zbn Zal.B [1,1,1,1,1,1,1,1,1,1])])):=by
 unfold Zal.p4 at h
 refine ZaY h (fun c205 h1=>?_) (fun c205 h2=>?_)
 ·obtain ⟨c206,c207,c208,c209,c210,c211,c212,c213,h3⟩:=ck8 h1
  obtain ⟨c214,h4⟩:=ZaP h3
  exact an fol [.r [],.c true,.r [],.r [],.r []] [2,6,61,62] [2,6] (aO c205 c206 (oD c205) (leI 0 24) (leI 0 16) (leI 0 8) c207 (aN c208 c209 c210 c211 c212 c213 c214)) (hc4 (w64 (v48+1)) (zP (zP (zP (zP out_49 (zE (w64 (4*v48))) (v8 (Zba .u32 (zD x47.state (zE v48) 0) 24))) (zE (w64 ((w64 (4*v48))+1))) (v8 (Zba .u32 (zD x47.state (zE v48) 0) 16))) (zE (w64 ((w64 (4*v48))+2))) (v8 (Zba .u32 (zD x47.state (zE v48) 0) 8))) (zE (w64 ((w64 (4*v48))+3))) (v8 (zD x47.state (zE v48) 0))) h4)
 ·obtain rfl:=Zac h2
  exact af fol hE [.r [],.c false,.r []] [] 0 [] c205
theorem Zal.p3_ok {st tail_43 tail_44 v38 st45 r c3_ J3} (h:Zal.p3 N st v38 c3_ (tail_43,tail_44,st45)=some r) (hE:En Tryz.f96 g0 w0 (Zal.rs r) r.2 R) (hc3 : ∀tail_43 tail_44 st45,c3_ (tail_43,tail_44,st45)=some r→At g0 w0 (Zal.p3.S st tail_43 tail_44 v38 st45) J3):At g0 w0 (Zal.p3.S st tail_43 tail_44 v38 st45) (XK zF R (.c (Zbn Zal.B [1,1,1,1,1,1,1,0,0,0]) :: .h J3 :: [.b 4,.c (Zbn Zal.B [1,1,1,1,1,1,1,1])])):=by
 unfold Zal.p3 at h
 refine ZaY h (fun c190 h5=>?_) (fun c190 h6=>?_)
 ·obtain ⟨c191,h7⟩:=ZaP h5
  obtain ⟨st46,c192,h8⟩:=Zaf h7
  obtain ⟨c193,h9⟩:=ZaP h8
  exact an fol [.r [],.c true,.r [(2,{m:=9}),(3,{st:=st46,wm:=3,fz:=[22]})],.r []] [2,3,4] [2,22] (aO c190 (leI 0 64) (leN 0 64) c191 c191 (Zag.snd c192) (leI 0 64) (aI c193 (Nat.le_refl (tail_44)))) (hc3 (tail_43+64) (tail_44-64) st46 h9)
 ·obtain ⟨x47,c194,h10⟩:=ZbU h6
  exact aq fol [.r [],.c false,.r [],.r [(3,{oc:=x47.lo})]] [2,6,61,62] [2,6] (aI c190 c194) (At.loop N (At.loopN (fun y:Int×(List Int)=>Zal.p4.S x47 y.1 y.2 st45) (fun c J hc y h=>Zal.p4_ok (v48:=y.1) (out_49:=y.2) h hE (fun v48 out_49=>hc (v48,out_49))) N (0,zB 32 0) h10))
theorem Zal.p2_ok {h_0 st v38 i_26 r c2_ J2} (h:Zal.p2 N h_0 st c2_ (v38,i_26)=some r) (hE:En Tryz.f96 g0 w0 (Zal.rs r) r.2 R) (hc2 : ∀v38 i_26,c2_ (v38,i_26)=some r→At g0 w0 (Zal.p2.S h_0 st v38 i_26) J2):At g0 w0 (Zal.p2.S h_0 st v38 i_26) (XK zF R (.c (Zbn Zal.B [1,1,1,1,1,1,0,1,0,0]) :: .h J2 :: [.b 2,.c (Zbn Zal.B [1,1,1,1,1,1,1])])):=by
 unfold Zal.p2 at h
 refine ZaY h (fun c163 h11=>?_) (fun c163 h12=>?_)
 ·obtain ⟨c164,c165,h13⟩:=ck2 h11
  exact an fol [.r [],.c true,.r [(4,{oe:=h_0.ls})],.r []] [0,2,3,4,5] [2,22] (aO c163 (eO h_0.ls) c164 z0 (eN (zK v38)) z0 (eN (1)) c165) (hc2 (v38 ++ [[zI .u8 (v8 (Zba .u64 (v64 (h_0.size*8)) (w64 (8*i_26))))]]) (w64 (i_26-1)) h13)
 ·exact aq fol [.r [],.c false] [2,3,4] [2,22] c163 (At.loop N (At.loopN (fun y:Nat×Nat×LL=>Zal.p3.S st y.1 y.2.1 v38 y.2.2) (fun c J hc y h=>Zal.p3_ok (tail_43:=y.1) (tail_44:=y.2.1) (st45:=y.2.2) h hE (fun tail_43 tail_44 st45=>hc (tail_43,tail_44,st45))) N (0,zK v38,st ++ [Zan.lo (Zan.mk h_0.state [] 0)]) h12))
theorem Zal.p1_ok {h_0 st v25 r c1_ J1} (h:Zal.p1 N h_0 st c1_ v25=some r) (hE:En Tryz.f96 g0 w0 (Zal.rs r) r.2 R) (hc1 : ∀v25,c1_ v25=some r→At g0 w0 (Zal.p1.S h_0 st v25) J1):At g0 w0 (Zal.p1.S h_0 st v25) (XK zF R (.c (Zbn Zal.B [1,1,1,1,1,0,0,0]) :: .h J1 :: [.b 0,.c (Zbn Zal.B [1,1,1,1,1,1])])):=by
 unfold Zal.p1 at h
 refine ZaY h (fun c109 h14=>?_) (fun c109 h15=>?_)
 ·obtain ⟨c110,h16⟩:=ZaP h14
  exact an fol [.r [],.c true,.r []] [0,2,3,4] [2,22] (aN (neI 64) c109 z0 (eN (zK v25)) z0 (eN (1)) c110) (hc1 (v25 ++ [[zI .u8 0]]) h16)
 ·exact aq fol [.r [],.c false,.r []] [0,2,3,4,5] [2,22] (aI (neI 64) c109) (At.loop N (At.loopN (fun y:LL×Int=>Zal.p2.S h_0 st y.1 y.2) (fun c J hc y h=>Zal.p2_ok (v38:=y.1) (i_26:=y.2) h hE (fun v38 i_26=>hc (v38,i_26))) N (v25,7) h15))
theorem Zal.snd {h_0:Zan} {st:LL} {r:(List Int)×LL} (h:Zal N h_0 st=some r):Snd zF 96 [.one (L.bx 10 h_0.ls)] st (Zal.rs r) r.2:=
 sO Zal.B Tryz.func96 fun g0 w0 R hE=>by
  unfold Zal at h
  obtain ⟨c1,c2,h17⟩:=ck2 h
  exact aq fol [.r [],.r [],.c false,.r [(3,{oe:=h_0.ls}),(4,{mv:=[1]}),(5,{m:=1})],.r [(3,{oe:=h_0.ls}),(5,{fz:=[22]})],.r []] [0,2,3,4] [2,22] (aO eF (eO h_0.ls) (eO h_0.ls) c1 z0 (eN (zK ([]++h_0.rest))) z0 (aI (eN (1)) c2)) (At.loop N (At.loopN (fun y:LL=>Zal.p1.S h_0 st y) (fun c J hc y h=>Zal.p1_ok h hE (fun v25=>hc v25)) N (([]++h_0.rest) ++ [[zI .u8 128]]) h17))
noncomputable def Zak.B:Code:=Tryz.f96.body.getD .skip
noncomputable def Zak.rs (r:(List Int)×LL):List CV:=[.agg [zH .u8 32 r.1]]
noncomputable def Zak.p4 (N:Nat) (x53:Zan) (st51:LL) (c4_:(Int×(List Int))→Option ((List Int)×LL)):(Int×(List Int))→Option ((List Int)×LL):=fun (v54,out_55)=>
 if (decide (v54<8))=true then
  chk (0≤v54)<|
  chk (0≤(w64 (4*v54)))<|
  chk ((w64 (4*v54))<32)<|
  chk (0≤(w64 ((w64 (4*v54))+1)))<|
  chk ((w64 ((w64 (4*v54))+1))<32)<|
  chk (0≤(w64 ((w64 (4*v54))+2)))<|
  chk ((w64 ((w64 (4*v54))+2))<32)<|
  chk (0≤(w64 ((w64 (4*v54))+3)))<|
  chk ((w64 ((w64 (4*v54))+3))<32)<|
  c4_ (w64 (v54+1),zP (zP (zP (zP out_55 (zE (w64 (4*v54))) (v8 (Zba .u32 (zD x53.state (zE v54) 0) 24))) (zE (w64 ((w64 (4*v54))+1))) (v8 (Zba .u32 (zD x53.state (zE v54) 0) 16))) (zE (w64 ((w64 (4*v54))+2))) (v8 (Zba .u32 (zD x53.state (zE v54) 0) 8))) (zE (w64 ((w64 (4*v54))+3))) (v8 (zD x53.state (zE v54) 0)))
 else
 some (out_55,st51)
noncomputable def Zak.p3 (N:Nat) (st v43:LL) (c3_:(Nat×Nat×LL)→Option ((List Int)×LL)):(Nat×Nat×LL)→Option ((List Int)×LL):=fun (tail_49,tail_50,st51)=>
 if (decide (((tail_50:Nat):Int)>0))=true then
  chk ((tail_49+64)≤(zK v43))<|
  Zbt (Zag N (some (zK st)) (tQ 64 (rR tail_49 v43)) st51) fun st52=>
  chk (64≤tail_50)<|
  c3_ (tail_49+64,tail_50-64,st52)
 else
 Zds (st51[zK st]?) ZbI fun x53=>
 loopN (Zak.p4 N x53 st51) N (0,zB 32 0)
noncomputable def Zak.p2 (N:Nat) (i1:Nat) (st:LL) (x2:Zan) (c2_:(LL×Int)→Option ((List Int)×LL)):(LL×Int)→Option ((List Int)×LL):=fun (v43,i_30)=>
 if (decide (i_30≥0))=true then
  Zds ((st ++ [Zan.lo (Zan.mk x2.state [] 0)])[i1]?) ZbI fun x44=>
  chk (0≤(w64 (8*i_30)))<|
  chk (zK (v43 ++ [[zI .u8 (v8 (Zba .u64 (v64 (x44.size*8)) (w64 (8*i_30))))]])*1≤140737488355328)<|
  c2_ (v43 ++ [[zI .u8 (v8 (Zba .u64 (v64 (x44.size*8)) (w64 (8*i_30))))]],w64 (i_30-1))
 else
 loopN (Zak.p3 N st v43) N (0,zK v43,st ++ [Zan.lo (Zan.mk x2.state [] 0)])
noncomputable def Zak.p1 (N:Nat) (i1:Nat) (st:LL) (x2:Zan) (c1_:LL→Option ((List Int)×LL)):LL→Option ((List Int)×LL):=fun v29=>
 if ((Int.tmod (len v29) 64) != 56)=true then
  chk (zK (v29 ++ [[zI .u8 0]])*1≤140737488355328)<|
  c1_ (v29 ++ [[zI .u8 0]])
 else
 loopN (Zak.p2 N i1 st x2) N (v29,7)
noncomputable def Zak (N:Nat) (h_0:Option Nat) (st:LL):Option ((List Int)×LL):=
 if (uE h_0)=true then
  some (zB 32 0,st)
 else
 Zbt h_0 fun i1=>
 Zds (st[i1]?) ZbI fun x2=>
 chk (zK ([]++x2.rest)*1≤140737488355328)<|
 chk (zK (([]++x2.rest) ++ [[zI .u8 128]])*1≤140737488355328)<|
 loopN (Zak.p1 N i1 st x2) N (([]++x2.rest) ++ [[zI .u8 128]])
noncomputable def Zak.p4.S (x53:Zan) (v54:Int) (out_55:List Int) (st51:LL):S:=mkS 94 [(2,sA 2),(6,sA 6),(61,.agg [.l (zH .u32 8 x53.state)]),(62,sI v54)] [(2,.cells [zH .u8 32 (zB 32 0)]),(6,.cells [zH .u8 32 out_55])] st51
noncomputable def Zak.p3.S (st:LL) (tail_49 tail_50:Nat) (v43 st51:LL):S:=mkS 94 [(2,sA 2),(3,sP (some (zK st))),(4,.one (.h (.row 22 0) 1 tail_49 tail_50))] [(2,.cells [zH .u8 32 (zB 32 0)]),(22,.row 0 false 1 v43)] st51
noncomputable def Zak.p2.S (i1:Nat) (st v43:LL) (i_30:Int) (x2:Zan):S:=mkS 94 [(0,sP (some i1)),(2,sA 2),(3,sP (some (zK st))),(4,.one (.h (.row 22 0) 1 0 (zK v43))),(5,sI i_30)] [(2,.cells [zH .u8 32 (zB 32 0)]),(22,.row 0 false 1 v43)] (st ++ [Zan.lo (Zan.mk x2.state [] 0)])
noncomputable def Zak.p1.S (i1:Nat) (st v29:LL) (x2:Zan):S:=mkS 94 [(0,sP (some i1)),(2,sA 2),(3,sP (some (zK st))),(4,.one (.h (.row 22 0) 1 0 (zK v29)))] [(2,.cells [zH .u8 32 (zB 32 0)]),(22,.row 0 false 1 v29)] (st ++ [Zan.lo (Zan.mk x2.state [] 0)])
theorem Zak.p4_ok {x53 v54 out_55 st51 r c4_ J4} (h:Zak.p4 N x53 st51 c4_ (v54,out_55)=some r) (hE:En Tryz.f96 g0 w0 (Zak.rs r) r.2 R) (hc4 : ∀v54 out_55,c4_ (v54,out_55)=some r→At g0 w0 (Zak.p4.S x53 v54 out_55 st51) J4):At g0 w0 (Zak.p4.S x53 v54 out_55 st51) (XK zF R (.c (Zbn Zak.B [1,1,1,1,1,1,1,1,1,0,1,0,0]) :: .h J4 :: [.b 6,.c (Zbn Zak.B [1,1,1,1,1,1,1,1,1,1])])):=by
 unfold Zak.p4 at h
 refine ZaY h (fun c212 h1=>?_) (fun c212 h2=>?_)
 ·obtain ⟨c213,c214,c215,c216,c217,c218,c219,c220,h3⟩:=ck8 h1
  obtain ⟨c221,h4⟩:=ZaP h3
  exact an fol [.r [],.c true,.r [],.r [],.r []] [2,6,61,62] [2,6] (aO c212 c213 (oD c212) (leI 0 24) (leI 0 16) (leI 0 8) c214 (aN c215 c216 c217 c218 c219 c220 c221)) (hc4 (w64 (v54+1)) (zP (zP (zP (zP out_55 (zE (w64 (4*v54))) (v8 (Zba .u32 (zD x53.state (zE v54) 0) 24))) (zE (w64 ((w64 (4*v54))+1))) (v8 (Zba .u32 (zD x53.state (zE v54) 0) 16))) (zE (w64 ((w64 (4*v54))+2))) (v8 (Zba .u32 (zD x53.state (zE v54) 0) 8))) (zE (w64 ((w64 (4*v54))+3))) (v8 (zD x53.state (zE v54) 0))) h4)
 ·obtain rfl:=Zac h2
  exact af fol hE [.r [],.c false,.r []] [] 0 [] c212
theorem Zak.p3_ok {st tail_49 tail_50 v43 st51 r c3_ J3} (h:Zak.p3 N st v43 c3_ (tail_49,tail_50,st51)=some r) (hE:En Tryz.f96 g0 w0 (Zak.rs r) r.2 R) (hc3 : ∀tail_49 tail_50 st51,c3_ (tail_49,tail_50,st51)=some r→At g0 w0 (Zak.p3.S st tail_49 tail_50 v43 st51) J3):At g0 w0 (Zak.p3.S st tail_49 tail_50 v43 st51) (XK zF R (.c (Zbn Zak.B [1,1,1,1,1,1,1,0,0,0]) :: .h J3 :: [.b 4,.c (Zbn Zak.B [1,1,1,1,1,1,1,1])])):=by
 unfold Zak.p3 at h
 refine ZaY h (fun c197 h5=>?_) (fun c197 h6=>?_)
 ·obtain ⟨c198,h7⟩:=ZaP h5
  obtain ⟨st52,c199,h8⟩:=Zaf h7
  obtain ⟨c200,h9⟩:=ZaP h8
  exact an fol [.r [],.c true,.r [(2,{m:=9}),(3,{st:=st52,wm:=3,fz:=[22]})],.r []] [2,3,4] [2,22] (aO c197 (leI 0 64) (leN 0 64) c198 c198 (Zag.snd c199) (leI 0 64) (aI c200 (Nat.le_refl (tail_50)))) (hc3 (tail_49+64) (tail_50-64) st52 h9)
 ·obtain ⟨x53,c201,h10⟩:=ZbU h6
  exact aq fol [.r [],.c false,.r [],.r [(3,{oc:=x53.lo})]] [2,6,61,62] [2,6] (aI c197 c201) (At.loop N (At.loopN (fun y:Int×(List Int)=>Zak.p4.S x53 y.1 y.2 st51) (fun c J hc y h=>Zak.p4_ok (v54:=y.1) (out_55:=y.2) h hE (fun v54 out_55=>hc (v54,out_55))) N (0,zB 32 0) h10))
theorem Zak.p2_ok {i1 st v43 i_30 x2 r c2_ J2} (h:Zak.p2 N i1 st x2 c2_ (v43,i_30)=some r) (hE:En Tryz.f96 g0 w0 (Zak.rs r) r.2 R) (hc2 : ∀v43 i_30,c2_ (v43,i_30)=some r→At g0 w0 (Zak.p2.S i1 st v43 i_30 x2) J2):At g0 w0 (Zak.p2.S i1 st v43 i_30 x2) (XK zF R (.c (Zbn Zak.B [1,1,1,1,1,1,0,1,0,0]) :: .h J2 :: [.b 2,.c (Zbn Zak.B [1,1,1,1,1,1,1])])):=by
 unfold Zak.p2 at h
 refine ZaY h (fun c169 h11=>?_) (fun c169 h12=>?_)
 ·obtain ⟨x44,c170,h13⟩:=ZbU h11
  obtain ⟨c171,c172,h14⟩:=ck2 h13
  exact an fol [.r [],.c true,.r [(4,{oc:=x44.lo})],.r []] [0,2,3,4,5] [2,22] (aO c169 c170 c171 z0 (eN (zK v43)) z0 (eN (1)) c172) (hc2 (v43 ++ [[zI .u8 (v8 (Zba .u64 (v64 (x44.size*8)) (w64 (8*i_30))))]]) (w64 (i_30-1)) h14)
 ·exact aq fol [.r [],.c false] [2,3,4] [2,22] c169 (At.loop N (At.loopN (fun y:Nat×Nat×LL=>Zak.p3.S st y.1 y.2.1 v43 y.2.2) (fun c J hc y h=>Zak.p3_ok (tail_49:=y.1) (tail_50:=y.2.1) (st51:=y.2.2) h hE (fun tail_49 tail_50 st51=>hc (tail_49,tail_50,st51))) N (0,zK v43,st ++ [Zan.lo (Zan.mk x2.state [] 0)]) h12))
theorem Zak.p1_ok {i1 st v29 x2 r c1_ J1} (h:Zak.p1 N i1 st x2 c1_ v29=some r) (hE:En Tryz.f96 g0 w0 (Zak.rs r) r.2 R) (hc1 : ∀v29,c1_ v29=some r→At g0 w0 (Zak.p1.S i1 st v29 x2) J1):At g0 w0 (Zak.p1.S i1 st v29 x2) (XK zF R (.c (Zbn Zak.B [1,1,1,1,1,0,0,0]) :: .h J1 :: [.b 0,.c (Zbn Zak.B [1,1,1,1,1,1])])):=by
 unfold Zak.p1 at h
 refine ZaY h (fun c114 h15=>?_) (fun c114 h16=>?_)
 ·obtain ⟨c115,h17⟩:=ZaP h15
  exact an fol [.r [],.c true,.r []] [0,2,3,4] [2,22] (aN (neI 64) c114 z0 (eN (zK v29)) z0 (eN (1)) c115) (hc1 (v29 ++ [[zI .u8 0]]) h17)
 ·exact aq fol [.r [],.c false,.r []] [0,2,3,4,5] [2,22] (aI (neI 64) c114) (At.loop N (At.loopN (fun y:LL×Int=>Zak.p2.S i1 st y.1 y.2 x2) (fun c J hc y h=>Zak.p2_ok (v43:=y.1) (i_30:=y.2) h hE (fun v43 i_30=>hc (v43,i_30))) N (v29,7) h16))
theorem Zak.snd {h_0:Option Nat} {st:LL} {r:(List Int)×LL} (h:Zak N h_0 st=some r):Snd zF 96 [.one (uJ h_0)] st (Zak.rs r) r.2:=
 sO Zak.B Tryz.func96 fun g0 w0 R hE=>by
  unfold Zak at h
  refine ZaY h (fun c1 h18=>?_) (fun c1 h19=>?_)
  ·obtain rfl:=Zac h18
   exact af fol hE [.r [],.r [],.c true,.r []] [] 0 [] c1
  ·obtain ⟨i1,rfl,h20⟩:=Zaf h19
   obtain ⟨x2,c3,h21⟩:=ZbU h20
   obtain ⟨c4,c5,h22⟩:=ck2 h21
   exact aq fol [.r [],.r [],.c false,.r [(3,{oc:=x2.lo}),(4,{mv:=[1]}),(5,{m:=1})],.r [(3,{oc:=x2.lo}),(4,{oc:=x2.lo}),(5,{fz:=[22]})],.r []] [0,2,3,4] [2,22] (aO c1 c3 (st_old c3 (Zan.lo (Zan.mk x2.state [] 0))) z0 (eN (zK x2.rest)) (st_old c3 (Zan.lo (Zan.mk x2.state [] 0))) c4 (aL z0 (eN (zK ([]++x2.rest))) z0 (eN (1)) c5)) (At.loop N (At.loopN (fun y:LL=>Zak.p1.S i1 st y x2) (fun c J hc y h=>Zak.p1_ok h hE (fun v29=>hc v29)) N (([]++x2.rest) ++ [[zI .u8 128]]) h22))
noncomputable def ZdH.B:Code:=Tryz.f73.body.getD .skip
noncomputable def ZdH.rs (r:(List Int)×LL):List CV:=[.agg [zH .u8 32 r.1]]
noncomputable def ZdH (N:Nat) (parts_0 st:LL):Option ((List Int)×LL):=
 Zbt (ZdR N st) fun (x1,st2)=>
 Zbt (Zaw N x1 parts_0 st2) fun st3=>
 Zbt (Zak N x1 st3) fun (x4,st5)=>
 some (x4,st5)
theorem ZdH.snd {parts_0:LL} {st:LL} {r:(List Int)×LL} (h:ZdH N parts_0 st=some r):Snd zF 73 [.one (vK 1 parts_0)] st (ZdH.rs r) r.2:=
 sO ZdH.B Tryz.func73 fun g0 w0 R hE=>by
  unfold ZdH at h
  obtain ⟨⟨x1,st2⟩,c1,h1⟩:=Zaf h
  obtain ⟨st3,c2,h2⟩:=Zaf h1
  obtain ⟨⟨x4,st5⟩,c3,h3⟩:=Zaf h2
  obtain rfl:=Zac h3
  exact af fol hE [.r [],.r [(0,{rs:=[.one (uJ x1)],st:=st2})],.r [(2,{st:=st3})],.r [(1,{rs:=[.agg [zH .u8 32 x4]],st:=st5})]] [] 0 [] (aJ (ZdR.snd c1) (Zaw.snd c2) (Zak.snd c3))
noncomputable def ZcI.B:Code:=Tryz.f45.body.getD .skip
noncomputable def ZcI.rs (r:(List Int)×LL):List CV:=[.agg [zH .u8 32 r.1]]
noncomputable def ZcI (N:Nat) (parts_0 st:LL):Option ((List Int)×LL):=
 Zbt (ZdH N parts_0 st) fun (x1,st2)=>
 Zbt (ZdH N [[wY (ZiZ x1)]] st2) fun (x3,st4)=>
 some (x3,st4)
theorem ZcI.snd {parts_0:LL} {st:LL} {r:(List Int)×LL} (h:ZcI N parts_0 st=some r):Snd zF 45 [.one (vK 1 parts_0)] st (ZcI.rs r) r.2:=
 sO ZcI.B Tryz.func45 fun g0 w0 R hE=>by
  unfold ZcI at h
  obtain ⟨⟨x1,st2⟩,c1,h1⟩:=Zaf h
  obtain ⟨⟨x3,st4⟩,c2,h2⟩:=Zaf h1
  obtain rfl:=Zac h2
  exact af fol hE [.r [],.r [(1,{rs:=[.agg [zH .u8 32 x1]],st:=st2})],.r [(3,{rs:=[.agg [zH .u8 32 x3]],st:=st4,fz:=[8]})]] [] 0 [] (aM (ZdH.snd c1) (leN 0 32) (leN 32 32) z0 (eN (1)) (ZdH.snd c2))
noncomputable def Zdy.B:Code:=Tryz.f26.body.getD .skip
noncomputable def Zdy.rs (r:(List Int)×LL):List CV:=[.agg [zH .u8 32 r.1]]
noncomputable def Zdy (N:Nat) (h_0:Zaj) (st:LL):Option ((List Int)×LL):=
 Zbt (ZcF N h_0 st) fun (x1,x2,st3)=>
 if (x2 != 0)=true then
  some (zB 32 0,st3)
 else
 Zbt (ZcI N [[wY x1]] st3) fun (x4,st5)=>
 some (x4,st5)
theorem Zdy.snd {h_0:Zaj} {st:LL} {r:(List Int)×LL} (h:Zdy N h_0 st=some r):Snd zF 26 [.agg h_0.ls] st (Zdy.rs r) r.2:=
 sO Zdy.B Tryz.func26 fun g0 w0 R hE=>by
  unfold Zdy at h
  obtain ⟨⟨x1,x2,st3⟩,c1,h1⟩:=Zaf h
  let o1:List PS:=[.r [],.r [(1,{rs:=[.one (wY x1),oI x2],st:=st3})],.r []]
  refine ZaY h1 (fun c2 h2=>?_) (fun c2 h3=>?_)
  ·obtain rfl:=Zac h2
   exact af fol hE (o1 ++ [.c true,.r []]) [] 0 [] (aI (ZcF.snd c1) c2)
  ·obtain ⟨⟨x4,st5⟩,c3,h4⟩:=Zaf h3
   obtain rfl:=Zac h4
   exact af fol hE (o1 ++ [.c false,.r [(2,{rs:=[.agg [zH .u8 32 x4]],st:=st5,fz:=[14]})]]) [] 0 [] (aL (ZcF.snd c1) c2 z0 (eN (1)) (ZcI.snd c3))
noncomputable def ZaL.B:Code:=Tryz.f32.body.getD .skip
noncomputable def ZaL.rs (r:LL):List CV:=[]
noncomputable def ZaL.p1 (N:Nat) (times_1:LL) (c1_:((Option Nat)×Int×LL)→Option LL):((Option Nat)×Int×LL)→Option LL:=fun (w_5,v1,st6)=>
 if (decide (v1<(len times_1)))=true then
  chk (0≤v1)<|
  Zds (times_1[zE v1]?) Zdq fun x7=>
  Zbt w_5 fun i8=>
  Zds (st6[i8]?) ZhX fun x9=>
  chk (0≤(if (10:Int)<(len x9) then 10 else (len x9)))<|
  chk ((zE (if (10:Int)<(len x9) then 10 else (len x9)))≤(zK x9))<|
  chk (zK ([[zI .i64 x7]]++(tQ (zE (if (10:Int)<(len x9) then 10 else (len x9))) x9))*8≤140737488355328)<|
  c1_ ((some i8),w64 (v1+1),zP st6 i8 [wL true 1 ([[zI .i64 x7]]++(tQ (zE (if (10:Int)<(len x9) then 10 else (len x9))) x9))])
 else
 some st6
noncomputable def ZaL (N:Nat) (w_0:Option Nat) (times_1 st:LL):Option LL:=
 if (uE w_0)=true then
  some st
 else
 loopN (ZaL.p1 N times_1) N (w_0,0,st)
noncomputable def ZaL.p1.S (w_5:Option Nat) (times_1:LL) (v1:Int) (st6:LL):S:=mkS 32 [(0,sP w_5),(8,sV 1 times_1),(9,sI (len times_1)),(10,sI v1)] [] st6
theorem ZaL.p1_ok {w_5 times_1 v1 st6 r c1_ J1} (h:ZaL.p1 N times_1 c1_ (w_5,v1,st6)=some r) (hE:En Tryz.f32 g0 w0 (ZaL.rs r) r R) (hc1 : ∀w_5 v1 st6,c1_ (w_5,v1,st6)=some r→At g0 w0 (ZaL.p1.S w_5 times_1 v1 st6) J1):At g0 w0 (ZaL.p1.S w_5 times_1 v1 st6) (XK zF R (.c (Zbn ZaL.B [1,1,0,0]) :: .h J1 :: [.b 0])):=by
 unfold ZaL.p1 at h
 refine ZaY h (fun c10 h1=>?_) (fun c10 h2=>?_)
 ·obtain ⟨c11,h3⟩:=ZaP h1
  obtain ⟨x7,c12,h4⟩:=ZcK h3
  obtain ⟨i8,rfl,h5⟩:=Zaf h4
  obtain ⟨x9,c14,h6⟩:=Zfh h5
  obtain ⟨c15,c16,c17,h7⟩:=ck3 h6
  exact ZiS fol [.r [],.c true,.r [(1,{oe:=[zI .i64 x7]})],.d {ds:=[(6,{oc:=[wL true 1 x9]}),(10,{oc:=[wL true 1 x9]}),(13,{oc:=[wL true 1 x9]}),(14,{oc:=[wL true 1 x9],wm:=2}),(17,{oc:=[wL true 1 x9],mv:=[16]})],hv:=147460,Hs:=[4,16388,147460]},.r []] [0,8,9,10] [] (aO c10 c11 (oD c10) c12 c14 c14 c14 (aO c14 c15 (Nat.zero_le (zE (if (10:Int)<(len x9) then 10 else (len x9)))) c16 c14 c15 (Nat.zero_le (zE (if (10:Int)<(len x9) then 10 else (len x9)))) (aO c16 c14 z0 (eN (1)) z0 c16 c14 (aK c17 c14 z0 (eN (zK ([[zI .i64 x7]]++(tQ (zE (if (10:Int)<(len x9) then 10 else (len x9))) x9)))))))) (hc1 (some i8) (w64 (v1+1)) (zP st6 i8 [wL true 1 ([[zI .i64 x7]]++(tQ (zE (if (10:Int)<(len x9) then 10 else (len x9))) x9))]) h7)
 ·obtain rfl:=Zac h2
  exact af fol hE [.r [],.c false] [] 0 [] c10
theorem ZaL.snd {w_0:Option Nat} {times_1:LL} {st:LL} {r:LL} (h:ZaL N w_0 times_1 st=some r):Snd zF 32 [.one (uJ w_0),.one (vK 1 times_1)] st (ZaL.rs r) r:=
 sO ZaL.B Tryz.func32 fun g0 w0 R hE=>by
  unfold ZaL at h
  refine ZaY h (fun c1 h8=>?_) (fun c1 h9=>?_)
  ·obtain rfl:=Zac h8
   exact af fol hE [.r [],.c true] [] 0 [] c1
  ·exact aq fol [.r [],.c false,.r []] [0,8,9,10] [] c1 (At.loop N (At.loopN (fun y:(Option Nat)×Int×LL=>ZaL.p1.S y.1 times_1 y.2.1 y.2.2) (fun c J hc y h=>ZaL.p1_ok (w_5:=y.1) (v1:=y.2.1) (st6:=y.2.2) h hE (fun w_5 v1 st6=>hc (w_5,v1,st6))) N (w_0,0,st) h9))
noncomputable def ZcC.B:Code:=Tryz.f33.body.getD .skip
noncomputable def ZcC.rs (r:LL×LL):List CV:=[.row true 1 r.1]
noncomputable def ZcC (N:Nat) (w_0:Option Nat) (st:LL):Option (LL×LL):=
 if (uE w_0)=true then
  some ([],st)
 else
 Zbt w_0 fun i1=>
 Zds (st[i1]?) ZhX fun x2=>
 Zbt (Zbl N x2) fun x3=>
 chk (ZdB x3=true)<|
 some (x3,st)
theorem ZcC.snd {w_0:Option Nat} {st:LL} {r:LL×LL} (h:ZcC N w_0 st=some r):Snd zF 33 [.one (uJ w_0)] st (ZcC.rs r) r.2:=
 sO ZcC.B Tryz.func33 fun g0 w0 R hE=>by
  unfold ZcC at h
  refine ZaY h (fun c1 h1=>?_) (fun c1 h2=>?_)
  ·obtain rfl:=Zac h1
   exact af fol hE [.r [(0,{m:=2})],.r [],.c true,.r [(0,{m:=2})]] [] 0 [0] c1
  ·obtain ⟨i1,rfl,h3⟩:=Zaf h2
   obtain ⟨x2,c3,h4⟩:=Zfh h3
   obtain ⟨x3,c4,h5⟩:=Zaf h4
   obtain ⟨c5,h6⟩:=ZaP h5
   obtain rfl:=Zac h6
   exact af fol hE [.r [(0,{m:=2})],.r [],.c false,.r [(3,{oc:=[wL true 1 x2]}),(4,{oc:=[wL true 1 x2],rs:=[.row true 1 x3],ns:=[9],m:=2})]] [] 0 [0] (aO c1 c3 z0 (eN (zK x2)) c3 c5 (Zbl.snd c4) (aI z0 (eN (zK x3))))
noncomputable def ZcB.B:Code:=Tryz.f31.body.getD .skip
noncomputable def ZcB.rs (r:Bool):List CV:=[oB r]
noncomputable def ZcB (N:Nat) (p_0:Zae) (height_1:Int):Option Bool:=
 if (decide (p_0.Interval>0))=true then
  chk (p_0.Interval≠0)<|
  some ((Int.tmod height_1 p_0.Interval)==0)
 else
 some false
theorem ZcB.snd {p_0:Zae} {height_1:Int} {r:Bool} (h:ZcB N p_0 height_1=some r):Zde zF 31 [.agg p_0.ls,oI height_1] (ZcB.rs r):=fun st=>
 sO ZcB.B Tryz.func31 fun g0 w0 R hE=>by
  unfold ZcB at h
  refine ZaY h (fun c1 h1=>?_) (fun c1 h2=>?_)
  ·obtain ⟨c2,h3⟩:=ZaP h1
   obtain rfl:=Zac h3
   exact af fol hE [.r [],.r []] [] 0 [] (aN c1 c1 c1 c1 c2 c1 c1)
  ·obtain rfl:=Zac h2
   exact af fol hE [.r [],.r [(4,wF),(5,wF),(6,wF),(7,wF),(8,wF),(9,yF)]] [] 0 [] (aM c1 c1 c1 c1 c1 c1)
noncomputable def ZbK.B:Code:=Tryz.f33.body.getD .skip
noncomputable def ZbK.rs (r:LL):List CV:=[.row true 1 r]
noncomputable def ZbK (N:Nat) (w_0:LL):Option LL:=
 Zbt (Zbl N w_0) fun x1=>
 some x1
theorem ZbK.snd {w_0:LL} {r:LL} (h:ZbK N w_0=some r):Zde zF 33 [.one (L.bx 1 [vK 1 w_0])] (ZbK.rs r):=fun st=>
 sO ZbK.B Tryz.func33 fun g0 w0 R hE=>by
  unfold ZbK at h
  obtain ⟨x1,c1,h1⟩:=Zaf h
  obtain rfl:=Zac h1
  exact af fol hE [.r [(0,{m:=2})],.r [],.c false,.r [(3,{oe:=[vK 1 w_0]}),(4,{rs:=[.row true 1 x1],ns:=[9],m:=1})]] [] 0 [0] (aL eF (eO [vK 1 w_0]) (Zbl.snd c1) z0 (eN (zK x1)))
noncomputable def ZaE.B:Code:=Tryz.f13.body.getD .skip
noncomputable def ZaE.rs (r:Zaz×LL):List CV:=[.agg r.1.ls]
noncomputable def ZaE.p3 (N:Nat) (st2:LL) (at_1:Zaz) (h_2:Zaj) (out_8:Zaz) (c3_:(Int×LL)→Option (Zaz×LL)):(Int×LL)→Option (Zaz×LL):=fun (i_9,st15)=>
 if (decide (i_9≥0))=true then
  chk (0≤i_9)<|
  chk (i_9<(len at_1.Times))<|
  Zds (at_1.Times[zE i_9]?) Zdq fun x16=>
  Zbt (ZaL N (some (zK st2)) [[zI .i64 x16]] st15) fun st17=>
  c3_ (w64 (i_9-1),st17)
 else
 Zbt (ZaL N (some (zK st2)) [[zI .i64 h_2.Time]] st15) fun st18=>
 Zds (st18[zK st2]?) ZhX fun x19=>
 Zbt (ZbK N x19) fun x20=>
 chk (ZdB x20=true)<|
 some ({out_8 with Times:=x20},st18)
noncomputable def ZaE.p2 (N:Nat) (at_1:Zaz) (h_2:Zaj) (out_8:Zaz) (st2:LL):Option (Zaz×LL):=
 loopN (ZaE.p3 N st2 at_1 h_2 out_8) N (w64 ((if (11:Int)<(len at_1.Times) then 11 else (len at_1.Times))-1),st2 ++ [[wL true 1 []]])
noncomputable def ZaE.p1 (N:Nat) (p_0:Zae) (at_1:Zaz) (h_2:Zaj) (out_5:Zaz) (st2:LL):Option (Zaz×LL):=
 if p_0.Easy=true then
  if (h_2.Bits==p_0.Limit)=true then
   Zbt (ZcB N p_0 at_1.Point.Height) fun x6=>
   if (!x6)=true then
    ZaE.p2 N at_1 h_2 {out_5 with Point:={out_5.Point with Hard:=at_1.Point.Hard}} st2
   else
   ZaE.p2 N at_1 h_2 out_5 st2
  else
  ZaE.p2 N at_1 h_2 out_5 st2
 else
 ZaE.p2 N at_1 h_2 out_5 st2
noncomputable def ZaE (N:Nat) (p_0:Zae) (at_1:Zaz) (h_2:Zaj) (st:LL):Option (Zaz×LL):=
 Zbt (Zdy N h_2 st) fun (x1,st2)=>
 Zbt (ZcB N p_0 at_1.Point.Height) fun x3=>
 if x3=true then
  ZaE.p1 N p_0 at_1 h_2 (Zaz.mk (ZcN.mk (w64 (at_1.Point.Height+1)) h_2.Bits h_2.Time h_2.Time h_2.Bits) x1 []) st2
 else
 ZaE.p1 N p_0 at_1 h_2 (Zaz.mk (ZcN.mk (w64 (at_1.Point.Height+1)) h_2.Bits h_2.Time at_1.Point.First h_2.Bits) x1 []) st2
noncomputable def ZaE.p3.S (st2:LL) (i_9:Int) (at_1:Zaz) (h_2:Zaj) (out_8:Zaz) (st15:LL):S:=mkS 81 [(4,sA 4),(5,sA 5),(6,sA 6),(7,sA 7),(8,sP (some (zK st2))),(9,sI i_9)] [(4,.cells at_1.ls),(5,.cells h_2.ls),(6,.cells [zI .i64 0,zI .i64 0,zI .i64 0,zI .i64 0,zI .i64 0,zH .u8 32 (zB 32 0),wL true 1 []]),(7,.cells out_8.ls)] st15
noncomputable def ZaE.p2.S (at_1:Zaz) (h_2:Zaj) (out_8:Zaz) (st2:LL):S:=mkS 81 [(4,sA 4),(5,sA 5),(6,sA 6),(7,sA 7)] [(4,.cells at_1.ls),(5,.cells h_2.ls),(6,.cells [zI .i64 0,zI .i64 0,zI .i64 0,zI .i64 0,zI .i64 0,zH .u8 32 (zB 32 0),wL true 1 []]),(7,.cells out_8.ls)] st2
noncomputable def ZaE.p1.S (p_0:Zae) (at_1:Zaz) (h_2:Zaj) (out_5:Zaz) (st2:LL):S:=mkS 81 [(3,sA 3),(4,sA 4),(5,sA 5),(6,sA 6),(7,sA 7)] [(3,.cells p_0.ls),(4,.cells at_1.ls),(5,.cells h_2.ls),(6,.cells [zI .i64 0,zI .i64 0,zI .i64 0,zI .i64 0,zI .i64 0,zH .u8 32 (zB 32 0),wL true 1 []]),(7,.cells out_5.ls)] st2
theorem ZaE.p3_ok {st2 i_9 at_1 h_2 out_8 st15 r c3_ J3} (h:ZaE.p3 N st2 at_1 h_2 out_8 c3_ (i_9,st15)=some r) (hE:En Tryz.f13 g0 w0 (ZaE.rs r) r.2 R) (hc3 : ∀i_9 st15,c3_ (i_9,st15)=some r→At g0 w0 (ZaE.p3.S st2 i_9 at_1 h_2 out_8 st15) J3):At g0 w0 (ZaE.p3.S st2 i_9 at_1 h_2 out_8 st15) (XK zF R (.c (Zbn ZaE.B [1,1,1,1,1,0,1,0,0]) :: .h J3 :: [.b 0,.c (Zbn ZaE.B [1,1,1,1,1,1])])):=by
 unfold ZaE.p3 at h
 refine ZaY h (fun c17 h1=>?_) (fun c17 h2=>?_)
 ·obtain ⟨c18,c19,h3⟩:=ck2 h1
  obtain ⟨x16,c20,h4⟩:=ZcK h3
  obtain ⟨st17,c21,h5⟩:=Zaf h4
  exact an fol [.r [],.c true,.r [(4,{oe:=[zI .i64 x16]}),(6,{st:=st17,fz:=[72]})],.r []] [4,5,6,7,8,9] [4,5,6,7] (aN c17 c18 c19 c20 z0 (eN (1)) (ZaL.snd c21)) (hc3 (w64 (i_9-1)) st17 h5)
 ·obtain ⟨st18,c22,h6⟩:=Zaf h2
  obtain ⟨x19,c23,h7⟩:=Zfh h6
  obtain ⟨x20,c24,h8⟩:=Zaf h7
  obtain ⟨c25,h9⟩:=ZaP h8
  obtain rfl:=Zac h9
  exact af fol hE [.r [],.c false,.r [(3,{st:=st18,fz:=[76]})],.r [(0,{rs:=[.row true 1 x20],ns:=[78],m:=10,cv:=[.one (L.bx 1 [vK 1 x19])]}),(2,{fz:=[78]})],.r []] [] 0 [] (aO c17 z0 (eN (1)) (ZaL.snd c22) (bO 1 c23 ((bW bN):BVs st18 [wL true 1 x19] [vK 1 x19])) c25 (ZbK.snd c24) (aI z0 (eN (zK x20))))
theorem ZaE.p2_ok {at_1 h_2 out_8 st2 r} (h:ZaE.p2 N at_1 h_2 out_8 st2=some r) (hE:En Tryz.f13 g0 w0 (ZaE.rs r) r.2 R):At g0 w0 (ZaE.p2.S at_1 h_2 out_8 st2) (XK zF R [.c (Zbn ZaE.B [1,1,1,1])]):=by
 unfold ZaE.p2 at h
 exact aq fol [.r [(0,{m:=1})],.r []] [4,5,6,7,8,9] [4,5,6,7] trivial (At.loop N (At.loopN (fun y:Int×LL=>ZaE.p3.S st2 y.1 at_1 h_2 out_8 y.2) (fun c J hc y h=>ZaE.p3_ok (i_9:=y.1) (st15:=y.2) h hE (fun i_9 st15=>hc (i_9,st15))) N (w64 ((if (11:Int)<(len at_1.Times) then 11 else (len at_1.Times))-1),st2 ++ [[wL true 1 []]]) h))
theorem ZaE.p1_ok {p_0 at_1 h_2 out_5 st2 r} (h:ZaE.p1 N p_0 at_1 h_2 out_5 st2=some r) (hE:En Tryz.f13 g0 w0 (ZaE.rs r) r.2 R):At g0 w0 (ZaE.p1.S p_0 at_1 h_2 out_5 st2) (XK zF R [.c (Zbn ZaE.B [1,1,1])]):=by
 unfold ZaE.p1 at h
 refine ZaY h (fun c4 h10=>?_) (fun c4 h11=>?_)
 ·have t1 {Q:Prop} (q:Q):=aN c4 c4 c4 c4 c4 c4 q
  refine ZaY h10 (fun c5 h12=>?_) (fun c5 h13=>?_)
  ·obtain ⟨x6,c6,h14⟩:=Zaf h12
   let o1:List PS:=[.r [(14,q1 [oB x6])]]
   have t2 {Q:Prop} (q:Q):=t1 (aO c5 c5 c5 c5 c5 (ZcB.snd c6) c5 (aI c5 q))
   refine ZaY h14 (fun c7 h15=>?_) (fun c7 h16=>?_)
   ·exact aq fol (o1 ++ [.c true,.r [],.s 1]) [4,5,6,7] [4,5,6,7] (t2 c7) (ZaE.p2_ok h15 hE)
   ·exact aq fol (o1 ++ [.c false,.s 1]) [4,5,6,7] [4,5,6,7] (t2 c7) (ZaE.p2_ok h16 hE)
  ·exact aq fol [.r [(10,wF),(11,wF),(12,wF),(13,wF),(14,wF),(15,wF),(16,yF)],.c false,.s 1] [4,5,6,7] [4,5,6,7] (t1 (aO c5 c5 c5 c5 c5 c5 c5 eF)) (ZaE.p2_ok h13 hE)
 ·exact aq fol [.r [(3,wF),(4,wF),(5,wF),(6,wF),(7,wF),(8,yF),(10,wF),(11,wF),(12,wF),(13,wF),(14,wF),(15,wF),(16,yF)],.c false,.s 1] [4,5,6,7] [4,5,6,7] (aO c4 c4 c4 c4 c4 c4 eF (aN eF eF eF eF eF eF eF)) (ZaE.p2_ok h11 hE)
theorem ZaE.snd {p_0:Zae} {at_1:Zaz} {h_2:Zaj} {st:LL} {r:Zaz×LL} (h:ZaE N p_0 at_1 h_2 st=some r):Snd zF 13 [.agg p_0.ls,.agg at_1.ls,.agg h_2.ls] st (ZaE.rs r) r.2:=
 sO ZaE.B Tryz.func13 fun g0 w0 R hE=>by
  unfold ZaE at h
  obtain ⟨⟨x1,st2⟩,c1,h17⟩:=Zaf h
  obtain ⟨x3,c2,h18⟩:=Zaf h17
  let o2:List PS:=[.r [],.d {ds:=[(15,{rs:=[.agg [zH .u8 32 x1]],st:=st2})],hv:=425984,Hs:=[32768,131072,163840,425984]},.r [(4,q1 [oB x3])]]
  have t3 {Q:Prop} (q:Q):=aK (Zdy.snd c1) (Zdy.snd c1) (ZcB.snd c2) q
  refine ZaY h18 (fun c3 h19=>?_) (fun c3 h20=>?_)
  ·exact aqd fol (o2 ++ [.c true,.r [],.s 1]) [3,4,5,6,7] [3,4,5,6,7] (t3 c3) (ZaE.p1_ok h19 hE)
  ·exact aqd fol (o2 ++ [.c false,.s 1]) [3,4,5,6,7] [3,4,5,6,7] (t3 c3) (ZaE.p1_ok h20 hE)
noncomputable def ZdP.B:Code:=Tryz.f11.body.getD .skip
noncomputable def ZdP.rs (r:Zaz×LL):List CV:=[.agg r.1.ls]
noncomputable def ZdP (N:Nat) (p_0:Zae) (st:LL):Option (Zaz×LL):=
 Zbt (ZaE N p_0 (Zaz.mk (ZcN.mk 0 0 0 0 p_0.Limit) (zB 32 0) []) p_0.Genesis st) fun (x1,st2)=>
 some (x1,st2)
theorem ZdP.snd {p_0:Zae} {st:LL} {r:Zaz×LL} (h:ZdP N p_0 st=some r):Snd zF 11 [.agg p_0.ls] st (ZdP.rs r) r.2:=
 sO ZdP.B Tryz.func11 fun g0 w0 R hE=>by
  unfold ZdP at h
  obtain ⟨⟨x1,st2⟩,c1,h1⟩:=Zaf h
  obtain rfl:=Zac h1
  exact af fol hE [.r [],.r [(7,{rs:=[.agg x1.ls],st:=st2})]] [] 0 [] (ZaE.snd c1)
end Go.Dn.F
