import Derived.Test.YtbijmojagnjgcaaGreatDoorProg
import Derived.Test.YtbijmojagnjgcaaGreatDoorKc
set_option linter.all false
open ByteArray renaming size→zZ
open Go.Dn.L renaming ptr→zQ,arr→zI,int→zK,own→yC,sl→vW,str→vL
open Go.Proofs.Tryz renaming prog→zB
open Int renaming toNat→zD
open List renaming length→zL,set→zN,map→vI,replicate→zC,getD→zF,take→sD,drop→qH
open Option renaming isNone→vJ
set_option maxRecDepth 100000
namespace Go.Dn.F
open Go.Proofs
noncomputable def qla (a0 a1 a2 a3:Option Nat):List L:=[zQ a0,zQ a1,zQ a2,zQ a3]
noncomputable def glob_digest_steps:List Int:=[1116352408,1899447441,3049323471,3921009573,961987163,1508970993,2453635748,2870763221,3624381080,310598401,607225278,1426881987,1925078388,2162078206,2614888103,3248222580,3835390401,4022224774,264347078,604807628,770255983,1249150122,1555081692,1996064986,2554220882,2821834349,2952996808,3210313671,3336571891,3584528711,113926993,338241895,666307205,773529912,1294757372,1396182291,1695183700,1986661051,2177026350,2456956037,2730485921,2820302411,3259730800,3345764771,3516065817,3600352804,4094571909,275423344,430227734,506948616,659060556,883997877,958139571,1322822218,1537002063,1747873779,1955562222,2024104815,2227730452,2361852424,2428436474,2756734187,3204031479,3329325298]
noncomputable def glob_digest_starts:List Int:=[1779033703,3144134277,1013904242,2773480762,1359893119,2600822924,528734635,1541459225]
noncomputable instance glob:Globs:=⟨fun k=>match k with
  | 0=>some [zI .u32 8 glob_digest_starts]
  | 1=>some [zI .u32 64 glob_digest_steps]
  | _=>none⟩
theorem fol:Tryz.prog.follows .mixedOrders=true:=by kernel_rfl
abbrev En (f:Func) (g0:G) (w0:World) (rs:List CV) (st:LL) (R:Exit→Act→World→Prop):Prop:=ZmL zB f g0 w0 rs st R
variable {N:Nat} {g0:G} {w0:World} {R:Exit→Act→World→Prop}
structure Zak where
  Version:Int
  Prev:List Int
  Root:List Int
  Time:Int
  Bits:Int
  Nonce:Int
noncomputable def Zak.ls (x:Zak):List L:=[zK .i64 x.Version,zI .u8 32 x.Prev,zI .u8 32 x.Root,zK .i64 x.Time,zK .i64 x.Bits,zK .i64 x.Nonce]
noncomputable def Zep {α:Type} (l:List L) (k:Zak→Option α):Option α:=match l with | [zK .i64 x0,zI .u8 32 x1,zI .u8 32 x2,zK .i64 x3,zK .i64 x4,zK .i64 x5]=>k ⟨x0,x1,x2,x3,x4,x5⟩ | _=>none
theorem ZeJ {α:Type} {o:Option (List L)} {k:Zak→Option α} {r:α} (h:Zde o Zep k=some r) : ∃x:Zak,o=some x.ls∧k x=some r:=by
  obtain ⟨l,e,k1⟩:=Zac h;subst e;unfold Zep at k1;split at k1
  · exact ⟨_,rfl,k1⟩
  cases k1
@[simp] theorem ZeU {α:Type} (x:Zak) (k:Zak→Option α):Zep x.ls k=k x:=rfl
theorem Zak.bv {st:LL} (x:Zak):BVs st x.ls x.ls:=(bP (bP (bP (bP (bP (bP bN))))))
structure Zas where
  state:List Int
  rest:LL
  size:Int
noncomputable def Zas.lo (x:Zas):List L:=[zI .u32 8 x.state,yC false 1 x.rest,zK .u64 x.size]
noncomputable def ZcC {α:Type} (l:List L) (k:Zas→Option α):Option α:=match l with | [zI .u32 8 x0,yC false 1 x1,zK .u64 x2]=>k ⟨x0,x1,x2⟩ | _=>none
theorem ZcT {α:Type} {o:Option (List L)} {k:Zas→Option α} {r:α} (h:Zde o ZcC k=some r) : ∃x:Zas,o=some x.lo∧k x=some r:=by
  obtain ⟨l,e,k1⟩:=Zac h;subst e;unfold ZcC at k1;split at k1
  · exact ⟨_,rfl,k1⟩
  cases k1
@[simp] theorem Zfn {α:Type} (x:Zas) (k:Zas→Option α):ZcC x.lo k=k x:=rfl
noncomputable def Zas.ls (x:Zas):List L:=[zI .u32 8 x.state,vW 1 x.rest,zK .u64 x.size]
theorem Zas.bv {st:LL} (x:Zas):BVs st x.lo x.ls:=(bP (bW (bP bN)))
structure Zae where
  Limit:Int
  Interval:Int
  Spacing:Int
  Future:Int
  Easy:Bool
  Gates:LL
  Checks:LL
  MinWork:List Int
  Margin:List Int
  Genesis:Zak
noncomputable def Zae.ls (x:Zae):List L:=[zK .i64 x.Limit,zK .i64 x.Interval,zK .i64 x.Spacing,zK .i64 x.Future,L.bool x.Easy,vW 2 x.Gates,vW 33 x.Checks,zI .u64 4 x.MinWork,zI .u64 4 x.Margin,zK .i64 x.Genesis.Version,zI .u8 32 x.Genesis.Prev,zI .u8 32 x.Genesis.Root,zK .i64 x.Genesis.Time,zK .i64 x.Genesis.Bits,zK .i64 x.Genesis.Nonce]
structure ZdV where
  Height:Int
  Bits:Int
  Time:Int
  First:Int
  Hard:Int
noncomputable def ZdV.ls (x:ZdV):List L:=[zK .i64 x.Height,zK .i64 x.Bits,zK .i64 x.Time,zK .i64 x.First,zK .i64 x.Hard]
theorem ZdV.bv {st:LL} (x:ZdV):BVs st x.ls x.ls:=(bP (bP (bP (bP (bP bN)))))
structure ZaX where
  Point:ZdV
  Prev:List Int
  Times:LL
noncomputable def ZaX.ls (x:ZaX):List L:=[zK .i64 x.Point.Height,zK .i64 x.Point.Bits,zK .i64 x.Point.Time,zK .i64 x.Point.First,zK .i64 x.Point.Hard,zI .u8 32 x.Prev,vW 1 x.Times]
noncomputable def ZgG {α:Type} (l:List L) (k:ZaX→Option α):Option α:=match l with | [zK .i64 x0,zK .i64 x1,zK .i64 x2,zK .i64 x3,zK .i64 x4,zI .u8 32 x5,vW 1 x6]=>k ⟨⟨x0,x1,x2,x3,x4⟩,x5,x6⟩ | _=>none
theorem Zkn {α:Type} {o:Option (List L)} {k:ZaX→Option α} {r:α} (h:Zde o ZgG k=some r) : ∃x:ZaX,o=some x.ls∧k x=some r:=by
  obtain ⟨l,e,k1⟩:=Zac h;subst e;unfold ZgG at k1;split at k1
  · exact ⟨_,rfl,k1⟩
  cases k1
@[simp] theorem ZkS {α:Type} (x:ZaX) (k:ZaX→Option α):ZgG x.ls k=k x:=rfl
noncomputable def ZaX.lo (x:ZaX):List L:=[zK .i64 x.Point.Height,zK .i64 x.Point.Bits,zK .i64 x.Point.Time,zK .i64 x.Point.First,zK .i64 x.Point.Hard,zI .u8 32 x.Prev,yC true 1 x.Times]
theorem ZaX.bv {st:LL} (x:ZaX):BVs st x.lo x.ls:=(bP (bP (bP (bP (bP (bP (bW bN)))))))
noncomputable def ZdX {α:Type} (l:List L) (k:Int→Option α):Option α:=match l with | [zK .i64 x0]=>k x0 | _=>none
theorem Zjh {α:Type} {l:List L} {k:Int→Option α} {r:α} (h:ZdX l k=some r) : ∃x0,l = [zK .i64 x0]∧k x0=some r:=by
  unfold ZdX at h;split at h
  · exact ⟨_,rfl,h⟩
  cases h
theorem Zdt {α:Type} {o:Option (List L)} {k:Int→Option α} {r:α} (h:Zde o ZdX k=some r) : ∃x0,o=some [zK .i64 x0]∧k x0=some r:=by
  obtain ⟨l,e,k1⟩:=Zac h;subst e;unfold ZdX at k1;split at k1
  · exact ⟨_,rfl,k1⟩
  cases k1
@[simp] theorem Zei {α:Type} (x0:Int) (k:Int→Option α):ZdX [zK .i64 x0] k=k x0:=rfl
noncomputable def ZjK {α:Type} (l:List L) (k:LL→Option α):Option α:=match l with | [yC true 1 x0]=>k x0 | _=>none
theorem ZgK {α:Type} {o:Option (List L)} {k:LL→Option α} {r:α} (h:Zde o ZjK k=some r) : ∃x0,o=some [yC true 1 x0]∧k x0=some r:=by
  obtain ⟨l,e,k1⟩:=Zac h;subst e;unfold ZjK at k1;split at k1
  · exact ⟨_,rfl,k1⟩
  cases k1
@[simp] theorem Ziz {α:Type} (x0:LL) (k:LL→Option α):ZjK [yC true 1 x0] k=k x0:=rfl
noncomputable def Zhw {α:Type} (l:List L) (k:(List Int)→Option α):Option α:=match l with | [zI .u8 32 x0]=>k x0 | _=>none
theorem ZhP {α:Type} {o:Option (List L)} {k:(List Int)→Option α} {r:α} (h:Zde o Zhw k=some r) : ∃x0,o=some [zI .u8 32 x0]∧k x0=some r:=by
  obtain ⟨l,e,k1⟩:=Zac h;subst e;unfold Zhw at k1;split at k1
  · exact ⟨_,rfl,k1⟩
  cases k1
@[simp] theorem ZkK {α:Type} (x0:List Int) (k:(List Int)→Option α):Zhw [zI .u8 32 x0] k=k x0:=rfl
noncomputable def dec_t {α:Type} (l:List L) (k:ByteArray→Option α):Option α:=match l with | [vL x0]=>k x0 | _=>none
theorem ZtW {α:Type} {o:Option (List L)} {k:ByteArray→Option α} {r:α} (h:Zde o dec_t k=some r) : ∃x0,o=some [vL x0]∧k x0=some r:=by
  obtain ⟨l,e,k1⟩:=Zac h;subst e;unfold dec_t at k1;split at k1
  · exact ⟨_,rfl,k1⟩
  cases k1
@[simp] theorem dec_t_ls {α:Type} (x0:ByteArray) (k:ByteArray→Option α):dec_t [vL x0] k=k x0:=rfl
noncomputable def Zmg {α:Type} (l:List L) (k:Int→Option α):Option α:=match l with | [zK .u8 x0]=>k x0 | _=>none
theorem ZiN {α:Type} {o:Option (List L)} {k:Int→Option α} {r:α} (h:Zde o Zmg k=some r) : ∃x0,o=some [zK .u8 x0]∧k x0=some r:=by
  obtain ⟨l,e,k1⟩:=Zac h;subst e;unfold Zmg at k1;split at k1
  · exact ⟨_,rfl,k1⟩
  cases k1
@[simp] theorem ZjJ {α:Type} (x0:Int) (k:Int→Option α):Zmg [zK .u8 x0] k=k x0:=rfl
noncomputable def Zce.B:Code:=Tryz.f135.body.getD .skip
noncomputable def Zce.rs (r:List (List L)):List CV:=[.row true 1 r]
noncomputable def Zce (N:Nat) (A0:List (List L)):Option (List (List L)):=chk (zL A0*8≤140737488355328) (some A0)
theorem Zce.snd {A0:LL} {r:LL} (h:Zce N A0=some r):ZdP zB 135 [.one (.sl 1 A0)] (Zce.rs r):=fun st=>
  Snd.of (fn:=Tryz.f135) (c:=Zce.B) Tryz.func135 (by kernel_rfl) (by kernel_rfl) (of_decide_eq_true (by kernel_rfl)) fun g w R hE=>by
    unfold Zce at h;obtain ⟨c1,h⟩:=Zbe h;obtain rfl:=Zad h;refine At.q (s':=mkS 8 [(0,.one (.l (.sl 1 A0)))] [] st) (ks':=[.c (.seq (.region 1 #[{ dst:=some 3,op:=.move (.tmp 0),type:=52,pos:=opPos (ZbM Zce.B [1,0]) 0,after:=#[],guard:=none},{ dst:=some 4,op:=.binOp .eql 52 (.tmp 3) (.const (.slice none 0 0)) 52,type:=4,pos:=opPos (ZbM Zce.B [1,0]) 1,after:=#[⟨0,.data⟩],guard:=none}] false) (ZbM Zce.B [1,0,1])),cK Zce.B [1,1]]) fol 400 [.r [(0,{m:=2})],.s 2] [0] [] trivial ?_ (by kernel_rfl);refine At.nilcmp (T:=52) (E:=3) (sz:=1) (xs:=A0) (Zfx _) rfl rfl rfl rfl rfl rfl Tryz.underlying52 (by kernel_rfl) (of_decide_eq_true (by kernel_rfl)) fun b hb=>?_;cases b with
    | true=>
      obtain rfl:=hb rfl;exact At.f fol hE 400 [cT,.r [(0,{m:=2})]] [] 0 [0] (rfl:true=true) (by kernel_rfl)
    | false=>
      exact At.f fol hE 400 [cF,rZ] [] 0 [0] (And.intro (rfl:false=false) (And.intro (rfl:(0:Nat)=0) (And.intro (@rfl Nat (zL ([]:List (List L)))) (And.intro c1 (And.intro (rfl:(0:Nat)=0) (@rfl Nat (zL A0))))))) (by kernel_rfl)
noncomputable def ZdL.B:Code:=Tryz.f102.body.getD .skip
noncomputable def ZdL.rs (r:Bool):List CV:=[oB r]
noncomputable def ZdL (N:Nat) (A0:Int):Option Bool:= if (decide (A0≥0))=true then some (decide (A0≤4294967295)) else some false
theorem ZdL.snd {A0:Int} {r:Bool} (h:ZdL N A0=some r):ZdP zB 102 [oI A0] (ZdL.rs r):=fun st=>
 sO ZdL.B Tryz.func102 fun g0 w0 R hE=>by
  unfold ZdL at h;refine Zbc h (fun c1 h1=>?_) (fun c1 h2=>?_)
  ·exact xS fol h1 hE [rZ,rZ] (aJ c1 c1 c1)
  exact xS fol h2 hE [rZ,.r [(3,wF),(4,wF),(5,yF)]] (aJ c1 c1 c1)
noncomputable def Zdb.B:Code:=Tryz.f80.body.getD .skip
noncomputable def Zdb.rs (r:Bool):List CV:=[oB r]
noncomputable def Zdb (N:Nat) (h_0:Zak):Option Bool:= if (decide (h_0.Version≥(-2147483648)))=true then if (decide (h_0.Version<2147483648))=true then if (decide (h_0.Time≥0))=true then if (decide (h_0.Time<4294967296))=true then Zbm (ZdL N h_0.Bits) fun x1=> if x1=true then if (decide (h_0.Nonce≥0))=true then some (decide (h_0.Nonce<4294967296)) else some false else some false else some false else some false else some false else some false
theorem Zdb.snd {h_0:Zak} {r:Bool} (h:Zdb N h_0=some r):ZdP zB 80 [.agg h_0.ls] (Zdb.rs r):=fun st=>
 sO Zdb.B Tryz.func80 fun g0 w0 R hE=>by
  unfold Zdb at h;refine Zbc h (fun c1 h1=>?_) (fun c1 h2=>?_)
  ·have t1 {Q:Prop} (q:Q):=aL c1 c1 c1 c1 q;refine Zbc h1 (fun c2 h3=>?_) (fun c2 h4=>?_)
   ·have t2 {Q:Prop} (q:Q):=t1 (aL c2 c2 c2 c2 q);refine Zbc h3 (fun c3 h5=>?_) (fun c3 h6=>?_)
    ·have t3 {Q:Prop} (q:Q):=t2 (aL c3 c3 c3 c3 q);refine Zbc h5 (fun c4 h7=>?_) (fun c4 h8=>?_)
     ·obtain ⟨x1,c5,h9⟩:=Zac h7;have t4 {Q:Prop} (q:Q):=t3 (aM c4 c4 c4 (ZdL.snd c5) c4 q);refine Zbc h9 (fun c6 h10=>?_) (fun c6 h11=>?_)
      ·refine Zbc h10 (fun c7 h12=>?_) (fun c7 h13=>?_)
       ·exact xS fol h12 hE [rZ,.r [(21,q1 [oB x1])]] (t4 (aO c6 c6 c6 c6 c7 c7 c7 c7))
       exact xS fol h13 hE [rZ,.r [(21,q1 [oB x1]),(29,wF),(30,wF),(31,wF),(32,yF)]] (t4 (aO c6 c6 c6 c6 c7 c7 c7 c7))
      exact xS fol h11 hE [rZ,.r [(21,q1 [oB x1]),(24,wF),(25,wF),(26,wF),(27,yF),(29,wF),(30,wF),(31,wF),(32,yF)]] (t4 (aO c6 c6 c6 c6 eF eF eF eF))
     exact xS fol h8 hE [rZ,.r [(19,wF),(20,wF),(21,wF),(22,yF),(24,wF),(25,wF),(26,wF),(27,yF),(29,wF),(30,wF),(31,wF),(32,yF)]] (t3 (aO c4 c4 c4 c4 eF eF eF (aL eF eF eF eF eF)))
    exact xS fol h6 hE [rZ,.r [(14,wF),(15,wF),(16,wF),(17,yF),(19,wF),(20,wF),(21,wF),(22,yF),(24,wF),(25,wF),(26,wF),(27,yF),(29,wF),(30,wF),(31,wF),(32,yF)]] (t2 (aO c3 c3 c3 c3 eF eF eF (aO eF eF eF eF eF eF eF (aI eF eF))))
   exact xS fol h4 hE [rZ,.r [(9,wF),(10,wF),(11,wF),(12,yF),(14,wF),(15,wF),(16,wF),(17,yF),(19,wF),(20,wF),(21,wF),(22,yF),(24,wF),(25,wF),(26,wF),(27,yF),(29,wF),(30,wF),(31,wF),(32,yF)]] (t1 (aO c2 c2 c2 c2 eF eF eF (aO eF eF eF eF eF eF eF (aM eF eF eF eF eF eF))))
  exact xS fol h2 hE [rZ,.r [(4,wF),(5,wF),(6,wF),(7,yF),(9,wF),(10,wF),(11,wF),(12,yF),(14,wF),(15,wF),(16,wF),(17,yF),(19,wF),(20,wF),(21,wF),(22,yF),(24,wF),(25,wF),(26,wF),(27,yF),(29,wF),(30,wF),(31,wF),(32,yF)]] (aO c1 c1 c1 c1 eF eF eF (aO eF eF eF eF eF eF eF (aO eF eF eF eF eF eF eF (aJ eF eF eF))))
noncomputable def ZaW.B:Code:=Tryz.f144.body.getD .skip
noncomputable def ZaW.rs (r:LL):List CV:=[]
noncomputable def ZaW.p2 (N:Nat) (c1_:((Option Nat)×Int×LL)→Option LL) (A1 x12:Int) (A2:LL) (v1:Int) (c2_:((Option Nat)×Int×LL)→Option LL):((Option Nat)×Int×LL)→Option LL:=fun (A16,v13,st17)=> if (decide (v13<(if (8:Int)<(if (1:Int)>A1 then 1 else A1) then 8 else (if (1:Int)>A1 then 1 else A1))))=true then Zbm A16 fun i18=> Zde (st17[i18]?) ZjK fun x19=> chk (0≤(w64 (8*v13)))<| chk (zL (x19++[[zK .u8 (v8 (ZbF .i64 x12 (w64 (8*v13))))]])*1≤140737488355328)<| c2_ ((some i18),w64 (v13+1),zN (zN st17 i18 [L.gone]) i18 [yC true 1 (x19++[[zK .u8 (v8 (ZbF .i64 x12 (w64 (8*v13))))]])]) else c1_ (A16,w64 (v1+1),st17)
noncomputable def ZaW.p1 (N:Nat) (A1:Int) (A2:LL) (c1_:((Option Nat)×Int×LL)→Option LL):((Option Nat)×Int×LL)→Option LL:=fun (A10,v1,st11)=> if (decide (v1<(len A2)))=true then chk (0≤v1)<| Zde (A2[zD v1]?) ZdX fun x12=> loopN (ZaW.p2 N c1_ A1 x12 A2 v1) N (A10,0,st11) else some st11
noncomputable def ZaW (N:Nat) (A0:Option Nat) (A1:Int) (A2 st:LL):Option LL:= loopN (ZaW.p1 N A1 A2) N (A0,0,st)
noncomputable def ZaW.p2.S (A16:Option Nat) (A1 x12:Int) (A2:LL) (v1 v13:Int) (st17:LL):S:=mkS 37 [(0,sP A16),(1,sI A1),(7,sI x12),(9,sV 1 A2),(10,sI (len A2)),(11,sI v1),(17,sI (if (8:Int)<(if (1:Int)>A1 then 1 else A1) then 8 else (if (1:Int)>A1 then 1 else A1))),(18,sI v13)] [] st17
noncomputable def ZaW.p1.S (A10:Option Nat) (A1:Int) (A2:LL) (v1:Int) (st11:LL):S:=mkS 37 [(0,sP A10),(1,sI A1),(9,sV 1 A2),(10,sI (len A2)),(11,sI v1)] [] st11
theorem ZaW.p2_ok {A16 A1 x12 A2 v1 v13 st17 r c1_ c2_ J1 J2} (h:ZaW.p2 N c1_ A1 x12 A2 v1 c2_ (A16,v13,st17)=some r) (hE:En Tryz.f144 g0 w0 (ZaW.rs r) r R) (hc1 : ∀A10 v1 st11,c1_ (A10,v1,st11)=some r→At g0 w0 (ZaW.p1.S A10 A1 A2 v1 st11) J1) (hc2 : ∀A16 v13 st17,c2_ (A16,v13,st17)=some r→At g0 w0 (ZaW.p2.S A16 A1 x12 A2 v1 v13 st17) J2):At g0 w0 (ZaW.p2.S A16 A1 x12 A2 v1 v13 st17) (XK zB R (cK ZaW.B [1,0,0,1,1,0,0,1,1,0,0] :: .h J2 :: [.b 2,.b 1,cK ZaW.B [1,0,0,1,1,1],.h J1,.b 0])):=by
 unfold ZaW.p2 at h;refine Zbc h (fun c22 h1=>?_) (fun c22 h2=>?_)
 ·obtain ⟨i18,rfl,h3⟩:=Zac h1;obtain ⟨x19,c24,h4⟩:=ZgK h3;obtain ⟨c25,c26,h5⟩:=ck2 h4;exact ZjR fol [rZ,cT,rZ,.d {ds:=[(4,{oc:=[yC true 1 x19]}),(11,{oe:=[yC true 1 x19]}),(14,{oc:=[L.gone],mv:=[32]})],hv:=19456,Hs:=[1024,3072,19456]},rZ] [0,1,7,9,10,11,17,18] [] (aO c22 c24 c24 c25 z0 (eN (zL x19)) c24 (aM z0 (eN (1)) c26 (Zar c24 [L.gone]) z0 (eN (zL (x19++[[zK .u8 (v8 (ZbF .i64 x12 (w64 (8*v13))))]]))))) (hc2 (some i18) (w64 (v13+1)) (zN (zN st17 i18 [L.gone]) i18 [yC true 1 (x19++[[zK .u8 (v8 (ZbF .i64 x12 (w64 (8*v13))))]])]) h5)
 exact an fol [rZ,cF,rZ] [0,1,9,10,11] [] c22 (hc1 A16 (w64 (v1+1)) st17 h2)
theorem ZaW.p1_ok {A10 A1 A2 v1 st11 r c1_ J1} (h:ZaW.p1 N A1 A2 c1_ (A10,v1,st11)=some r) (hE:En Tryz.f144 g0 w0 (ZaW.rs r) r R) (hc1 : ∀A10 v1 st11,c1_ (A10,v1,st11)=some r→At g0 w0 (ZaW.p1.S A10 A1 A2 v1 st11) J1):At g0 w0 (ZaW.p1.S A10 A1 A2 v1 st11) (XK zB R (cK ZaW.B [1,0,0] :: .h J1 :: [.b 0])):=by
 unfold ZaW.p1 at h;refine Zbc h (fun c14 h6=>?_) (fun c14 h7=>?_)
 ·obtain ⟨c15,h8⟩:=Zbe h6;obtain ⟨x12,c16,h9⟩:=Zdt h8;exact aq fol [rZ,cT,.r [(1,{oe:=[zK .i64 x12]})],rZ] [0,1,7,9,10,11,17,18] [] (aK c14 c15 (oD c14) c16) (At.loop N (At.loopN (fun y:(Option Nat)×Int×LL=>ZaW.p2.S y.1 A1 x12 A2 v1 y.2.1 y.2.2) (fun c J hc y h=>ZaW.p2_ok (A16:=y.1) (v13:=y.2.1) (st17:=y.2.2) h hE hc1 (fun A16 v13 st17=>hc (A16,v13,st17))) N (A10,0,st11) h9))
 exact xR fol h7 hE [rZ,cF] c14
theorem ZaW.snd {A0:Option Nat} {A1:Int} {A2:LL} {st:LL} {r:LL} (h:ZaW N A0 A1 A2 st=some r):Snd zB 144 [.one (zQ A0),oI A1,.one (vW 1 A2)] st (ZaW.rs r) r:=
 sO ZaW.B Tryz.func144 fun g0 w0 R hE=>by
  unfold ZaW at h;exact aq fol [rZ] [0,1,9,10,11] [] trivial (At.loop N (At.loopN (fun y:(Option Nat)×Int×LL=>ZaW.p1.S y.1 A1 A2 y.2.1 y.2.2) (fun c J hc y h=>ZaW.p1_ok (A10:=y.1) (v1:=y.2.1) (st11:=y.2.2) h hE (fun A10 v1 st11=>hc (A10,v1,st11))) N (A0,0,st) h))
noncomputable def ZbC.B:Code:=Tryz.f145.body.getD .skip
noncomputable def ZbC.rs (r:LL):List CV:=[]
noncomputable def ZbC.p1 (N:Nat) (A1:LL) (c1_:((Option Nat)×Int×LL)→Option LL):((Option Nat)×Int×LL)→Option LL:=fun (A5,v1,st6)=> if (decide (v1<(len A1)))=true then chk (0≤v1)<| Zde (A1[zD v1]?) Zhw fun x7=> Zbm A5 fun i8=> Zde (st6[i8]?) ZjK fun x9=> chk (zL (x9++(vI (fun x=>[zK .u8 x]) x7))*1≤140737488355328)<| c1_ ((some i8),w64 (v1+1),zN (zN st6 i8 [L.gone]) i8 [yC true 1 (x9++(vI (fun x=>[zK .u8 x]) x7))]) else some st6
noncomputable def ZbC (N:Nat) (A0:Option Nat) (A1 st:LL):Option LL:= loopN (ZbC.p1 N A1) N (A0,0,st)
noncomputable def ZbC.p1.S (A5:Option Nat) (A1:LL) (v1:Int) (st6:LL):S:=mkS 22 [(0,sP A5),(6,sV 32 A1),(7,sI (len A1)),(8,sI v1)] [] st6
theorem ZbC.p1_ok {A5 A1 v1 st6 r c1_ J1} (h:ZbC.p1 N A1 c1_ (A5,v1,st6)=some r) (hE:En Tryz.f145 g0 w0 (ZbC.rs r) r R) (hc1 : ∀A5 v1 st6,c1_ (A5,v1,st6)=some r→At g0 w0 (ZbC.p1.S A5 A1 v1 st6) J1):At g0 w0 (ZbC.p1.S A5 A1 v1 st6) (XK zB R (cK ZbC.B [1,0,0] :: .h J1 :: [.b 0])):=by
 unfold ZbC.p1 at h;refine Zbc h (fun c7 h1=>?_) (fun c7 h2=>?_)
 ·obtain ⟨c8,h3⟩:=Zbe h1;obtain ⟨x7,c9,h4⟩:=ZhP h3;obtain ⟨i8,rfl,h5⟩:=Zac h4;obtain ⟨x9,c11,h6⟩:=ZgK h5;obtain ⟨c12,h7⟩:=Zbe h6;exact ZjR fol [rZ,cT,.r [(1,{oe:=[zI .u8 32 x7]})],.d {ds:=[(4,{oc:=[yC true 1 x9]}),(6,{oe:=[yC true 1 x9]}),(9,{oc:=[L.gone],mv:=[18]})],hv:=576,Hs:=[64,576]},rZ] [0,6,7,8] [] (aO c7 c8 (oD c7) c9 c11 (leN 0 32) (leN 32 32) (aN z0 (eN (zL x9)) c11 c12 (Zar c11 [L.gone]) z0 (eN (zL (x9++(vI (fun x=>[zK .u8 x]) x7)))))) (hc1 (some i8) (w64 (v1+1)) (zN (zN st6 i8 [L.gone]) i8 [yC true 1 (x9++(vI (fun x=>[zK .u8 x]) x7))]) h7)
 exact xR fol h2 hE [rZ,cF] c7
theorem ZbC.snd {A0:Option Nat} {A1:LL} {st:LL} {r:LL} (h:ZbC N A0 A1 st=some r):Snd zB 145 [.one (zQ A0),.one (vW 32 A1)] st (ZbC.rs r) r:=
 sO ZbC.B Tryz.func145 fun g0 w0 R hE=>by
  unfold ZbC at h;exact aq fol [rZ] [0,6,7,8] [] trivial (At.loop N (At.loopN (fun y:(Option Nat)×Int×LL=>ZbC.p1.S y.1 A1 y.2.1 y.2.2) (fun c J hc y h=>ZbC.p1_ok (A5:=y.1) (v1:=y.2.1) (st6:=y.2.2) h hE (fun A5 v1 st6=>hc (A5,v1,st6))) N (A0,0,st) h))
noncomputable def ZcI.B:Code:=Tryz.f129.body.getD .skip
noncomputable def ZcI.rs (r:LL):List CV:=[]
noncomputable def ZcI.p1 (N:Nat) (A0:Option Nat) (h_2:Zak) (st:LL):Option LL:= Zbm (ZaW N A0 4 [[zK .i64 h_2.Version]] st) fun st3=> Zbm (ZbC N A0 [[zI .u8 32 h_2.Prev],[zI .u8 32 h_2.Root]] st3) fun st4=> Zbm (ZaW N A0 4 [[zK .i64 h_2.Time],[zK .i64 h_2.Bits],[zK .i64 h_2.Nonce]] st4) fun st5=> some st5
noncomputable def ZcI (N:Nat) (A0:Option Nat) (A1:Zak) (st:LL):Option LL:= Zbm (Zdb N A1) fun x1=> if (!x1)=true then ZcI.p1 N A0 (Zak.mk 0 (zC 32 0) (zC 32 0) 0 0 0) st else ZcI.p1 N A0 A1 st
noncomputable def ZcI.p1.S (A0:Option Nat) (h_2:Zak) (st:LL):S:=mkS 29 [(0,sP A0),(3,sA 3)] [(3,.cells h_2.ls)] st
theorem ZcI.p1_ok {A0 h_2 st r} (h:ZcI.p1 N A0 h_2 st=some r) (hE:En Tryz.f129 g0 w0 (ZcI.rs r) r R):At g0 w0 (ZcI.p1.S A0 h_2 st) (XK zB R [cK ZcI.B [1,1]]):=by
 unfold ZcI.p1 at h;obtain ⟨st3,c3,h1⟩:=Zac h;obtain ⟨st4,c4,h2⟩:=Zac h1;obtain ⟨st5,c5,h3⟩:=Zac h2;exact xR fol h3 hE [.r [(4,{st:=st3,fz:=[11]})],.r [(6,{st:=st4,fz:=[18]})],.r [(8,{st:=st5,fz:=[27]})]] (aO z0 (eN (1)) (ZaW.snd c3) z0 (eN (2)) (ZbC.snd c4) z0 (aI (eN (3)) (ZaW.snd c5)))
theorem ZcI.snd {A0:Option Nat} {A1:Zak} {st:LL} {r:LL} (h:ZcI N A0 A1 st=some r):Snd zB 129 [.one (zQ A0),.agg A1.ls] st (ZcI.rs r) r:=
 sO ZcI.B Tryz.func129 fun g0 w0 R hE=>by
  unfold ZcI at h;obtain ⟨x1,c1,h4⟩:=Zac h;let o1:List PS:=[rZ,.r [(1,q1 [oB x1])]]
  refine Zbc h4 (fun c2 h5=>?_) (fun c2 h6=>?_)
  ·exact aq fol (o1++[cT,rZ,.s 1]) [0,3] [3] (aI (Zdb.snd c1) c2) (ZcI.p1_ok h5 hE)
  exact aq fol (o1++[cF,.s 1]) [0,3] [3] (aI (Zdb.snd c1) c2) (ZcI.p1_ok h6 hE)
noncomputable def Zdk.B:Code:=Tryz.f130.body.getD .skip
noncomputable def Zdk.rs (r:ByteArray):List CV:=[.one (vL r)]
noncomputable def Zdk (N:Nat) (A0:LL):Option ByteArray:= chk (isB A0=true)<| some (ZkR (vI ZfU A0))
theorem Zdk.snd {A0:LL} {r:ByteArray} (h:Zdk N A0=some r):ZdP zB 130 [.one (L.bx 1 [vW 1 A0])] (Zdk.rs r):=fun st=>
 sO Zdk.B Tryz.func130 fun g0 w0 R hE=>by
  unfold Zdk at h;obtain ⟨c1,h1⟩:=Zbe h;exact xS fol h1 hE [rZ,.r [(3,{oe:=[vW 1 A0]})]] (aI (eO [vW 1 A0]) c1)
noncomputable def ZdK.B:Code:=Tryz.f103.body.getD .skip
noncomputable def ZdK.rs (r:ByteArray×Int×LL):List CV:=[.one (vL r.1),oI r.2.1]
noncomputable def ZdK (N:Nat) (h_0:Zak) (st:LL):Option (ByteArray×Int×LL):= Zbm (Zdb N h_0) fun x1=> if (!x1)=true then some ((ByteArray.mk #[]),1,st) else Zbm (ZcI N (some (zL st)) h_0 (st++[[yC true 1 []]])) fun st2=> Zde (st2[zL st]?) ZjK fun x3=> Zbm (Zdk N x3) fun x4=> some (x4,0,st2)
theorem ZdK.snd {h_0:Zak} {st:LL} {r:ByteArray×Int×LL} (h:ZdK N h_0 st=some r):Snd zB 103 [.agg h_0.ls] st (ZdK.rs r) r.2.2:=
 sO ZdK.B Tryz.func103 fun g0 w0 R hE=>by
  unfold ZdK at h;obtain ⟨x1,c1,h1⟩:=Zac h;let o1:List PS:=[rZ,.r [(1,q1 [oB x1])]]
  refine Zbc h1 (fun c2 h2=>?_) (fun c2 h3=>?_)
  ·exact xU fol h2 hE (o1++[cT,rZ]) (aI (Zdb.snd c1) c2)
  obtain ⟨st2,c3,h4⟩:=Zac h3;obtain ⟨x3,c4,h5⟩:=ZgK h4;obtain ⟨x4,c5,h6⟩:=Zac h5;exact xU fol h6 hE (o1++[cF,.r [(0,{ns:=[0]}),(1,{m:=1})],.r [(2,{st:=st2})],.r [(1,{rs:=[.one (vL x4)],m:=10,cv:=[.one (L.bx 1 [vW 1 x3])]})]]) (aL (Zdb.snd c1) c2 (ZcI.snd c3) (bO 1 c4 ((bW bN):BVs st2 [yC true 1 x3] [vW 1 x3])) (Zdk.snd c5))
noncomputable def Zfk.B:Code:=Tryz.f146.body.getD .skip
noncomputable def Zfk.rs (r:(Option Nat)×LL):List CV:=[.one (zQ r.1)]
noncomputable def Zfk (N:Nat) (st:LL):Option ((Option Nat)×LL):= some ((some (zL st)),st++[Zas.lo (Zas.mk glob_digest_starts [] 0)])
theorem Zfk.snd {st:LL} {r:(Option Nat)×LL} (h:Zfk N st=some r):Snd zB 146 [] st (Zfk.rs r) r.2:=
 sO Zfk.B Tryz.func146 fun g0 w0 R hE=>by
  unfold Zfk at h;exact xT fol h hE [rZ,.r [(1,{mv:=[1]}),(2,{m:=1})]] trivial
noncomputable def ZcA.B:Code:=Tryz.f179.body.getD .skip
noncomputable def ZcA.rs (r:Int):List CV:=[.one (zK .u32 r)]
noncomputable def ZcA (N:Nat) (A0 A1:Int):Option Int:= chk (0≤(ZaG .and .u64 (v64 (A1)) 31))<| chk (0≤(v64 (32-(ZaG .and .u64 (v64 (A1)) 31))))<| some (ZaG .or .u32 (ZbR .u32 A0 (ZaG .and .u64 (v64 (A1)) 31)) (ZbF .u32 A0 (v64 (32-(ZaG .and .u64 (v64 (A1)) 31)))))
theorem ZcA.snd {A0 A1:Int} {r:Int} (h:ZcA N A0 A1=some r):ZdP zB 179 [.one (zK .u32 A0),oI A1] (ZcA.rs r):=fun st=>
 sO ZcA.B Tryz.func179 fun g0 w0 R hE=>by
  unfold ZcA at h;obtain ⟨c1,c2,h1⟩:=ck2 h;exact xS fol h1 hE [rZ,rZ,rZ] (aI c1 c2)
noncomputable def Zbv.B:Code:=Tryz.f167.body.getD .skip
noncomputable def Zbv.rs (r:Int):List CV:=[.one (zK .u32 r)]
noncomputable def Zbv.p1 (N:Nat) (A0:Int) (F1:LL) (c1_:(Int×Int)→Option Int):(Int×Int)→Option Int:=fun (A1,v2)=> if (decide (v2<(len F1)))=true then chk (0≤v2)<| Zde (F1[zD v2]?) ZdX fun x3=> Zbm (ZcA N A0 (w64 (0-x3))) fun x4=> c1_ (ZaG .xor .u32 A1 x4,w64 (v2+1)) else some A1
noncomputable def Zbv (N:Nat) (A0:Int) (F1:LL):Option Int:= loopN (Zbv.p1 N A0 F1) N (0,0)
noncomputable def Zbv.p1.S (A0 A1:Int) (F1:LL) (v2:Int) (st:LL):S:=mkS 22 [(0,.one (.l (zK .u32 A0))),(5,.one (.l (zK .u32 A1))),(8,sV 1 F1),(9,sI (len F1)),(10,sI v2)] [] st
theorem Zbv.p1_ok {A0 A1 F1 v2 st r c1_ J1} (h:Zbv.p1 N A0 F1 c1_ (A1,v2)=some r) (hE:En Tryz.f167 g0 w0 (Zbv.rs r) st R) (hc1 : ∀A1 v2,c1_ (A1,v2)=some r→At g0 w0 (Zbv.p1.S A0 A1 F1 v2 st) J1):At g0 w0 (Zbv.p1.S A0 A1 F1 v2 st) (XK zB R (cK Zbv.B [1,1,0,1,0,0] :: .h J1 :: [.b 0,cK Zbv.B [1,1,1]])):=by
 unfold Zbv.p1 at h;refine Zbc h (fun c1 h1=>?_) (fun c1 h2=>?_)
 ·obtain ⟨c2,h3⟩:=Zbe h1;obtain ⟨x3,c3,h4⟩:=Zdt h3;obtain ⟨x4,c4,h5⟩:=Zac h4;exact an fol [rZ,cT,.r [(1,{oe:=[zK .i64 x3]})],.r [(4,q1 [.one (zK .u32 x4)])],rZ] [0,5,8,9,10] [] (aL c1 c2 (oD c1) c3 (ZcA.snd c4)) (hc1 (ZaG .xor .u32 A1 x4) (w64 (v2+1)) h5)
 exact xS fol h2 hE [rZ,cF,rZ] c1
theorem Zbv.snd {A0:Int} {F1:LL} {r:Int} (h:Zbv N A0 F1=some r):ZdP zB 167 [.one (zK .u32 A0),.one (vW 1 F1)] (Zbv.rs r):=fun st=>
 sO Zbv.B Tryz.func167 fun g0 w0 R hE=>by
  unfold Zbv at h;exact aq fol [rZ,rZ,rZ] [0,5,8,9,10] [] trivial (At.loop N (At.loopN (fun y:Int×Int=>Zbv.p1.S A0 y.1 F1 y.2 st) (fun c J hc y h=>Zbv.p1_ok (A1:=y.1) (v2:=y.2) h hE (fun A1 v2=>hc (A1,v2))) N (0,0) h))
noncomputable def Zai.B:Code:=Tryz.f160.body.getD .skip
noncomputable def Zai.rs (r:LL):List CV:=[]
noncomputable def Zai.p4 (N:Nat) (i71:Nat) (A80:List Int) (c4_:(Int×LL)→Option LL):(Int×LL)→Option LL:=fun (v83,st85)=> if (decide (v83<8))=true then chk (0≤v83)<| Zde (st85[i71]?) ZcC fun x86=> c4_ (w64 (v83+1),zN st85 i71 (Zas.lo {x86 with state:=zN x86.state (zD v83) (v32 ((zF x86.state (zD v83) 0)+(zF A80 (zD v83) 0)))})) else some st85
noncomputable def Zai.p3 (N:Nat) (i71:Nat) (A68:List Int) (st:LL) (c3_:(Int×(List Int))→Option LL):(Int×(List Int))→Option LL:=fun (v73,A80)=> if (decide (v73<64))=true then Zbm (Zbv N (zF A80 4 0) [[zK .i64 6],[zK .i64 11],[zK .i64 25]]) fun x81=> chk (0≤v73)<| Zbm (Zbv N (zF A80 0 0) [[zK .i64 2],[zK .i64 13],[zK .i64 22]]) fun x82=> c3_ (w64 (v73+1),[v32 ((v32 ((v32 ((v32 ((v32 ((zF A80 7 0)+x81))+(ZaG .xor .u32 (ZaG .and .u32 (zF A80 4 0) (zF A80 5 0)) (ZaG .and .u32 (ZaG .xor .u32 (IntKind.max IntKind.u32) (zF A80 4 0)) (zF A80 6 0)))))+(zF glob_digest_steps (zD v73) 0)))+(zF A68 (zD v73) 0)))+(v32 (x82+(ZaG .xor .u32 (ZaG .xor .u32 (ZaG .and .u32 (zF A80 0 0) (zF A80 1 0)) (ZaG .and .u32 (zF A80 0 0) (zF A80 2 0))) (ZaG .and .u32 (zF A80 1 0) (zF A80 2 0)))))),zF A80 0 0,zF A80 1 0,zF A80 2 0,v32 ((zF A80 3 0)+(v32 ((v32 ((v32 ((v32 ((zF A80 7 0)+x81))+(ZaG .xor .u32 (ZaG .and .u32 (zF A80 4 0) (zF A80 5 0)) (ZaG .and .u32 (ZaG .xor .u32 (IntKind.max IntKind.u32) (zF A80 4 0)) (zF A80 6 0)))))+(zF glob_digest_steps (zD v73) 0)))+(zF A68 (zD v73) 0)))),zF A80 4 0,zF A80 5 0,zF A80 6 0]) else loopN (Zai.p4 N i71 A80) N (0,st)
noncomputable def Zai.p2 (N:Nat) (h_0:Option Nat) (st:LL) (c2_:(Int×(List Int))→Option LL):(Int×(List Int))→Option LL:=fun (A49,A68)=> if (decide (A49<64))=true then chk (0≤(w64 (A49-15)))<| chk ((w64 (A49-15))<64)<| chk (0≤(w64 (A49-2)))<| chk ((w64 (A49-2))<64)<| chk (0≤(w64 (A49-16)))<| chk ((w64 (A49-16))<64)<| Zbm (Zbv N (zF A68 (zD (w64 (A49-15))) 0) [[zK .i64 7],[zK .i64 18]]) fun x69=> chk (0≤(w64 (A49-7)))<| chk ((w64 (A49-7))<64)<| Zbm (Zbv N (zF A68 (zD (w64 (A49-2))) 0) [[zK .i64 17],[zK .i64 19]]) fun x70=> chk (0≤A49)<| c2_ (w64 (A49+1),zN A68 (zD A49) (v32 ((v32 ((v32 ((zF A68 (zD (w64 (A49-16))) 0)+(ZaG .xor .u32 x69 (ZbF .u32 (zF A68 (zD (w64 (A49-15))) 0) 3))))+(zF A68 (zD (w64 (A49-7))) 0)))+(ZaG .xor .u32 x70 (ZbF .u32 (zF A68 (zD (w64 (A49-2))) 0) 10))))) else Zbm h_0 fun i71=> Zde (st[i71]?) ZcC fun x72=> loopN (Zai.p3 N i71 A68 st) N (0,x72.state)
noncomputable def Zai.p1 (N:Nat) (h_0:Option Nat) (A1 st:LL) (c1_:(Int×(List Int))→Option LL):(Int×(List Int))→Option LL:=fun (v1,A44)=> if (decide (v1<16))=true then chk (0≤(w64 (4*v1)))<| chk ((w64 (4*v1))<(len A1))<| Zde (A1[zD (w64 (4*v1))]?) Zmg fun x45=> chk (0≤(w64 ((w64 (4*v1))+1)))<| chk ((w64 ((w64 (4*v1))+1))<(len A1))<| Zde (A1[zD (w64 ((w64 (4*v1))+1))]?) Zmg fun x46=> chk (0≤(w64 ((w64 (4*v1))+2)))<| chk ((w64 ((w64 (4*v1))+2))<(len A1))<| Zde (A1[zD (w64 ((w64 (4*v1))+2))]?) Zmg fun x47=> chk (0≤(w64 ((w64 (4*v1))+3)))<| chk ((w64 ((w64 (4*v1))+3))<(len A1))<| Zde (A1[zD (w64 ((w64 (4*v1))+3))]?) Zmg fun x48=> chk (0≤v1)<| chk (v1<64)<| c1_ (w64 (v1+1),zN A44 (zD v1) (ZaG .or .u32 (ZaG .or .u32 (ZaG .or .u32 (ZbR .u32 (v32 (x45)) 24) (ZbR .u32 (v32 (x46)) 16)) (ZbR .u32 (v32 (x47)) 8)) (v32 (x48)))) else loopN (Zai.p2 N h_0 st) N (16,A44)
noncomputable def Zai (N:Nat) (h_0:Option Nat) (A1 st:LL):Option LL:= loopN (Zai.p1 N h_0 A1 st) N (0,zC 64 0)
noncomputable def Zai.p4.S (i71:Nat) (v83:Int) (A80:List Int) (st85:LL):S:=mkS 189 [(0,sP (some i71)),(9,sA 9),(172,sI v83)] [(9,.cells [zI .u32 8 A80])] st85
noncomputable def Zai.p3.S (i71:Nat) (v73:Int) (A68 A80:List Int) (st:LL):S:=mkS 189 [(0,sP (some i71)),(4,sA 4),(9,sA 9),(96,sI v73)] [(4,.cells [zI .u32 64 A68]),(9,.cells [zI .u32 8 A80])] st
noncomputable def Zai.p2.S (h_0:Option Nat) (A49:Int) (A68:List Int) (st:LL):S:=mkS 189 [(0,sP h_0),(4,sA 4),(6,sI A49)] [(4,.cells [zI .u32 64 A68])] st
noncomputable def Zai.p1.S (h_0:Option Nat) (A1:LL) (v1:Int) (A44:List Int) (st:LL):S:=mkS 189 [(0,sP h_0),(1,sV 1 A1),(4,sA 4),(16,sI v1)] [(4,.cells [zI .u32 64 A44])] st
theorem Zai.p4_ok {i71 v83 A80 st85 r c4_ J4} (h:Zai.p4 N i71 A80 c4_ (v83,st85)=some r) (hE:En Tryz.f160 g0 w0 (Zai.rs r) r R) (hc4 : ∀v83 st85,c4_ (v83,st85)=some r→At g0 w0 (Zai.p4.S i71 v83 A80 st85) J4):At g0 w0 (Zai.p4.S i71 v83 A80 st85) (XK zB R (cK Zai.B [1,1,1,1,1,1,0,0] :: .h J4 :: [.b 6])):=by
 unfold Zai.p4 at h;refine Zbc h (fun c164 h1=>?_) (fun c164 h2=>?_)
 ·obtain ⟨c165,h3⟩:=Zbe h1;obtain ⟨x86,c166,h4⟩:=ZcT h3;exact ZjR fol [rZ,cT,rZ,.d {ds:=[(5,{oc:=x86.lo}),(13,{oc:=x86.lo})],hv:=8192,Hs:=[8192]},rZ] [0,9,172] [9] (aO c164 c165 (oD c164) c166 c165 (oD c164) c165 (aI (oD c164) c166)) (hc4 (w64 (v83+1)) (zN st85 i71 (Zas.lo {x86 with state:=zN x86.state (zD v83) (v32 ((zF x86.state (zD v83) 0)+(zF A80 (zD v83) 0)))})) h4)
 exact xR fol h2 hE [rZ,cF] c164
theorem Zai.p3_ok {i71 v73 A68 A80 st r c3_ J3} (h:Zai.p3 N i71 A68 st c3_ (v73,A80)=some r) (hE:En Tryz.f160 g0 w0 (Zai.rs r) r R) (hc3 : ∀v73 A80,c3_ (v73,A80)=some r→At g0 w0 (Zai.p3.S i71 v73 A68 A80 st) J3):At g0 w0 (Zai.p3.S i71 v73 A68 A80 st) (XK zB R (cK Zai.B [1,1,1,1,0,1,0,0] :: .h J3 :: [.b 4,cK Zai.B [1,1,1,1,1]])):=by
 unfold Zai.p3 at h;refine Zbc h (fun c157 h5=>?_) (fun c157 h6=>?_)
 ·obtain ⟨x81,c158,h7⟩:=Zac h5;obtain ⟨c159,h8⟩:=Zbe h7;obtain ⟨x82,c160,h9⟩:=Zac h8;exact ZjR fol [rZ,cT,rZ,rZ,rZ,.d {ds:=[(5,{rs:=[.one (zK .u32 x81)],m:=2})],hv:=16,Hs:=[16]},.r [(3,{rs:=[.one (zK .u32 x82)],m:=2})],.r [(19,{m:=3})],rZ] [0,4,9,96] [4,9] (aI c157 (ix 4 8 (ix 5 8 (ix 4 8 (ix 6 8 (ix 0 8 (ix 1 8 (ix 0 8 (ix 2 8 (ix 1 8 (ix 2 8 (ix 7 8 (ix 7 8 (ix 4 8 (ix 4 8 (aO z0 (eN (3)) (Zbv.snd c158) c159 (oD c157) c159 (oD c157) (aL c159 (oD c157) c159 (oD c157) (ix 0 8 (aK z0 (eN (3)) (Zbv.snd c160) (ix 0 8 (ix 1 8 (ix 2 8 (ix 3 8 (ix 4 8 (ix 5 8 (aI (leI 0 6) (ltI 6 8))))))))))))))))))))))))))) (hc3 (w64 (v73+1)) [v32 ((v32 ((v32 ((v32 ((v32 ((zF A80 7 0)+x81))+(ZaG .xor .u32 (ZaG .and .u32 (zF A80 4 0) (zF A80 5 0)) (ZaG .and .u32 (ZaG .xor .u32 (IntKind.max IntKind.u32) (zF A80 4 0)) (zF A80 6 0)))))+(zF glob_digest_steps (zD v73) 0)))+(zF A68 (zD v73) 0)))+(v32 (x82+(ZaG .xor .u32 (ZaG .xor .u32 (ZaG .and .u32 (zF A80 0 0) (zF A80 1 0)) (ZaG .and .u32 (zF A80 0 0) (zF A80 2 0))) (ZaG .and .u32 (zF A80 1 0) (zF A80 2 0)))))),zF A80 0 0,zF A80 1 0,zF A80 2 0,v32 ((zF A80 3 0)+(v32 ((v32 ((v32 ((v32 ((zF A80 7 0)+x81))+(ZaG .xor .u32 (ZaG .and .u32 (zF A80 4 0) (zF A80 5 0)) (ZaG .and .u32 (ZaG .xor .u32 (IntKind.max IntKind.u32) (zF A80 4 0)) (zF A80 6 0)))))+(zF glob_digest_steps (zD v73) 0)))+(zF A68 (zD v73) 0)))),zF A80 4 0,zF A80 5 0,zF A80 6 0] h9)
 exact aq fol [rZ,cF,rZ] [0,9,172] [9] c157 (At.loop N (At.loopN (fun y:Int×LL=>Zai.p4.S i71 y.1 A80 y.2) (fun c J hc y h=>Zai.p4_ok (v83:=y.1) (st85:=y.2) h hE (fun v83 st85=>hc (v83,st85))) N (0,st) h6))
theorem Zai.p2_ok {h_0 A49 A68 st r c2_ J2} (h:Zai.p2 N h_0 st c2_ (A49,A68)=some r) (hE:En Tryz.f160 g0 w0 (Zai.rs r) r R) (hc2 : ∀A49 A68,c2_ (A49,A68)=some r→At g0 w0 (Zai.p2.S h_0 A49 A68 st) J2):At g0 w0 (Zai.p2.S h_0 A49 A68 st) (XK zB R (cK Zai.B [1,1,0,1,0,0] :: .h J2 :: [.b 2,cK Zai.B [1,1,1]])):=by
 unfold Zai.p2 at h;refine Zbc h (fun c133 h10=>?_) (fun c133 h11=>?_)
 ·obtain ⟨c134,c135,c136,c137,c138,c139,h12⟩:=ck6 h10;obtain ⟨x69,c140,h13⟩:=Zac h12;obtain ⟨c141,c142,h14⟩:=ck2 h13;obtain ⟨x70,c143,h15⟩:=Zac h14;obtain ⟨c144,h16⟩:=Zbe h15;exact ZjR fol [rZ,cT,.d {ds:=[],hv:=0,Hs:=[]},.d {ds:=[(7,{rs:=[.one (zK .u32 x69)],m:=2}),(19,{rs:=[.one (zK .u32 x70)],m:=2})],hv:=33816640,Hs:=[64,262144,262208,33816640]},rZ] [0,4,6] [4] (aO c133 c134 c135 c136 c137 c138 c139 (aO c138 c139 c138 c139 c138 c139 z0 (aO (eN (2)) (Zbv.snd c140) z0 (eN (2)) (Zbv.snd c140) (leI 0 3) (leI 0 3) (aO (leI 0 3) (leI 0 3) c141 c142 c141 c142 c141 (aO c142 c141 c142 z0 (eN (2)) (Zbv.snd c143) (leI 0 10) (aL (leI 0 10) (leI 0 10) (leI 0 10) c144 (oD c133))))))) (hc2 (w64 (A49+1)) (zN A68 (zD A49) (v32 ((v32 ((v32 ((zF A68 (zD (w64 (A49-16))) 0)+(ZaG .xor .u32 x69 (ZbF .u32 (zF A68 (zD (w64 (A49-15))) 0) 3))))+(zF A68 (zD (w64 (A49-7))) 0)))+(ZaG .xor .u32 x70 (ZbF .u32 (zF A68 (zD (w64 (A49-2))) 0) 10))))) h16)
 obtain ⟨i71,rfl,h17⟩:=Zac h11;obtain ⟨x72,c146,h18⟩:=ZcT h17;exact aq fol [rZ,cF,.r [(3,{oc:=x72.lo})],rZ] [0,4,9,96] [4,9] (aI c133 c146) (At.loop N (At.loopN (fun y:Int×(List Int)=>Zai.p3.S i71 y.1 A68 y.2 st) (fun c J hc y h=>Zai.p3_ok (v73:=y.1) (A80:=y.2) h hE (fun v73 A80=>hc (v73,A80))) N (0,x72.state) h18))
theorem Zai.p1_ok {h_0 A1 v1 A44 st r c1_ J1} (h:Zai.p1 N h_0 A1 st c1_ (v1,A44)=some r) (hE:En Tryz.f160 g0 w0 (Zai.rs r) r R) (hc1 : ∀v1 A44,c1_ (v1,A44)=some r→At g0 w0 (Zai.p1.S h_0 A1 v1 A44 st) J1):At g0 w0 (Zai.p1.S h_0 A1 v1 A44 st) (XK zB R (cK Zai.B [1,0,1,0,0] :: .h J1 :: [.b 0,cK Zai.B [1,1]])):=by
 unfold Zai.p1 at h;refine Zbc h (fun c84 h19=>?_) (fun c84 h20=>?_)
 ·obtain ⟨c85,c86,h21⟩:=ck2 h19;obtain ⟨x45,c87,h22⟩:=ZiN h21;obtain ⟨c88,c89,h23⟩:=ck2 h22;obtain ⟨x46,c90,h24⟩:=ZiN h23;obtain ⟨c91,c92,h25⟩:=ck2 h24;obtain ⟨x47,c93,h26⟩:=ZiN h25;obtain ⟨c94,c95,h27⟩:=ck2 h26;obtain ⟨x48,c96,h28⟩:=ZiN h27;obtain ⟨c97,c98,h29⟩:=ck2 h28;exact ZjR fol [rZ,cT,rZ,.d {ds:=[(5,{oe:=[zK .u8 x45]}),(13,{oe:=[zK .u8 x46]}),(22,{oe:=[zK .u8 x47]}),(31,{oe:=[zK .u8 x48]})],hv:=34359738368,Hs:=[34359738368]},rZ] [0,1,4,16] [4] (aO c84 c85 c86 c87 (leI 0 24) c88 c89 (aO c90 (leI 0 16) c91 c92 c93 (leI 0 8) c94 (aK c95 c96 c97 c98))) (hc1 (w64 (v1+1)) (zN A44 (zD v1) (ZaG .or .u32 (ZaG .or .u32 (ZaG .or .u32 (ZbR .u32 (v32 (x45)) 24) (ZbR .u32 (v32 (x46)) 16)) (ZbR .u32 (v32 (x47)) 8)) (v32 (x48)))) h29)
 exact aq fol [rZ,cF,rZ] [0,4,6] [4] c84 (At.loop N (At.loopN (fun y:Int×(List Int)=>Zai.p2.S h_0 y.1 y.2 st) (fun c J hc y h=>Zai.p2_ok (A49:=y.1) (A68:=y.2) h hE (fun A49 A68=>hc (A49,A68))) N (16,A44) h20))
theorem Zai.snd {h_0:Option Nat} {A1:LL} {st:LL} {r:LL} (h:Zai N h_0 A1 st=some r):Snd zB 160 [.one (zQ h_0),.one (vW 1 A1)] st (Zai.rs r) r:=
 sO Zai.B Tryz.func160 fun g0 w0 R hE=>by
  unfold Zai at h;exact aq fol [rZ,rZ] [0,1,4,16] [4] trivial (At.loop N (At.loopN (fun y:Int×(List Int)=>Zai.p1.S h_0 A1 y.1 y.2 st) (fun c J hc y h=>Zai.p1_ok (v1:=y.1) (A44:=y.2) h hE (fun v1 A44=>hc (v1,A44))) N (0,zC 64 0) h))
noncomputable def ZaC.B:Code:=Tryz.f147.body.getD .skip
noncomputable def ZaC.rs (r:LL):List CV:=[]
noncomputable def ZaC.p2 (N:Nat) (c1_:((Option Nat)×Int×LL)→Option LL) (i15:Nat) (A1:LL) (v1:Int) (c2_:LL→Option LL):LL→Option LL:=fun st20=> Zde (st20[i15]?) ZcC fun x21=> if (decide ((len x21.rest)≥64))=true then chk (64≤(zL x21.rest))<| Zbm (Zai N (some i15) (sD 64 x21.rest) st20) fun st22=> Zde (st22[i15]?) ZcC fun x23=> chk (64≤(zL x23.rest))<| c2_ (zN st22 i15 (Zas.lo {x23 with rest:=qH 64 x23.rest})) else c1_ ((some i15),w64 (v1+1),st20)
noncomputable def ZaC.p1 (N:Nat) (A1:LL) (c1_:((Option Nat)×Int×LL)→Option LL):((Option Nat)×Int×LL)→Option LL:=fun (A12,v1,st13)=> if (decide (v1<(len A1)))=true then chk (0≤v1)<| Zde (A1[zD v1]?) dec_t fun x14=> Zbm A12 fun i15=> Zde (st13[i15]?) ZcC fun x16=> chk (zL (x16.rest++(ZoC x14))*1≤140737488355328)<| loopN (ZaC.p2 N c1_ i15 A1 v1) N (zN (zN (zN st13 i15 (Zas.lo {x16 with size:=v64 (x16.size+(v64 (((zZ x14:Nat):Int))))})) i15 (gs (Zas.lo {x16 with size:=v64 (x16.size+(v64 (((zZ x14:Nat):Int))))}) 1)) i15 (Zas.lo (Zas.mk x16.state (x16.rest++(ZoC x14)) (v64 (x16.size+(v64 (((zZ x14:Nat):Int)))))))) else some st13
noncomputable def ZaC (N:Nat) (h_0:Option Nat) (A1 st:LL):Option LL:= if (vJ h_0)=true then some st else loopN (ZaC.p1 N A1) N (h_0,0,st)
noncomputable def ZaC.p2.S (i15:Nat) (A1:LL) (v1:Int) (st20:LL):S:=mkS 55 [(0,sP (some i15)),(8,sV 1 A1),(9,sI (len A1)),(10,sI v1)] [] st20
noncomputable def ZaC.p1.S (A12:Option Nat) (A1:LL) (v1:Int) (st13:LL):S:=mkS 55 [(0,sP A12),(8,sV 1 A1),(9,sI (len A1)),(10,sI v1)] [] st13
theorem ZaC.p2_ok {i15 A1 v1 st20 r c1_ c2_ J1 J2} (h:ZaC.p2 N c1_ i15 A1 v1 c2_ st20=some r) (hE:En Tryz.f147 g0 w0 (ZaC.rs r) r R) (hc1 : ∀A12 v1 st13,c1_ (A12,v1,st13)=some r→At g0 w0 (ZaC.p1.S A12 A1 v1 st13) J1) (hc2 : ∀st20,c2_ st20=some r→At g0 w0 (ZaC.p2.S i15 A1 v1 st20) J2):At g0 w0 (ZaC.p2.S i15 A1 v1 st20) (XK zB R (cK ZaC.B [1,1,0,0,1,1,0,0,1,1,1,0,0] :: .h J2 :: [.b 2,.b 1,cK ZaC.B [1,1,0,0,1,1,1],.h J1,.b 0])):=by
 unfold ZaC.p2 at h;obtain ⟨x21,c32,h1⟩:=ZcT h;refine Zbc h1 (fun c33 h2=>?_) (fun c33 h3=>?_)
 ·obtain ⟨c34,h4⟩:=Zbe h2;obtain ⟨st22,c35,h5⟩:=Zac h4;obtain ⟨x23,c36,h6⟩:=ZcT h5;obtain ⟨c37,h7⟩:=Zbe h6;exact an fol [.r [(3,{oc:=x21.lo})],cT,.r [(4,{oc:=x21.lo}),(5,{oc:=x21.lo}),(6,{oc:=x21.lo,st:=st22,wm:=2})],.r [(4,{oc:=x23.lo}),(5,{oc:=x23.lo}),(8,{oc:=x23.lo,m:=8,wm:=1})]] [0,8,9,10] [] (aO c32 c33 c32 (leI 0 64) (leN 0 64) c34 c32 (aO z0 c34 c32 (Zai.snd c35) c36 (leI 0 64) c37 (aM (Nat.le_refl (zL x23.rest)) c36 (rfl:Root.obj i15=Root.obj i15) c36 c37 (eN ((zL x23.rest)-64))))) (hc2 (zN st22 i15 (Zas.lo {x23 with rest:=qH 64 x23.rest})) h7)
 exact an fol [.r [(3,{oc:=x21.lo})],cF,rZ] [0,8,9,10] [] (aI c32 c33) (hc1 (some i15) (w64 (v1+1)) st20 h3)
theorem ZaC.p1_ok {A12 A1 v1 st13 r c1_ J1} (h:ZaC.p1 N A1 c1_ (A12,v1,st13)=some r) (hE:En Tryz.f147 g0 w0 (ZaC.rs r) r R) (hc1 : ∀A12 v1 st13,c1_ (A12,v1,st13)=some r→At g0 w0 (ZaC.p1.S A12 A1 v1 st13) J1):At g0 w0 (ZaC.p1.S A12 A1 v1 st13) (XK zB R (cK ZaC.B [1,1,0,0] :: .h J1 :: [.b 0])):=by
 unfold ZaC.p1 at h;refine Zbc h (fun c20 h8=>?_) (fun c20 h9=>?_)
 ·obtain ⟨c21,h10⟩:=Zbe h8;obtain ⟨x14,c22,h11⟩:=ZtW h10;obtain ⟨i15,rfl,h12⟩:=Zac h11;obtain ⟨x16,c24,h13⟩:=ZcT h12;obtain ⟨c25,h14⟩:=Zbe h13;exact aq fol [rZ,cT,.r [(1,{oe:=[vL x14]})],.r [(3,{oc:=x16.lo}),(10,{oc:=x16.lo})],.r [(4,{oc:=Zas.lo {x16 with size:=v64 (x16.size+(v64 (((zZ x14:Nat):Int))))}}),(6,{oe:=Zas.lo {x16 with size:=v64 (x16.size+(v64 (((zZ x14:Nat):Int))))}}),(9,{oc:=gs (Zas.lo {x16 with size:=v64 (x16.size+(v64 (((zZ x14:Nat):Int))))}) 1,mv:=[30]})]] [0,8,9,10] [] (aO c20 c21 (oD c20) c22 c24 c24 (Zar c24 (Zas.lo {x16 with size:=v64 (x16.size+(v64 (((zZ x14:Nat):Int))))})) (aN z0 (eN (zL x16.rest)) (Zar c24 (Zas.lo {x16 with size:=v64 (x16.size+(v64 (((zZ x14:Nat):Int))))})) c25 (Zar (Zar c24 (Zas.lo {x16 with size:=v64 (x16.size+(v64 (((zZ x14:Nat):Int))))})) (gs (Zas.lo {x16 with size:=v64 (x16.size+(v64 (((zZ x14:Nat):Int))))}) 1)) z0 (eN (zL (x16.rest++(ZoC x14)))))) (At.loop N (At.loopN (fun y:LL=>ZaC.p2.S i15 A1 v1 y) (fun c J hc y h=>ZaC.p2_ok h hE hc1 (fun st20=>hc st20)) N (zN (zN (zN st13 i15 (Zas.lo {x16 with size:=v64 (x16.size+(v64 (((zZ x14:Nat):Int))))})) i15 (gs (Zas.lo {x16 with size:=v64 (x16.size+(v64 (((zZ x14:Nat):Int))))}) 1)) i15 (Zas.lo (Zas.mk x16.state (x16.rest++(ZoC x14)) (v64 (x16.size+(v64 (((zZ x14:Nat):Int)))))))) h14))
 exact xR fol h9 hE [rZ,cF] c20
theorem ZaC.snd {h_0:Option Nat} {A1:LL} {st:LL} {r:LL} (h:ZaC N h_0 A1 st=some r):Snd zB 147 [.one (zQ h_0),.one (vW 1 A1)] st (ZaC.rs r) r:=
 sO ZaC.B Tryz.func147 fun g0 w0 R hE=>by
  unfold ZaC at h;refine Zbc h (fun c1 h15=>?_) (fun c1 h16=>?_)
  ·exact xR fol h15 hE [rZ,cT] c1
  exact aq fol [rZ,cF,rZ] [0,8,9,10] [] c1 (At.loop N (At.loopN (fun y:(Option Nat)×Int×LL=>ZaC.p1.S y.1 A1 y.2.1 y.2.2) (fun c J hc y h=>ZaC.p1_ok (A12:=y.1) (v1:=y.2.1) (st13:=y.2.2) h hE (fun A12 v1 st13=>hc (A12,v1,st13))) N (h_0,0,st) h16))
noncomputable def Zao.B:Code:=Tryz.f148.body.getD .skip
noncomputable def Zao.rs (r:(List Int)×LL):List CV:=[.agg [zI .u8 32 r.1]]
noncomputable def Zao.p4 (N:Nat) (x47:Zas) (st45:LL) (c4_:(Int×(List Int))→Option ((List Int)×LL)):(Int×(List Int))→Option ((List Int)×LL):=fun (v48,A49)=> if (decide (v48<8))=true then chk (0≤v48)<| chk (0≤(w64 (4*v48)))<| chk ((w64 (4*v48))<32)<| chk (0≤(w64 ((w64 (4*v48))+1)))<| chk ((w64 ((w64 (4*v48))+1))<32)<| chk (0≤(w64 ((w64 (4*v48))+2)))<| chk ((w64 ((w64 (4*v48))+2))<32)<| chk (0≤(w64 ((w64 (4*v48))+3)))<| chk ((w64 ((w64 (4*v48))+3))<32)<| c4_ (w64 (v48+1),zN (zN (zN (zN A49 (zD (w64 (4*v48))) (v8 (ZbF .u32 (zF x47.state (zD v48) 0) 24))) (zD (w64 ((w64 (4*v48))+1))) (v8 (ZbF .u32 (zF x47.state (zD v48) 0) 16))) (zD (w64 ((w64 (4*v48))+2))) (v8 (ZbF .u32 (zF x47.state (zD v48) 0) 8))) (zD (w64 ((w64 (4*v48))+3))) (v8 (zF x47.state (zD v48) 0))) else some (A49,st45)
noncomputable def Zao.p3 (N:Nat) (st v38:LL) (c3_:(Nat×Nat×LL)→Option ((List Int)×LL)):(Nat×Nat×LL)→Option ((List Int)×LL):=fun (A43,A44,st45)=> if (decide (((A44:Nat):Int)>0))=true then chk ((A43+64)≤(zL v38))<| Zbm (Zai N (some (zL st)) (sD 64 (qH A43 v38)) st45) fun st46=> chk (64≤A44)<| c3_ (A43+64,A44-64,st46) else Zde (st45[zL st]?) ZcC fun x47=> loopN (Zao.p4 N x47 st45) N (0,zC 32 0)
noncomputable def Zao.p2 (N:Nat) (h_0:Zas) (st:LL) (c2_:(LL×Int)→Option ((List Int)×LL)):(LL×Int)→Option ((List Int)×LL):=fun (v38,A26)=> if (decide (A26≥0))=true then chk (0≤(w64 (8*A26)))<| chk (zL (v38++[[zK .u8 (v8 (ZbF .u64 (v64 (h_0.size*8)) (w64 (8*A26))))]])*1≤140737488355328)<| c2_ (v38++[[zK .u8 (v8 (ZbF .u64 (v64 (h_0.size*8)) (w64 (8*A26))))]],w64 (A26-1)) else loopN (Zao.p3 N st v38) N (0,zL v38,st++[Zas.lo (Zas.mk h_0.state [] 0)])
noncomputable def Zao.p1 (N:Nat) (h_0:Zas) (st:LL) (c1_:LL→Option ((List Int)×LL)):LL→Option ((List Int)×LL):=fun v25=> if ((Int.tmod (len v25) 64) != 56)=true then chk (zL (v25++[[zK .u8 0]])*1≤140737488355328)<| c1_ (v25++[[zK .u8 0]]) else loopN (Zao.p2 N h_0 st) N (v25,7)
noncomputable def Zao (N:Nat) (h_0:Zas) (st:LL):Option ((List Int)×LL):= chk (zL ([]++h_0.rest)*1≤140737488355328)<| chk (zL (([]++h_0.rest)++[[zK .u8 128]])*1≤140737488355328)<| loopN (Zao.p1 N h_0 st) N (([]++h_0.rest)++[[zK .u8 128]])
noncomputable def Zao.p4.S (x47:Zas) (v48:Int) (A49:List Int) (st45:LL):S:=mkS 94 [(2,sA 2),(6,sA 6),(61,.agg [.l (zI .u32 8 x47.state)]),(62,sI v48)] [(2,.cells [zI .u8 32 (zC 32 0)]),(6,.cells [zI .u8 32 A49])] st45
noncomputable def Zao.p3.S (st:LL) (A43 A44:Nat) (v38 st45:LL):S:=mkS 94 [(2,sA 2),(3,sP (some (zL st))),(4,.one (.h (.row 22 0) 1 A43 A44))] [(2,.cells [zI .u8 32 (zC 32 0)]),(22,.row 0 false 1 v38)] st45
noncomputable def Zao.p2.S (h_0:Zas) (st v38:LL) (A26:Int):S:=mkS 94 [(0,.one (.l (L.bx 10 h_0.ls))),(2,sA 2),(3,sP (some (zL st))),(4,.one (.h (.row 22 0) 1 0 (zL v38))),(5,sI A26)] [(2,.cells [zI .u8 32 (zC 32 0)]),(22,.row 0 false 1 v38)] (st++[Zas.lo (Zas.mk h_0.state [] 0)])
noncomputable def Zao.p1.S (h_0:Zas) (st v25:LL):S:=mkS 94 [(0,.one (.l (L.bx 10 h_0.ls))),(2,sA 2),(3,sP (some (zL st))),(4,.one (.h (.row 22 0) 1 0 (zL v25)))] [(2,.cells [zI .u8 32 (zC 32 0)]),(22,.row 0 false 1 v25)] (st++[Zas.lo (Zas.mk h_0.state [] 0)])
theorem Zao.p4_ok {x47 v48 A49 st45 r c4_ J4} (h:Zao.p4 N x47 st45 c4_ (v48,A49)=some r) (hE:En Tryz.f148 g0 w0 (Zao.rs r) r.2 R) (hc4 : ∀v48 A49,c4_ (v48,A49)=some r→At g0 w0 (Zao.p4.S x47 v48 A49 st45) J4):At g0 w0 (Zao.p4.S x47 v48 A49 st45) (XK zB R (cK Zao.B [1,1,1,1,1,1,1,1,1,0,1,0,0] :: .h J4 :: [.b 6,cK Zao.B [1,1,1,1,1,1,1,1,1,1]])):=by
 unfold Zao.p4 at h;refine Zbc h (fun c205 h1=>?_) (fun c205 h2=>?_)
 ·obtain ⟨c206,c207,c208,c209,c210,c211,c212,c213,h3⟩:=ck8 h1;obtain ⟨c214,h4⟩:=Zbe h3;exact an fol [rZ,cT,rZ,rZ,rZ] [2,6,61,62] [2,6] (aO c205 c206 (oD c205) (leI 0 24) (leI 0 16) (leI 0 8) c207 (aN c208 c209 c210 c211 c212 c213 c214)) (hc4 (w64 (v48+1)) (zN (zN (zN (zN A49 (zD (w64 (4*v48))) (v8 (ZbF .u32 (zF x47.state (zD v48) 0) 24))) (zD (w64 ((w64 (4*v48))+1))) (v8 (ZbF .u32 (zF x47.state (zD v48) 0) 16))) (zD (w64 ((w64 (4*v48))+2))) (v8 (ZbF .u32 (zF x47.state (zD v48) 0) 8))) (zD (w64 ((w64 (4*v48))+3))) (v8 (zF x47.state (zD v48) 0))) h4)
 exact xT fol h2 hE [rZ,cF,rZ] c205
theorem Zao.p3_ok {st A43 A44 v38 st45 r c3_ J3} (h:Zao.p3 N st v38 c3_ (A43,A44,st45)=some r) (hE:En Tryz.f148 g0 w0 (Zao.rs r) r.2 R) (hc3 : ∀A43 A44 st45,c3_ (A43,A44,st45)=some r→At g0 w0 (Zao.p3.S st A43 A44 v38 st45) J3):At g0 w0 (Zao.p3.S st A43 A44 v38 st45) (XK zB R (cK Zao.B [1,1,1,1,1,1,1,0,0,0] :: .h J3 :: [.b 4,cK Zao.B [1,1,1,1,1,1,1,1]])):=by
 unfold Zao.p3 at h;refine Zbc h (fun c190 h5=>?_) (fun c190 h6=>?_)
 ·obtain ⟨c191,h7⟩:=Zbe h5;obtain ⟨st46,c192,h8⟩:=Zac h7;obtain ⟨c193,h9⟩:=Zbe h8;exact an fol [rZ,cT,.r [(2,{m:=9}),(3,{st:=st46,wm:=3,fz:=[22]})],rZ] [2,3,4] [2,22] (aO c190 (leI 0 64) (leN 0 64) c191 c191 (Zai.snd c192) (leI 0 64) (aI c193 (Nat.le_refl (A44)))) (hc3 (A43+64) (A44-64) st46 h9)
 obtain ⟨x47,c194,h10⟩:=ZcT h6;exact aq fol [rZ,cF,rZ,.r [(3,{oc:=x47.lo})]] [2,6,61,62] [2,6] (aI c190 c194) (At.loop N (At.loopN (fun y:Int×(List Int)=>Zao.p4.S x47 y.1 y.2 st45) (fun c J hc y h=>Zao.p4_ok (v48:=y.1) (A49:=y.2) h hE (fun v48 A49=>hc (v48,A49))) N (0,zC 32 0) h10))
theorem Zao.p2_ok {h_0 st v38 A26 r c2_ J2} (h:Zao.p2 N h_0 st c2_ (v38,A26)=some r) (hE:En Tryz.f148 g0 w0 (Zao.rs r) r.2 R) (hc2 : ∀v38 A26,c2_ (v38,A26)=some r→At g0 w0 (Zao.p2.S h_0 st v38 A26) J2):At g0 w0 (Zao.p2.S h_0 st v38 A26) (XK zB R (cK Zao.B [1,1,1,1,1,1,0,1,0,0] :: .h J2 :: [.b 2,cK Zao.B [1,1,1,1,1,1,1]])):=by
 unfold Zao.p2 at h;refine Zbc h (fun c163 h11=>?_) (fun c163 h12=>?_)
 ·obtain ⟨c164,c165,h13⟩:=ck2 h11;exact an fol [rZ,cT,.r [(4,{oe:=h_0.ls})],rZ] [0,2,3,4,5] [2,22] (aO c163 (eO h_0.ls) c164 z0 (eN (zL v38)) z0 (eN (1)) c165) (hc2 (v38++[[zK .u8 (v8 (ZbF .u64 (v64 (h_0.size*8)) (w64 (8*A26))))]]) (w64 (A26-1)) h13)
 exact aq fol [rZ,cF] [2,3,4] [2,22] c163 (At.loop N (At.loopN (fun y:Nat×Nat×LL=>Zao.p3.S st y.1 y.2.1 v38 y.2.2) (fun c J hc y h=>Zao.p3_ok (A43:=y.1) (A44:=y.2.1) (st45:=y.2.2) h hE (fun A43 A44 st45=>hc (A43,A44,st45))) N (0,zL v38,st++[Zas.lo (Zas.mk h_0.state [] 0)]) h12))
theorem Zao.p1_ok {h_0 st v25 r c1_ J1} (h:Zao.p1 N h_0 st c1_ v25=some r) (hE:En Tryz.f148 g0 w0 (Zao.rs r) r.2 R) (hc1 : ∀v25,c1_ v25=some r→At g0 w0 (Zao.p1.S h_0 st v25) J1):At g0 w0 (Zao.p1.S h_0 st v25) (XK zB R (cK Zao.B [1,1,1,1,1,0,0,0] :: .h J1 :: [.b 0,cK Zao.B [1,1,1,1,1,1]])):=by
 unfold Zao.p1 at h;refine Zbc h (fun c109 h14=>?_) (fun c109 h15=>?_)
 ·obtain ⟨c110,h16⟩:=Zbe h14;exact an fol [rZ,cT,rZ] [0,2,3,4] [2,22] (aN (neI 64) c109 z0 (eN (zL v25)) z0 (eN (1)) c110) (hc1 (v25++[[zK .u8 0]]) h16)
 exact aq fol [rZ,cF,rZ] [0,2,3,4,5] [2,22] (aI (neI 64) c109) (At.loop N (At.loopN (fun y:LL×Int=>Zao.p2.S h_0 st y.1 y.2) (fun c J hc y h=>Zao.p2_ok (v38:=y.1) (A26:=y.2) h hE (fun v38 A26=>hc (v38,A26))) N (v25,7) h15))
theorem Zao.snd {h_0:Zas} {st:LL} {r:(List Int)×LL} (h:Zao N h_0 st=some r):Snd zB 148 [.one (L.bx 10 h_0.ls)] st (Zao.rs r) r.2:=
 sO Zao.B Tryz.func148 fun g0 w0 R hE=>by
  unfold Zao at h;obtain ⟨c1,c2,h17⟩:=ck2 h;exact aq fol [rZ,rZ,cF,.r [(3,{oe:=h_0.ls}),(4,{mv:=[1]}),(5,{m:=1})],.r [(3,{oe:=h_0.ls}),(5,{fz:=[22]})],rZ] [0,2,3,4] [2,22] (aO eF (eO h_0.ls) (eO h_0.ls) c1 z0 (eN (zL ([]++h_0.rest))) z0 (aI (eN (1)) c2)) (At.loop N (At.loopN (fun y:LL=>Zao.p1.S h_0 st y) (fun c J hc y h=>Zao.p1_ok h hE (fun v25=>hc v25)) N (([]++h_0.rest)++[[zK .u8 128]]) h17))
noncomputable def Zal.B:Code:=Tryz.f148.body.getD .skip
noncomputable def Zal.rs (r:(List Int)×LL):List CV:=[.agg [zI .u8 32 r.1]]
noncomputable def Zal.p4 (N:Nat) (x53:Zas) (st51:LL) (c4_:(Int×(List Int))→Option ((List Int)×LL)):(Int×(List Int))→Option ((List Int)×LL):=fun (v54,A55)=> if (decide (v54<8))=true then chk (0≤v54)<| chk (0≤(w64 (4*v54)))<| chk ((w64 (4*v54))<32)<| chk (0≤(w64 ((w64 (4*v54))+1)))<| chk ((w64 ((w64 (4*v54))+1))<32)<| chk (0≤(w64 ((w64 (4*v54))+2)))<| chk ((w64 ((w64 (4*v54))+2))<32)<| chk (0≤(w64 ((w64 (4*v54))+3)))<| chk ((w64 ((w64 (4*v54))+3))<32)<| c4_ (w64 (v54+1),zN (zN (zN (zN A55 (zD (w64 (4*v54))) (v8 (ZbF .u32 (zF x53.state (zD v54) 0) 24))) (zD (w64 ((w64 (4*v54))+1))) (v8 (ZbF .u32 (zF x53.state (zD v54) 0) 16))) (zD (w64 ((w64 (4*v54))+2))) (v8 (ZbF .u32 (zF x53.state (zD v54) 0) 8))) (zD (w64 ((w64 (4*v54))+3))) (v8 (zF x53.state (zD v54) 0))) else some (A55,st51)
noncomputable def Zal.p3 (N:Nat) (st v43:LL) (c3_:(Nat×Nat×LL)→Option ((List Int)×LL)):(Nat×Nat×LL)→Option ((List Int)×LL):=fun (A49,A50,st51)=> if (decide (((A50:Nat):Int)>0))=true then chk ((A49+64)≤(zL v43))<| Zbm (Zai N (some (zL st)) (sD 64 (qH A49 v43)) st51) fun st52=> chk (64≤A50)<| c3_ (A49+64,A50-64,st52) else Zde (st51[zL st]?) ZcC fun x53=> loopN (Zal.p4 N x53 st51) N (0,zC 32 0)
noncomputable def Zal.p2 (N:Nat) (i1:Nat) (st:LL) (x2:Zas) (c2_:(LL×Int)→Option ((List Int)×LL)):(LL×Int)→Option ((List Int)×LL):=fun (v43,A30)=> if (decide (A30≥0))=true then Zde ((st++[Zas.lo (Zas.mk x2.state [] 0)])[i1]?) ZcC fun x44=> chk (0≤(w64 (8*A30)))<| chk (zL (v43++[[zK .u8 (v8 (ZbF .u64 (v64 (x44.size*8)) (w64 (8*A30))))]])*1≤140737488355328)<| c2_ (v43++[[zK .u8 (v8 (ZbF .u64 (v64 (x44.size*8)) (w64 (8*A30))))]],w64 (A30-1)) else loopN (Zal.p3 N st v43) N (0,zL v43,st++[Zas.lo (Zas.mk x2.state [] 0)])
noncomputable def Zal.p1 (N:Nat) (i1:Nat) (st:LL) (x2:Zas) (c1_:LL→Option ((List Int)×LL)):LL→Option ((List Int)×LL):=fun v29=> if ((Int.tmod (len v29) 64) != 56)=true then chk (zL (v29++[[zK .u8 0]])*1≤140737488355328)<| c1_ (v29++[[zK .u8 0]]) else loopN (Zal.p2 N i1 st x2) N (v29,7)
noncomputable def Zal (N:Nat) (h_0:Option Nat) (st:LL):Option ((List Int)×LL):= if (vJ h_0)=true then some (zC 32 0,st) else Zbm h_0 fun i1=> Zde (st[i1]?) ZcC fun x2=> chk (zL ([]++x2.rest)*1≤140737488355328)<| chk (zL (([]++x2.rest)++[[zK .u8 128]])*1≤140737488355328)<| loopN (Zal.p1 N i1 st x2) N (([]++x2.rest)++[[zK .u8 128]])
noncomputable def Zal.p4.S (x53:Zas) (v54:Int) (A55:List Int) (st51:LL):S:=mkS 94 [(2,sA 2),(6,sA 6),(61,.agg [.l (zI .u32 8 x53.state)]),(62,sI v54)] [(2,.cells [zI .u8 32 (zC 32 0)]),(6,.cells [zI .u8 32 A55])] st51
noncomputable def Zal.p3.S (st:LL) (A49 A50:Nat) (v43 st51:LL):S:=mkS 94 [(2,sA 2),(3,sP (some (zL st))),(4,.one (.h (.row 22 0) 1 A49 A50))] [(2,.cells [zI .u8 32 (zC 32 0)]),(22,.row 0 false 1 v43)] st51
noncomputable def Zal.p2.S (i1:Nat) (st v43:LL) (A30:Int) (x2:Zas):S:=mkS 94 [(0,sP (some i1)),(2,sA 2),(3,sP (some (zL st))),(4,.one (.h (.row 22 0) 1 0 (zL v43))),(5,sI A30)] [(2,.cells [zI .u8 32 (zC 32 0)]),(22,.row 0 false 1 v43)] (st++[Zas.lo (Zas.mk x2.state [] 0)])
noncomputable def Zal.p1.S (i1:Nat) (st v29:LL) (x2:Zas):S:=mkS 94 [(0,sP (some i1)),(2,sA 2),(3,sP (some (zL st))),(4,.one (.h (.row 22 0) 1 0 (zL v29)))] [(2,.cells [zI .u8 32 (zC 32 0)]),(22,.row 0 false 1 v29)] (st++[Zas.lo (Zas.mk x2.state [] 0)])
theorem Zal.p4_ok {x53 v54 A55 st51 r c4_ J4} (h:Zal.p4 N x53 st51 c4_ (v54,A55)=some r) (hE:En Tryz.f148 g0 w0 (Zal.rs r) r.2 R) (hc4 : ∀v54 A55,c4_ (v54,A55)=some r→At g0 w0 (Zal.p4.S x53 v54 A55 st51) J4):At g0 w0 (Zal.p4.S x53 v54 A55 st51) (XK zB R (cK Zal.B [1,1,1,1,1,1,1,1,1,0,1,0,0] :: .h J4 :: [.b 6,cK Zal.B [1,1,1,1,1,1,1,1,1,1]])):=by
 unfold Zal.p4 at h;refine Zbc h (fun c212 h1=>?_) (fun c212 h2=>?_)
 ·obtain ⟨c213,c214,c215,c216,c217,c218,c219,c220,h3⟩:=ck8 h1;obtain ⟨c221,h4⟩:=Zbe h3;exact an fol [rZ,cT,rZ,rZ,rZ] [2,6,61,62] [2,6] (aO c212 c213 (oD c212) (leI 0 24) (leI 0 16) (leI 0 8) c214 (aN c215 c216 c217 c218 c219 c220 c221)) (hc4 (w64 (v54+1)) (zN (zN (zN (zN A55 (zD (w64 (4*v54))) (v8 (ZbF .u32 (zF x53.state (zD v54) 0) 24))) (zD (w64 ((w64 (4*v54))+1))) (v8 (ZbF .u32 (zF x53.state (zD v54) 0) 16))) (zD (w64 ((w64 (4*v54))+2))) (v8 (ZbF .u32 (zF x53.state (zD v54) 0) 8))) (zD (w64 ((w64 (4*v54))+3))) (v8 (zF x53.state (zD v54) 0))) h4)
 exact xT fol h2 hE [rZ,cF,rZ] c212
theorem Zal.p3_ok {st A49 A50 v43 st51 r c3_ J3} (h:Zal.p3 N st v43 c3_ (A49,A50,st51)=some r) (hE:En Tryz.f148 g0 w0 (Zal.rs r) r.2 R) (hc3 : ∀A49 A50 st51,c3_ (A49,A50,st51)=some r→At g0 w0 (Zal.p3.S st A49 A50 v43 st51) J3):At g0 w0 (Zal.p3.S st A49 A50 v43 st51) (XK zB R (cK Zal.B [1,1,1,1,1,1,1,0,0,0] :: .h J3 :: [.b 4,cK Zal.B [1,1,1,1,1,1,1,1]])):=by
 unfold Zal.p3 at h;refine Zbc h (fun c197 h5=>?_) (fun c197 h6=>?_)
 ·obtain ⟨c198,h7⟩:=Zbe h5;obtain ⟨st52,c199,h8⟩:=Zac h7;obtain ⟨c200,h9⟩:=Zbe h8;exact an fol [rZ,cT,.r [(2,{m:=9}),(3,{st:=st52,wm:=3,fz:=[22]})],rZ] [2,3,4] [2,22] (aO c197 (leI 0 64) (leN 0 64) c198 c198 (Zai.snd c199) (leI 0 64) (aI c200 (Nat.le_refl (A50)))) (hc3 (A49+64) (A50-64) st52 h9)
 obtain ⟨x53,c201,h10⟩:=ZcT h6;exact aq fol [rZ,cF,rZ,.r [(3,{oc:=x53.lo})]] [2,6,61,62] [2,6] (aI c197 c201) (At.loop N (At.loopN (fun y:Int×(List Int)=>Zal.p4.S x53 y.1 y.2 st51) (fun c J hc y h=>Zal.p4_ok (v54:=y.1) (A55:=y.2) h hE (fun v54 A55=>hc (v54,A55))) N (0,zC 32 0) h10))
theorem Zal.p2_ok {i1 st v43 A30 x2 r c2_ J2} (h:Zal.p2 N i1 st x2 c2_ (v43,A30)=some r) (hE:En Tryz.f148 g0 w0 (Zal.rs r) r.2 R) (hc2 : ∀v43 A30,c2_ (v43,A30)=some r→At g0 w0 (Zal.p2.S i1 st v43 A30 x2) J2):At g0 w0 (Zal.p2.S i1 st v43 A30 x2) (XK zB R (cK Zal.B [1,1,1,1,1,1,0,1,0,0] :: .h J2 :: [.b 2,cK Zal.B [1,1,1,1,1,1,1]])):=by
 unfold Zal.p2 at h;refine Zbc h (fun c169 h11=>?_) (fun c169 h12=>?_)
 ·obtain ⟨x44,c170,h13⟩:=ZcT h11;obtain ⟨c171,c172,h14⟩:=ck2 h13;exact an fol [rZ,cT,.r [(4,{oc:=x44.lo})],rZ] [0,2,3,4,5] [2,22] (aO c169 c170 c171 z0 (eN (zL v43)) z0 (eN (1)) c172) (hc2 (v43++[[zK .u8 (v8 (ZbF .u64 (v64 (x44.size*8)) (w64 (8*A30))))]]) (w64 (A30-1)) h14)
 exact aq fol [rZ,cF] [2,3,4] [2,22] c169 (At.loop N (At.loopN (fun y:Nat×Nat×LL=>Zal.p3.S st y.1 y.2.1 v43 y.2.2) (fun c J hc y h=>Zal.p3_ok (A49:=y.1) (A50:=y.2.1) (st51:=y.2.2) h hE (fun A49 A50 st51=>hc (A49,A50,st51))) N (0,zL v43,st++[Zas.lo (Zas.mk x2.state [] 0)]) h12))
theorem Zal.p1_ok {i1 st v29 x2 r c1_ J1} (h:Zal.p1 N i1 st x2 c1_ v29=some r) (hE:En Tryz.f148 g0 w0 (Zal.rs r) r.2 R) (hc1 : ∀v29,c1_ v29=some r→At g0 w0 (Zal.p1.S i1 st v29 x2) J1):At g0 w0 (Zal.p1.S i1 st v29 x2) (XK zB R (cK Zal.B [1,1,1,1,1,0,0,0] :: .h J1 :: [.b 0,cK Zal.B [1,1,1,1,1,1]])):=by
 unfold Zal.p1 at h;refine Zbc h (fun c114 h15=>?_) (fun c114 h16=>?_)
 ·obtain ⟨c115,h17⟩:=Zbe h15;exact an fol [rZ,cT,rZ] [0,2,3,4] [2,22] (aN (neI 64) c114 z0 (eN (zL v29)) z0 (eN (1)) c115) (hc1 (v29++[[zK .u8 0]]) h17)
 exact aq fol [rZ,cF,rZ] [0,2,3,4,5] [2,22] (aI (neI 64) c114) (At.loop N (At.loopN (fun y:LL×Int=>Zal.p2.S i1 st y.1 y.2 x2) (fun c J hc y h=>Zal.p2_ok (v43:=y.1) (A30:=y.2) h hE (fun v43 A30=>hc (v43,A30))) N (v29,7) h16))
theorem Zal.snd {h_0:Option Nat} {st:LL} {r:(List Int)×LL} (h:Zal N h_0 st=some r):Snd zB 148 [.one (zQ h_0)] st (Zal.rs r) r.2:=
 sO Zal.B Tryz.func148 fun g0 w0 R hE=>by
  unfold Zal at h;refine Zbc h (fun c1 h18=>?_) (fun c1 h19=>?_)
  ·exact xT fol h18 hE [rZ,rZ,cT,rZ] c1
  obtain ⟨i1,rfl,h20⟩:=Zac h19;obtain ⟨x2,c3,h21⟩:=ZcT h20;obtain ⟨c4,c5,h22⟩:=ck2 h21;exact aq fol [rZ,rZ,cF,.r [(3,{oc:=x2.lo}),(4,{mv:=[1]}),(5,{m:=1})],.r [(3,{oc:=x2.lo}),(4,{oc:=x2.lo}),(5,{fz:=[22]})],rZ] [0,2,3,4] [2,22] (aO c1 c3 (st_old c3 (Zas.lo (Zas.mk x2.state [] 0))) z0 (eN (zL x2.rest)) (st_old c3 (Zas.lo (Zas.mk x2.state [] 0))) c4 (aL z0 (eN (zL ([]++x2.rest))) z0 (eN (1)) c5)) (At.loop N (At.loopN (fun y:LL=>Zal.p1.S i1 st y x2) (fun c J hc y h=>Zal.p1_ok h hE (fun v29=>hc v29)) N (([]++x2.rest)++[[zK .u8 128]]) h22))
noncomputable def ZeT.B:Code:=Tryz.f131.body.getD .skip
noncomputable def ZeT.rs (r:(List Int)×LL):List CV:=[.agg [zI .u8 32 r.1]]
noncomputable def ZeT (N:Nat) (A0 st:LL):Option ((List Int)×LL):= Zbm (Zfk N st) fun (x1,st2)=> Zbm (ZaC N x1 A0 st2) fun st3=> Zbm (Zal N x1 st3) fun (x4,st5)=> some (x4,st5)
theorem ZeT.snd {A0:LL} {st:LL} {r:(List Int)×LL} (h:ZeT N A0 st=some r):Snd zB 131 [.one (vW 1 A0)] st (ZeT.rs r) r.2:=
 sO ZeT.B Tryz.func131 fun g0 w0 R hE=>by
  unfold ZeT at h;obtain ⟨⟨x1,st2⟩,c1,h1⟩:=Zac h;obtain ⟨st3,c2,h2⟩:=Zac h1;obtain ⟨⟨x4,st5⟩,c3,h3⟩:=Zac h2;exact xT fol h3 hE [rZ,.r [(0,{rs:=[.one (zQ x1)],st:=st2})],.r [(2,{st:=st3})],.r [(1,{rs:=[.agg [zI .u8 32 x4]],st:=st5})]] (aJ (Zfk.snd c1) (ZaC.snd c2) (Zal.snd c3))
noncomputable def ZdN.B:Code:=Tryz.f104.body.getD .skip
noncomputable def ZdN.rs (r:(List Int)×LL):List CV:=[.agg [zI .u8 32 r.1]]
noncomputable def ZdN (N:Nat) (A0 st:LL):Option ((List Int)×LL):= Zbm (ZeT N A0 st) fun (x1,st2)=> Zbm (ZeT N [[vL (ZkR x1)]] st2) fun (x3,st4)=> some (x3,st4)
theorem ZdN.snd {A0:LL} {st:LL} {r:(List Int)×LL} (h:ZdN N A0 st=some r):Snd zB 104 [.one (vW 1 A0)] st (ZdN.rs r) r.2:=
 sO ZdN.B Tryz.func104 fun g0 w0 R hE=>by
  unfold ZdN at h;obtain ⟨⟨x1,st2⟩,c1,h1⟩:=Zac h;obtain ⟨⟨x3,st4⟩,c2,h2⟩:=Zac h1;exact xT fol h2 hE [rZ,.r [(1,{rs:=[.agg [zI .u8 32 x1]],st:=st2})],.r [(3,{rs:=[.agg [zI .u8 32 x3]],st:=st4,fz:=[8]})]] (aM (ZeT.snd c1) (leN 0 32) (leN 32 32) z0 (eN (1)) (ZeT.snd c2))
noncomputable def ZeI.B:Code:=Tryz.f81.body.getD .skip
noncomputable def ZeI.rs (r:(List Int)×LL):List CV:=[.agg [zI .u8 32 r.1]]
noncomputable def ZeI (N:Nat) (h_0:Zak) (st:LL):Option ((List Int)×LL):= Zbm (ZdK N h_0 st) fun (x1,x2,st3)=> if (x2 != 0)=true then some (zC 32 0,st3) else Zbm (ZdN N [[vL x1]] st3) fun (x4,st5)=> some (x4,st5)
theorem ZeI.snd {h_0:Zak} {st:LL} {r:(List Int)×LL} (h:ZeI N h_0 st=some r):Snd zB 81 [.agg h_0.ls] st (ZeI.rs r) r.2:=
 sO ZeI.B Tryz.func81 fun g0 w0 R hE=>by
  unfold ZeI at h;obtain ⟨⟨x1,x2,st3⟩,c1,h1⟩:=Zac h;let o1:List PS:=[rZ,.r [(1,{rs:=[.one (vL x1),oI x2],st:=st3})],rZ]
  refine Zbc h1 (fun c2 h2=>?_) (fun c2 h3=>?_)
  ·exact xT fol h2 hE (o1++[cT,rZ]) (aI (ZdK.snd c1) c2)
  obtain ⟨⟨x4,st5⟩,c3,h4⟩:=Zac h3;exact xT fol h4 hE (o1++[cF,.r [(2,{rs:=[.agg [zI .u8 32 x4]],st:=st5,fz:=[14]})]]) (aL (ZdK.snd c1) c2 z0 (eN (1)) (ZdN.snd c3))
noncomputable def Zbg.B:Code:=Tryz.f112.body.getD .skip
noncomputable def Zbg.rs (r:LL):List CV:=[]
noncomputable def Zbg.p1 (N:Nat) (A1:LL) (c1_:((Option Nat)×Int×LL)→Option LL):((Option Nat)×Int×LL)→Option LL:=fun (A5,v1,st6)=> if (decide (v1<(len A1)))=true then chk (0≤v1)<| Zde (A1[zD v1]?) ZdX fun x7=> Zbm A5 fun i8=> Zde (st6[i8]?) ZjK fun x9=> chk (0≤(if (10:Int)<(len x9) then 10 else (len x9)))<| chk ((zD (if (10:Int)<(len x9) then 10 else (len x9)))≤(zL x9))<| chk (zL ([[zK .i64 x7]]++(sD (zD (if (10:Int)<(len x9) then 10 else (len x9))) x9))*8≤140737488355328)<| c1_ ((some i8),w64 (v1+1),zN st6 i8 [yC true 1 ([[zK .i64 x7]]++(sD (zD (if (10:Int)<(len x9) then 10 else (len x9))) x9))]) else some st6
noncomputable def Zbg (N:Nat) (A0:Option Nat) (A1 st:LL):Option LL:= if (vJ A0)=true then some st else loopN (Zbg.p1 N A1) N (A0,0,st)
noncomputable def Zbg.p1.S (A5:Option Nat) (A1:LL) (v1:Int) (st6:LL):S:=mkS 32 [(0,sP A5),(8,sV 1 A1),(9,sI (len A1)),(10,sI v1)] [] st6
theorem Zbg.p1_ok {A5 A1 v1 st6 r c1_ J1} (h:Zbg.p1 N A1 c1_ (A5,v1,st6)=some r) (hE:En Tryz.f112 g0 w0 (Zbg.rs r) r R) (hc1 : ∀A5 v1 st6,c1_ (A5,v1,st6)=some r→At g0 w0 (Zbg.p1.S A5 A1 v1 st6) J1):At g0 w0 (Zbg.p1.S A5 A1 v1 st6) (XK zB R (cK Zbg.B [1,1,0,0] :: .h J1 :: [.b 0])):=by
 unfold Zbg.p1 at h;refine Zbc h (fun c10 h1=>?_) (fun c10 h2=>?_)
 ·obtain ⟨c11,h3⟩:=Zbe h1;obtain ⟨x7,c12,h4⟩:=Zdt h3;obtain ⟨i8,rfl,h5⟩:=Zac h4;obtain ⟨x9,c14,h6⟩:=ZgK h5;obtain ⟨c15,c16,c17,h7⟩:=ck3 h6;exact ZjR fol [rZ,cT,.r [(1,{oe:=[zK .i64 x7]})],.d {ds:=[(6,{oc:=[yC true 1 x9]}),(10,{oc:=[yC true 1 x9]}),(13,{oc:=[yC true 1 x9]}),(14,{oc:=[yC true 1 x9],wm:=2}),(17,{oc:=[yC true 1 x9],mv:=[16]})],hv:=147460,Hs:=[4,16388,147460]},rZ] [0,8,9,10] [] (aO c10 c11 (oD c10) c12 c14 c14 c14 (aO c14 c15 (Nat.zero_le (zD (if (10:Int)<(len x9) then 10 else (len x9)))) c16 c14 c15 (Nat.zero_le (zD (if (10:Int)<(len x9) then 10 else (len x9)))) (aO c16 c14 z0 (eN (1)) z0 c16 c14 (aK c17 c14 z0 (eN (zL ([[zK .i64 x7]]++(sD (zD (if (10:Int)<(len x9) then 10 else (len x9))) x9)))))))) (hc1 (some i8) (w64 (v1+1)) (zN st6 i8 [yC true 1 ([[zK .i64 x7]]++(sD (zD (if (10:Int)<(len x9) then 10 else (len x9))) x9))]) h7)
 exact xR fol h2 hE [rZ,cF] c10
theorem Zbg.snd {A0:Option Nat} {A1:LL} {st:LL} {r:LL} (h:Zbg N A0 A1 st=some r):Snd zB 112 [.one (zQ A0),.one (vW 1 A1)] st (Zbg.rs r) r:=
 sO Zbg.B Tryz.func112 fun g0 w0 R hE=>by
  unfold Zbg at h;refine Zbc h (fun c1 h8=>?_) (fun c1 h9=>?_)
  ·exact xR fol h8 hE [rZ,cT] c1
  exact aq fol [rZ,cF,rZ] [0,8,9,10] [] c1 (At.loop N (At.loopN (fun y:(Option Nat)×Int×LL=>Zbg.p1.S y.1 A1 y.2.1 y.2.2) (fun c J hc y h=>Zbg.p1_ok (A5:=y.1) (v1:=y.2.1) (st6:=y.2.2) h hE (fun A5 v1 st6=>hc (A5,v1,st6))) N (A0,0,st) h9))
noncomputable def ZdI.B:Code:=Tryz.f113.body.getD .skip
noncomputable def ZdI.rs (r:LL×LL):List CV:=[.row true 1 r.1]
noncomputable def ZdI (N:Nat) (A0:Option Nat) (st:LL):Option (LL×LL):= if (vJ A0)=true then some ([],st) else Zbm A0 fun i1=> Zde (st[i1]?) ZjK fun x2=> Zbm (Zce N x2) fun x3=> chk (ZeB x3=true)<| some (x3,st)
theorem ZdI.snd {A0:Option Nat} {st:LL} {r:LL×LL} (h:ZdI N A0 st=some r):Snd zB 113 [.one (zQ A0)] st (ZdI.rs r) r.2:=
 sO ZdI.B Tryz.func113 fun g0 w0 R hE=>by
  unfold ZdI at h;refine Zbc h (fun c1 h1=>?_) (fun c1 h2=>?_)
  ·obtain rfl:=Zad h1;exact af fol hE [.r [(0,{m:=2})],rZ,cT,.r [(0,{m:=2})]] [] 0 [0] c1
  obtain ⟨i1,rfl,h3⟩:=Zac h2;obtain ⟨x2,c3,h4⟩:=ZgK h3;obtain ⟨x3,c4,h5⟩:=Zac h4;obtain ⟨c5,h6⟩:=Zbe h5;obtain rfl:=Zad h6;exact af fol hE [.r [(0,{m:=2})],rZ,cF,.r [(3,{oc:=[yC true 1 x2]}),(4,{oc:=[yC true 1 x2],rs:=[.row true 1 x3],ns:=[9],m:=2})]] [] 0 [0] (aO c1 c3 z0 (eN (zL x2)) c3 c5 (Zce.snd c4) (aI z0 (eN (zL x3))))
noncomputable def ZdH.B:Code:=Tryz.f111.body.getD .skip
noncomputable def ZdH.rs (r:Bool):List CV:=[oB r]
noncomputable def ZdH (N:Nat) (A0:Zae) (A1:Int):Option Bool:= if (decide (A0.Interval>0))=true then chk (A0.Interval≠0)<| some ((Int.tmod A1 A0.Interval)==0) else some false
theorem ZdH.snd {A0:Zae} {A1:Int} {r:Bool} (h:ZdH N A0 A1=some r):ZdP zB 111 [.agg A0.ls,oI A1] (ZdH.rs r):=fun st=>
 sO ZdH.B Tryz.func111 fun g0 w0 R hE=>by
  unfold ZdH at h;refine Zbc h (fun c1 h1=>?_) (fun c1 h2=>?_)
  ·obtain ⟨c2,h3⟩:=Zbe h1;exact xS fol h3 hE [rZ,rZ] (aN c1 c1 c1 c1 c2 c1 c1)
  exact xS fol h2 hE [rZ,.r [(4,wF),(5,wF),(6,wF),(7,wF),(8,wF),(9,yF)]] (aM c1 c1 c1 c1 c1 c1)
noncomputable def ZcH.B:Code:=Tryz.f113.body.getD .skip
noncomputable def ZcH.rs (r:LL):List CV:=[.row true 1 r]
noncomputable def ZcH (N:Nat) (A0:LL):Option LL:= Zbm (Zce N A0) fun x1=> some x1
theorem ZcH.snd {A0:LL} {r:LL} (h:ZcH N A0=some r):ZdP zB 113 [.one (L.bx 1 [vW 1 A0])] (ZcH.rs r):=fun st=>
 sO ZcH.B Tryz.func113 fun g0 w0 R hE=>by
  unfold ZcH at h;obtain ⟨x1,c1,h1⟩:=Zac h;obtain rfl:=Zad h1;exact af fol hE [.r [(0,{m:=2})],rZ,cF,.r [(3,{oe:=[vW 1 A0]}),(4,{rs:=[.row true 1 x1],ns:=[9],m:=1})]] [] 0 [0] (aL eF (eO [vW 1 A0]) (Zce.snd c1) z0 (eN (zL x1)))
noncomputable def ZaU.B:Code:=Tryz.f83.body.getD .skip
noncomputable def ZaU.rs (r:ZaX×LL):List CV:=[.agg r.1.ls]
noncomputable def ZaU.p3 (N:Nat) (st2:LL) (at_1:ZaX) (h_2:Zak) (A8:ZaX) (c3_:(Int×LL)→Option (ZaX×LL)):(Int×LL)→Option (ZaX×LL):=fun (A9,st15)=> if (decide (A9≥0))=true then chk (0≤A9)<| chk (A9<(len at_1.Times))<| Zde (at_1.Times[zD A9]?) ZdX fun x16=> Zbm (Zbg N (some (zL st2)) [[zK .i64 x16]] st15) fun st17=> c3_ (w64 (A9-1),st17) else Zbm (Zbg N (some (zL st2)) [[zK .i64 h_2.Time]] st15) fun st18=> Zde (st18[zL st2]?) ZjK fun x19=> Zbm (ZcH N x19) fun x20=> chk (ZeB x20=true)<| some ({A8 with Times:=x20},st18)
noncomputable def ZaU.p2 (N:Nat) (at_1:ZaX) (h_2:Zak) (A8:ZaX) (st2:LL):Option (ZaX×LL):= loopN (ZaU.p3 N st2 at_1 h_2 A8) N (w64 ((if (11:Int)<(len at_1.Times) then 11 else (len at_1.Times))-1),st2++[[yC true 1 []]])
noncomputable def ZaU.p1 (N:Nat) (A0:Zae) (at_1:ZaX) (h_2:Zak) (A5:ZaX) (st2:LL):Option (ZaX×LL):= if A0.Easy=true then if (h_2.Bits==A0.Limit)=true then Zbm (ZdH N A0 at_1.Point.Height) fun x6=> if (!x6)=true then ZaU.p2 N at_1 h_2 {A5 with Point:={A5.Point with Hard:=at_1.Point.Hard}} st2 else ZaU.p2 N at_1 h_2 A5 st2 else ZaU.p2 N at_1 h_2 A5 st2 else ZaU.p2 N at_1 h_2 A5 st2
noncomputable def ZaU (N:Nat) (A0:Zae) (at_1:ZaX) (h_2:Zak) (st:LL):Option (ZaX×LL):= Zbm (ZeI N h_2 st) fun (x1,st2)=> Zbm (ZdH N A0 at_1.Point.Height) fun x3=> if x3=true then ZaU.p1 N A0 at_1 h_2 (ZaX.mk (ZdV.mk (w64 (at_1.Point.Height+1)) h_2.Bits h_2.Time h_2.Time h_2.Bits) x1 []) st2 else ZaU.p1 N A0 at_1 h_2 (ZaX.mk (ZdV.mk (w64 (at_1.Point.Height+1)) h_2.Bits h_2.Time at_1.Point.First h_2.Bits) x1 []) st2
noncomputable def ZaU.p3.S (st2:LL) (A9:Int) (at_1:ZaX) (h_2:Zak) (A8:ZaX) (st15:LL):S:=mkS 81 [(4,sA 4),(5,sA 5),(6,sA 6),(7,sA 7),(8,sP (some (zL st2))),(9,sI A9)] [(4,.cells at_1.ls),(5,.cells h_2.ls),(6,.cells [zK .i64 0,zK .i64 0,zK .i64 0,zK .i64 0,zK .i64 0,zI .u8 32 (zC 32 0),yC true 1 []]),(7,.cells A8.ls)] st15
noncomputable def ZaU.p2.S (at_1:ZaX) (h_2:Zak) (A8:ZaX) (st2:LL):S:=mkS 81 [(4,sA 4),(5,sA 5),(6,sA 6),(7,sA 7)] [(4,.cells at_1.ls),(5,.cells h_2.ls),(6,.cells [zK .i64 0,zK .i64 0,zK .i64 0,zK .i64 0,zK .i64 0,zI .u8 32 (zC 32 0),yC true 1 []]),(7,.cells A8.ls)] st2
noncomputable def ZaU.p1.S (A0:Zae) (at_1:ZaX) (h_2:Zak) (A5:ZaX) (st2:LL):S:=mkS 81 [(3,sA 3),(4,sA 4),(5,sA 5),(6,sA 6),(7,sA 7)] [(3,.cells A0.ls),(4,.cells at_1.ls),(5,.cells h_2.ls),(6,.cells [zK .i64 0,zK .i64 0,zK .i64 0,zK .i64 0,zK .i64 0,zI .u8 32 (zC 32 0),yC true 1 []]),(7,.cells A5.ls)] st2
theorem ZaU.p3_ok {st2 A9 at_1 h_2 A8 st15 r c3_ J3} (h:ZaU.p3 N st2 at_1 h_2 A8 c3_ (A9,st15)=some r) (hE:En Tryz.f83 g0 w0 (ZaU.rs r) r.2 R) (hc3 : ∀A9 st15,c3_ (A9,st15)=some r→At g0 w0 (ZaU.p3.S st2 A9 at_1 h_2 A8 st15) J3):At g0 w0 (ZaU.p3.S st2 A9 at_1 h_2 A8 st15) (XK zB R (cK ZaU.B [1,1,1,1,1,0,1,0,0] :: .h J3 :: [.b 0,cK ZaU.B [1,1,1,1,1,1]])):=by
 unfold ZaU.p3 at h;refine Zbc h (fun c17 h1=>?_) (fun c17 h2=>?_)
 ·obtain ⟨c18,c19,h3⟩:=ck2 h1;obtain ⟨x16,c20,h4⟩:=Zdt h3;obtain ⟨st17,c21,h5⟩:=Zac h4;exact an fol [rZ,cT,.r [(4,{oe:=[zK .i64 x16]}),(6,{st:=st17,fz:=[72]})],rZ] [4,5,6,7,8,9] [4,5,6,7] (aN c17 c18 c19 c20 z0 (eN (1)) (Zbg.snd c21)) (hc3 (w64 (A9-1)) st17 h5)
 obtain ⟨st18,c22,h6⟩:=Zac h2;obtain ⟨x19,c23,h7⟩:=ZgK h6;obtain ⟨x20,c24,h8⟩:=Zac h7;obtain ⟨c25,h9⟩:=Zbe h8;exact xT fol h9 hE [rZ,cF,.r [(3,{st:=st18,fz:=[76]})],.r [(0,{rs:=[.row true 1 x20],ns:=[78],m:=10,cv:=[.one (L.bx 1 [vW 1 x19])]}),(2,{fz:=[78]})],rZ] (aO c17 z0 (eN (1)) (Zbg.snd c22) (bO 1 c23 ((bW bN):BVs st18 [yC true 1 x19] [vW 1 x19])) c25 (ZcH.snd c24) (aI z0 (eN (zL x20))))
theorem ZaU.p2_ok {at_1 h_2 A8 st2 r} (h:ZaU.p2 N at_1 h_2 A8 st2=some r) (hE:En Tryz.f83 g0 w0 (ZaU.rs r) r.2 R):At g0 w0 (ZaU.p2.S at_1 h_2 A8 st2) (XK zB R [cK ZaU.B [1,1,1,1]]):=by
 unfold ZaU.p2 at h;exact aq fol [.r [(0,{m:=1})],rZ] [4,5,6,7,8,9] [4,5,6,7] trivial (At.loop N (At.loopN (fun y:Int×LL=>ZaU.p3.S st2 y.1 at_1 h_2 A8 y.2) (fun c J hc y h=>ZaU.p3_ok (A9:=y.1) (st15:=y.2) h hE (fun A9 st15=>hc (A9,st15))) N (w64 ((if (11:Int)<(len at_1.Times) then 11 else (len at_1.Times))-1),st2++[[yC true 1 []]]) h))
theorem ZaU.p1_ok {A0 at_1 h_2 A5 st2 r} (h:ZaU.p1 N A0 at_1 h_2 A5 st2=some r) (hE:En Tryz.f83 g0 w0 (ZaU.rs r) r.2 R):At g0 w0 (ZaU.p1.S A0 at_1 h_2 A5 st2) (XK zB R [cK ZaU.B [1,1,1]]):=by
 unfold ZaU.p1 at h;refine Zbc h (fun c4 h10=>?_) (fun c4 h11=>?_)
 ·have t1 {Q:Prop} (q:Q):=aN c4 c4 c4 c4 c4 c4 q;refine Zbc h10 (fun c5 h12=>?_) (fun c5 h13=>?_)
  ·obtain ⟨x6,c6,h14⟩:=Zac h12;let o1:List PS:=[.r [(14,q1 [oB x6])]]
   have t2 {Q:Prop} (q:Q):=t1 (aO c5 c5 c5 c5 c5 (ZdH.snd c6) c5 (aI c5 q));refine Zbc h14 (fun c7 h15=>?_) (fun c7 h16=>?_)
   ·exact aq fol (o1++[cT,rZ,.s 1]) [4,5,6,7] [4,5,6,7] (t2 c7) (ZaU.p2_ok h15 hE)
   exact aq fol (o1++[cF,.s 1]) [4,5,6,7] [4,5,6,7] (t2 c7) (ZaU.p2_ok h16 hE)
  exact aq fol [.r [(10,wF),(11,wF),(12,wF),(13,wF),(14,wF),(15,wF),(16,yF)],cF,.s 1] [4,5,6,7] [4,5,6,7] (t1 (aO c5 c5 c5 c5 c5 c5 c5 eF)) (ZaU.p2_ok h13 hE)
 exact aq fol [.r [(3,wF),(4,wF),(5,wF),(6,wF),(7,wF),(8,yF),(10,wF),(11,wF),(12,wF),(13,wF),(14,wF),(15,wF),(16,yF)],cF,.s 1] [4,5,6,7] [4,5,6,7] (aO c4 c4 c4 c4 c4 c4 eF (aN eF eF eF eF eF eF eF)) (ZaU.p2_ok h11 hE)
theorem ZaU.snd {A0:Zae} {at_1:ZaX} {h_2:Zak} {st:LL} {r:ZaX×LL} (h:ZaU N A0 at_1 h_2 st=some r):Snd zB 83 [.agg A0.ls,.agg at_1.ls,.agg h_2.ls] st (ZaU.rs r) r.2:=
 sO ZaU.B Tryz.func83 fun g0 w0 R hE=>by
  unfold ZaU at h;obtain ⟨⟨x1,st2⟩,c1,h17⟩:=Zac h;obtain ⟨x3,c2,h18⟩:=Zac h17;let o2:List PS:=[rZ,.d {ds:=[(15,{rs:=[.agg [zI .u8 32 x1]],st:=st2})],hv:=425984,Hs:=[32768,131072,163840,425984]},.r [(4,q1 [oB x3])]]
  have t3 {Q:Prop} (q:Q):=aK (ZeI.snd c1) (ZeI.snd c1) (ZdH.snd c2) q;refine Zbc h18 (fun c3 h19=>?_) (fun c3 h20=>?_)
  ·exact aqd fol (o2++[cT,rZ,.s 1]) [3,4,5,6,7] [3,4,5,6,7] (t3 c3) (ZaU.p1_ok h19 hE)
  exact aqd fol (o2++[cF,.s 1]) [3,4,5,6,7] [3,4,5,6,7] (t3 c3) (ZaU.p1_ok h20 hE)
noncomputable def Zfh.B:Code:=Tryz.f74.body.getD .skip
noncomputable def Zfh.rs (r:ZaX×LL):List CV:=[.agg r.1.ls]
noncomputable def Zfh (N:Nat) (A0:Zae) (st:LL):Option (ZaX×LL):= Zbm (ZaU N A0 (ZaX.mk (ZdV.mk 0 0 0 0 A0.Limit) (zC 32 0) []) A0.Genesis st) fun (x1,st2)=> some (x1,st2)
theorem Zfh.snd {A0:Zae} {st:LL} {r:ZaX×LL} (h:Zfh N A0 st=some r):Snd zB 74 [.agg A0.ls] st (Zfh.rs r) r.2:=
 sO Zfh.B Tryz.func74 fun g0 w0 R hE=>by
  unfold Zfh at h;obtain ⟨⟨x1,st2⟩,c1,h1⟩:=Zac h;exact xT fol h1 hE [rZ,.r [(7,{rs:=[.agg x1.ls],st:=st2})]] (ZaU.snd c1)
end Go.Dn.F
