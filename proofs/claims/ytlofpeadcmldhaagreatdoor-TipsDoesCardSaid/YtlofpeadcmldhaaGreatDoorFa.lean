import Derived.Test.YtlofpeadcmldhaaGreatDoorProg
import Derived.Test.YtlofpeadcmldhaaGreatDoorKd
set_option linter.all false
open ByteArray renaming size→yC
open Go.Dn.L renaming arr→zK,int→zM,own→yT,sl→vR,str→vO,ptr→yN
open Go.Proofs.Tryz renaming prog→zE
open Int renaming toNat→zC
open List renaming length→zG,set→zQ,map→vN,replicate→zB,getD→zF,take→yO,drop→wE
open Option renaming isNone→wY
set_option maxRecDepth 100000
namespace Go.Dn.F
open Go.Proofs
noncomputable def glob_digest_steps:List Int:=[1116352408,1899447441,3049323471,3921009573,961987163,1508970993,2453635748,2870763221,3624381080,310598401,607225278,1426881987,1925078388,2162078206,2614888103,3248222580,3835390401,4022224774,264347078,604807628,770255983,1249150122,1555081692,1996064986,2554220882,2821834349,2952996808,3210313671,3336571891,3584528711,113926993,338241895,666307205,773529912,1294757372,1396182291,1695183700,1986661051,2177026350,2456956037,2730485921,2820302411,3259730800,3345764771,3516065817,3600352804,4094571909,275423344,430227734,506948616,659060556,883997877,958139571,1322822218,1537002063,1747873779,1955562222,2024104815,2227730452,2361852424,2428436474,2756734187,3204031479,3329325298]
noncomputable def glob_digest_starts:List Int:=[1779033703,3144134277,1013904242,2773480762,1359893119,2600822924,528734635,1541459225]
noncomputable instance glob:Globs:=⟨fun k=>match k with
  | 0=>some [zK .u32 8 glob_digest_starts]
  | 1=>some [zK .u32 64 glob_digest_steps]
  | _=>none⟩
theorem fol:Tryz.prog.follows .mixedOrders=true:=by kernel_rfl
abbrev En (f:Func) (g0:G) (w0:World) (rs:List CV) (st:LL) (R:Exit→Act→World→Prop):Prop:=Zmc zE f g0 w0 rs st R
variable {N:Nat} {g0:G} {w0:World} {R:Exit→Act→World→Prop}
structure Zal where
  Version:Int
  Prev:List Int
  Root:List Int
  Time:Int
  Bits:Int
  Nonce:Int
noncomputable def Zal.ls (x:Zal):List L:=[zM .i64 x.Version,zK .u8 32 x.Prev,zK .u8 32 x.Root,zM .i64 x.Time,zM .i64 x.Bits,zM .i64 x.Nonce]
noncomputable def ZdR {α:Type} (l:List L) (k:Zal→Option α):Option α:=match l with | [zM .i64 x0,zK .u8 32 x1,zK .u8 32 x2,zM .i64 x3,zM .i64 x4,zM .i64 x5]=>k ⟨x0,x1,x2,x3,x4,x5⟩ | _=>none
theorem Zen {α:Type} {o:Option (List L)} {k:Zal→Option α} {r:α} (h:ZcS o ZdR k=some r) : ∃x:Zal,o=some x.ls∧k x=some r:=by
  obtain ⟨l,e,k1⟩:=Zae h;subst e;unfold ZdR at k1;split at k1
  · exact ⟨_,rfl,k1⟩
  cases k1
@[simp] theorem Zeu {α:Type} (x:Zal) (k:Zal→Option α):ZdR x.ls k=k x:=rfl
theorem Zal.bv {st:LL} (x:Zal):BVs st x.ls x.ls:=(bP (bP (bP (bP (bP (bP bN))))))
structure Zaq where
  state:List Int
  rest:LL
  size:Int
noncomputable def Zaq.lo (x:Zaq):List L:=[zK .u32 8 x.state,yT false 1 x.rest,zM .u64 x.size]
noncomputable def Zcd {α:Type} (l:List L) (k:Zaq→Option α):Option α:=match l with | [zK .u32 8 x0,yT false 1 x1,zM .u64 x2]=>k ⟨x0,x1,x2⟩ | _=>none
theorem Zct {α:Type} {o:Option (List L)} {k:Zaq→Option α} {r:α} (h:ZcS o Zcd k=some r) : ∃x:Zaq,o=some x.lo∧k x=some r:=by
  obtain ⟨l,e,k1⟩:=Zae h;subst e;unfold Zcd at k1;split at k1
  · exact ⟨_,rfl,k1⟩
  cases k1
@[simp] theorem ZeN {α:Type} (x:Zaq) (k:Zaq→Option α):Zcd x.lo k=k x:=rfl
noncomputable def Zaq.ls (x:Zaq):List L:=[zK .u32 8 x.state,vR 1 x.rest,zM .u64 x.size]
theorem Zaq.bv {st:LL} (x:Zaq):BVs st x.lo x.ls:=(bP (bW (bP bN)))
structure Zah where
  Limit:Int
  Interval:Int
  Spacing:Int
  Future:Int
  Easy:Bool
  Gates:LL
  Checks:LL
  MinWork:List Int
  Margin:List Int
  Genesis:Zal
noncomputable def Zah.ls (x:Zah):List L:=[zM .i64 x.Limit,zM .i64 x.Interval,zM .i64 x.Spacing,zM .i64 x.Future,L.bool x.Easy,vR 2 x.Gates,vR 33 x.Checks,zK .u64 4 x.MinWork,zK .u64 4 x.Margin,zM .i64 x.Genesis.Version,zK .u8 32 x.Genesis.Prev,zK .u8 32 x.Genesis.Root,zM .i64 x.Genesis.Time,zM .i64 x.Genesis.Bits,zM .i64 x.Genesis.Nonce]
structure Zdy where
  Height:Int
  Bits:Int
  Time:Int
  First:Int
  Hard:Int
noncomputable def Zdy.ls (x:Zdy):List L:=[zM .i64 x.Height,zM .i64 x.Bits,zM .i64 x.Time,zM .i64 x.First,zM .i64 x.Hard]
theorem Zdy.bv {st:LL} (x:Zdy):BVs st x.ls x.ls:=(bP (bP (bP (bP (bP bN)))))
structure ZaT where
  Point:Zdy
  Prev:List Int
  Times:LL
noncomputable def ZaT.ls (x:ZaT):List L:=[zM .i64 x.Point.Height,zM .i64 x.Point.Bits,zM .i64 x.Point.Time,zM .i64 x.Point.First,zM .i64 x.Point.Hard,zK .u8 32 x.Prev,vR 1 x.Times]
noncomputable def Zgf {α:Type} (l:List L) (k:ZaT→Option α):Option α:=match l with | [zM .i64 x0,zM .i64 x1,zM .i64 x2,zM .i64 x3,zM .i64 x4,zK .u8 32 x5,vR 1 x6]=>k ⟨⟨x0,x1,x2,x3,x4⟩,x5,x6⟩ | _=>none
theorem Zkb {α:Type} {o:Option (List L)} {k:ZaT→Option α} {r:α} (h:ZcS o Zgf k=some r) : ∃x:ZaT,o=some x.ls∧k x=some r:=by
  obtain ⟨l,e,k1⟩:=Zae h;subst e;unfold Zgf at k1;split at k1
  · exact ⟨_,rfl,k1⟩
  cases k1
@[simp] theorem ZkB {α:Type} (x:ZaT) (k:ZaT→Option α):Zgf x.ls k=k x:=rfl
noncomputable def ZaT.lo (x:ZaT):List L:=[zM .i64 x.Point.Height,zM .i64 x.Point.Bits,zM .i64 x.Point.Time,zM .i64 x.Point.First,zM .i64 x.Point.Hard,zK .u8 32 x.Prev,yT true 1 x.Times]
theorem ZaT.bv {st:LL} (x:ZaT):BVs st x.lo x.ls:=(bP (bP (bP (bP (bP (bP (bW bN)))))))
noncomputable def ZcW {α:Type} (l:List L) (k:Int→Option α):Option α:=match l with | [zM .i64 x0]=>k x0 | _=>none
theorem ZiP {α:Type} {l:List L} {k:Int→Option α} {r:α} (h:ZcW l k=some r) : ∃x0,l = [zM .i64 x0]∧k x0=some r:=by
  unfold ZcW at h;split at h
  · exact ⟨_,rfl,h⟩
  cases h
theorem Zci {α:Type} {o:Option (List L)} {k:Int→Option α} {r:α} (h:ZcS o ZcW k=some r) : ∃x0,o=some [zM .i64 x0]∧k x0=some r:=by
  obtain ⟨l,e,k1⟩:=Zae h;subst e;unfold ZcW at k1;split at k1
  · exact ⟨_,rfl,k1⟩
  cases k1
@[simp] theorem ZdV {α:Type} (x0:Int) (k:Int→Option α):ZcW [zM .i64 x0] k=k x0:=rfl
noncomputable def Zjx {α:Type} (l:List L) (k:LL→Option α):Option α:=match l with | [yT true 1 x0]=>k x0 | _=>none
theorem Zgj {α:Type} {o:Option (List L)} {k:LL→Option α} {r:α} (h:ZcS o Zjx k=some r) : ∃x0,o=some [yT true 1 x0]∧k x0=some r:=by
  obtain ⟨l,e,k1⟩:=Zae h;subst e;unfold Zjx at k1;split at k1
  · exact ⟨_,rfl,k1⟩
  cases k1
@[simp] theorem Zic {α:Type} (x0:LL) (k:LL→Option α):Zjx [yT true 1 x0] k=k x0:=rfl
noncomputable def ZgW {α:Type} (l:List L) (k:(List Int)→Option α):Option α:=match l with | [zK .u8 32 x0]=>k x0 | _=>none
theorem Zho {α:Type} {o:Option (List L)} {k:(List Int)→Option α} {r:α} (h:ZcS o ZgW k=some r) : ∃x0,o=some [zK .u8 32 x0]∧k x0=some r:=by
  obtain ⟨l,e,k1⟩:=Zae h;subst e;unfold ZgW at k1;split at k1
  · exact ⟨_,rfl,k1⟩
  cases k1
@[simp] theorem Zku {α:Type} (x0:List Int) (k:(List Int)→Option α):ZgW [zK .u8 32 x0] k=k x0:=rfl
noncomputable def dec_t {α:Type} (l:List L) (k:ByteArray→Option α):Option α:=match l with | [vO x0]=>k x0 | _=>none
theorem Zte {α:Type} {o:Option (List L)} {k:ByteArray→Option α} {r:α} (h:ZcS o dec_t k=some r) : ∃x0,o=some [vO x0]∧k x0=some r:=by
  obtain ⟨l,e,k1⟩:=Zae h;subst e;unfold dec_t at k1;split at k1
  · exact ⟨_,rfl,k1⟩
  cases k1
@[simp] theorem dec_t_ls {α:Type} (x0:ByteArray) (k:ByteArray→Option α):dec_t [vO x0] k=k x0:=rfl
noncomputable def ZlD {α:Type} (l:List L) (k:Int→Option α):Option α:=match l with | [zM .u8 x0]=>k x0 | _=>none
theorem Ziu {α:Type} {o:Option (List L)} {k:Int→Option α} {r:α} (h:ZcS o ZlD k=some r) : ∃x0,o=some [zM .u8 x0]∧k x0=some r:=by
  obtain ⟨l,e,k1⟩:=Zae h;subst e;unfold ZlD at k1;split at k1
  · exact ⟨_,rfl,k1⟩
  cases k1
@[simp] theorem Zjw {α:Type} (x0:Int) (k:Int→Option α):ZlD [zM .u8 x0] k=k x0:=rfl
noncomputable def Zbm.B:Code:=Tryz.f34.body.getD .skip
noncomputable def Zbm.rs (r:List (List L)):List CV:=[.row true 1 r]
noncomputable def Zbm (N:Nat) (A0:List (List L)):Option (List (List L)):=chk (zG A0*8≤140737488355328) (some A0)
theorem Zbm.snd {A0:LL} {r:LL} (h:Zbm N A0=some r):Zdo zE 34 [.one (.sl 1 A0)] (Zbm.rs r):=fun st=>
  Snd.of (fn:=Tryz.f34) (c:=Zbm.B) Tryz.func34 aG aG (of_decide_eq_true aG) fun g w R hE=>by
    unfold Zbm at h;obtain ⟨c1,h⟩:=ZaW h;obtain rfl:=Zad h;refine At.q (s':=mkS 8 [(0,.one (.l (.sl 1 A0)))] [] st) (ks':=[.c (.seq (.region 1 #[{ dst:=some 3,op:=.move (.tmp 0),type:=34,pos:=opPos (ZbA Zbm.B [1,0]) 0,after:=#[],guard:=none},{ dst:=some 4,op:=.binOp .eql 34 (.tmp 3) (.const (.slice none 0 0)) 34,type:=4,pos:=opPos (ZbA Zbm.B [1,0]) 1,after:=#[⟨0,.data⟩],guard:=none}] false) (ZbA Zbm.B [1,0,1])),cK Zbm.B [1,1]]) fol 400 [.r [(0,{m:=2})],.s 2] [0] [] trivial ?_ aG;refine At.nilcmp (T:=34) (E:=3) (sz:=1) (xs:=A0) (Zhh _) rfl rfl rfl rfl rfl rfl Tryz.underlying34 aG (of_decide_eq_true aG) fun b hb=>?_;cases b with
    | true=>
      obtain rfl:=hb rfl;exact At.f fol hE 400 [cT,.r [(0,{m:=2})]] [] 0 [0] (rfl:true=true) aG
    | false=>
      exact At.f fol hE 400 [cF,rZ] [] 0 [0] (And.intro (rfl:false=false) (And.intro (rfl:(0:Nat)=0) (And.intro (@rfl Nat (zG ([]:List (List L)))) (And.intro c1 (And.intro (rfl:(0:Nat)=0) (@rfl Nat (zG A0))))))) aG
noncomputable def Zdn.B:Code:=Tryz.f81.body.getD .skip
noncomputable def Zdn.rs (r:Bool):List CV:=[oB r]
noncomputable def Zdn (N:Nat) (A0:Int):Option Bool:= if (decide (A0≥0))=true then some (decide (A0≤4294967295)) else some false
theorem Zdn.snd {A0:Int} {r:Bool} (h:Zdn N A0=some r):Zdo zE 81 [oI A0] (Zdn.rs r):=fun st=>
 sO Zdn.B Tryz.func81 fun g0 w0 R hE=>by
  unfold Zdn at h;refine Zba h (fun c1 h1=>?_) (fun c1 h2=>?_)
  ·exact xS fol h1 hE [rZ,rZ] (aJ c1 c1 c1)
  exact xS fol h2 hE [rZ,.r [(3,wF),(4,wF),(5,yF)]] (aJ c1 c1 c1)
noncomputable def Zcx.B:Code:=Tryz.f52.body.getD .skip
noncomputable def Zcx.rs (r:Bool):List CV:=[oB r]
noncomputable def Zcx (N:Nat) (h_0:Zal):Option Bool:= if (decide (h_0.Version≥(-2147483648)))=true then if (decide (h_0.Version<2147483648))=true then if (decide (h_0.Time≥0))=true then if (decide (h_0.Time<4294967296))=true then Zbj (Zdn N h_0.Bits) fun x1=> if x1=true then if (decide (h_0.Nonce≥0))=true then some (decide (h_0.Nonce<4294967296)) else some false else some false else some false else some false else some false else some false
theorem Zcx.snd {h_0:Zal} {r:Bool} (h:Zcx N h_0=some r):Zdo zE 52 [.agg h_0.ls] (Zcx.rs r):=fun st=>
 sO Zcx.B Tryz.func52 fun g0 w0 R hE=>by
  unfold Zcx at h;refine Zba h (fun c1 h1=>?_) (fun c1 h2=>?_)
  ·have t1 {Q:Prop} (q:Q):=aL c1 c1 c1 c1 q;refine Zba h1 (fun c2 h3=>?_) (fun c2 h4=>?_)
   ·have t2 {Q:Prop} (q:Q):=t1 (aL c2 c2 c2 c2 q);refine Zba h3 (fun c3 h5=>?_) (fun c3 h6=>?_)
    ·have t3 {Q:Prop} (q:Q):=t2 (aL c3 c3 c3 c3 q);refine Zba h5 (fun c4 h7=>?_) (fun c4 h8=>?_)
     ·obtain ⟨x1,c5,h9⟩:=Zae h7;have t4 {Q:Prop} (q:Q):=t3 (aM c4 c4 c4 (Zdn.snd c5) c4 q);refine Zba h9 (fun c6 h10=>?_) (fun c6 h11=>?_)
      ·refine Zba h10 (fun c7 h12=>?_) (fun c7 h13=>?_)
       ·exact xS fol h12 hE [rZ,.r [(21,q1 [oB x1])]] (t4 (aO c6 c6 c6 c6 c7 c7 c7 c7))
       exact xS fol h13 hE [rZ,.r [(21,q1 [oB x1]),(29,wF),(30,wF),(31,wF),(32,yF)]] (t4 (aO c6 c6 c6 c6 c7 c7 c7 c7))
      exact xS fol h11 hE [rZ,.r [(21,q1 [oB x1]),(24,wF),(25,wF),(26,wF),(27,yF),(29,wF),(30,wF),(31,wF),(32,yF)]] (t4 (aO c6 c6 c6 c6 eF eF eF eF))
     exact xS fol h8 hE [rZ,.r [(19,wF),(20,wF),(21,wF),(22,yF),(24,wF),(25,wF),(26,wF),(27,yF),(29,wF),(30,wF),(31,wF),(32,yF)]] (t3 (aO c4 c4 c4 c4 eF eF eF (aL eF eF eF eF eF)))
    exact xS fol h6 hE [rZ,.r [(14,wF),(15,wF),(16,wF),(17,yF),(19,wF),(20,wF),(21,wF),(22,yF),(24,wF),(25,wF),(26,wF),(27,yF),(29,wF),(30,wF),(31,wF),(32,yF)]] (t2 (aO c3 c3 c3 c3 eF eF eF (aO eF eF eF eF eF eF eF (aI eF eF))))
   exact xS fol h4 hE [rZ,.r [(9,wF),(10,wF),(11,wF),(12,yF),(14,wF),(15,wF),(16,wF),(17,yF),(19,wF),(20,wF),(21,wF),(22,yF),(24,wF),(25,wF),(26,wF),(27,yF),(29,wF),(30,wF),(31,wF),(32,yF)]] (t1 (aO c2 c2 c2 c2 eF eF eF (aO eF eF eF eF eF eF eF (aM eF eF eF eF eF eF))))
  exact xS fol h2 hE [rZ,.r [(4,wF),(5,wF),(6,wF),(7,yF),(9,wF),(10,wF),(11,wF),(12,yF),(14,wF),(15,wF),(16,wF),(17,yF),(19,wF),(20,wF),(21,wF),(22,yF),(24,wF),(25,wF),(26,wF),(27,yF),(29,wF),(30,wF),(31,wF),(32,yF)]] (aO c1 c1 c1 c1 eF eF eF (aO eF eF eF eF eF eF eF (aO eF eF eF eF eF eF eF (aJ eF eF eF))))
noncomputable def ZaR.B:Code:=Tryz.f127.body.getD .skip
noncomputable def ZaR.rs (r:LL):List CV:=[]
noncomputable def ZaR.p2 (N:Nat) (c1_:((Option Nat)×Int×LL)→Option LL) (A1 x12:Int) (A2:LL) (v1:Int) (c2_:((Option Nat)×Int×LL)→Option LL):((Option Nat)×Int×LL)→Option LL:=fun (A16,v13,st17)=> if (decide (v13<(if (8:Int)<(if (1:Int)>A1 then 1 else A1) then 8 else (if (1:Int)>A1 then 1 else A1))))=true then Zbj A16 fun i18=> ZcS (st17[i18]?) Zjx fun x19=> chk (0≤(w64 (8*v13)))<| chk (zG (x19++[[zM .u8 (v8 (Zbn .i64 x12 (w64 (8*v13))))]])*1≤140737488355328)<| c2_ ((some i18),w64 (v13+1),zQ (zQ st17 i18 [L.gone]) i18 [yT true 1 (x19++[[zM .u8 (v8 (Zbn .i64 x12 (w64 (8*v13))))]])]) else c1_ (A16,w64 (v1+1),st17)
noncomputable def ZaR.p1 (N:Nat) (A1:Int) (A2:LL) (c1_:((Option Nat)×Int×LL)→Option LL):((Option Nat)×Int×LL)→Option LL:=fun (A10,v1,st11)=> if (decide (v1<(len A2)))=true then chk (0≤v1)<| ZcS (A2[zC v1]?) ZcW fun x12=> loopN (ZaR.p2 N c1_ A1 x12 A2 v1) N (A10,0,st11) else some st11
noncomputable def ZaR (N:Nat) (A0:Option Nat) (A1:Int) (A2 st:LL):Option LL:= loopN (ZaR.p1 N A1 A2) N (A0,0,st)
noncomputable def ZaR.p2.S (A16:Option Nat) (A1 x12:Int) (A2:LL) (v1 v13:Int) (st17:LL):S:=mkS 37 [(0,sP A16),(1,sI A1),(7,sI x12),(9,sV 1 A2),(10,sI (len A2)),(11,sI v1),(17,sI (if (8:Int)<(if (1:Int)>A1 then 1 else A1) then 8 else (if (1:Int)>A1 then 1 else A1))),(18,sI v13)] [] st17
noncomputable def ZaR.p1.S (A10:Option Nat) (A1:Int) (A2:LL) (v1:Int) (st11:LL):S:=mkS 37 [(0,sP A10),(1,sI A1),(9,sV 1 A2),(10,sI (len A2)),(11,sI v1)] [] st11
theorem ZaR.p2_ok {A16 A1 x12 A2 v1 v13 st17 r c1_ c2_ J1 J2} (h:ZaR.p2 N c1_ A1 x12 A2 v1 c2_ (A16,v13,st17)=some r) (hE:En Tryz.f127 g0 w0 (ZaR.rs r) r R) (hc1 : ∀A10 v1 st11,c1_ (A10,v1,st11)=some r→At g0 w0 (ZaR.p1.S A10 A1 A2 v1 st11) J1) (hc2 : ∀A16 v13 st17,c2_ (A16,v13,st17)=some r→At g0 w0 (ZaR.p2.S A16 A1 x12 A2 v1 v13 st17) J2):At g0 w0 (ZaR.p2.S A16 A1 x12 A2 v1 v13 st17) (XK zE R (cK ZaR.B [1,0,0,1,1,0,0,1,1,0,0] :: .h J2 :: [.b 2,.b 1,cK ZaR.B [1,0,0,1,1,1],.h J1,.b 0])):=by
 unfold ZaR.p2 at h;refine Zba h (fun c22 h1=>?_) (fun c22 h2=>?_)
 ·obtain ⟨i18,rfl,h3⟩:=Zae h1;obtain ⟨x19,c24,h4⟩:=Zgj h3;obtain ⟨c25,c26,h5⟩:=ck2 h4;exact ZkD fol [rZ,cT,rZ,.d {ds:=[(4,{oc:=[yT true 1 x19]}),(11,{oe:=[yT true 1 x19]}),(14,{oc:=[L.gone],mv:=[32]})],hv:=19456,Hs:=[1024,3072,19456]},rZ] [0,1,7,9,10,11,17,18] [] (aO c22 c24 c24 c25 z0 (eN (zG x19)) c24 (aM z0 (eN (1)) c26 (Zap c24 [L.gone]) z0 (eN (zG (x19++[[zM .u8 (v8 (Zbn .i64 x12 (w64 (8*v13))))]]))))) (hc2 (some i18) (w64 (v13+1)) (zQ (zQ st17 i18 [L.gone]) i18 [yT true 1 (x19++[[zM .u8 (v8 (Zbn .i64 x12 (w64 (8*v13))))]])]) h5)
 exact an fol [rZ,cF,rZ] [0,1,9,10,11] [] c22 (hc1 A16 (w64 (v1+1)) st17 h2)
theorem ZaR.p1_ok {A10 A1 A2 v1 st11 r c1_ J1} (h:ZaR.p1 N A1 A2 c1_ (A10,v1,st11)=some r) (hE:En Tryz.f127 g0 w0 (ZaR.rs r) r R) (hc1 : ∀A10 v1 st11,c1_ (A10,v1,st11)=some r→At g0 w0 (ZaR.p1.S A10 A1 A2 v1 st11) J1):At g0 w0 (ZaR.p1.S A10 A1 A2 v1 st11) (XK zE R (cK ZaR.B [1,0,0] :: .h J1 :: [.b 0])):=by
 unfold ZaR.p1 at h;refine Zba h (fun c14 h6=>?_) (fun c14 h7=>?_)
 ·obtain ⟨c15,h8⟩:=ZaW h6;obtain ⟨x12,c16,h9⟩:=Zci h8;exact aq fol [rZ,cT,.r [(1,{oe:=[zM .i64 x12]})],rZ] [0,1,7,9,10,11,17,18] [] (aK c14 c15 (oD c14) c16) (At.loop N (At.loopN (fun y:(Option Nat)×Int×LL=>ZaR.p2.S y.1 A1 x12 A2 v1 y.2.1 y.2.2) (fun c J hc y h=>ZaR.p2_ok (A16:=y.1) (v13:=y.2.1) (st17:=y.2.2) h hE hc1 (fun A16 v13 st17=>hc (A16,v13,st17))) N (A10,0,st11) h9))
 exact xR fol h7 hE [rZ,cF] c14
theorem ZaR.snd {A0:Option Nat} {A1:Int} {A2:LL} {st:LL} {r:LL} (h:ZaR N A0 A1 A2 st=some r):Snd zE 127 [.one (yN A0),oI A1,.one (vR 1 A2)] st (ZaR.rs r) r:=
 sO ZaR.B Tryz.func127 fun g0 w0 R hE=>by
  unfold ZaR at h;exact aq fol [rZ] [0,1,9,10,11] [] trivial (At.loop N (At.loopN (fun y:(Option Nat)×Int×LL=>ZaR.p1.S y.1 A1 A2 y.2.1 y.2.2) (fun c J hc y h=>ZaR.p1_ok (A10:=y.1) (v1:=y.2.1) (st11:=y.2.2) h hE (fun A10 v1 st11=>hc (A10,v1,st11))) N (A0,0,st) h))
noncomputable def Zbr.B:Code:=Tryz.f128.body.getD .skip
noncomputable def Zbr.rs (r:LL):List CV:=[]
noncomputable def Zbr.p1 (N:Nat) (A1:LL) (c1_:((Option Nat)×Int×LL)→Option LL):((Option Nat)×Int×LL)→Option LL:=fun (A5,v1,st6)=> if (decide (v1<(len A1)))=true then chk (0≤v1)<| ZcS (A1[zC v1]?) ZgW fun x7=> Zbj A5 fun i8=> ZcS (st6[i8]?) Zjx fun x9=> chk (zG (x9++(vN (fun x=>[zM .u8 x]) x7))*1≤140737488355328)<| c1_ ((some i8),w64 (v1+1),zQ (zQ st6 i8 [L.gone]) i8 [yT true 1 (x9++(vN (fun x=>[zM .u8 x]) x7))]) else some st6
noncomputable def Zbr (N:Nat) (A0:Option Nat) (A1 st:LL):Option LL:= loopN (Zbr.p1 N A1) N (A0,0,st)
noncomputable def Zbr.p1.S (A5:Option Nat) (A1:LL) (v1:Int) (st6:LL):S:=mkS 22 [(0,sP A5),(6,sV 32 A1),(7,sI (len A1)),(8,sI v1)] [] st6
theorem Zbr.p1_ok {A5 A1 v1 st6 r c1_ J1} (h:Zbr.p1 N A1 c1_ (A5,v1,st6)=some r) (hE:En Tryz.f128 g0 w0 (Zbr.rs r) r R) (hc1 : ∀A5 v1 st6,c1_ (A5,v1,st6)=some r→At g0 w0 (Zbr.p1.S A5 A1 v1 st6) J1):At g0 w0 (Zbr.p1.S A5 A1 v1 st6) (XK zE R (cK Zbr.B [1,0,0] :: .h J1 :: [.b 0])):=by
 unfold Zbr.p1 at h;refine Zba h (fun c7 h1=>?_) (fun c7 h2=>?_)
 ·obtain ⟨c8,h3⟩:=ZaW h1;obtain ⟨x7,c9,h4⟩:=Zho h3;obtain ⟨i8,rfl,h5⟩:=Zae h4;obtain ⟨x9,c11,h6⟩:=Zgj h5;obtain ⟨c12,h7⟩:=ZaW h6;exact ZkD fol [rZ,cT,.r [(1,{oe:=[zK .u8 32 x7]})],.d {ds:=[(4,{oc:=[yT true 1 x9]}),(6,{oe:=[yT true 1 x9]}),(9,{oc:=[L.gone],mv:=[18]})],hv:=576,Hs:=[64,576]},rZ] [0,6,7,8] [] (aO c7 c8 (oD c7) c9 c11 (leN 0 32) (leN 32 32) (aN z0 (eN (zG x9)) c11 c12 (Zap c11 [L.gone]) z0 (eN (zG (x9++(vN (fun x=>[zM .u8 x]) x7)))))) (hc1 (some i8) (w64 (v1+1)) (zQ (zQ st6 i8 [L.gone]) i8 [yT true 1 (x9++(vN (fun x=>[zM .u8 x]) x7))]) h7)
 exact xR fol h2 hE [rZ,cF] c7
theorem Zbr.snd {A0:Option Nat} {A1:LL} {st:LL} {r:LL} (h:Zbr N A0 A1 st=some r):Snd zE 128 [.one (yN A0),.one (vR 32 A1)] st (Zbr.rs r) r:=
 sO Zbr.B Tryz.func128 fun g0 w0 R hE=>by
  unfold Zbr at h;exact aq fol [rZ] [0,6,7,8] [] trivial (At.loop N (At.loopN (fun y:(Option Nat)×Int×LL=>Zbr.p1.S y.1 A1 y.2.1 y.2.2) (fun c J hc y h=>Zbr.p1_ok (A5:=y.1) (v1:=y.2.1) (st6:=y.2.2) h hE (fun A5 v1 st6=>hc (A5,v1,st6))) N (A0,0,st) h))
noncomputable def Zcg.B:Code:=Tryz.f109.body.getD .skip
noncomputable def Zcg.rs (r:LL):List CV:=[]
noncomputable def Zcg.p1 (N:Nat) (A0:Option Nat) (h_2:Zal) (st:LL):Option LL:= Zbj (ZaR N A0 4 [[zM .i64 h_2.Version]] st) fun st3=> Zbj (Zbr N A0 [[zK .u8 32 h_2.Prev],[zK .u8 32 h_2.Root]] st3) fun st4=> Zbj (ZaR N A0 4 [[zM .i64 h_2.Time],[zM .i64 h_2.Bits],[zM .i64 h_2.Nonce]] st4) fun st5=> some st5
noncomputable def Zcg (N:Nat) (A0:Option Nat) (A1:Zal) (st:LL):Option LL:= Zbj (Zcx N A1) fun x1=> if (!x1)=true then Zcg.p1 N A0 (Zal.mk 0 (zB 32 0) (zB 32 0) 0 0 0) st else Zcg.p1 N A0 A1 st
noncomputable def Zcg.p1.S (A0:Option Nat) (h_2:Zal) (st:LL):S:=mkS 29 [(0,sP A0),(3,sA 3)] [(3,.cells h_2.ls)] st
theorem Zcg.p1_ok {A0 h_2 st r} (h:Zcg.p1 N A0 h_2 st=some r) (hE:En Tryz.f109 g0 w0 (Zcg.rs r) r R):At g0 w0 (Zcg.p1.S A0 h_2 st) (XK zE R [cK Zcg.B [1,1]]):=by
 unfold Zcg.p1 at h;obtain ⟨st3,c3,h1⟩:=Zae h;obtain ⟨st4,c4,h2⟩:=Zae h1;obtain ⟨st5,c5,h3⟩:=Zae h2;exact xR fol h3 hE [.r [(4,{st:=st3,fz:=[11]})],.r [(6,{st:=st4,fz:=[18]})],.r [(8,{st:=st5,fz:=[27]})]] (aO z0 (eN (1)) (ZaR.snd c3) z0 (eN (2)) (Zbr.snd c4) z0 (aI (eN (3)) (ZaR.snd c5)))
theorem Zcg.snd {A0:Option Nat} {A1:Zal} {st:LL} {r:LL} (h:Zcg N A0 A1 st=some r):Snd zE 109 [.one (yN A0),.agg A1.ls] st (Zcg.rs r) r:=
 sO Zcg.B Tryz.func109 fun g0 w0 R hE=>by
  unfold Zcg at h;obtain ⟨x1,c1,h4⟩:=Zae h;let o1:List PS:=[rZ,.r [(1,q1 [oB x1])]]
  refine Zba h4 (fun c2 h5=>?_) (fun c2 h6=>?_)
  ·exact aq fol (o1++[cT,rZ,.s 1]) [0,3] [3] (aI (Zcx.snd c1) c2) (Zcg.p1_ok h5 hE)
  exact aq fol (o1++[cF,.s 1]) [0,3] [3] (aI (Zcx.snd c1) c2) (Zcg.p1_ok h6 hE)
noncomputable def ZcI.B:Code:=Tryz.f110.body.getD .skip
noncomputable def ZcI.rs (r:ByteArray):List CV:=[.one (vO r)]
noncomputable def ZcI (N:Nat) (A0:LL):Option ByteArray:= chk (isB A0=true)<| some (ZkA (vN Zfr A0))
theorem ZcI.snd {A0:LL} {r:ByteArray} (h:ZcI N A0=some r):Zdo zE 110 [.one (L.bx 1 [vR 1 A0])] (ZcI.rs r):=fun st=>
 sO ZcI.B Tryz.func110 fun g0 w0 R hE=>by
  unfold ZcI at h;obtain ⟨c1,h1⟩:=ZaW h;exact xS fol h1 hE [rZ,.r [(3,{oe:=[vR 1 A0]})]] (aI (eO [vR 1 A0]) c1)
noncomputable def Zdm.B:Code:=Tryz.f82.body.getD .skip
noncomputable def Zdm.rs (r:ByteArray×Int×LL):List CV:=[.one (vO r.1),oI r.2.1]
noncomputable def Zdm (N:Nat) (h_0:Zal) (st:LL):Option (ByteArray×Int×LL):= Zbj (Zcx N h_0) fun x1=> if (!x1)=true then some ((ByteArray.mk #[]),1,st) else Zbj (Zcg N (some (zG st)) h_0 (st++[[yT true 1 []]])) fun st2=> ZcS (st2[zG st]?) Zjx fun x3=> Zbj (ZcI N x3) fun x4=> some (x4,0,st2)
theorem Zdm.snd {h_0:Zal} {st:LL} {r:ByteArray×Int×LL} (h:Zdm N h_0 st=some r):Snd zE 82 [.agg h_0.ls] st (Zdm.rs r) r.2.2:=
 sO Zdm.B Tryz.func82 fun g0 w0 R hE=>by
  unfold Zdm at h;obtain ⟨x1,c1,h1⟩:=Zae h;let o1:List PS:=[rZ,.r [(1,q1 [oB x1])]]
  refine Zba h1 (fun c2 h2=>?_) (fun c2 h3=>?_)
  ·exact xU fol h2 hE (o1++[cT,rZ]) (aI (Zcx.snd c1) c2)
  obtain ⟨st2,c3,h4⟩:=Zae h3;obtain ⟨x3,c4,h5⟩:=Zgj h4;obtain ⟨x4,c5,h6⟩:=Zae h5;exact xU fol h6 hE (o1++[cF,.r [(0,{ns:=[0]}),(1,{m:=1})],.r [(2,{st:=st2})],.r [(1,{rs:=[.one (vO x4)],m:=10,cv:=[.one (L.bx 1 [vR 1 x3])]})]]) (aL (Zcx.snd c1) c2 (Zcg.snd c3) (bO 1 c4 ((bW bN):BVs st2 [yT true 1 x3] [vR 1 x3])) (ZcI.snd c5))
noncomputable def ZeL.B:Code:=Tryz.f129.body.getD .skip
noncomputable def ZeL.rs (r:(Option Nat)×LL):List CV:=[.one (yN r.1)]
noncomputable def ZeL (N:Nat) (st:LL):Option ((Option Nat)×LL):= some ((some (zG st)),st++[Zaq.lo (Zaq.mk glob_digest_starts [] 0)])
theorem ZeL.snd {st:LL} {r:(Option Nat)×LL} (h:ZeL N st=some r):Snd zE 129 [] st (ZeL.rs r) r.2:=
 sO ZeL.B Tryz.func129 fun g0 w0 R hE=>by
  unfold ZeL at h;exact xT fol h hE [rZ,.r [(1,{mv:=[1]}),(2,{m:=1})]] trivial
noncomputable def Zca.B:Code:=Tryz.f162.body.getD .skip
noncomputable def Zca.rs (r:Int):List CV:=[.one (zM .u32 r)]
noncomputable def Zca (N:Nat) (A0 F1:Int):Option Int:= chk (0≤(ZaG .and .u64 (v64 (F1)) 31))<| chk (0≤(v64 (32-(ZaG .and .u64 (v64 (F1)) 31))))<| some (ZaG .or .u32 (ZbB .u32 A0 (ZaG .and .u64 (v64 (F1)) 31)) (Zbn .u32 A0 (v64 (32-(ZaG .and .u64 (v64 (F1)) 31)))))
theorem Zca.snd {A0 F1:Int} {r:Int} (h:Zca N A0 F1=some r):Zdo zE 162 [.one (zM .u32 A0),oI F1] (Zca.rs r):=fun st=>
 sO Zca.B Tryz.func162 fun g0 w0 R hE=>by
  unfold Zca at h;obtain ⟨c1,c2,h1⟩:=ck2 h;exact xS fol h1 hE [rZ,rZ,rZ] (aI c1 c2)
noncomputable def Zbi.B:Code:=Tryz.f150.body.getD .skip
noncomputable def Zbi.rs (r:Int):List CV:=[.one (zM .u32 r)]
noncomputable def Zbi.p1 (N:Nat) (A0:Int) (F1:LL) (c1_:(Int×Int)→Option Int):(Int×Int)→Option Int:=fun (A1,v2)=> if (decide (v2<(len F1)))=true then chk (0≤v2)<| ZcS (F1[zC v2]?) ZcW fun x3=> Zbj (Zca N A0 (w64 (0-x3))) fun x4=> c1_ (ZaG .xor .u32 A1 x4,w64 (v2+1)) else some A1
noncomputable def Zbi (N:Nat) (A0:Int) (F1:LL):Option Int:= loopN (Zbi.p1 N A0 F1) N (0,0)
noncomputable def Zbi.p1.S (A0 A1:Int) (F1:LL) (v2:Int) (st:LL):S:=mkS 22 [(0,.one (.l (zM .u32 A0))),(5,.one (.l (zM .u32 A1))),(8,sV 1 F1),(9,sI (len F1)),(10,sI v2)] [] st
theorem Zbi.p1_ok {A0 A1 F1 v2 st r c1_ J1} (h:Zbi.p1 N A0 F1 c1_ (A1,v2)=some r) (hE:En Tryz.f150 g0 w0 (Zbi.rs r) st R) (hc1 : ∀A1 v2,c1_ (A1,v2)=some r→At g0 w0 (Zbi.p1.S A0 A1 F1 v2 st) J1):At g0 w0 (Zbi.p1.S A0 A1 F1 v2 st) (XK zE R (cK Zbi.B [1,1,0,1,0,0] :: .h J1 :: [.b 0,cK Zbi.B [1,1,1]])):=by
 unfold Zbi.p1 at h;refine Zba h (fun c1 h1=>?_) (fun c1 h2=>?_)
 ·obtain ⟨c2,h3⟩:=ZaW h1;obtain ⟨x3,c3,h4⟩:=Zci h3;obtain ⟨x4,c4,h5⟩:=Zae h4;exact an fol [rZ,cT,.r [(1,{oe:=[zM .i64 x3]})],.r [(4,q1 [.one (zM .u32 x4)])],rZ] [0,5,8,9,10] [] (aL c1 c2 (oD c1) c3 (Zca.snd c4)) (hc1 (ZaG .xor .u32 A1 x4) (w64 (v2+1)) h5)
 exact xS fol h2 hE [rZ,cF,rZ] c1
theorem Zbi.snd {A0:Int} {F1:LL} {r:Int} (h:Zbi N A0 F1=some r):Zdo zE 150 [.one (zM .u32 A0),.one (vR 1 F1)] (Zbi.rs r):=fun st=>
 sO Zbi.B Tryz.func150 fun g0 w0 R hE=>by
  unfold Zbi at h;exact aq fol [rZ,rZ,rZ] [0,5,8,9,10] [] trivial (At.loop N (At.loopN (fun y:Int×Int=>Zbi.p1.S A0 y.1 F1 y.2 st) (fun c J hc y h=>Zbi.p1_ok (A1:=y.1) (v2:=y.2) h hE (fun A1 v2=>hc (A1,v2))) N (0,0) h))
noncomputable def Zaj.B:Code:=Tryz.f143.body.getD .skip
noncomputable def Zaj.rs (r:LL):List CV:=[]
noncomputable def Zaj.p4 (N:Nat) (i71:Nat) (A80:List Int) (c4_:(Int×LL)→Option LL):(Int×LL)→Option LL:=fun (v83,st85)=> if (decide (v83<8))=true then chk (0≤v83)<| ZcS (st85[i71]?) Zcd fun x86=> c4_ (w64 (v83+1),zQ st85 i71 (Zaq.lo {x86 with state:=zQ x86.state (zC v83) (v32 ((zF x86.state (zC v83) 0)+(zF A80 (zC v83) 0)))})) else some st85
noncomputable def Zaj.p3 (N:Nat) (i71:Nat) (A68:List Int) (st:LL) (c3_:(Int×(List Int))→Option LL):(Int×(List Int))→Option LL:=fun (v73,A80)=> if (decide (v73<64))=true then Zbj (Zbi N (zF A80 4 0) [[zM .i64 6],[zM .i64 11],[zM .i64 25]]) fun x81=> chk (0≤v73)<| Zbj (Zbi N (zF A80 0 0) [[zM .i64 2],[zM .i64 13],[zM .i64 22]]) fun x82=> c3_ (w64 (v73+1),[v32 ((v32 ((v32 ((v32 ((v32 ((zF A80 7 0)+x81))+(ZaG .xor .u32 (ZaG .and .u32 (zF A80 4 0) (zF A80 5 0)) (ZaG .and .u32 (ZaG .xor .u32 (IntKind.max IntKind.u32) (zF A80 4 0)) (zF A80 6 0)))))+(zF glob_digest_steps (zC v73) 0)))+(zF A68 (zC v73) 0)))+(v32 (x82+(ZaG .xor .u32 (ZaG .xor .u32 (ZaG .and .u32 (zF A80 0 0) (zF A80 1 0)) (ZaG .and .u32 (zF A80 0 0) (zF A80 2 0))) (ZaG .and .u32 (zF A80 1 0) (zF A80 2 0)))))),zF A80 0 0,zF A80 1 0,zF A80 2 0,v32 ((zF A80 3 0)+(v32 ((v32 ((v32 ((v32 ((zF A80 7 0)+x81))+(ZaG .xor .u32 (ZaG .and .u32 (zF A80 4 0) (zF A80 5 0)) (ZaG .and .u32 (ZaG .xor .u32 (IntKind.max IntKind.u32) (zF A80 4 0)) (zF A80 6 0)))))+(zF glob_digest_steps (zC v73) 0)))+(zF A68 (zC v73) 0)))),zF A80 4 0,zF A80 5 0,zF A80 6 0]) else loopN (Zaj.p4 N i71 A80) N (0,st)
noncomputable def Zaj.p2 (N:Nat) (h_0:Option Nat) (st:LL) (c2_:(Int×(List Int))→Option LL):(Int×(List Int))→Option LL:=fun (A49,A68)=> if (decide (A49<64))=true then chk (0≤(w64 (A49-15)))<| chk ((w64 (A49-15))<64)<| chk (0≤(w64 (A49-2)))<| chk ((w64 (A49-2))<64)<| chk (0≤(w64 (A49-16)))<| chk ((w64 (A49-16))<64)<| Zbj (Zbi N (zF A68 (zC (w64 (A49-15))) 0) [[zM .i64 7],[zM .i64 18]]) fun x69=> chk (0≤(w64 (A49-7)))<| chk ((w64 (A49-7))<64)<| Zbj (Zbi N (zF A68 (zC (w64 (A49-2))) 0) [[zM .i64 17],[zM .i64 19]]) fun x70=> chk (0≤A49)<| c2_ (w64 (A49+1),zQ A68 (zC A49) (v32 ((v32 ((v32 ((zF A68 (zC (w64 (A49-16))) 0)+(ZaG .xor .u32 x69 (Zbn .u32 (zF A68 (zC (w64 (A49-15))) 0) 3))))+(zF A68 (zC (w64 (A49-7))) 0)))+(ZaG .xor .u32 x70 (Zbn .u32 (zF A68 (zC (w64 (A49-2))) 0) 10))))) else Zbj h_0 fun i71=> ZcS (st[i71]?) Zcd fun x72=> loopN (Zaj.p3 N i71 A68 st) N (0,x72.state)
noncomputable def Zaj.p1 (N:Nat) (h_0:Option Nat) (A1 st:LL) (c1_:(Int×(List Int))→Option LL):(Int×(List Int))→Option LL:=fun (v1,A44)=> if (decide (v1<16))=true then chk (0≤(w64 (4*v1)))<| chk ((w64 (4*v1))<(len A1))<| ZcS (A1[zC (w64 (4*v1))]?) ZlD fun x45=> chk (0≤(w64 ((w64 (4*v1))+1)))<| chk ((w64 ((w64 (4*v1))+1))<(len A1))<| ZcS (A1[zC (w64 ((w64 (4*v1))+1))]?) ZlD fun x46=> chk (0≤(w64 ((w64 (4*v1))+2)))<| chk ((w64 ((w64 (4*v1))+2))<(len A1))<| ZcS (A1[zC (w64 ((w64 (4*v1))+2))]?) ZlD fun x47=> chk (0≤(w64 ((w64 (4*v1))+3)))<| chk ((w64 ((w64 (4*v1))+3))<(len A1))<| ZcS (A1[zC (w64 ((w64 (4*v1))+3))]?) ZlD fun x48=> chk (0≤v1)<| chk (v1<64)<| c1_ (w64 (v1+1),zQ A44 (zC v1) (ZaG .or .u32 (ZaG .or .u32 (ZaG .or .u32 (ZbB .u32 (v32 (x45)) 24) (ZbB .u32 (v32 (x46)) 16)) (ZbB .u32 (v32 (x47)) 8)) (v32 (x48)))) else loopN (Zaj.p2 N h_0 st) N (16,A44)
noncomputable def Zaj (N:Nat) (h_0:Option Nat) (A1 st:LL):Option LL:= loopN (Zaj.p1 N h_0 A1 st) N (0,zB 64 0)
noncomputable def Zaj.p4.S (i71:Nat) (v83:Int) (A80:List Int) (st85:LL):S:=mkS 189 [(0,sP (some i71)),(9,sA 9),(172,sI v83)] [(9,.cells [zK .u32 8 A80])] st85
noncomputable def Zaj.p3.S (i71:Nat) (v73:Int) (A68 A80:List Int) (st:LL):S:=mkS 189 [(0,sP (some i71)),(4,sA 4),(9,sA 9),(96,sI v73)] [(4,.cells [zK .u32 64 A68]),(9,.cells [zK .u32 8 A80])] st
noncomputable def Zaj.p2.S (h_0:Option Nat) (A49:Int) (A68:List Int) (st:LL):S:=mkS 189 [(0,sP h_0),(4,sA 4),(6,sI A49)] [(4,.cells [zK .u32 64 A68])] st
noncomputable def Zaj.p1.S (h_0:Option Nat) (A1:LL) (v1:Int) (A44:List Int) (st:LL):S:=mkS 189 [(0,sP h_0),(1,sV 1 A1),(4,sA 4),(16,sI v1)] [(4,.cells [zK .u32 64 A44])] st
theorem Zaj.p4_ok {i71 v83 A80 st85 r c4_ J4} (h:Zaj.p4 N i71 A80 c4_ (v83,st85)=some r) (hE:En Tryz.f143 g0 w0 (Zaj.rs r) r R) (hc4 : ∀v83 st85,c4_ (v83,st85)=some r→At g0 w0 (Zaj.p4.S i71 v83 A80 st85) J4):At g0 w0 (Zaj.p4.S i71 v83 A80 st85) (XK zE R (cK Zaj.B [1,1,1,1,1,1,0,0] :: .h J4 :: [.b 6])):=by
 unfold Zaj.p4 at h;refine Zba h (fun c164 h1=>?_) (fun c164 h2=>?_)
 ·obtain ⟨c165,h3⟩:=ZaW h1;obtain ⟨x86,c166,h4⟩:=Zct h3;exact ZkD fol [rZ,cT,rZ,.d {ds:=[(5,{oc:=x86.lo}),(13,{oc:=x86.lo})],hv:=8192,Hs:=[8192]},rZ] [0,9,172] [9] (aO c164 c165 (oD c164) c166 c165 (oD c164) c165 (aI (oD c164) c166)) (hc4 (w64 (v83+1)) (zQ st85 i71 (Zaq.lo {x86 with state:=zQ x86.state (zC v83) (v32 ((zF x86.state (zC v83) 0)+(zF A80 (zC v83) 0)))})) h4)
 exact xR fol h2 hE [rZ,cF] c164
theorem Zaj.p3_ok {i71 v73 A68 A80 st r c3_ J3} (h:Zaj.p3 N i71 A68 st c3_ (v73,A80)=some r) (hE:En Tryz.f143 g0 w0 (Zaj.rs r) r R) (hc3 : ∀v73 A80,c3_ (v73,A80)=some r→At g0 w0 (Zaj.p3.S i71 v73 A68 A80 st) J3):At g0 w0 (Zaj.p3.S i71 v73 A68 A80 st) (XK zE R (cK Zaj.B [1,1,1,1,0,1,0,0] :: .h J3 :: [.b 4,cK Zaj.B [1,1,1,1,1]])):=by
 unfold Zaj.p3 at h;refine Zba h (fun c157 h5=>?_) (fun c157 h6=>?_)
 ·obtain ⟨x81,c158,h7⟩:=Zae h5;obtain ⟨c159,h8⟩:=ZaW h7;obtain ⟨x82,c160,h9⟩:=Zae h8;exact ZkD fol [rZ,cT,rZ,rZ,rZ,.d {ds:=[(5,{rs:=[.one (zM .u32 x81)],m:=2})],hv:=16,Hs:=[16]},.r [(3,{rs:=[.one (zM .u32 x82)],m:=2})],.r [(19,{m:=3})],rZ] [0,4,9,96] [4,9] (aI c157 (ix 4 8 (ix 5 8 (ix 4 8 (ix 6 8 (ix 0 8 (ix 1 8 (ix 0 8 (ix 2 8 (ix 1 8 (ix 2 8 (ix 7 8 (ix 7 8 (ix 4 8 (ix 4 8 (aO z0 (eN (3)) (Zbi.snd c158) c159 (oD c157) c159 (oD c157) (aL c159 (oD c157) c159 (oD c157) (ix 0 8 (aK z0 (eN (3)) (Zbi.snd c160) (ix 0 8 (ix 1 8 (ix 2 8 (ix 3 8 (ix 4 8 (ix 5 8 (aI (leI 0 6) (ltI 6 8))))))))))))))))))))))))))) (hc3 (w64 (v73+1)) [v32 ((v32 ((v32 ((v32 ((v32 ((zF A80 7 0)+x81))+(ZaG .xor .u32 (ZaG .and .u32 (zF A80 4 0) (zF A80 5 0)) (ZaG .and .u32 (ZaG .xor .u32 (IntKind.max IntKind.u32) (zF A80 4 0)) (zF A80 6 0)))))+(zF glob_digest_steps (zC v73) 0)))+(zF A68 (zC v73) 0)))+(v32 (x82+(ZaG .xor .u32 (ZaG .xor .u32 (ZaG .and .u32 (zF A80 0 0) (zF A80 1 0)) (ZaG .and .u32 (zF A80 0 0) (zF A80 2 0))) (ZaG .and .u32 (zF A80 1 0) (zF A80 2 0)))))),zF A80 0 0,zF A80 1 0,zF A80 2 0,v32 ((zF A80 3 0)+(v32 ((v32 ((v32 ((v32 ((zF A80 7 0)+x81))+(ZaG .xor .u32 (ZaG .and .u32 (zF A80 4 0) (zF A80 5 0)) (ZaG .and .u32 (ZaG .xor .u32 (IntKind.max IntKind.u32) (zF A80 4 0)) (zF A80 6 0)))))+(zF glob_digest_steps (zC v73) 0)))+(zF A68 (zC v73) 0)))),zF A80 4 0,zF A80 5 0,zF A80 6 0] h9)
 exact aq fol [rZ,cF,rZ] [0,9,172] [9] c157 (At.loop N (At.loopN (fun y:Int×LL=>Zaj.p4.S i71 y.1 A80 y.2) (fun c J hc y h=>Zaj.p4_ok (v83:=y.1) (st85:=y.2) h hE (fun v83 st85=>hc (v83,st85))) N (0,st) h6))
theorem Zaj.p2_ok {h_0 A49 A68 st r c2_ J2} (h:Zaj.p2 N h_0 st c2_ (A49,A68)=some r) (hE:En Tryz.f143 g0 w0 (Zaj.rs r) r R) (hc2 : ∀A49 A68,c2_ (A49,A68)=some r→At g0 w0 (Zaj.p2.S h_0 A49 A68 st) J2):At g0 w0 (Zaj.p2.S h_0 A49 A68 st) (XK zE R (cK Zaj.B [1,1,0,1,0,0] :: .h J2 :: [.b 2,cK Zaj.B [1,1,1]])):=by
 unfold Zaj.p2 at h;refine Zba h (fun c133 h10=>?_) (fun c133 h11=>?_)
 ·obtain ⟨c134,c135,c136,c137,c138,c139,h12⟩:=ck6 h10;obtain ⟨x69,c140,h13⟩:=Zae h12;obtain ⟨c141,c142,h14⟩:=ck2 h13;obtain ⟨x70,c143,h15⟩:=Zae h14;obtain ⟨c144,h16⟩:=ZaW h15;exact ZkD fol [rZ,cT,.d {ds:=[],hv:=0,Hs:=[]},.d {ds:=[(7,{rs:=[.one (zM .u32 x69)],m:=2}),(19,{rs:=[.one (zM .u32 x70)],m:=2})],hv:=33816640,Hs:=[64,262144,262208,33816640]},rZ] [0,4,6] [4] (aO c133 c134 c135 c136 c137 c138 c139 (aO c138 c139 c138 c139 c138 c139 z0 (aO (eN (2)) (Zbi.snd c140) z0 (eN (2)) (Zbi.snd c140) (leI 0 3) (leI 0 3) (aO (leI 0 3) (leI 0 3) c141 c142 c141 c142 c141 (aO c142 c141 c142 z0 (eN (2)) (Zbi.snd c143) (leI 0 10) (aL (leI 0 10) (leI 0 10) (leI 0 10) c144 (oD c133))))))) (hc2 (w64 (A49+1)) (zQ A68 (zC A49) (v32 ((v32 ((v32 ((zF A68 (zC (w64 (A49-16))) 0)+(ZaG .xor .u32 x69 (Zbn .u32 (zF A68 (zC (w64 (A49-15))) 0) 3))))+(zF A68 (zC (w64 (A49-7))) 0)))+(ZaG .xor .u32 x70 (Zbn .u32 (zF A68 (zC (w64 (A49-2))) 0) 10))))) h16)
 obtain ⟨i71,rfl,h17⟩:=Zae h11;obtain ⟨x72,c146,h18⟩:=Zct h17;exact aq fol [rZ,cF,.r [(3,{oc:=x72.lo})],rZ] [0,4,9,96] [4,9] (aI c133 c146) (At.loop N (At.loopN (fun y:Int×(List Int)=>Zaj.p3.S i71 y.1 A68 y.2 st) (fun c J hc y h=>Zaj.p3_ok (v73:=y.1) (A80:=y.2) h hE (fun v73 A80=>hc (v73,A80))) N (0,x72.state) h18))
theorem Zaj.p1_ok {h_0 A1 v1 A44 st r c1_ J1} (h:Zaj.p1 N h_0 A1 st c1_ (v1,A44)=some r) (hE:En Tryz.f143 g0 w0 (Zaj.rs r) r R) (hc1 : ∀v1 A44,c1_ (v1,A44)=some r→At g0 w0 (Zaj.p1.S h_0 A1 v1 A44 st) J1):At g0 w0 (Zaj.p1.S h_0 A1 v1 A44 st) (XK zE R (cK Zaj.B [1,0,1,0,0] :: .h J1 :: [.b 0,cK Zaj.B [1,1]])):=by
 unfold Zaj.p1 at h;refine Zba h (fun c84 h19=>?_) (fun c84 h20=>?_)
 ·obtain ⟨c85,c86,h21⟩:=ck2 h19;obtain ⟨x45,c87,h22⟩:=Ziu h21;obtain ⟨c88,c89,h23⟩:=ck2 h22;obtain ⟨x46,c90,h24⟩:=Ziu h23;obtain ⟨c91,c92,h25⟩:=ck2 h24;obtain ⟨x47,c93,h26⟩:=Ziu h25;obtain ⟨c94,c95,h27⟩:=ck2 h26;obtain ⟨x48,c96,h28⟩:=Ziu h27;obtain ⟨c97,c98,h29⟩:=ck2 h28;exact ZkD fol [rZ,cT,rZ,.d {ds:=[(5,{oe:=[zM .u8 x45]}),(13,{oe:=[zM .u8 x46]}),(22,{oe:=[zM .u8 x47]}),(31,{oe:=[zM .u8 x48]})],hv:=34359738368,Hs:=[34359738368]},rZ] [0,1,4,16] [4] (aO c84 c85 c86 c87 (leI 0 24) c88 c89 (aO c90 (leI 0 16) c91 c92 c93 (leI 0 8) c94 (aK c95 c96 c97 c98))) (hc1 (w64 (v1+1)) (zQ A44 (zC v1) (ZaG .or .u32 (ZaG .or .u32 (ZaG .or .u32 (ZbB .u32 (v32 (x45)) 24) (ZbB .u32 (v32 (x46)) 16)) (ZbB .u32 (v32 (x47)) 8)) (v32 (x48)))) h29)
 exact aq fol [rZ,cF,rZ] [0,4,6] [4] c84 (At.loop N (At.loopN (fun y:Int×(List Int)=>Zaj.p2.S h_0 y.1 y.2 st) (fun c J hc y h=>Zaj.p2_ok (A49:=y.1) (A68:=y.2) h hE (fun A49 A68=>hc (A49,A68))) N (16,A44) h20))
theorem Zaj.snd {h_0:Option Nat} {A1:LL} {st:LL} {r:LL} (h:Zaj N h_0 A1 st=some r):Snd zE 143 [.one (yN h_0),.one (vR 1 A1)] st (Zaj.rs r) r:=
 sO Zaj.B Tryz.func143 fun g0 w0 R hE=>by
  unfold Zaj at h;exact aq fol [rZ,rZ] [0,1,4,16] [4] trivial (At.loop N (At.loopN (fun y:Int×(List Int)=>Zaj.p1.S h_0 A1 y.1 y.2 st) (fun c J hc y h=>Zaj.p1_ok (v1:=y.1) (A44:=y.2) h hE (fun v1 A44=>hc (v1,A44))) N (0,zB 64 0) h))
noncomputable def ZaD.B:Code:=Tryz.f130.body.getD .skip
noncomputable def ZaD.rs (r:LL):List CV:=[]
noncomputable def ZaD.p2 (N:Nat) (c1_:((Option Nat)×Int×LL)→Option LL) (i15:Nat) (A1:LL) (v1:Int) (c2_:LL→Option LL):LL→Option LL:=fun st20=> ZcS (st20[i15]?) Zcd fun x21=> if (decide ((len x21.rest)≥64))=true then chk (64≤(zG x21.rest))<| Zbj (Zaj N (some i15) (yO 64 x21.rest) st20) fun st22=> ZcS (st22[i15]?) Zcd fun x23=> chk (64≤(zG x23.rest))<| c2_ (zQ st22 i15 (Zaq.lo {x23 with rest:=wE 64 x23.rest})) else c1_ ((some i15),w64 (v1+1),st20)
noncomputable def ZaD.p1 (N:Nat) (A1:LL) (c1_:((Option Nat)×Int×LL)→Option LL):((Option Nat)×Int×LL)→Option LL:=fun (A12,v1,st13)=> if (decide (v1<(len A1)))=true then chk (0≤v1)<| ZcS (A1[zC v1]?) dec_t fun x14=> Zbj A12 fun i15=> ZcS (st13[i15]?) Zcd fun x16=> chk (zG (x16.rest++(ZnH x14))*1≤140737488355328)<| loopN (ZaD.p2 N c1_ i15 A1 v1) N (zQ (zQ (zQ st13 i15 (Zaq.lo {x16 with size:=v64 (x16.size+(v64 (((yC x14:Nat):Int))))})) i15 (gs (Zaq.lo {x16 with size:=v64 (x16.size+(v64 (((yC x14:Nat):Int))))}) 1)) i15 (Zaq.lo (Zaq.mk x16.state (x16.rest++(ZnH x14)) (v64 (x16.size+(v64 (((yC x14:Nat):Int)))))))) else some st13
noncomputable def ZaD (N:Nat) (h_0:Option Nat) (A1 st:LL):Option LL:= if (wY h_0)=true then some st else loopN (ZaD.p1 N A1) N (h_0,0,st)
noncomputable def ZaD.p2.S (i15:Nat) (A1:LL) (v1:Int) (st20:LL):S:=mkS 55 [(0,sP (some i15)),(8,sV 1 A1),(9,sI (len A1)),(10,sI v1)] [] st20
noncomputable def ZaD.p1.S (A12:Option Nat) (A1:LL) (v1:Int) (st13:LL):S:=mkS 55 [(0,sP A12),(8,sV 1 A1),(9,sI (len A1)),(10,sI v1)] [] st13
theorem ZaD.p2_ok {i15 A1 v1 st20 r c1_ c2_ J1 J2} (h:ZaD.p2 N c1_ i15 A1 v1 c2_ st20=some r) (hE:En Tryz.f130 g0 w0 (ZaD.rs r) r R) (hc1 : ∀A12 v1 st13,c1_ (A12,v1,st13)=some r→At g0 w0 (ZaD.p1.S A12 A1 v1 st13) J1) (hc2 : ∀st20,c2_ st20=some r→At g0 w0 (ZaD.p2.S i15 A1 v1 st20) J2):At g0 w0 (ZaD.p2.S i15 A1 v1 st20) (XK zE R (cK ZaD.B [1,1,0,0,1,1,0,0,1,1,1,0,0] :: .h J2 :: [.b 2,.b 1,cK ZaD.B [1,1,0,0,1,1,1],.h J1,.b 0])):=by
 unfold ZaD.p2 at h;obtain ⟨x21,c32,h1⟩:=Zct h;refine Zba h1 (fun c33 h2=>?_) (fun c33 h3=>?_)
 ·obtain ⟨c34,h4⟩:=ZaW h2;obtain ⟨st22,c35,h5⟩:=Zae h4;obtain ⟨x23,c36,h6⟩:=Zct h5;obtain ⟨c37,h7⟩:=ZaW h6;exact an fol [.r [(3,{oc:=x21.lo})],cT,.r [(4,{oc:=x21.lo}),(5,{oc:=x21.lo}),(6,{oc:=x21.lo,st:=st22,wm:=2})],.r [(4,{oc:=x23.lo}),(5,{oc:=x23.lo}),(8,{oc:=x23.lo,m:=8,wm:=1})]] [0,8,9,10] [] (aO c32 c33 c32 (leI 0 64) (leN 0 64) c34 c32 (aO z0 c34 c32 (Zaj.snd c35) c36 (leI 0 64) c37 (aM (Nat.le_refl (zG x23.rest)) c36 (rfl:Root.obj i15=Root.obj i15) c36 c37 (eN ((zG x23.rest)-64))))) (hc2 (zQ st22 i15 (Zaq.lo {x23 with rest:=wE 64 x23.rest})) h7)
 exact an fol [.r [(3,{oc:=x21.lo})],cF,rZ] [0,8,9,10] [] (aI c32 c33) (hc1 (some i15) (w64 (v1+1)) st20 h3)
theorem ZaD.p1_ok {A12 A1 v1 st13 r c1_ J1} (h:ZaD.p1 N A1 c1_ (A12,v1,st13)=some r) (hE:En Tryz.f130 g0 w0 (ZaD.rs r) r R) (hc1 : ∀A12 v1 st13,c1_ (A12,v1,st13)=some r→At g0 w0 (ZaD.p1.S A12 A1 v1 st13) J1):At g0 w0 (ZaD.p1.S A12 A1 v1 st13) (XK zE R (cK ZaD.B [1,1,0,0] :: .h J1 :: [.b 0])):=by
 unfold ZaD.p1 at h;refine Zba h (fun c20 h8=>?_) (fun c20 h9=>?_)
 ·obtain ⟨c21,h10⟩:=ZaW h8;obtain ⟨x14,c22,h11⟩:=Zte h10;obtain ⟨i15,rfl,h12⟩:=Zae h11;obtain ⟨x16,c24,h13⟩:=Zct h12;obtain ⟨c25,h14⟩:=ZaW h13;exact aq fol [rZ,cT,.r [(1,{oe:=[vO x14]})],.r [(3,{oc:=x16.lo}),(10,{oc:=x16.lo})],.r [(4,{oc:=Zaq.lo {x16 with size:=v64 (x16.size+(v64 (((yC x14:Nat):Int))))}}),(6,{oe:=Zaq.lo {x16 with size:=v64 (x16.size+(v64 (((yC x14:Nat):Int))))}}),(9,{oc:=gs (Zaq.lo {x16 with size:=v64 (x16.size+(v64 (((yC x14:Nat):Int))))}) 1,mv:=[30]})]] [0,8,9,10] [] (aO c20 c21 (oD c20) c22 c24 c24 (Zap c24 (Zaq.lo {x16 with size:=v64 (x16.size+(v64 (((yC x14:Nat):Int))))})) (aN z0 (eN (zG x16.rest)) (Zap c24 (Zaq.lo {x16 with size:=v64 (x16.size+(v64 (((yC x14:Nat):Int))))})) c25 (Zap (Zap c24 (Zaq.lo {x16 with size:=v64 (x16.size+(v64 (((yC x14:Nat):Int))))})) (gs (Zaq.lo {x16 with size:=v64 (x16.size+(v64 (((yC x14:Nat):Int))))}) 1)) z0 (eN (zG (x16.rest++(ZnH x14)))))) (At.loop N (At.loopN (fun y:LL=>ZaD.p2.S i15 A1 v1 y) (fun c J hc y h=>ZaD.p2_ok h hE hc1 (fun st20=>hc st20)) N (zQ (zQ (zQ st13 i15 (Zaq.lo {x16 with size:=v64 (x16.size+(v64 (((yC x14:Nat):Int))))})) i15 (gs (Zaq.lo {x16 with size:=v64 (x16.size+(v64 (((yC x14:Nat):Int))))}) 1)) i15 (Zaq.lo (Zaq.mk x16.state (x16.rest++(ZnH x14)) (v64 (x16.size+(v64 (((yC x14:Nat):Int)))))))) h14))
 exact xR fol h9 hE [rZ,cF] c20
theorem ZaD.snd {h_0:Option Nat} {A1:LL} {st:LL} {r:LL} (h:ZaD N h_0 A1 st=some r):Snd zE 130 [.one (yN h_0),.one (vR 1 A1)] st (ZaD.rs r) r:=
 sO ZaD.B Tryz.func130 fun g0 w0 R hE=>by
  unfold ZaD at h;refine Zba h (fun c1 h15=>?_) (fun c1 h16=>?_)
  ·exact xR fol h15 hE [rZ,cT] c1
  exact aq fol [rZ,cF,rZ] [0,8,9,10] [] c1 (At.loop N (At.loopN (fun y:(Option Nat)×Int×LL=>ZaD.p1.S y.1 A1 y.2.1 y.2.2) (fun c J hc y h=>ZaD.p1_ok (A12:=y.1) (v1:=y.2.1) (st13:=y.2.2) h hE (fun A12 v1 st13=>hc (A12,v1,st13))) N (h_0,0,st) h16))
noncomputable def Zan.B:Code:=Tryz.f131.body.getD .skip
noncomputable def Zan.rs (r:(List Int)×LL):List CV:=[.agg [zK .u8 32 r.1]]
noncomputable def Zan.p4 (N:Nat) (x47:Zaq) (st45:LL) (c4_:(Int×(List Int))→Option ((List Int)×LL)):(Int×(List Int))→Option ((List Int)×LL):=fun (v48,A49)=> if (decide (v48<8))=true then chk (0≤v48)<| chk (0≤(w64 (4*v48)))<| chk ((w64 (4*v48))<32)<| chk (0≤(w64 ((w64 (4*v48))+1)))<| chk ((w64 ((w64 (4*v48))+1))<32)<| chk (0≤(w64 ((w64 (4*v48))+2)))<| chk ((w64 ((w64 (4*v48))+2))<32)<| chk (0≤(w64 ((w64 (4*v48))+3)))<| chk ((w64 ((w64 (4*v48))+3))<32)<| c4_ (w64 (v48+1),zQ (zQ (zQ (zQ A49 (zC (w64 (4*v48))) (v8 (Zbn .u32 (zF x47.state (zC v48) 0) 24))) (zC (w64 ((w64 (4*v48))+1))) (v8 (Zbn .u32 (zF x47.state (zC v48) 0) 16))) (zC (w64 ((w64 (4*v48))+2))) (v8 (Zbn .u32 (zF x47.state (zC v48) 0) 8))) (zC (w64 ((w64 (4*v48))+3))) (v8 (zF x47.state (zC v48) 0))) else some (A49,st45)
noncomputable def Zan.p3 (N:Nat) (st v38:LL) (c3_:(Nat×Nat×LL)→Option ((List Int)×LL)):(Nat×Nat×LL)→Option ((List Int)×LL):=fun (A43,A44,st45)=> if (decide (((A44:Nat):Int)>0))=true then chk ((A43+64)≤(zG v38))<| Zbj (Zaj N (some (zG st)) (yO 64 (wE A43 v38)) st45) fun st46=> chk (64≤A44)<| c3_ (A43+64,A44-64,st46) else ZcS (st45[zG st]?) Zcd fun x47=> loopN (Zan.p4 N x47 st45) N (0,zB 32 0)
noncomputable def Zan.p2 (N:Nat) (h_0:Zaq) (st:LL) (c2_:(LL×Int)→Option ((List Int)×LL)):(LL×Int)→Option ((List Int)×LL):=fun (v38,A26)=> if (decide (A26≥0))=true then chk (0≤(w64 (8*A26)))<| chk (zG (v38++[[zM .u8 (v8 (Zbn .u64 (v64 (h_0.size*8)) (w64 (8*A26))))]])*1≤140737488355328)<| c2_ (v38++[[zM .u8 (v8 (Zbn .u64 (v64 (h_0.size*8)) (w64 (8*A26))))]],w64 (A26-1)) else loopN (Zan.p3 N st v38) N (0,zG v38,st++[Zaq.lo (Zaq.mk h_0.state [] 0)])
noncomputable def Zan.p1 (N:Nat) (h_0:Zaq) (st:LL) (c1_:LL→Option ((List Int)×LL)):LL→Option ((List Int)×LL):=fun v25=> if ((Int.tmod (len v25) 64) != 56)=true then chk (zG (v25++[[zM .u8 0]])*1≤140737488355328)<| c1_ (v25++[[zM .u8 0]]) else loopN (Zan.p2 N h_0 st) N (v25,7)
noncomputable def Zan (N:Nat) (h_0:Zaq) (st:LL):Option ((List Int)×LL):= chk (zG ([]++h_0.rest)*1≤140737488355328)<| chk (zG (([]++h_0.rest)++[[zM .u8 128]])*1≤140737488355328)<| loopN (Zan.p1 N h_0 st) N (([]++h_0.rest)++[[zM .u8 128]])
noncomputable def Zan.p4.S (x47:Zaq) (v48:Int) (A49:List Int) (st45:LL):S:=mkS 94 [(2,sA 2),(6,sA 6),(61,.agg [.l (zK .u32 8 x47.state)]),(62,sI v48)] [(2,.cells [zK .u8 32 (zB 32 0)]),(6,.cells [zK .u8 32 A49])] st45
noncomputable def Zan.p3.S (st:LL) (A43 A44:Nat) (v38 st45:LL):S:=mkS 94 [(2,sA 2),(3,sP (some (zG st))),(4,.one (.h (.row 22 0) 1 A43 A44))] [(2,.cells [zK .u8 32 (zB 32 0)]),(22,.row 0 false 1 v38)] st45
noncomputable def Zan.p2.S (h_0:Zaq) (st v38:LL) (A26:Int):S:=mkS 94 [(0,.one (.l (L.bx 10 h_0.ls))),(2,sA 2),(3,sP (some (zG st))),(4,.one (.h (.row 22 0) 1 0 (zG v38))),(5,sI A26)] [(2,.cells [zK .u8 32 (zB 32 0)]),(22,.row 0 false 1 v38)] (st++[Zaq.lo (Zaq.mk h_0.state [] 0)])
noncomputable def Zan.p1.S (h_0:Zaq) (st v25:LL):S:=mkS 94 [(0,.one (.l (L.bx 10 h_0.ls))),(2,sA 2),(3,sP (some (zG st))),(4,.one (.h (.row 22 0) 1 0 (zG v25)))] [(2,.cells [zK .u8 32 (zB 32 0)]),(22,.row 0 false 1 v25)] (st++[Zaq.lo (Zaq.mk h_0.state [] 0)])
theorem Zan.p4_ok {x47 v48 A49 st45 r c4_ J4} (h:Zan.p4 N x47 st45 c4_ (v48,A49)=some r) (hE:En Tryz.f131 g0 w0 (Zan.rs r) r.2 R) (hc4 : ∀v48 A49,c4_ (v48,A49)=some r→At g0 w0 (Zan.p4.S x47 v48 A49 st45) J4):At g0 w0 (Zan.p4.S x47 v48 A49 st45) (XK zE R (cK Zan.B [1,1,1,1,1,1,1,1,1,0,1,0,0] :: .h J4 :: [.b 6,cK Zan.B [1,1,1,1,1,1,1,1,1,1]])):=by
 unfold Zan.p4 at h;refine Zba h (fun c205 h1=>?_) (fun c205 h2=>?_)
 ·obtain ⟨c206,c207,c208,c209,c210,c211,c212,c213,h3⟩:=ck8 h1;obtain ⟨c214,h4⟩:=ZaW h3;exact an fol [rZ,cT,rZ,rZ,rZ] [2,6,61,62] [2,6] (aO c205 c206 (oD c205) (leI 0 24) (leI 0 16) (leI 0 8) c207 (aN c208 c209 c210 c211 c212 c213 c214)) (hc4 (w64 (v48+1)) (zQ (zQ (zQ (zQ A49 (zC (w64 (4*v48))) (v8 (Zbn .u32 (zF x47.state (zC v48) 0) 24))) (zC (w64 ((w64 (4*v48))+1))) (v8 (Zbn .u32 (zF x47.state (zC v48) 0) 16))) (zC (w64 ((w64 (4*v48))+2))) (v8 (Zbn .u32 (zF x47.state (zC v48) 0) 8))) (zC (w64 ((w64 (4*v48))+3))) (v8 (zF x47.state (zC v48) 0))) h4)
 exact xT fol h2 hE [rZ,cF,rZ] c205
theorem Zan.p3_ok {st A43 A44 v38 st45 r c3_ J3} (h:Zan.p3 N st v38 c3_ (A43,A44,st45)=some r) (hE:En Tryz.f131 g0 w0 (Zan.rs r) r.2 R) (hc3 : ∀A43 A44 st45,c3_ (A43,A44,st45)=some r→At g0 w0 (Zan.p3.S st A43 A44 v38 st45) J3):At g0 w0 (Zan.p3.S st A43 A44 v38 st45) (XK zE R (cK Zan.B [1,1,1,1,1,1,1,0,0,0] :: .h J3 :: [.b 4,cK Zan.B [1,1,1,1,1,1,1,1]])):=by
 unfold Zan.p3 at h;refine Zba h (fun c190 h5=>?_) (fun c190 h6=>?_)
 ·obtain ⟨c191,h7⟩:=ZaW h5;obtain ⟨st46,c192,h8⟩:=Zae h7;obtain ⟨c193,h9⟩:=ZaW h8;exact an fol [rZ,cT,.r [(2,{m:=9}),(3,{st:=st46,wm:=3,fz:=[22]})],rZ] [2,3,4] [2,22] (aO c190 (leI 0 64) (leN 0 64) c191 c191 (Zaj.snd c192) (leI 0 64) (aI c193 (Nat.le_refl (A44)))) (hc3 (A43+64) (A44-64) st46 h9)
 obtain ⟨x47,c194,h10⟩:=Zct h6;exact aq fol [rZ,cF,rZ,.r [(3,{oc:=x47.lo})]] [2,6,61,62] [2,6] (aI c190 c194) (At.loop N (At.loopN (fun y:Int×(List Int)=>Zan.p4.S x47 y.1 y.2 st45) (fun c J hc y h=>Zan.p4_ok (v48:=y.1) (A49:=y.2) h hE (fun v48 A49=>hc (v48,A49))) N (0,zB 32 0) h10))
theorem Zan.p2_ok {h_0 st v38 A26 r c2_ J2} (h:Zan.p2 N h_0 st c2_ (v38,A26)=some r) (hE:En Tryz.f131 g0 w0 (Zan.rs r) r.2 R) (hc2 : ∀v38 A26,c2_ (v38,A26)=some r→At g0 w0 (Zan.p2.S h_0 st v38 A26) J2):At g0 w0 (Zan.p2.S h_0 st v38 A26) (XK zE R (cK Zan.B [1,1,1,1,1,1,0,1,0,0] :: .h J2 :: [.b 2,cK Zan.B [1,1,1,1,1,1,1]])):=by
 unfold Zan.p2 at h;refine Zba h (fun c163 h11=>?_) (fun c163 h12=>?_)
 ·obtain ⟨c164,c165,h13⟩:=ck2 h11;exact an fol [rZ,cT,.r [(4,{oe:=h_0.ls})],rZ] [0,2,3,4,5] [2,22] (aO c163 (eO h_0.ls) c164 z0 (eN (zG v38)) z0 (eN (1)) c165) (hc2 (v38++[[zM .u8 (v8 (Zbn .u64 (v64 (h_0.size*8)) (w64 (8*A26))))]]) (w64 (A26-1)) h13)
 exact aq fol [rZ,cF] [2,3,4] [2,22] c163 (At.loop N (At.loopN (fun y:Nat×Nat×LL=>Zan.p3.S st y.1 y.2.1 v38 y.2.2) (fun c J hc y h=>Zan.p3_ok (A43:=y.1) (A44:=y.2.1) (st45:=y.2.2) h hE (fun A43 A44 st45=>hc (A43,A44,st45))) N (0,zG v38,st++[Zaq.lo (Zaq.mk h_0.state [] 0)]) h12))
theorem Zan.p1_ok {h_0 st v25 r c1_ J1} (h:Zan.p1 N h_0 st c1_ v25=some r) (hE:En Tryz.f131 g0 w0 (Zan.rs r) r.2 R) (hc1 : ∀v25,c1_ v25=some r→At g0 w0 (Zan.p1.S h_0 st v25) J1):At g0 w0 (Zan.p1.S h_0 st v25) (XK zE R (cK Zan.B [1,1,1,1,1,0,0,0] :: .h J1 :: [.b 0,cK Zan.B [1,1,1,1,1,1]])):=by
 unfold Zan.p1 at h;refine Zba h (fun c109 h14=>?_) (fun c109 h15=>?_)
 ·obtain ⟨c110,h16⟩:=ZaW h14;exact an fol [rZ,cT,rZ] [0,2,3,4] [2,22] (aN (neI 64) c109 z0 (eN (zG v25)) z0 (eN (1)) c110) (hc1 (v25++[[zM .u8 0]]) h16)
 exact aq fol [rZ,cF,rZ] [0,2,3,4,5] [2,22] (aI (neI 64) c109) (At.loop N (At.loopN (fun y:LL×Int=>Zan.p2.S h_0 st y.1 y.2) (fun c J hc y h=>Zan.p2_ok (v38:=y.1) (A26:=y.2) h hE (fun v38 A26=>hc (v38,A26))) N (v25,7) h15))
theorem Zan.snd {h_0:Zaq} {st:LL} {r:(List Int)×LL} (h:Zan N h_0 st=some r):Snd zE 131 [.one (L.bx 10 h_0.ls)] st (Zan.rs r) r.2:=
 sO Zan.B Tryz.func131 fun g0 w0 R hE=>by
  unfold Zan at h;obtain ⟨c1,c2,h17⟩:=ck2 h;exact aq fol [rZ,rZ,cF,.r [(3,{oe:=h_0.ls}),(4,{mv:=[1]}),(5,{m:=1})],.r [(3,{oe:=h_0.ls}),(5,{fz:=[22]})],rZ] [0,2,3,4] [2,22] (aO eF (eO h_0.ls) (eO h_0.ls) c1 z0 (eN (zG ([]++h_0.rest))) z0 (aI (eN (1)) c2)) (At.loop N (At.loopN (fun y:LL=>Zan.p1.S h_0 st y) (fun c J hc y h=>Zan.p1_ok h hE (fun v25=>hc v25)) N (([]++h_0.rest)++[[zM .u8 128]]) h17))
noncomputable def Zam.B:Code:=Tryz.f131.body.getD .skip
noncomputable def Zam.rs (r:(List Int)×LL):List CV:=[.agg [zK .u8 32 r.1]]
noncomputable def Zam.p4 (N:Nat) (x53:Zaq) (st51:LL) (c4_:(Int×(List Int))→Option ((List Int)×LL)):(Int×(List Int))→Option ((List Int)×LL):=fun (v54,A55)=> if (decide (v54<8))=true then chk (0≤v54)<| chk (0≤(w64 (4*v54)))<| chk ((w64 (4*v54))<32)<| chk (0≤(w64 ((w64 (4*v54))+1)))<| chk ((w64 ((w64 (4*v54))+1))<32)<| chk (0≤(w64 ((w64 (4*v54))+2)))<| chk ((w64 ((w64 (4*v54))+2))<32)<| chk (0≤(w64 ((w64 (4*v54))+3)))<| chk ((w64 ((w64 (4*v54))+3))<32)<| c4_ (w64 (v54+1),zQ (zQ (zQ (zQ A55 (zC (w64 (4*v54))) (v8 (Zbn .u32 (zF x53.state (zC v54) 0) 24))) (zC (w64 ((w64 (4*v54))+1))) (v8 (Zbn .u32 (zF x53.state (zC v54) 0) 16))) (zC (w64 ((w64 (4*v54))+2))) (v8 (Zbn .u32 (zF x53.state (zC v54) 0) 8))) (zC (w64 ((w64 (4*v54))+3))) (v8 (zF x53.state (zC v54) 0))) else some (A55,st51)
noncomputable def Zam.p3 (N:Nat) (st v43:LL) (c3_:(Nat×Nat×LL)→Option ((List Int)×LL)):(Nat×Nat×LL)→Option ((List Int)×LL):=fun (A49,A50,st51)=> if (decide (((A50:Nat):Int)>0))=true then chk ((A49+64)≤(zG v43))<| Zbj (Zaj N (some (zG st)) (yO 64 (wE A49 v43)) st51) fun st52=> chk (64≤A50)<| c3_ (A49+64,A50-64,st52) else ZcS (st51[zG st]?) Zcd fun x53=> loopN (Zam.p4 N x53 st51) N (0,zB 32 0)
noncomputable def Zam.p2 (N:Nat) (i1:Nat) (st:LL) (x2:Zaq) (c2_:(LL×Int)→Option ((List Int)×LL)):(LL×Int)→Option ((List Int)×LL):=fun (v43,A30)=> if (decide (A30≥0))=true then ZcS ((st++[Zaq.lo (Zaq.mk x2.state [] 0)])[i1]?) Zcd fun x44=> chk (0≤(w64 (8*A30)))<| chk (zG (v43++[[zM .u8 (v8 (Zbn .u64 (v64 (x44.size*8)) (w64 (8*A30))))]])*1≤140737488355328)<| c2_ (v43++[[zM .u8 (v8 (Zbn .u64 (v64 (x44.size*8)) (w64 (8*A30))))]],w64 (A30-1)) else loopN (Zam.p3 N st v43) N (0,zG v43,st++[Zaq.lo (Zaq.mk x2.state [] 0)])
noncomputable def Zam.p1 (N:Nat) (i1:Nat) (st:LL) (x2:Zaq) (c1_:LL→Option ((List Int)×LL)):LL→Option ((List Int)×LL):=fun v29=> if ((Int.tmod (len v29) 64) != 56)=true then chk (zG (v29++[[zM .u8 0]])*1≤140737488355328)<| c1_ (v29++[[zM .u8 0]]) else loopN (Zam.p2 N i1 st x2) N (v29,7)
noncomputable def Zam (N:Nat) (h_0:Option Nat) (st:LL):Option ((List Int)×LL):= if (wY h_0)=true then some (zB 32 0,st) else Zbj h_0 fun i1=> ZcS (st[i1]?) Zcd fun x2=> chk (zG ([]++x2.rest)*1≤140737488355328)<| chk (zG (([]++x2.rest)++[[zM .u8 128]])*1≤140737488355328)<| loopN (Zam.p1 N i1 st x2) N (([]++x2.rest)++[[zM .u8 128]])
noncomputable def Zam.p4.S (x53:Zaq) (v54:Int) (A55:List Int) (st51:LL):S:=mkS 94 [(2,sA 2),(6,sA 6),(61,.agg [.l (zK .u32 8 x53.state)]),(62,sI v54)] [(2,.cells [zK .u8 32 (zB 32 0)]),(6,.cells [zK .u8 32 A55])] st51
noncomputable def Zam.p3.S (st:LL) (A49 A50:Nat) (v43 st51:LL):S:=mkS 94 [(2,sA 2),(3,sP (some (zG st))),(4,.one (.h (.row 22 0) 1 A49 A50))] [(2,.cells [zK .u8 32 (zB 32 0)]),(22,.row 0 false 1 v43)] st51
noncomputable def Zam.p2.S (i1:Nat) (st v43:LL) (A30:Int) (x2:Zaq):S:=mkS 94 [(0,sP (some i1)),(2,sA 2),(3,sP (some (zG st))),(4,.one (.h (.row 22 0) 1 0 (zG v43))),(5,sI A30)] [(2,.cells [zK .u8 32 (zB 32 0)]),(22,.row 0 false 1 v43)] (st++[Zaq.lo (Zaq.mk x2.state [] 0)])
noncomputable def Zam.p1.S (i1:Nat) (st v29:LL) (x2:Zaq):S:=mkS 94 [(0,sP (some i1)),(2,sA 2),(3,sP (some (zG st))),(4,.one (.h (.row 22 0) 1 0 (zG v29)))] [(2,.cells [zK .u8 32 (zB 32 0)]),(22,.row 0 false 1 v29)] (st++[Zaq.lo (Zaq.mk x2.state [] 0)])
theorem Zam.p4_ok {x53 v54 A55 st51 r c4_ J4} (h:Zam.p4 N x53 st51 c4_ (v54,A55)=some r) (hE:En Tryz.f131 g0 w0 (Zam.rs r) r.2 R) (hc4 : ∀v54 A55,c4_ (v54,A55)=some r→At g0 w0 (Zam.p4.S x53 v54 A55 st51) J4):At g0 w0 (Zam.p4.S x53 v54 A55 st51) (XK zE R (cK Zam.B [1,1,1,1,1,1,1,1,1,0,1,0,0] :: .h J4 :: [.b 6,cK Zam.B [1,1,1,1,1,1,1,1,1,1]])):=by
 unfold Zam.p4 at h;refine Zba h (fun c212 h1=>?_) (fun c212 h2=>?_)
 ·obtain ⟨c213,c214,c215,c216,c217,c218,c219,c220,h3⟩:=ck8 h1;obtain ⟨c221,h4⟩:=ZaW h3;exact an fol [rZ,cT,rZ,rZ,rZ] [2,6,61,62] [2,6] (aO c212 c213 (oD c212) (leI 0 24) (leI 0 16) (leI 0 8) c214 (aN c215 c216 c217 c218 c219 c220 c221)) (hc4 (w64 (v54+1)) (zQ (zQ (zQ (zQ A55 (zC (w64 (4*v54))) (v8 (Zbn .u32 (zF x53.state (zC v54) 0) 24))) (zC (w64 ((w64 (4*v54))+1))) (v8 (Zbn .u32 (zF x53.state (zC v54) 0) 16))) (zC (w64 ((w64 (4*v54))+2))) (v8 (Zbn .u32 (zF x53.state (zC v54) 0) 8))) (zC (w64 ((w64 (4*v54))+3))) (v8 (zF x53.state (zC v54) 0))) h4)
 exact xT fol h2 hE [rZ,cF,rZ] c212
theorem Zam.p3_ok {st A49 A50 v43 st51 r c3_ J3} (h:Zam.p3 N st v43 c3_ (A49,A50,st51)=some r) (hE:En Tryz.f131 g0 w0 (Zam.rs r) r.2 R) (hc3 : ∀A49 A50 st51,c3_ (A49,A50,st51)=some r→At g0 w0 (Zam.p3.S st A49 A50 v43 st51) J3):At g0 w0 (Zam.p3.S st A49 A50 v43 st51) (XK zE R (cK Zam.B [1,1,1,1,1,1,1,0,0,0] :: .h J3 :: [.b 4,cK Zam.B [1,1,1,1,1,1,1,1]])):=by
 unfold Zam.p3 at h;refine Zba h (fun c197 h5=>?_) (fun c197 h6=>?_)
 ·obtain ⟨c198,h7⟩:=ZaW h5;obtain ⟨st52,c199,h8⟩:=Zae h7;obtain ⟨c200,h9⟩:=ZaW h8;exact an fol [rZ,cT,.r [(2,{m:=9}),(3,{st:=st52,wm:=3,fz:=[22]})],rZ] [2,3,4] [2,22] (aO c197 (leI 0 64) (leN 0 64) c198 c198 (Zaj.snd c199) (leI 0 64) (aI c200 (Nat.le_refl (A50)))) (hc3 (A49+64) (A50-64) st52 h9)
 obtain ⟨x53,c201,h10⟩:=Zct h6;exact aq fol [rZ,cF,rZ,.r [(3,{oc:=x53.lo})]] [2,6,61,62] [2,6] (aI c197 c201) (At.loop N (At.loopN (fun y:Int×(List Int)=>Zam.p4.S x53 y.1 y.2 st51) (fun c J hc y h=>Zam.p4_ok (v54:=y.1) (A55:=y.2) h hE (fun v54 A55=>hc (v54,A55))) N (0,zB 32 0) h10))
theorem Zam.p2_ok {i1 st v43 A30 x2 r c2_ J2} (h:Zam.p2 N i1 st x2 c2_ (v43,A30)=some r) (hE:En Tryz.f131 g0 w0 (Zam.rs r) r.2 R) (hc2 : ∀v43 A30,c2_ (v43,A30)=some r→At g0 w0 (Zam.p2.S i1 st v43 A30 x2) J2):At g0 w0 (Zam.p2.S i1 st v43 A30 x2) (XK zE R (cK Zam.B [1,1,1,1,1,1,0,1,0,0] :: .h J2 :: [.b 2,cK Zam.B [1,1,1,1,1,1,1]])):=by
 unfold Zam.p2 at h;refine Zba h (fun c169 h11=>?_) (fun c169 h12=>?_)
 ·obtain ⟨x44,c170,h13⟩:=Zct h11;obtain ⟨c171,c172,h14⟩:=ck2 h13;exact an fol [rZ,cT,.r [(4,{oc:=x44.lo})],rZ] [0,2,3,4,5] [2,22] (aO c169 c170 c171 z0 (eN (zG v43)) z0 (eN (1)) c172) (hc2 (v43++[[zM .u8 (v8 (Zbn .u64 (v64 (x44.size*8)) (w64 (8*A30))))]]) (w64 (A30-1)) h14)
 exact aq fol [rZ,cF] [2,3,4] [2,22] c169 (At.loop N (At.loopN (fun y:Nat×Nat×LL=>Zam.p3.S st y.1 y.2.1 v43 y.2.2) (fun c J hc y h=>Zam.p3_ok (A49:=y.1) (A50:=y.2.1) (st51:=y.2.2) h hE (fun A49 A50 st51=>hc (A49,A50,st51))) N (0,zG v43,st++[Zaq.lo (Zaq.mk x2.state [] 0)]) h12))
theorem Zam.p1_ok {i1 st v29 x2 r c1_ J1} (h:Zam.p1 N i1 st x2 c1_ v29=some r) (hE:En Tryz.f131 g0 w0 (Zam.rs r) r.2 R) (hc1 : ∀v29,c1_ v29=some r→At g0 w0 (Zam.p1.S i1 st v29 x2) J1):At g0 w0 (Zam.p1.S i1 st v29 x2) (XK zE R (cK Zam.B [1,1,1,1,1,0,0,0] :: .h J1 :: [.b 0,cK Zam.B [1,1,1,1,1,1]])):=by
 unfold Zam.p1 at h;refine Zba h (fun c114 h15=>?_) (fun c114 h16=>?_)
 ·obtain ⟨c115,h17⟩:=ZaW h15;exact an fol [rZ,cT,rZ] [0,2,3,4] [2,22] (aN (neI 64) c114 z0 (eN (zG v29)) z0 (eN (1)) c115) (hc1 (v29++[[zM .u8 0]]) h17)
 exact aq fol [rZ,cF,rZ] [0,2,3,4,5] [2,22] (aI (neI 64) c114) (At.loop N (At.loopN (fun y:LL×Int=>Zam.p2.S i1 st y.1 y.2 x2) (fun c J hc y h=>Zam.p2_ok (v43:=y.1) (A30:=y.2) h hE (fun v43 A30=>hc (v43,A30))) N (v29,7) h16))
theorem Zam.snd {h_0:Option Nat} {st:LL} {r:(List Int)×LL} (h:Zam N h_0 st=some r):Snd zE 131 [.one (yN h_0)] st (Zam.rs r) r.2:=
 sO Zam.B Tryz.func131 fun g0 w0 R hE=>by
  unfold Zam at h;refine Zba h (fun c1 h18=>?_) (fun c1 h19=>?_)
  ·exact xT fol h18 hE [rZ,rZ,cT,rZ] c1
  obtain ⟨i1,rfl,h20⟩:=Zae h19;obtain ⟨x2,c3,h21⟩:=Zct h20;obtain ⟨c4,c5,h22⟩:=ck2 h21;exact aq fol [rZ,rZ,cF,.r [(3,{oc:=x2.lo}),(4,{mv:=[1]}),(5,{m:=1})],.r [(3,{oc:=x2.lo}),(4,{oc:=x2.lo}),(5,{fz:=[22]})],rZ] [0,2,3,4] [2,22] (aO c1 c3 (st_old c3 (Zaq.lo (Zaq.mk x2.state [] 0))) z0 (eN (zG x2.rest)) (st_old c3 (Zaq.lo (Zaq.mk x2.state [] 0))) c4 (aL z0 (eN (zG ([]++x2.rest))) z0 (eN (1)) c5)) (At.loop N (At.loopN (fun y:LL=>Zam.p1.S i1 st y x2) (fun c J hc y h=>Zam.p1_ok h hE (fun v29=>hc v29)) N (([]++x2.rest)++[[zM .u8 128]]) h22))
noncomputable def Zet.B:Code:=Tryz.f111.body.getD .skip
noncomputable def Zet.rs (r:(List Int)×LL):List CV:=[.agg [zK .u8 32 r.1]]
noncomputable def Zet (N:Nat) (A0 st:LL):Option ((List Int)×LL):= Zbj (ZeL N st) fun (x1,st2)=> Zbj (ZaD N x1 A0 st2) fun st3=> Zbj (Zam N x1 st3) fun (x4,st5)=> some (x4,st5)
theorem Zet.snd {A0:LL} {st:LL} {r:(List Int)×LL} (h:Zet N A0 st=some r):Snd zE 111 [.one (vR 1 A0)] st (Zet.rs r) r.2:=
 sO Zet.B Tryz.func111 fun g0 w0 R hE=>by
  unfold Zet at h;obtain ⟨⟨x1,st2⟩,c1,h1⟩:=Zae h;obtain ⟨st3,c2,h2⟩:=Zae h1;obtain ⟨⟨x4,st5⟩,c3,h3⟩:=Zae h2;exact xT fol h3 hE [rZ,.r [(0,{rs:=[.one (yN x1)],st:=st2})],.r [(2,{st:=st3})],.r [(1,{rs:=[.agg [zK .u8 32 x4]],st:=st5})]] (aJ (ZeL.snd c1) (ZaD.snd c2) (Zam.snd c3))
noncomputable def Zdr.B:Code:=Tryz.f83.body.getD .skip
noncomputable def Zdr.rs (r:(List Int)×LL):List CV:=[.agg [zK .u8 32 r.1]]
noncomputable def Zdr (N:Nat) (A0 st:LL):Option ((List Int)×LL):= Zbj (Zet N A0 st) fun (x1,st2)=> Zbj (Zet N [[vO (ZkA x1)]] st2) fun (x3,st4)=> some (x3,st4)
theorem Zdr.snd {A0:LL} {st:LL} {r:(List Int)×LL} (h:Zdr N A0 st=some r):Snd zE 83 [.one (vR 1 A0)] st (Zdr.rs r) r.2:=
 sO Zdr.B Tryz.func83 fun g0 w0 R hE=>by
  unfold Zdr at h;obtain ⟨⟨x1,st2⟩,c1,h1⟩:=Zae h;obtain ⟨⟨x3,st4⟩,c2,h2⟩:=Zae h1;exact xT fol h2 hE [rZ,.r [(1,{rs:=[.agg [zK .u8 32 x1]],st:=st2})],.r [(3,{rs:=[.agg [zK .u8 32 x3]],st:=st4,fz:=[8]})]] (aM (Zet.snd c1) (leN 0 32) (leN 32 32) z0 (eN (1)) (Zet.snd c2))
noncomputable def Zem.B:Code:=Tryz.f53.body.getD .skip
noncomputable def Zem.rs (r:(List Int)×LL):List CV:=[.agg [zK .u8 32 r.1]]
noncomputable def Zem (N:Nat) (h_0:Zal) (st:LL):Option ((List Int)×LL):= Zbj (Zdm N h_0 st) fun (x1,x2,st3)=> if (x2 != 0)=true then some (zB 32 0,st3) else Zbj (Zdr N [[vO x1]] st3) fun (x4,st5)=> some (x4,st5)
theorem Zem.snd {h_0:Zal} {st:LL} {r:(List Int)×LL} (h:Zem N h_0 st=some r):Snd zE 53 [.agg h_0.ls] st (Zem.rs r) r.2:=
 sO Zem.B Tryz.func53 fun g0 w0 R hE=>by
  unfold Zem at h;obtain ⟨⟨x1,x2,st3⟩,c1,h1⟩:=Zae h;let o1:List PS:=[rZ,.r [(1,{rs:=[.one (vO x1),oI x2],st:=st3})],rZ]
  refine Zba h1 (fun c2 h2=>?_) (fun c2 h3=>?_)
  ·exact xT fol h2 hE (o1++[cT,rZ]) (aI (Zdm.snd c1) c2)
  obtain ⟨⟨x4,st5⟩,c3,h4⟩:=Zae h3;exact xT fol h4 hE (o1++[cF,.r [(2,{rs:=[.agg [zK .u8 32 x4]],st:=st5,fz:=[14]})]]) (aL (Zdm.snd c1) c2 z0 (eN (1)) (Zdr.snd c3))
noncomputable def ZaX.B:Code:=Tryz.f91.body.getD .skip
noncomputable def ZaX.rs (r:LL):List CV:=[]
noncomputable def ZaX.p1 (N:Nat) (A1:LL) (c1_:((Option Nat)×Int×LL)→Option LL):((Option Nat)×Int×LL)→Option LL:=fun (A5,v1,st6)=> if (decide (v1<(len A1)))=true then chk (0≤v1)<| ZcS (A1[zC v1]?) ZcW fun x7=> Zbj A5 fun i8=> ZcS (st6[i8]?) Zjx fun x9=> chk (0≤(if (10:Int)<(len x9) then 10 else (len x9)))<| chk ((zC (if (10:Int)<(len x9) then 10 else (len x9)))≤(zG x9))<| chk (zG ([[zM .i64 x7]]++(yO (zC (if (10:Int)<(len x9) then 10 else (len x9))) x9))*8≤140737488355328)<| c1_ ((some i8),w64 (v1+1),zQ st6 i8 [yT true 1 ([[zM .i64 x7]]++(yO (zC (if (10:Int)<(len x9) then 10 else (len x9))) x9))]) else some st6
noncomputable def ZaX (N:Nat) (A0:Option Nat) (A1 st:LL):Option LL:= if (wY A0)=true then some st else loopN (ZaX.p1 N A1) N (A0,0,st)
noncomputable def ZaX.p1.S (A5:Option Nat) (A1:LL) (v1:Int) (st6:LL):S:=mkS 32 [(0,sP A5),(8,sV 1 A1),(9,sI (len A1)),(10,sI v1)] [] st6
theorem ZaX.p1_ok {A5 A1 v1 st6 r c1_ J1} (h:ZaX.p1 N A1 c1_ (A5,v1,st6)=some r) (hE:En Tryz.f91 g0 w0 (ZaX.rs r) r R) (hc1 : ∀A5 v1 st6,c1_ (A5,v1,st6)=some r→At g0 w0 (ZaX.p1.S A5 A1 v1 st6) J1):At g0 w0 (ZaX.p1.S A5 A1 v1 st6) (XK zE R (cK ZaX.B [1,1,0,0] :: .h J1 :: [.b 0])):=by
 unfold ZaX.p1 at h;refine Zba h (fun c10 h1=>?_) (fun c10 h2=>?_)
 ·obtain ⟨c11,h3⟩:=ZaW h1;obtain ⟨x7,c12,h4⟩:=Zci h3;obtain ⟨i8,rfl,h5⟩:=Zae h4;obtain ⟨x9,c14,h6⟩:=Zgj h5;obtain ⟨c15,c16,c17,h7⟩:=ck3 h6;exact ZkD fol [rZ,cT,.r [(1,{oe:=[zM .i64 x7]})],.d {ds:=[(6,{oc:=[yT true 1 x9]}),(10,{oc:=[yT true 1 x9]}),(13,{oc:=[yT true 1 x9]}),(14,{oc:=[yT true 1 x9],wm:=2}),(17,{oc:=[yT true 1 x9],mv:=[16]})],hv:=147460,Hs:=[4,16388,147460]},rZ] [0,8,9,10] [] (aO c10 c11 (oD c10) c12 c14 c14 c14 (aO c14 c15 (Nat.zero_le (zC (if (10:Int)<(len x9) then 10 else (len x9)))) c16 c14 c15 (Nat.zero_le (zC (if (10:Int)<(len x9) then 10 else (len x9)))) (aO c16 c14 z0 (eN (1)) z0 c16 c14 (aK c17 c14 z0 (eN (zG ([[zM .i64 x7]]++(yO (zC (if (10:Int)<(len x9) then 10 else (len x9))) x9)))))))) (hc1 (some i8) (w64 (v1+1)) (zQ st6 i8 [yT true 1 ([[zM .i64 x7]]++(yO (zC (if (10:Int)<(len x9) then 10 else (len x9))) x9))]) h7)
 exact xR fol h2 hE [rZ,cF] c10
theorem ZaX.snd {A0:Option Nat} {A1:LL} {st:LL} {r:LL} (h:ZaX N A0 A1 st=some r):Snd zE 91 [.one (yN A0),.one (vR 1 A1)] st (ZaX.rs r) r:=
 sO ZaX.B Tryz.func91 fun g0 w0 R hE=>by
  unfold ZaX at h;refine Zba h (fun c1 h8=>?_) (fun c1 h9=>?_)
  ·exact xR fol h8 hE [rZ,cT] c1
  exact aq fol [rZ,cF,rZ] [0,8,9,10] [] c1 (At.loop N (At.loopN (fun y:(Option Nat)×Int×LL=>ZaX.p1.S y.1 A1 y.2.1 y.2.2) (fun c J hc y h=>ZaX.p1_ok (A5:=y.1) (v1:=y.2.1) (st6:=y.2.2) h hE (fun A5 v1 st6=>hc (A5,v1,st6))) N (A0,0,st) h9))
noncomputable def Zdl.B:Code:=Tryz.f92.body.getD .skip
noncomputable def Zdl.rs (r:LL×LL):List CV:=[.row true 1 r.1]
noncomputable def Zdl (N:Nat) (A0:Option Nat) (st:LL):Option (LL×LL):= if (wY A0)=true then some ([],st) else Zbj A0 fun i1=> ZcS (st[i1]?) Zjx fun x2=> Zbj (Zbm N x2) fun x3=> chk (Zee x3=true)<| some (x3,st)
theorem Zdl.snd {A0:Option Nat} {st:LL} {r:LL×LL} (h:Zdl N A0 st=some r):Snd zE 92 [.one (yN A0)] st (Zdl.rs r) r.2:=
 sO Zdl.B Tryz.func92 fun g0 w0 R hE=>by
  unfold Zdl at h;refine Zba h (fun c1 h1=>?_) (fun c1 h2=>?_)
  ·obtain rfl:=Zad h1;exact af fol hE [.r [(0,{m:=2})],rZ,cT,.r [(0,{m:=2})]] [] 0 [0] c1
  obtain ⟨i1,rfl,h3⟩:=Zae h2;obtain ⟨x2,c3,h4⟩:=Zgj h3;obtain ⟨x3,c4,h5⟩:=Zae h4;obtain ⟨c5,h6⟩:=ZaW h5;obtain rfl:=Zad h6;exact af fol hE [.r [(0,{m:=2})],rZ,cF,.r [(3,{oc:=[yT true 1 x2]}),(4,{oc:=[yT true 1 x2],rs:=[.row true 1 x3],ns:=[9],m:=2})]] [] 0 [0] (aO c1 c3 z0 (eN (zG x2)) c3 c5 (Zbm.snd c4) (aI z0 (eN (zG x3))))
noncomputable def Zdk.B:Code:=Tryz.f90.body.getD .skip
noncomputable def Zdk.rs (r:Bool):List CV:=[oB r]
noncomputable def Zdk (N:Nat) (A0:Zah) (A1:Int):Option Bool:= if (decide (A0.Interval>0))=true then chk (A0.Interval≠0)<| some ((Int.tmod A1 A0.Interval)==0) else some false
theorem Zdk.snd {A0:Zah} {A1:Int} {r:Bool} (h:Zdk N A0 A1=some r):Zdo zE 90 [.agg A0.ls,oI A1] (Zdk.rs r):=fun st=>
 sO Zdk.B Tryz.func90 fun g0 w0 R hE=>by
  unfold Zdk at h;refine Zba h (fun c1 h1=>?_) (fun c1 h2=>?_)
  ·obtain ⟨c2,h3⟩:=ZaW h1;exact xS fol h3 hE [rZ,rZ] (aN c1 c1 c1 c1 c2 c1 c1)
  exact xS fol h2 hE [rZ,.r [(4,wF),(5,wF),(6,wF),(7,wF),(8,wF),(9,yF)]] (aM c1 c1 c1 c1 c1 c1)
noncomputable def Zcf.B:Code:=Tryz.f92.body.getD .skip
noncomputable def Zcf.rs (r:LL):List CV:=[.row true 1 r]
noncomputable def Zcf (N:Nat) (A0:LL):Option LL:= Zbj (Zbm N A0) fun x1=> some x1
theorem Zcf.snd {A0:LL} {r:LL} (h:Zcf N A0=some r):Zdo zE 92 [.one (L.bx 1 [vR 1 A0])] (Zcf.rs r):=fun st=>
 sO Zcf.B Tryz.func92 fun g0 w0 R hE=>by
  unfold Zcf at h;obtain ⟨x1,c1,h1⟩:=Zae h;obtain rfl:=Zad h1;exact af fol hE [.r [(0,{m:=2})],rZ,cF,.r [(3,{oe:=[vR 1 A0]}),(4,{rs:=[.row true 1 x1],ns:=[9],m:=1})]] [] 0 [0] (aL eF (eO [vR 1 A0]) (Zbm.snd c1) z0 (eN (zG x1)))
noncomputable def ZaP.B:Code:=Tryz.f55.body.getD .skip
noncomputable def ZaP.rs (r:ZaT×LL):List CV:=[.agg r.1.ls]
noncomputable def ZaP.p3 (N:Nat) (st2:LL) (A1:ZaT) (h_2:Zal) (A8:ZaT) (c3_:(Int×LL)→Option (ZaT×LL)):(Int×LL)→Option (ZaT×LL):=fun (A9,st15)=> if (decide (A9≥0))=true then chk (0≤A9)<| chk (A9<(len A1.Times))<| ZcS (A1.Times[zC A9]?) ZcW fun x16=> Zbj (ZaX N (some (zG st2)) [[zM .i64 x16]] st15) fun st17=> c3_ (w64 (A9-1),st17) else Zbj (ZaX N (some (zG st2)) [[zM .i64 h_2.Time]] st15) fun st18=> ZcS (st18[zG st2]?) Zjx fun x19=> Zbj (Zcf N x19) fun x20=> chk (Zee x20=true)<| some ({A8 with Times:=x20},st18)
noncomputable def ZaP.p2 (N:Nat) (A1:ZaT) (h_2:Zal) (A8:ZaT) (st2:LL):Option (ZaT×LL):= loopN (ZaP.p3 N st2 A1 h_2 A8) N (w64 ((if (11:Int)<(len A1.Times) then 11 else (len A1.Times))-1),st2++[[yT true 1 []]])
noncomputable def ZaP.p1 (N:Nat) (A0:Zah) (A1:ZaT) (h_2:Zal) (A5:ZaT) (st2:LL):Option (ZaT×LL):= if A0.Easy=true then if (h_2.Bits==A0.Limit)=true then Zbj (Zdk N A0 A1.Point.Height) fun x6=> if (!x6)=true then ZaP.p2 N A1 h_2 {A5 with Point:={A5.Point with Hard:=A1.Point.Hard}} st2 else ZaP.p2 N A1 h_2 A5 st2 else ZaP.p2 N A1 h_2 A5 st2 else ZaP.p2 N A1 h_2 A5 st2
noncomputable def ZaP (N:Nat) (A0:Zah) (A1:ZaT) (h_2:Zal) (st:LL):Option (ZaT×LL):= Zbj (Zem N h_2 st) fun (x1,st2)=> Zbj (Zdk N A0 A1.Point.Height) fun x3=> if x3=true then ZaP.p1 N A0 A1 h_2 (ZaT.mk (Zdy.mk (w64 (A1.Point.Height+1)) h_2.Bits h_2.Time h_2.Time h_2.Bits) x1 []) st2 else ZaP.p1 N A0 A1 h_2 (ZaT.mk (Zdy.mk (w64 (A1.Point.Height+1)) h_2.Bits h_2.Time A1.Point.First h_2.Bits) x1 []) st2
noncomputable def ZaP.p3.S (st2:LL) (A9:Int) (A1:ZaT) (h_2:Zal) (A8:ZaT) (st15:LL):S:=mkS 81 [(4,sA 4),(5,sA 5),(6,sA 6),(7,sA 7),(8,sP (some (zG st2))),(9,sI A9)] [(4,.cells A1.ls),(5,.cells h_2.ls),(6,.cells [zM .i64 0,zM .i64 0,zM .i64 0,zM .i64 0,zM .i64 0,zK .u8 32 (zB 32 0),yT true 1 []]),(7,.cells A8.ls)] st15
noncomputable def ZaP.p2.S (A1:ZaT) (h_2:Zal) (A8:ZaT) (st2:LL):S:=mkS 81 [(4,sA 4),(5,sA 5),(6,sA 6),(7,sA 7)] [(4,.cells A1.ls),(5,.cells h_2.ls),(6,.cells [zM .i64 0,zM .i64 0,zM .i64 0,zM .i64 0,zM .i64 0,zK .u8 32 (zB 32 0),yT true 1 []]),(7,.cells A8.ls)] st2
noncomputable def ZaP.p1.S (A0:Zah) (A1:ZaT) (h_2:Zal) (A5:ZaT) (st2:LL):S:=mkS 81 [(3,sA 3),(4,sA 4),(5,sA 5),(6,sA 6),(7,sA 7)] [(3,.cells A0.ls),(4,.cells A1.ls),(5,.cells h_2.ls),(6,.cells [zM .i64 0,zM .i64 0,zM .i64 0,zM .i64 0,zM .i64 0,zK .u8 32 (zB 32 0),yT true 1 []]),(7,.cells A5.ls)] st2
theorem ZaP.p3_ok {st2 A9 A1 h_2 A8 st15 r c3_ J3} (h:ZaP.p3 N st2 A1 h_2 A8 c3_ (A9,st15)=some r) (hE:En Tryz.f55 g0 w0 (ZaP.rs r) r.2 R) (hc3 : ∀A9 st15,c3_ (A9,st15)=some r→At g0 w0 (ZaP.p3.S st2 A9 A1 h_2 A8 st15) J3):At g0 w0 (ZaP.p3.S st2 A9 A1 h_2 A8 st15) (XK zE R (cK ZaP.B [1,1,1,1,1,0,1,0,0] :: .h J3 :: [.b 0,cK ZaP.B [1,1,1,1,1,1]])):=by
 unfold ZaP.p3 at h;refine Zba h (fun c17 h1=>?_) (fun c17 h2=>?_)
 ·obtain ⟨c18,c19,h3⟩:=ck2 h1;obtain ⟨x16,c20,h4⟩:=Zci h3;obtain ⟨st17,c21,h5⟩:=Zae h4;exact an fol [rZ,cT,.r [(4,{oe:=[zM .i64 x16]}),(6,{st:=st17,fz:=[72]})],rZ] [4,5,6,7,8,9] [4,5,6,7] (aN c17 c18 c19 c20 z0 (eN (1)) (ZaX.snd c21)) (hc3 (w64 (A9-1)) st17 h5)
 obtain ⟨st18,c22,h6⟩:=Zae h2;obtain ⟨x19,c23,h7⟩:=Zgj h6;obtain ⟨x20,c24,h8⟩:=Zae h7;obtain ⟨c25,h9⟩:=ZaW h8;exact xT fol h9 hE [rZ,cF,.r [(3,{st:=st18,fz:=[76]})],.r [(0,{rs:=[.row true 1 x20],ns:=[78],m:=10,cv:=[.one (L.bx 1 [vR 1 x19])]}),(2,{fz:=[78]})],rZ] (aO c17 z0 (eN (1)) (ZaX.snd c22) (bO 1 c23 ((bW bN):BVs st18 [yT true 1 x19] [vR 1 x19])) c25 (Zcf.snd c24) (aI z0 (eN (zG x20))))
theorem ZaP.p2_ok {A1 h_2 A8 st2 r} (h:ZaP.p2 N A1 h_2 A8 st2=some r) (hE:En Tryz.f55 g0 w0 (ZaP.rs r) r.2 R):At g0 w0 (ZaP.p2.S A1 h_2 A8 st2) (XK zE R [cK ZaP.B [1,1,1,1]]):=by
 unfold ZaP.p2 at h;exact aq fol [.r [(0,{m:=1})],rZ] [4,5,6,7,8,9] [4,5,6,7] trivial (At.loop N (At.loopN (fun y:Int×LL=>ZaP.p3.S st2 y.1 A1 h_2 A8 y.2) (fun c J hc y h=>ZaP.p3_ok (A9:=y.1) (st15:=y.2) h hE (fun A9 st15=>hc (A9,st15))) N (w64 ((if (11:Int)<(len A1.Times) then 11 else (len A1.Times))-1),st2++[[yT true 1 []]]) h))
theorem ZaP.p1_ok {A0 A1 h_2 A5 st2 r} (h:ZaP.p1 N A0 A1 h_2 A5 st2=some r) (hE:En Tryz.f55 g0 w0 (ZaP.rs r) r.2 R):At g0 w0 (ZaP.p1.S A0 A1 h_2 A5 st2) (XK zE R [cK ZaP.B [1,1,1]]):=by
 unfold ZaP.p1 at h;refine Zba h (fun c4 h10=>?_) (fun c4 h11=>?_)
 ·have t1 {Q:Prop} (q:Q):=aN c4 c4 c4 c4 c4 c4 q;refine Zba h10 (fun c5 h12=>?_) (fun c5 h13=>?_)
  ·obtain ⟨x6,c6,h14⟩:=Zae h12;let o1:List PS:=[.r [(14,q1 [oB x6])]]
   have t2 {Q:Prop} (q:Q):=t1 (aO c5 c5 c5 c5 c5 (Zdk.snd c6) c5 (aI c5 q));refine Zba h14 (fun c7 h15=>?_) (fun c7 h16=>?_)
   ·exact aq fol (o1++[cT,rZ,.s 1]) [4,5,6,7] [4,5,6,7] (t2 c7) (ZaP.p2_ok h15 hE)
   exact aq fol (o1++[cF,.s 1]) [4,5,6,7] [4,5,6,7] (t2 c7) (ZaP.p2_ok h16 hE)
  exact aq fol [.r [(10,wF),(11,wF),(12,wF),(13,wF),(14,wF),(15,wF),(16,yF)],cF,.s 1] [4,5,6,7] [4,5,6,7] (t1 (aO c5 c5 c5 c5 c5 c5 c5 eF)) (ZaP.p2_ok h13 hE)
 exact aq fol [.r [(3,wF),(4,wF),(5,wF),(6,wF),(7,wF),(8,yF),(10,wF),(11,wF),(12,wF),(13,wF),(14,wF),(15,wF),(16,yF)],cF,.s 1] [4,5,6,7] [4,5,6,7] (aO c4 c4 c4 c4 c4 c4 eF (aN eF eF eF eF eF eF eF)) (ZaP.p2_ok h11 hE)
theorem ZaP.snd {A0:Zah} {A1:ZaT} {h_2:Zal} {st:LL} {r:ZaT×LL} (h:ZaP N A0 A1 h_2 st=some r):Snd zE 55 [.agg A0.ls,.agg A1.ls,.agg h_2.ls] st (ZaP.rs r) r.2:=
 sO ZaP.B Tryz.func55 fun g0 w0 R hE=>by
  unfold ZaP at h;obtain ⟨⟨x1,st2⟩,c1,h17⟩:=Zae h;obtain ⟨x3,c2,h18⟩:=Zae h17;let o2:List PS:=[rZ,.d {ds:=[(15,{rs:=[.agg [zK .u8 32 x1]],st:=st2})],hv:=425984,Hs:=[32768,131072,163840,425984]},.r [(4,q1 [oB x3])]]
  have t3 {Q:Prop} (q:Q):=aK (Zem.snd c1) (Zem.snd c1) (Zdk.snd c2) q;refine Zba h18 (fun c3 h19=>?_) (fun c3 h20=>?_)
  ·exact aqd fol (o2++[cT,rZ,.s 1]) [3,4,5,6,7] [3,4,5,6,7] (t3 c3) (ZaP.p1_ok h19 hE)
  exact aqd fol (o2++[cF,.s 1]) [3,4,5,6,7] [3,4,5,6,7] (t3 c3) (ZaP.p1_ok h20 hE)
noncomputable def ZeI.B:Code:=Tryz.f51.body.getD .skip
noncomputable def ZeI.rs (r:ZaT×LL):List CV:=[.agg r.1.ls]
noncomputable def ZeI (N:Nat) (A0:Zah) (st:LL):Option (ZaT×LL):= Zbj (ZaP N A0 (ZaT.mk (Zdy.mk 0 0 0 0 A0.Limit) (zB 32 0) []) A0.Genesis st) fun (x1,st2)=> some (x1,st2)
theorem ZeI.snd {A0:Zah} {st:LL} {r:ZaT×LL} (h:ZeI N A0 st=some r):Snd zE 51 [.agg A0.ls] st (ZeI.rs r) r.2:=
 sO ZeI.B Tryz.func51 fun g0 w0 R hE=>by
  unfold ZeI at h;obtain ⟨⟨x1,st2⟩,c1,h1⟩:=Zae h;exact xT fol h1 hE [rZ,.r [(7,{rs:=[.agg x1.ls],st:=st2})]] (ZaP.snd c1)
end Go.Dn.F
