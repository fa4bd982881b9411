import Derived.Test.YthiibbfaabjpgaaGreatDoorProg
import Derived.Test.YthiibbfaabjpgaaGreatDoorKd
set_option linter.all false
open ByteArray renaming size->yC
open Go.Dn.L renaming ptr->zN,own->yI,arr->zL,int->zK,sl->vQ,str->vO
open Go.Proofs.Tryz renaming prog->zC
open Int renaming toNat->zD
open List renaming length->zG,set->zR,map->vN,replicate->zB,getD->zF,take->xY,drop->wY
open Option renaming isNone->xX
set_option maxRecDepth 100000
namespace Go.Dn.F
open Go.Proofs
noncomputable def qla (a0 a1 a2:Option Nat) (a3:LL):List L:=[zN a0,zN a1,zN a2,yI true 1 a3]
noncomputable def glob_digest_steps:List Int:=[1116352408,1899447441,3049323471,3921009573,961987163,1508970993,2453635748,2870763221,3624381080,310598401,607225278,1426881987,1925078388,2162078206,2614888103,3248222580,3835390401,4022224774,264347078,604807628,770255983,1249150122,1555081692,1996064986,2554220882,2821834349,2952996808,3210313671,3336571891,3584528711,113926993,338241895,666307205,773529912,1294757372,1396182291,1695183700,1986661051,2177026350,2456956037,2730485921,2820302411,3259730800,3345764771,3516065817,3600352804,4094571909,275423344,430227734,506948616,659060556,883997877,958139571,1322822218,1537002063,1747873779,1955562222,2024104815,2227730452,2361852424,2428436474,2756734187,3204031479,3329325298]
noncomputable def glob_digest_starts:List Int:=[1779033703,3144134277,1013904242,2773480762,1359893119,2600822924,528734635,1541459225]
noncomputable instance glob:Globs:=⟨fun k=>match k with
  | 0=>some [zL .u32 8 glob_digest_starts]
  | 1=>some [zL .u32 64 glob_digest_steps]
  | _=>none⟩
def fol:Tryz.prog.follows .mixedOrders=true:=by kernel_rfl
instance:FaS Tryz.prog:=⟨fol⟩
abbrev En (f:Func) (g0:G) (w0:World) (rs:List CV) (st:LL) (R:Exit->Act->World->Prop):Prop:=Znp zC f g0 w0 rs st R
variable {N:Nat} {g0:G} {w0:World} {R:Exit->Act->World->Prop}
structure Zal where
  Version:Int
  Prev:List Int
  Root:List Int
  Time:Int
  Bits:Int
  Nonce:Int
noncomputable def Zal.ls (x:Zal):List L:=[zK .i64 x.Version,zL .u8 32 x.Prev,zL .u8 32 x.Root,zK .i64 x.Time,zK .i64 x.Bits,zK .i64 x.Nonce]
noncomputable def ZeC {α:Type} (l:List L) (k:Zal->Option α):Option α:=match l with | [zK .i64 x0,zL .u8 32 x1,zL .u8 32 x2,zK .i64 x3,zK .i64 x4,zK .i64 x5]=>k ⟨x0,x1,x2,x3,x4,x5⟩ | _=>none
def ZeU {α:Type} {o:Option (List L)} {k:Zal->Option α} {r:α} (h:ZcO o ZeC k=some r) : ∃x:Zal,o=some x.ls/\k x=some r:=by
  obtain ⟨l,e,k1⟩:=Zab h;subst e;unfold ZeC at k1;split at k1
  · exact ⟨_,rfl,k1⟩
  cases k1
@[simp] def Zfc {α:Type} (x:Zal) (k:Zal->Option α):ZeC x.ls k=k x:=rfl
def Zal.bv {st:LL} (x:Zal):BVs st x.ls x.ls:=(bP (bP (bP (bP (bP (bP bN))))))
structure Zar where
  state:List Int
  rest:LL
  size:Int
noncomputable def Zar.lo (x:Zar):List L:=[zL .u32 8 x.state,yI false 1 x.rest,zK .u64 x.size]
noncomputable def Zcy {α:Type} (l:List L) (k:Zar->Option α):Option α:=match l with | [zL .u32 8 x0,yI false 1 x1,zK .u64 x2]=>k ⟨x0,x1,x2⟩ | _=>none
def ZcP {α:Type} {o:Option (List L)} {k:Zar->Option α} {r:α} (h:ZcO o Zcy k=some r) : ∃x:Zar,o=some x.lo/\k x=some r:=by
  obtain ⟨l,e,k1⟩:=Zab h;subst e;unfold Zcy at k1;split at k1
  · exact ⟨_,rfl,k1⟩
  cases k1
@[simp] def Zfz {α:Type} (x:Zar) (k:Zar->Option α):Zcy x.lo k=k x:=rfl
noncomputable def Zar.ls (x:Zar):List L:=[zL .u32 8 x.state,vQ 1 x.rest,zK .u64 x.size]
def Zar.bv {st:LL} (x:Zar):BVs st x.lo x.ls:=(bP (bW (bP bN)))
structure Zae where
  Limit:Int
  Interval:Int
  Spacing:Int
  Future:Int
  Easy:Bool
  Gates:LL
  Checks:LL
  MinWork:List Int
  Margin:List Int
  Genesis:Zal
noncomputable def Zae.ls (x:Zae):List L:=[zK .i64 x.Limit,zK .i64 x.Interval,zK .i64 x.Spacing,zK .i64 x.Future,L.bool x.Easy,vQ 2 x.Gates,vQ 33 x.Checks,zL .u64 4 x.MinWork,zL .u64 4 x.Margin,zK .i64 x.Genesis.Version,zL .u8 32 x.Genesis.Prev,zL .u8 32 x.Genesis.Root,zK .i64 x.Genesis.Time,zK .i64 x.Genesis.Bits,zK .i64 x.Genesis.Nonce]
structure Zeh where
  Height:Int
  Bits:Int
  Time:Int
  First:Int
  Hard:Int
noncomputable def Zeh.ls (x:Zeh):List L:=[zK .i64 x.Height,zK .i64 x.Bits,zK .i64 x.Time,zK .i64 x.First,zK .i64 x.Hard]
def Zeh.bv {st:LL} (x:Zeh):BVs st x.ls x.ls:=(bP (bP (bP (bP (bP bN)))))
structure ZaW where
  Point:Zeh
  Prev:List Int
  Times:LL
noncomputable def ZaW.ls (x:ZaW):List L:=[zK .i64 x.Point.Height,zK .i64 x.Point.Bits,zK .i64 x.Point.Time,zK .i64 x.Point.First,zK .i64 x.Point.Hard,zL .u8 32 x.Prev,vQ 1 x.Times]
noncomputable def Zhf {α:Type} (l:List L) (k:ZaW->Option α):Option α:=match l with | [zK .i64 x0,zK .i64 x1,zK .i64 x2,zK .i64 x3,zK .i64 x4,zL .u8 32 x5,vQ 1 x6]=>k ⟨⟨x0,x1,x2,x3,x4⟩,x5,x6⟩ | _=>none
def ZkU {α:Type} {o:Option (List L)} {k:ZaW->Option α} {r:α} (h:ZcO o Zhf k=some r) : ∃x:ZaW,o=some x.ls/\k x=some r:=by
  obtain ⟨l,e,k1⟩:=Zab h;subst e;unfold Zhf at k1;split at k1
  · exact ⟨_,rfl,k1⟩
  cases k1
@[simp] def ZlA {α:Type} (x:ZaW) (k:ZaW->Option α):Zhf x.ls k=k x:=rfl
noncomputable def ZaW.lo (x:ZaW):List L:=[zK .i64 x.Point.Height,zK .i64 x.Point.Bits,zK .i64 x.Point.Time,zK .i64 x.Point.First,zK .i64 x.Point.Hard,zL .u8 32 x.Prev,yI true 1 x.Times]
def ZaW.bv {st:LL} (x:ZaW):BVs st x.lo x.ls:=(bP (bP (bP (bP (bP (bP (bW bN)))))))
noncomputable def Zdv {α:Type} (l:List L) (k:Int->Option α):Option α:=match l with | [zK .i64 x0]=>k x0 | _=>none
def ZjI {α:Type} {l:List L} {k:Int->Option α} {r:α} (h:Zdv l k=some r) : ∃x0,l = [zK .i64 x0]/\k x0=some r:=by
  unfold Zdv at h;split at h
  · exact ⟨_,rfl,h⟩
  cases h
def Zcq {α:Type} {o:Option (List L)} {k:Int->Option α} {r:α} (h:ZcO o Zdv k=some r) : ∃x0,o=some [zK .i64 x0]/\k x0=some r:=by
  obtain ⟨l,e,k1⟩:=Zab h;subst e;unfold Zdv at k1;split at k1
  · exact ⟨_,rfl,k1⟩
  cases k1
@[simp] def Zeu {α:Type} (x0:Int) (k:Int->Option α):Zdv [zK .i64 x0] k=k x0:=rfl
noncomputable def Zks {α:Type} (l:List L) (k:LL->Option α):Option α:=match l with | [yI true 1 x0]=>k x0 | _=>none
def Zhj {α:Type} {o:Option (List L)} {k:LL->Option α} {r:α} (h:ZcO o Zks k=some r) : ∃x0,o=some [yI true 1 x0]/\k x0=some r:=by
  obtain ⟨l,e,k1⟩:=Zab h;subst e;unfold Zks at k1;split at k1
  · exact ⟨_,rfl,k1⟩
  cases k1
@[simp] def Zjb {α:Type} (x0:LL) (k:LL->Option α):Zks [yI true 1 x0] k=k x0:=rfl
noncomputable def ZhW {α:Type} (l:List L) (k:(List Int)->Option α):Option α:=match l with | [zL .u8 32 x0]=>k x0 | _=>none
def Zim {α:Type} {o:Option (List L)} {k:(List Int)->Option α} {r:α} (h:ZcO o ZhW k=some r) : ∃x0,o=some [zL .u8 32 x0]/\k x0=some r:=by
  obtain ⟨l,e,k1⟩:=Zab h;subst e;unfold ZhW at k1;split at k1
  · exact ⟨_,rfl,k1⟩
  cases k1
@[simp] def Zls {α:Type} (x0:List Int) (k:(List Int)->Option α):ZhW [zL .u8 32 x0] k=k x0:=rfl
noncomputable def dec_t {α:Type} (l:List L) (k:ByteArray->Option α):Option α:=match l with | [vO x0]=>k x0 | _=>none
def ZuK {α:Type} {o:Option (List L)} {k:ByteArray->Option α} {r:α} (h:ZcO o dec_t k=some r) : ∃x0,o=some [vO x0]/\k x0=some r:=by
  obtain ⟨l,e,k1⟩:=Zab h;subst e;unfold dec_t at k1;split at k1
  · exact ⟨_,rfl,k1⟩
  cases k1
@[simp] def dec_t_ls {α:Type} (x0:ByteArray) (k:ByteArray->Option α):dec_t [vO x0] k=k x0:=rfl
noncomputable def ZmM {α:Type} (l:List L) (k:Int->Option α):Option α:=match l with | [zK .u8 x0]=>k x0 | _=>none
def Zjs {α:Type} {o:Option (List L)} {k:Int->Option α} {r:α} (h:ZcO o ZmM k=some r) : ∃x0,o=some [zK .u8 x0]/\k x0=some r:=by
  obtain ⟨l,e,k1⟩:=Zab h;subst e;unfold ZmM at k1;split at k1
  · exact ⟨_,rfl,k1⟩
  cases k1
@[simp] def Zkr {α:Type} (x0:Int) (k:Int->Option α):ZmM [zK .u8 x0] k=k x0:=rfl
noncomputable def ZbI.B:Code:=Tryz.f72.body.getD .skip
noncomputable def ZbI.rs (r:List (List L)):List CV:=[.row true 1 r]
noncomputable def ZbI (N:Nat) (A0:List (List L)):Option (List (List L)):=chk (zG A0*8<=140737488355328) (some A0)
def ZbI.s {A0:LL} {r:LL} (h:ZbI N A0=some r):ZdW zC 72 [.one (.sl 1 A0)] (ZbI.rs r):=fun st=>
  Snd.of (fn:=Tryz.f72) (c:=ZbI.B) Tryz.func72 aQ aQ (of_decide_eq_true aQ) fun g w R hE=>by
    unfold ZbI at h;obtain ⟨c1,h⟩:=Zba h;obtain rfl:=Zac h;refine At.q (s':=mkS 8 [(0,.one (.l (.sl 1 A0)))] [] st) (ks':=[.c (.seq (.region 1 #[{ dst:=some 3,op:=.move (.tmp 0),type:=48,pos:=opPos (ZbK ZbI.B [1,0]) 0,after:=#[],guard:=none},{ dst:=some 4,op:=.binOp .eql 48 (.tmp 3) (.const (.slice none 0 0)) 48,type:=4,pos:=opPos (ZbK ZbI.B [1,0]) 1,after:=#[⟨0,.data⟩],guard:=none}] false) (ZbK ZbI.B [1,0,1])),cK ZbI.B [1,1]]) fol 400 [.r [(0,{m:=2})],.s 2] [0] [] trivial ?_ aQ;refine At.nilcmp (T:=48) (E:=3) (sz:=1) (xs:=A0) (ZfL _) rfl rfl rfl rfl rfl rfl Tryz.underlying48 aQ (of_decide_eq_true aQ) fun b hb=>?_;cases b with
    | true=>
      obtain rfl:=hb rfl;exact At.f fol hE 400 [cT,.r [(0,{m:=2})]] [] 0 [0] (rfl:true=true) aQ
    | false=>
      exact At.f fol hE 400 [cF,rZ] [] 0 [0] (And.intro (rfl:false=false) (And.intro (rfl:(0:Nat)=0) (And.intro (@rfl Nat (zG ([]:List (List L)))) (And.intro c1 (And.intro (rfl:(0:Nat)=0) (@rfl Nat (zG A0))))))) aQ
noncomputable def ZdV.B:Code:=Tryz.f138.body.getD .skip
noncomputable def ZdV.rs (r:Bool):List CV:=[oB r]
noncomputable def ZdV (N:Nat) (A0:Int):Option Bool:= if (decide (A0>=0))=true then some (decide (A0<=4294967295)) else some false
def ZdV.s {A0:Int} {r:Bool} (h:ZdV N A0=some r):ZdW zC 138 [oI A0] (ZdV.rs r):=fun st=>
 sO ZdV.B Tryz.func138 fun g0 w0 R hE=>by
  unfold ZdV at h;exact Zbd h (fun c1 h=>xS h hE [rZ,rZ] (aJ c1 c1 c1)) fun c1 h=>xS h hE [rZ,.r [(3,wF),(4,wF),(5,yF)]] (aJ c1 c1 c1)
noncomputable def ZcW.B:Code:=Tryz.f117.body.getD .skip
noncomputable def ZcW.rs (r:Bool):List CV:=[oB r]
noncomputable def ZcW (N:Nat) (h_0:Zal):Option Bool:= if (decide (h_0.Version>=(-2147483648)))=true then if (decide (h_0.Version<2147483648))=true then if (decide (h_0.Time>=0))=true then if (decide (h_0.Time<4294967296))=true then Zbb (ZdV N h_0.Bits) fun x1=> if x1=true then if (decide (h_0.Nonce>=0))=true then some (decide (h_0.Nonce<4294967296)) else some false else some false else some false else some false else some false else some false
def ZcW.s {h_0:Zal} {r:Bool} (h:ZcW N h_0=some r):ZdW zC 117 [.agg h_0.ls] (ZcW.rs r):=fun st=>
 sO ZcW.B Tryz.func117 fun g0 w0 R hE=>by
  unfold ZcW at h;refine Zbd h (fun c1 h=>?_) (fun c1 h=>?_)
  ·have t1 {Q:Prop} (q:Q):=aL c1 c1 c1 c1 q;refine Zbd h (fun c2 h=>?_) (fun c2 h=>?_)
   ·have t2 {Q:Prop} (q:Q):=t1 (aL c2 c2 c2 c2 q);refine Zbd h (fun c3 h=>?_) (fun c3 h=>?_)
    ·have t3 {Q:Prop} (q:Q):=t2 (aL c3 c3 c3 c3 q);refine Zbd h (fun c4 h=>?_) (fun c4 h=>?_)
     ·obtain ⟨x1,c5,h⟩:=Zab h;have t4 {Q:Prop} (q:Q):=t3 (aM c4 c4 c4 (ZdV.s c5) c4 q);exact Zbd h (fun c6 h=>Zbd h (fun c7 h=>xS h hE [rZ,.r [(21,q1 [oB x1])]] (t4 (aO c6 c6 c6 c6 c7 c7 c7 c7))) fun c7 h=>xS h hE [rZ,.r [(21,q1 [oB x1]),(29,wF),(30,wF),(31,wF),(32,yF)]] (t4 (aO c6 c6 c6 c6 c7 c7 c7 c7))) fun c6 h=>xS h hE [rZ,.r [(21,q1 [oB x1]),(24,wF),(25,wF),(26,wF),(27,yF),(29,wF),(30,wF),(31,wF),(32,yF)]] (t4 (aO c6 c6 c6 c6 eF eF eF eF))
     exact xS h hE [rZ,.r [(19,wF),(20,wF),(21,wF),(22,yF),(24,wF),(25,wF),(26,wF),(27,yF),(29,wF),(30,wF),(31,wF),(32,yF)]] (t3 (aO c4 c4 c4 c4 eF eF eF (aL eF eF eF eF eF)))
    exact xS h hE [rZ,.r [(14,wF),(15,wF),(16,wF),(17,yF),(19,wF),(20,wF),(21,wF),(22,yF),(24,wF),(25,wF),(26,wF),(27,yF),(29,wF),(30,wF),(31,wF),(32,yF)]] (t2 (aO c3 c3 c3 c3 eF eF eF (aO eF eF eF eF eF eF eF (aI eF eF))))
   exact xS h hE [rZ,.r [(9,wF),(10,wF),(11,wF),(12,yF),(14,wF),(15,wF),(16,wF),(17,yF),(19,wF),(20,wF),(21,wF),(22,yF),(24,wF),(25,wF),(26,wF),(27,yF),(29,wF),(30,wF),(31,wF),(32,yF)]] (t1 (aO c2 c2 c2 c2 eF eF eF (aO eF eF eF eF eF eF eF (aM eF eF eF eF eF eF))))
  exact xS h hE [rZ,.r [(4,wF),(5,wF),(6,wF),(7,yF),(9,wF),(10,wF),(11,wF),(12,yF),(14,wF),(15,wF),(16,wF),(17,yF),(19,wF),(20,wF),(21,wF),(22,yF),(24,wF),(25,wF),(26,wF),(27,yF),(29,wF),(30,wF),(31,wF),(32,yF)]] (aO c1 c1 c1 c1 eF eF eF (aO eF eF eF eF eF eF eF (aO eF eF eF eF eF eF eF (aJ eF eF eF))))
noncomputable def ZaU.B:Code:=Tryz.f173.body.getD .skip
noncomputable def ZaU.rs (r:LL):List CV:=[]
noncomputable def ZaU.p2 (N:Nat) (c1_:((Option Nat)×Int×LL)->Option LL) (A1 x12:Int) (A2:LL) (v1:Int) (c2_:((Option Nat)×Int×LL)->Option LL):((Option Nat)×Int×LL)->Option LL:=fun (A16,v13,st17)=> if (decide (v13<(if (8:Int)<(if (1:Int)>A1 then 1 else A1) then 8 else (if (1:Int)>A1 then 1 else A1))))=true then Zbb A16 fun i18=> ZcO (st17[i18]?) Zks fun x19=> chk (0<=(w64 (8*v13)))<| chk (zG (x19++[[zK .u8 (v8 (Zbx .i64 x12 (w64 (8*v13))))]])*1<=140737488355328)<| c2_ ((some i18),w64 (v13+1),zR (zR st17 i18 [L.gone]) i18 [yI true 1 (x19++[[zK .u8 (v8 (Zbx .i64 x12 (w64 (8*v13))))]])]) else c1_ (A16,w64 (v1+1),st17)
noncomputable def ZaU.p1 (N:Nat) (A1:Int) (A2:LL) (c1_:((Option Nat)×Int×LL)->Option LL):((Option Nat)×Int×LL)->Option LL:=fun (A10,v1,st11)=> if (decide (v1<(len A2)))=true then chk (0<=v1)<| ZcO (A2[zD v1]?) Zdv fun x12=> loopN (ZaU.p2 N c1_ A1 x12 A2 v1) N (A10,0,st11) else some st11
noncomputable def ZaU (N:Nat) (A0:Option Nat) (A1:Int) (A2 st:LL):Option LL:= loopN (ZaU.p1 N A1 A2) N (A0,0,st)
noncomputable def ZaU.S2 (A16:Option Nat) (A1 x12:Int) (A2:LL) (v1 v13:Int) (st17:LL):S:=mkS 37 [(0,sP A16),(1,sI A1),(7,sI x12),(9,sV 1 A2),(10,sI (len A2)),(11,sI v1),(17,sI (if (8:Int)<(if (1:Int)>A1 then 1 else A1) then 8 else (if (1:Int)>A1 then 1 else A1))),(18,sI v13)] [] st17
noncomputable def ZaU.S1 (A10:Option Nat) (A1:Int) (A2:LL) (v1:Int) (st11:LL):S:=mkS 37 [(0,sP A10),(1,sI A1),(9,sV 1 A2),(10,sI (len A2)),(11,sI v1)] [] st11
def ZaU.k2 {A16 A1 x12 A2 v1 v13 st17 r c1_ c2_ J1 J2} (h:ZaU.p2 N c1_ A1 x12 A2 v1 c2_ (A16,v13,st17)=some r) (hE:En Tryz.f173 g0 w0 (ZaU.rs r) r R) (hc1 : ∀A10 v1 st11,c1_ (A10,v1,st11)=some r->At g0 w0 (ZaU.S1 A10 A1 A2 v1 st11) J1) (hc2 : ∀A16 v13 st17,c2_ (A16,v13,st17)=some r->At g0 w0 (ZaU.S2 A16 A1 x12 A2 v1 v13 st17) J2):At g0 w0 (ZaU.S2 A16 A1 x12 A2 v1 v13 st17) (XK zC R (cK ZaU.B [1,0,0,1,1,0,0,1,1,0,0] :: .h J2 :: [.b 2,.b 1,cK ZaU.B [1,0,0,1,1,1],.h J1,.b 0])):=by
 unfold ZaU.p2 at h;refine Zbd h (fun c22 h=>?_) (fun c22 h=>?_)
 ·obtain ⟨i18,rfl,h⟩:=Zab h;obtain ⟨x19,c24,h⟩:=Zhj h;obtain ⟨c25,c26,h⟩:=ck2 h;exact Zlu fol [rZ,cT,rZ,.d {ds:=[(4,{oc:=[yI true 1 x19]}),(11,{oe:=[yI true 1 x19]}),(14,{oc:=[L.gone],mv:=[32]})],hv:=19456,Hs:=[1024,3072,19456]},rZ] [0,1,7,9,10,11,17,18] [] (aO c22 c24 c24 c25 z0 (eN (zG x19)) c24 (aM z0 (eN (1)) c26 (Zaq c24 [L.gone]) z0 (eN (zG (x19++[[zK .u8 (v8 (Zbx .i64 x12 (w64 (8*v13))))]]))))) (hc2 (some i18) (w64 (v13+1)) (zR (zR st17 i18 [L.gone]) i18 [yI true 1 (x19++[[zK .u8 (v8 (Zbx .i64 x12 (w64 (8*v13))))]])]) h)
 exact an [rZ,cF,rZ] c22 (hc1 A16 (w64 (v1+1)) st17 h)
def ZaU.k1 {A10 A1 A2 v1 st11 r c1_ J1} (h:ZaU.p1 N A1 A2 c1_ (A10,v1,st11)=some r) (hE:En Tryz.f173 g0 w0 (ZaU.rs r) r R) (hc1 : ∀A10 v1 st11,c1_ (A10,v1,st11)=some r->At g0 w0 (ZaU.S1 A10 A1 A2 v1 st11) J1):At g0 w0 (ZaU.S1 A10 A1 A2 v1 st11) (XK zC R (cK ZaU.B [1,0,0] :: .h J1 :: [.b 0])):=by
 unfold ZaU.p1 at h;refine Zbd h (fun c14 h=>?_) (fun c14 h=>?_)
 ·obtain ⟨c15,h⟩:=Zba h;obtain ⟨x12,c16,h⟩:=Zcq h;exact aq [rZ,cT,.r [(1,{oe:=[zK .i64 x12]})],rZ] (aK c14 c15 (oD c14) c16) (At.loop N (At.loopN (fun y:(Option Nat)×Int×LL=>ZaU.S2 y.1 A1 x12 A2 v1 y.2.1 y.2.2) (fun c J hc y h=>ZaU.k2 (A16:=y.1) (v13:=y.2.1) (st17:=y.2.2) h hE hc1 (fun A16 v13 st17=>hc (A16,v13,st17))) N (A10,0,st11) h))
 exact xR h hE [rZ,cF] c14
def ZaU.s {A0:Option Nat} {A1:Int} {A2:LL} {st:LL} {r:LL} (h:ZaU N A0 A1 A2 st=some r):Snd zC 173 [.one (zN A0),oI A1,.one (vQ 1 A2)] st (ZaU.rs r) r:=
 sO ZaU.B Tryz.func173 fun g0 w0 R hE=>by
  unfold ZaU at h;exact aq [rZ] trivial (At.loop N (At.loopN (fun y:(Option Nat)×Int×LL=>ZaU.S1 y.1 A1 A2 y.2.1 y.2.2) (fun c J hc y h=>ZaU.k1 (A10:=y.1) (v1:=y.2.1) (st11:=y.2.2) h hE (fun A10 v1 st11=>hc (A10,v1,st11))) N (A0,0,st) h))
noncomputable def ZbC.B:Code:=Tryz.f174.body.getD .skip
noncomputable def ZbC.rs (r:LL):List CV:=[]
noncomputable def ZbC.p1 (N:Nat) (A1:LL) (c1_:((Option Nat)×Int×LL)->Option LL):((Option Nat)×Int×LL)->Option LL:=fun (A5,v1,st6)=> if (decide (v1<(len A1)))=true then chk (0<=v1)<| ZcO (A1[zD v1]?) ZhW fun x7=> Zbb A5 fun i8=> ZcO (st6[i8]?) Zks fun x9=> chk (zG (x9++(vN (fun x=>[zK .u8 x]) x7))*1<=140737488355328)<| c1_ ((some i8),w64 (v1+1),zR (zR st6 i8 [L.gone]) i8 [yI true 1 (x9++(vN (fun x=>[zK .u8 x]) x7))]) else some st6
noncomputable def ZbC (N:Nat) (A0:Option Nat) (A1 st:LL):Option LL:= loopN (ZbC.p1 N A1) N (A0,0,st)
noncomputable def ZbC.S1 (A5:Option Nat) (A1:LL) (v1:Int) (st6:LL):S:=mkS 22 [(0,sP A5),(6,sV 32 A1),(7,sI (len A1)),(8,sI v1)] [] st6
def ZbC.k1 {A5 A1 v1 st6 r c1_ J1} (h:ZbC.p1 N A1 c1_ (A5,v1,st6)=some r) (hE:En Tryz.f174 g0 w0 (ZbC.rs r) r R) (hc1 : ∀A5 v1 st6,c1_ (A5,v1,st6)=some r->At g0 w0 (ZbC.S1 A5 A1 v1 st6) J1):At g0 w0 (ZbC.S1 A5 A1 v1 st6) (XK zC R (cK ZbC.B [1,0,0] :: .h J1 :: [.b 0])):=by
 unfold ZbC.p1 at h;refine Zbd h (fun c7 h=>?_) (fun c7 h=>?_)
 ·obtain ⟨c8,h⟩:=Zba h;obtain ⟨x7,c9,h⟩:=Zim h;obtain ⟨i8,rfl,h⟩:=Zab h;obtain ⟨x9,c11,h⟩:=Zhj h;obtain ⟨c12,h⟩:=Zba h;exact Zlu fol [rZ,cT,.r [(1,{oe:=[zL .u8 32 x7]})],.d {ds:=[(4,{oc:=[yI true 1 x9]}),(6,{oe:=[yI true 1 x9]}),(9,{oc:=[L.gone],mv:=[18]})],hv:=576,Hs:=[64,576]},rZ] [0,6,7,8] [] (aO c7 c8 (oD c7) c9 c11 (leN 0 32) (leN 32 32) (aN z0 (eN (zG x9)) c11 c12 (Zaq c11 [L.gone]) z0 (eN (zG (x9++(vN (fun x=>[zK .u8 x]) x7)))))) (hc1 (some i8) (w64 (v1+1)) (zR (zR st6 i8 [L.gone]) i8 [yI true 1 (x9++(vN (fun x=>[zK .u8 x]) x7))]) h)
 exact xR h hE [rZ,cF] c7
def ZbC.s {A0:Option Nat} {A1:LL} {st:LL} {r:LL} (h:ZbC N A0 A1 st=some r):Snd zC 174 [.one (zN A0),.one (vQ 32 A1)] st (ZbC.rs r) r:=
 sO ZbC.B Tryz.func174 fun g0 w0 R hE=>by
  unfold ZbC at h;exact aq [rZ] trivial (At.loop N (At.loopN (fun y:(Option Nat)×Int×LL=>ZbC.S1 y.1 A1 y.2.1 y.2.2) (fun c J hc y h=>ZbC.k1 (A5:=y.1) (v1:=y.2.1) (st6:=y.2.2) h hE (fun A5 v1 st6=>hc (A5,v1,st6))) N (A0,0,st) h))
noncomputable def ZcE.B:Code:=Tryz.f158.body.getD .skip
noncomputable def ZcE.rs (r:LL):List CV:=[]
noncomputable def ZcE.p1 (N:Nat) (A0:Option Nat) (h_2:Zal) (st:LL):Option LL:= Zbb (ZaU N A0 4 [[zK .i64 h_2.Version]] st) fun st3=> Zbb (ZbC N A0 [[zL .u8 32 h_2.Prev],[zL .u8 32 h_2.Root]] st3) fun st4=> Zbb (ZaU N A0 4 [[zK .i64 h_2.Time],[zK .i64 h_2.Bits],[zK .i64 h_2.Nonce]] st4) fun st5=> some st5
noncomputable def ZcE (N:Nat) (A0:Option Nat) (A1:Zal) (st:LL):Option LL:= Zbb (ZcW N A1) fun x1=> if (!x1)=true then ZcE.p1 N A0 (Zal.mk 0 (zB 32 0) (zB 32 0) 0 0 0) st else ZcE.p1 N A0 A1 st
noncomputable def ZcE.S1 (A0:Option Nat) (h_2:Zal) (st:LL):S:=mkS 29 [(0,sP A0),(3,sA 3)] [(3,.cells h_2.ls)] st
def ZcE.k1 {A0 h_2 st r} (h:ZcE.p1 N A0 h_2 st=some r) (hE:En Tryz.f158 g0 w0 (ZcE.rs r) r R):At g0 w0 (ZcE.S1 A0 h_2 st) (XK zC R [cK ZcE.B [1,1]]):=by
 unfold ZcE.p1 at h;obtain ⟨st3,c3,h⟩:=Zab h;obtain ⟨st4,c4,h⟩:=Zab h;obtain ⟨st5,c5,h⟩:=Zab h;exact xR h hE [.r [(4,{st:=st3,fz:=[11]})],.r [(6,{st:=st4,fz:=[18]})],.r [(8,{st:=st5,fz:=[27]})]] (aO z0 (eN (1)) (ZaU.s c3) z0 (eN (2)) (ZbC.s c4) z0 (aI (eN (3)) (ZaU.s c5)))
def ZcE.s {A0:Option Nat} {A1:Zal} {st:LL} {r:LL} (h:ZcE N A0 A1 st=some r):Snd zC 158 [.one (zN A0),.agg A1.ls] st (ZcE.rs r) r:=
 sO ZcE.B Tryz.func158 fun g0 w0 R hE=>by
  unfold ZcE at h;obtain ⟨x1,c1,h⟩:=Zab h;let o1:List PS:=[rZ,.r [(1,q1 [oB x1])]]
  exact Zbd h (fun c2 h=>aq (o1++[cT,rZ,.s 1]) (aI (ZcW.s c1) c2) (ZcE.k1 h hE)) fun c2 h=>aq (o1++[cF,.s 1]) (aI (ZcW.s c1) c2) (ZcE.k1 h hE)
noncomputable def Zdi.B:Code:=Tryz.f159.body.getD .skip
noncomputable def Zdi.rs (r:ByteArray):List CV:=[.one (vO r)]
noncomputable def Zdi (N:Nat) (A0:LL):Option ByteArray:= chk (isB A0=true)<| some (Zlz (vN Zge A0))
def Zdi.s {A0:LL} {r:ByteArray} (h:Zdi N A0=some r):ZdW zC 159 [.one (L.bx 1 [vQ 1 A0])] (Zdi.rs r):=fun st=>
 sO Zdi.B Tryz.func159 fun g0 w0 R hE=>by
  unfold Zdi at h;obtain ⟨c1,h⟩:=Zba h;exact xS h hE [rZ,.r [(3,{oe:=[vQ 1 A0]})]] (aI (eO [vQ 1 A0]) c1)
noncomputable def ZdU.B:Code:=Tryz.f139.body.getD .skip
noncomputable def ZdU.rs (r:ByteArray×Int×LL):List CV:=[.one (vO r.1),oI r.2.1]
noncomputable def ZdU (N:Nat) (h_0:Zal) (st:LL):Option (ByteArray×Int×LL):= Zbb (ZcW N h_0) fun x1=> if (!x1)=true then some ((ByteArray.mk #[]),1,st) else Zbb (ZcE N (some (zG st)) h_0 (st++[[yI true 1 []]])) fun st2=> ZcO (st2[zG st]?) Zks fun x3=> Zbb (Zdi N x3) fun x4=> some (x4,0,st2)
def ZdU.s {h_0:Zal} {st:LL} {r:ByteArray×Int×LL} (h:ZdU N h_0 st=some r):Snd zC 139 [.agg h_0.ls] st (ZdU.rs r) r.2.2:=
 sO ZdU.B Tryz.func139 fun g0 w0 R hE=>by
  unfold ZdU at h;obtain ⟨x1,c1,h⟩:=Zab h;let o1:List PS:=[rZ,.r [(1,q1 [oB x1])]]
  refine Zbd h (fun c2 h=>xU h hE (o1++[cT,rZ]) (aI (ZcW.s c1) c2)) fun c2 h=>?_;obtain ⟨st2,c3,h⟩:=Zab h;obtain ⟨x3,c4,h⟩:=Zhj h;obtain ⟨x4,c5,h⟩:=Zab h;exact xU h hE (o1++[cF,.r [(0,{ns:=[0]}),(1,{m:=1})],.r [(2,{st:=st2})],.r [(1,{rs:=[.one (vO x4)],m:=10,cv:=[.one (L.bx 1 [vQ 1 x3])]})]]) (aL (ZcW.s c1) c2 (ZcE.s c3) (bO 1 c4 ((bW bN):BVs st2 [yI true 1 x3] [vQ 1 x3])) (Zdi.s c5))
noncomputable def Zfu.B:Code:=Tryz.f175.body.getD .skip
noncomputable def Zfu.rs (r:(Option Nat)×LL):List CV:=[.one (zN r.1)]
noncomputable def Zfu (N:Nat) (st:LL):Option ((Option Nat)×LL):= some ((some (zG st)),st++[Zar.lo (Zar.mk glob_digest_starts [] 0)])
def Zfu.s {st:LL} {r:(Option Nat)×LL} (h:Zfu N st=some r):Snd zC 175 [] st (Zfu.rs r) r.2:=
 sO Zfu.B Tryz.func175 fun g0 w0 R hE=>by
  unfold Zfu at h;exact xT h hE [rZ,.r [(1,{mv:=[1]}),(2,{m:=1})]] trivial
noncomputable def Zcw.B:Code:=Tryz.f206.body.getD .skip
noncomputable def Zcw.rs (r:Int):List CV:=[.one (zK .u32 r)]
noncomputable def Zcw (N:Nat) (A0 A1:Int):Option Int:= chk (0<=(ZaI .and .u64 (v64 (A1)) 31))<| chk (0<=(v64 (32-(ZaI .and .u64 (v64 (A1)) 31))))<| some (ZaI .or .u32 (ZbP .u32 A0 (ZaI .and .u64 (v64 (A1)) 31)) (Zbx .u32 A0 (v64 (32-(ZaI .and .u64 (v64 (A1)) 31)))))
def Zcw.s {A0 A1:Int} {r:Int} (h:Zcw N A0 A1=some r):ZdW zC 206 [.one (zK .u32 A0),oI A1] (Zcw.rs r):=fun st=>
 sO Zcw.B Tryz.func206 fun g0 w0 R hE=>by
  unfold Zcw at h;obtain ⟨c1,c2,h⟩:=ck2 h;exact xS h hE [rZ,rZ,rZ] (aI c1 c2)
noncomputable def Zbr.B:Code:=Tryz.f194.body.getD .skip
noncomputable def Zbr.rs (r:Int):List CV:=[.one (zK .u32 r)]
noncomputable def Zbr.p1 (N:Nat) (A0:Int) (F1:LL) (c1_:(Int×Int)->Option Int):(Int×Int)->Option Int:=fun (A1,v2)=> if (decide (v2<(len F1)))=true then chk (0<=v2)<| ZcO (F1[zD v2]?) Zdv fun x3=> Zbb (Zcw N A0 (w64 (0-x3))) fun x4=> c1_ (ZaI .xor .u32 A1 x4,w64 (v2+1)) else some A1
noncomputable def Zbr (N:Nat) (A0:Int) (F1:LL):Option Int:= loopN (Zbr.p1 N A0 F1) N (0,0)
noncomputable def Zbr.S1 (A0 A1:Int) (F1:LL) (v2:Int) (st:LL):S:=mkS 22 [(0,.one (.l (zK .u32 A0))),(5,.one (.l (zK .u32 A1))),(8,sV 1 F1),(9,sI (len F1)),(10,sI v2)] [] st
def Zbr.k1 {A0 A1 F1 v2 st r c1_ J1} (h:Zbr.p1 N A0 F1 c1_ (A1,v2)=some r) (hE:En Tryz.f194 g0 w0 (Zbr.rs r) st R) (hc1 : ∀A1 v2,c1_ (A1,v2)=some r->At g0 w0 (Zbr.S1 A0 A1 F1 v2 st) J1):At g0 w0 (Zbr.S1 A0 A1 F1 v2 st) (XK zC R (cK Zbr.B [1,1,0,1,0,0] :: .h J1 :: [.b 0,cK Zbr.B [1,1,1]])):=by
 unfold Zbr.p1 at h;refine Zbd h (fun c1 h=>?_) (fun c1 h=>?_)
 ·obtain ⟨c2,h⟩:=Zba h;obtain ⟨x3,c3,h⟩:=Zcq h;obtain ⟨x4,c4,h⟩:=Zab h;exact an [rZ,cT,.r [(1,{oe:=[zK .i64 x3]})],.r [(4,q1 [.one (zK .u32 x4)])],rZ] (aL c1 c2 (oD c1) c3 (Zcw.s c4)) (hc1 (ZaI .xor .u32 A1 x4) (w64 (v2+1)) h)
 exact xS h hE [rZ,cF,rZ] c1
def Zbr.s {A0:Int} {F1:LL} {r:Int} (h:Zbr N A0 F1=some r):ZdW zC 194 [.one (zK .u32 A0),.one (vQ 1 F1)] (Zbr.rs r):=fun st=>
 sO Zbr.B Tryz.func194 fun g0 w0 R hE=>by
  unfold Zbr at h;exact aq [rZ,rZ,rZ] trivial (At.loop N (At.loopN (fun y:Int×Int=>Zbr.S1 A0 y.1 F1 y.2 st) (fun c J hc y h=>Zbr.k1 (A1:=y.1) (v2:=y.2) h hE (fun A1 v2=>hc (A1,v2))) N (0,0) h))
noncomputable def Zaj.B:Code:=Tryz.f187.body.getD .skip
noncomputable def Zaj.rs (r:LL):List CV:=[]
noncomputable def Zaj.p4 (N:Nat) (i71:Nat) (A80:List Int) (c4_:(Int×LL)->Option LL):(Int×LL)->Option LL:=fun (v83,st85)=> if (decide (v83<8))=true then chk (0<=v83)<| ZcO (st85[i71]?) Zcy fun x86=> c4_ (w64 (v83+1),zR st85 i71 (Zar.lo {x86 with state:=zR x86.state (zD v83) (v32 ((zF x86.state (zD v83) 0)+(zF A80 (zD v83) 0)))})) else some st85
noncomputable def Zaj.p3 (N:Nat) (i71:Nat) (A68:List Int) (st:LL) (c3_:(Int×(List Int))->Option LL):(Int×(List Int))->Option LL:=fun (v73,A80)=> if (decide (v73<64))=true then Zbb (Zbr N (zF A80 4 0) [[zK .i64 6],[zK .i64 11],[zK .i64 25]]) fun x81=> chk (0<=v73)<| Zbb (Zbr N (zF A80 0 0) [[zK .i64 2],[zK .i64 13],[zK .i64 22]]) fun x82=> c3_ (w64 (v73+1),[v32 ((v32 ((v32 ((v32 ((v32 ((zF A80 7 0)+x81))+(ZaI .xor .u32 (ZaI .and .u32 (zF A80 4 0) (zF A80 5 0)) (ZaI .and .u32 (ZaI .xor .u32 (IntKind.max IntKind.u32) (zF A80 4 0)) (zF A80 6 0)))))+(zF glob_digest_steps (zD v73) 0)))+(zF A68 (zD v73) 0)))+(v32 (x82+(ZaI .xor .u32 (ZaI .xor .u32 (ZaI .and .u32 (zF A80 0 0) (zF A80 1 0)) (ZaI .and .u32 (zF A80 0 0) (zF A80 2 0))) (ZaI .and .u32 (zF A80 1 0) (zF A80 2 0)))))),zF A80 0 0,zF A80 1 0,zF A80 2 0,v32 ((zF A80 3 0)+(v32 ((v32 ((v32 ((v32 ((zF A80 7 0)+x81))+(ZaI .xor .u32 (ZaI .and .u32 (zF A80 4 0) (zF A80 5 0)) (ZaI .and .u32 (ZaI .xor .u32 (IntKind.max IntKind.u32) (zF A80 4 0)) (zF A80 6 0)))))+(zF glob_digest_steps (zD v73) 0)))+(zF A68 (zD v73) 0)))),zF A80 4 0,zF A80 5 0,zF A80 6 0]) else loopN (Zaj.p4 N i71 A80) N (0,st)
noncomputable def Zaj.p2 (N:Nat) (h_0:Option Nat) (st:LL) (c2_:(Int×(List Int))->Option LL):(Int×(List Int))->Option LL:=fun (A49,A68)=> if (decide (A49<64))=true then chk (0<=(w64 (A49-15)))<| chk ((w64 (A49-15))<64)<| chk (0<=(w64 (A49-2)))<| chk ((w64 (A49-2))<64)<| chk (0<=(w64 (A49-16)))<| chk ((w64 (A49-16))<64)<| Zbb (Zbr N (zF A68 (zD (w64 (A49-15))) 0) [[zK .i64 7],[zK .i64 18]]) fun x69=> chk (0<=(w64 (A49-7)))<| chk ((w64 (A49-7))<64)<| Zbb (Zbr N (zF A68 (zD (w64 (A49-2))) 0) [[zK .i64 17],[zK .i64 19]]) fun x70=> chk (0<=A49)<| c2_ (w64 (A49+1),zR A68 (zD A49) (v32 ((v32 ((v32 ((zF A68 (zD (w64 (A49-16))) 0)+(ZaI .xor .u32 x69 (Zbx .u32 (zF A68 (zD (w64 (A49-15))) 0) 3))))+(zF A68 (zD (w64 (A49-7))) 0)))+(ZaI .xor .u32 x70 (Zbx .u32 (zF A68 (zD (w64 (A49-2))) 0) 10))))) else Zbb h_0 fun i71=> ZcO (st[i71]?) Zcy fun x72=> loopN (Zaj.p3 N i71 A68 st) N (0,x72.state)
noncomputable def Zaj.p1 (N:Nat) (h_0:Option Nat) (A1 st:LL) (c1_:(Int×(List Int))->Option LL):(Int×(List Int))->Option LL:=fun (v1,A44)=> if (decide (v1<16))=true then chk (0<=(w64 (4*v1)))<| chk ((w64 (4*v1))<(len A1))<| ZcO (A1[zD (w64 (4*v1))]?) ZmM fun x45=> chk (0<=(w64 ((w64 (4*v1))+1)))<| chk ((w64 ((w64 (4*v1))+1))<(len A1))<| ZcO (A1[zD (w64 ((w64 (4*v1))+1))]?) ZmM fun x46=> chk (0<=(w64 ((w64 (4*v1))+2)))<| chk ((w64 ((w64 (4*v1))+2))<(len A1))<| ZcO (A1[zD (w64 ((w64 (4*v1))+2))]?) ZmM fun x47=> chk (0<=(w64 ((w64 (4*v1))+3)))<| chk ((w64 ((w64 (4*v1))+3))<(len A1))<| ZcO (A1[zD (w64 ((w64 (4*v1))+3))]?) ZmM fun x48=> chk (0<=v1)<| chk (v1<64)<| c1_ (w64 (v1+1),zR A44 (zD v1) (ZaI .or .u32 (ZaI .or .u32 (ZaI .or .u32 (ZbP .u32 (v32 (x45)) 24) (ZbP .u32 (v32 (x46)) 16)) (ZbP .u32 (v32 (x47)) 8)) (v32 (x48)))) else loopN (Zaj.p2 N h_0 st) N (16,A44)
noncomputable def Zaj (N:Nat) (h_0:Option Nat) (A1 st:LL):Option LL:= loopN (Zaj.p1 N h_0 A1 st) N (0,zB 64 0)
noncomputable def Zaj.S4 (i71:Nat) (v83:Int) (A80:List Int) (st85:LL):S:=mkS 189 [(0,sP (some i71)),(9,sA 9),(172,sI v83)] [(9,.cells [zL .u32 8 A80])] st85
noncomputable def Zaj.S3 (i71:Nat) (v73:Int) (A68 A80:List Int) (st:LL):S:=mkS 189 [(0,sP (some i71)),(4,sA 4),(9,sA 9),(96,sI v73)] [(4,.cells [zL .u32 64 A68]),(9,.cells [zL .u32 8 A80])] st
noncomputable def Zaj.S2 (h_0:Option Nat) (A49:Int) (A68:List Int) (st:LL):S:=mkS 189 [(0,sP h_0),(4,sA 4),(6,sI A49)] [(4,.cells [zL .u32 64 A68])] st
noncomputable def Zaj.S1 (h_0:Option Nat) (A1:LL) (v1:Int) (A44:List Int) (st:LL):S:=mkS 189 [(0,sP h_0),(1,sV 1 A1),(4,sA 4),(16,sI v1)] [(4,.cells [zL .u32 64 A44])] st
def Zaj.k4 {i71 v83 A80 st85 r c4_ J4} (h:Zaj.p4 N i71 A80 c4_ (v83,st85)=some r) (hE:En Tryz.f187 g0 w0 (Zaj.rs r) r R) (hc4 : ∀v83 st85,c4_ (v83,st85)=some r->At g0 w0 (Zaj.S4 i71 v83 A80 st85) J4):At g0 w0 (Zaj.S4 i71 v83 A80 st85) (XK zC R (cK Zaj.B [1,1,1,1,1,1,0,0] :: .h J4 :: [.b 6])):=by
 unfold Zaj.p4 at h;refine Zbd h (fun c164 h=>?_) (fun c164 h=>?_)
 ·obtain ⟨c165,h⟩:=Zba h;obtain ⟨x86,c166,h⟩:=ZcP h;exact Zlu fol [rZ,cT,rZ,.d {ds:=[(5,{oc:=x86.lo}),(13,{oc:=x86.lo})],hv:=8192,Hs:=[8192]},rZ] [0,9,172] [9] (aO c164 c165 (oD c164) c166 c165 (oD c164) c165 (aI (oD c164) c166)) (hc4 (w64 (v83+1)) (zR st85 i71 (Zar.lo {x86 with state:=zR x86.state (zD v83) (v32 ((zF x86.state (zD v83) 0)+(zF A80 (zD v83) 0)))})) h)
 exact xR h hE [rZ,cF] c164
def Zaj.k3 {i71 v73 A68 A80 st r c3_ J3} (h:Zaj.p3 N i71 A68 st c3_ (v73,A80)=some r) (hE:En Tryz.f187 g0 w0 (Zaj.rs r) r R) (hc3 : ∀v73 A80,c3_ (v73,A80)=some r->At g0 w0 (Zaj.S3 i71 v73 A68 A80 st) J3):At g0 w0 (Zaj.S3 i71 v73 A68 A80 st) (XK zC R (cK Zaj.B [1,1,1,1,0,1,0,0] :: .h J3 :: [.b 4,cK Zaj.B [1,1,1,1,1]])):=by
 unfold Zaj.p3 at h;refine Zbd h (fun c157 h=>?_) (fun c157 h=>?_)
 ·obtain ⟨x81,c158,h⟩:=Zab h;obtain ⟨c159,h⟩:=Zba h;obtain ⟨x82,c160,h⟩:=Zab h;exact Zlu fol [rZ,cT,rZ,rZ,rZ,.d {ds:=[(5,{rs:=[.one (zK .u32 x81)],m:=2})],hv:=16,Hs:=[16]},.r [(3,{rs:=[.one (zK .u32 x82)],m:=2})],.r [(19,{m:=3})],rZ] [0,4,9,96] [4,9] (aI c157 (ix 4 8 (ix 5 8 (ix 4 8 (ix 6 8 (ix 0 8 (ix 1 8 (ix 0 8 (ix 2 8 (ix 1 8 (ix 2 8 (ix 7 8 (ix 7 8 (ix 4 8 (ix 4 8 (aO z0 (eN (3)) (Zbr.s c158) c159 (oD c157) c159 (oD c157) (aL c159 (oD c157) c159 (oD c157) (ix 0 8 (aK z0 (eN (3)) (Zbr.s c160) (ix 0 8 (ix 1 8 (ix 2 8 (ix 3 8 (ix 4 8 (ix 5 8 (aI (leI 0 6) (ltI 6 8))))))))))))))))))))))))))) (hc3 (w64 (v73+1)) [v32 ((v32 ((v32 ((v32 ((v32 ((zF A80 7 0)+x81))+(ZaI .xor .u32 (ZaI .and .u32 (zF A80 4 0) (zF A80 5 0)) (ZaI .and .u32 (ZaI .xor .u32 (IntKind.max IntKind.u32) (zF A80 4 0)) (zF A80 6 0)))))+(zF glob_digest_steps (zD v73) 0)))+(zF A68 (zD v73) 0)))+(v32 (x82+(ZaI .xor .u32 (ZaI .xor .u32 (ZaI .and .u32 (zF A80 0 0) (zF A80 1 0)) (ZaI .and .u32 (zF A80 0 0) (zF A80 2 0))) (ZaI .and .u32 (zF A80 1 0) (zF A80 2 0)))))),zF A80 0 0,zF A80 1 0,zF A80 2 0,v32 ((zF A80 3 0)+(v32 ((v32 ((v32 ((v32 ((zF A80 7 0)+x81))+(ZaI .xor .u32 (ZaI .and .u32 (zF A80 4 0) (zF A80 5 0)) (ZaI .and .u32 (ZaI .xor .u32 (IntKind.max IntKind.u32) (zF A80 4 0)) (zF A80 6 0)))))+(zF glob_digest_steps (zD v73) 0)))+(zF A68 (zD v73) 0)))),zF A80 4 0,zF A80 5 0,zF A80 6 0] h)
 exact aq [rZ,cF,rZ] c157 (At.loop N (At.loopN (fun y:Int×LL=>Zaj.S4 i71 y.1 A80 y.2) (fun c J hc y h=>Zaj.k4 (v83:=y.1) (st85:=y.2) h hE (fun v83 st85=>hc (v83,st85))) N (0,st) h))
def Zaj.k2 {h_0 A49 A68 st r c2_ J2} (h:Zaj.p2 N h_0 st c2_ (A49,A68)=some r) (hE:En Tryz.f187 g0 w0 (Zaj.rs r) r R) (hc2 : ∀A49 A68,c2_ (A49,A68)=some r->At g0 w0 (Zaj.S2 h_0 A49 A68 st) J2):At g0 w0 (Zaj.S2 h_0 A49 A68 st) (XK zC R (cK Zaj.B [1,1,0,1,0,0] :: .h J2 :: [.b 2,cK Zaj.B [1,1,1]])):=by
 unfold Zaj.p2 at h;refine Zbd h (fun c133 h=>?_) (fun c133 h=>?_)
 ·obtain ⟨c134,c135,c136,c137,c138,c139,h⟩:=ck6 h;obtain ⟨x69,c140,h⟩:=Zab h;obtain ⟨c141,c142,h⟩:=ck2 h;obtain ⟨x70,c143,h⟩:=Zab h;obtain ⟨c144,h⟩:=Zba h;exact Zlu fol [rZ,cT,.d {ds:=[],hv:=0,Hs:=[]},.d {ds:=[(7,{rs:=[.one (zK .u32 x69)],m:=2}),(19,{rs:=[.one (zK .u32 x70)],m:=2})],hv:=33816640,Hs:=[64,262144,262208,33816640]},rZ] [0,4,6] [4] (aO c133 c134 c135 c136 c137 c138 c139 (aO c138 c139 c138 c139 c138 c139 z0 (aO (eN (2)) (Zbr.s c140) z0 (eN (2)) (Zbr.s c140) (leI 0 3) (leI 0 3) (aO (leI 0 3) (leI 0 3) c141 c142 c141 c142 c141 (aO c142 c141 c142 z0 (eN (2)) (Zbr.s c143) (leI 0 10) (aL (leI 0 10) (leI 0 10) (leI 0 10) c144 (oD c133))))))) (hc2 (w64 (A49+1)) (zR A68 (zD A49) (v32 ((v32 ((v32 ((zF A68 (zD (w64 (A49-16))) 0)+(ZaI .xor .u32 x69 (Zbx .u32 (zF A68 (zD (w64 (A49-15))) 0) 3))))+(zF A68 (zD (w64 (A49-7))) 0)))+(ZaI .xor .u32 x70 (Zbx .u32 (zF A68 (zD (w64 (A49-2))) 0) 10))))) h)
 obtain ⟨i71,rfl,h⟩:=Zab h;obtain ⟨x72,c146,h⟩:=ZcP h;exact aq [rZ,cF,.r [(3,{oc:=x72.lo})],rZ] (aI c133 c146) (At.loop N (At.loopN (fun y:Int×(List Int)=>Zaj.S3 i71 y.1 A68 y.2 st) (fun c J hc y h=>Zaj.k3 (v73:=y.1) (A80:=y.2) h hE (fun v73 A80=>hc (v73,A80))) N (0,x72.state) h))
def Zaj.k1 {h_0 A1 v1 A44 st r c1_ J1} (h:Zaj.p1 N h_0 A1 st c1_ (v1,A44)=some r) (hE:En Tryz.f187 g0 w0 (Zaj.rs r) r R) (hc1 : ∀v1 A44,c1_ (v1,A44)=some r->At g0 w0 (Zaj.S1 h_0 A1 v1 A44 st) J1):At g0 w0 (Zaj.S1 h_0 A1 v1 A44 st) (XK zC R (cK Zaj.B [1,0,1,0,0] :: .h J1 :: [.b 0,cK Zaj.B [1,1]])):=by
 unfold Zaj.p1 at h;refine Zbd h (fun c84 h=>?_) (fun c84 h=>?_)
 ·obtain ⟨c85,c86,h⟩:=ck2 h;obtain ⟨x45,c87,h⟩:=Zjs h;obtain ⟨c88,c89,h⟩:=ck2 h;obtain ⟨x46,c90,h⟩:=Zjs h;obtain ⟨c91,c92,h⟩:=ck2 h;obtain ⟨x47,c93,h⟩:=Zjs h;obtain ⟨c94,c95,h⟩:=ck2 h;obtain ⟨x48,c96,h⟩:=Zjs h;obtain ⟨c97,c98,h⟩:=ck2 h;exact Zlu fol [rZ,cT,rZ,.d {ds:=[(5,{oe:=[zK .u8 x45]}),(13,{oe:=[zK .u8 x46]}),(22,{oe:=[zK .u8 x47]}),(31,{oe:=[zK .u8 x48]})],hv:=34359738368,Hs:=[34359738368]},rZ] [0,1,4,16] [4] (aO c84 c85 c86 c87 (leI 0 24) c88 c89 (aO c90 (leI 0 16) c91 c92 c93 (leI 0 8) c94 (aK c95 c96 c97 c98))) (hc1 (w64 (v1+1)) (zR A44 (zD v1) (ZaI .or .u32 (ZaI .or .u32 (ZaI .or .u32 (ZbP .u32 (v32 (x45)) 24) (ZbP .u32 (v32 (x46)) 16)) (ZbP .u32 (v32 (x47)) 8)) (v32 (x48)))) h)
 exact aq [rZ,cF,rZ] c84 (At.loop N (At.loopN (fun y:Int×(List Int)=>Zaj.S2 h_0 y.1 y.2 st) (fun c J hc y h=>Zaj.k2 (A49:=y.1) (A68:=y.2) h hE (fun A49 A68=>hc (A49,A68))) N (16,A44) h))
def Zaj.s {h_0:Option Nat} {A1:LL} {st:LL} {r:LL} (h:Zaj N h_0 A1 st=some r):Snd zC 187 [.one (zN h_0),.one (vQ 1 A1)] st (Zaj.rs r) r:=
 sO Zaj.B Tryz.func187 fun g0 w0 R hE=>by
  unfold Zaj at h;exact aq [rZ,rZ] trivial (At.loop N (At.loopN (fun y:Int×(List Int)=>Zaj.S1 h_0 A1 y.1 y.2 st) (fun c J hc y h=>Zaj.k1 (v1:=y.1) (A44:=y.2) h hE (fun v1 A44=>hc (v1,A44))) N (0,zB 64 0) h))
noncomputable def ZaE.B:Code:=Tryz.f176.body.getD .skip
noncomputable def ZaE.rs (r:LL):List CV:=[]
noncomputable def ZaE.p2 (N:Nat) (c1_:((Option Nat)×Int×LL)->Option LL) (i15:Nat) (A1:LL) (v1:Int) (c2_:LL->Option LL):LL->Option LL:=fun st20=> ZcO (st20[i15]?) Zcy fun x21=> if (decide ((len x21.rest)>=64))=true then chk (64<=(zG x21.rest))<| Zbb (Zaj N (some i15) (xY 64 x21.rest) st20) fun st22=> ZcO (st22[i15]?) Zcy fun x23=> chk (64<=(zG x23.rest))<| c2_ (zR st22 i15 (Zar.lo {x23 with rest:=wY 64 x23.rest})) else c1_ ((some i15),w64 (v1+1),st20)
noncomputable def ZaE.p1 (N:Nat) (A1:LL) (c1_:((Option Nat)×Int×LL)->Option LL):((Option Nat)×Int×LL)->Option LL:=fun (A12,v1,st13)=> if (decide (v1<(len A1)))=true then chk (0<=v1)<| ZcO (A1[zD v1]?) dec_t fun x14=> Zbb A12 fun i15=> ZcO (st13[i15]?) Zcy fun x16=> chk (zG (x16.rest++(ZoY x14))*1<=140737488355328)<| loopN (ZaE.p2 N c1_ i15 A1 v1) N (zR (zR (zR st13 i15 (Zar.lo {x16 with size:=v64 (x16.size+(v64 (((yC x14:Nat):Int))))})) i15 (gs (Zar.lo {x16 with size:=v64 (x16.size+(v64 (((yC x14:Nat):Int))))}) 1)) i15 (Zar.lo (Zar.mk x16.state (x16.rest++(ZoY x14)) (v64 (x16.size+(v64 (((yC x14:Nat):Int)))))))) else some st13
noncomputable def ZaE (N:Nat) (h_0:Option Nat) (A1 st:LL):Option LL:= if (xX h_0)=true then some st else loopN (ZaE.p1 N A1) N (h_0,0,st)
noncomputable def ZaE.S2 (i15:Nat) (A1:LL) (v1:Int) (st20:LL):S:=mkS 55 [(0,sP (some i15)),(8,sV 1 A1),(9,sI (len A1)),(10,sI v1)] [] st20
noncomputable def ZaE.S1 (A12:Option Nat) (A1:LL) (v1:Int) (st13:LL):S:=mkS 55 [(0,sP A12),(8,sV 1 A1),(9,sI (len A1)),(10,sI v1)] [] st13
def ZaE.k2 {i15 A1 v1 st20 r c1_ c2_ J1 J2} (h:ZaE.p2 N c1_ i15 A1 v1 c2_ st20=some r) (hE:En Tryz.f176 g0 w0 (ZaE.rs r) r R) (hc1 : ∀A12 v1 st13,c1_ (A12,v1,st13)=some r->At g0 w0 (ZaE.S1 A12 A1 v1 st13) J1) (hc2 : ∀st20,c2_ st20=some r->At g0 w0 (ZaE.S2 i15 A1 v1 st20) J2):At g0 w0 (ZaE.S2 i15 A1 v1 st20) (XK zC R (cK ZaE.B [1,1,0,0,1,1,0,0,1,1,1,0,0] :: .h J2 :: [.b 2,.b 1,cK ZaE.B [1,1,0,0,1,1,1],.h J1,.b 0])):=by
 unfold ZaE.p2 at h;obtain ⟨x21,c32,h⟩:=ZcP h;refine Zbd h (fun c33 h=>?_) (fun c33 h=>?_)
 ·obtain ⟨c34,h⟩:=Zba h;obtain ⟨st22,c35,h⟩:=Zab h;obtain ⟨x23,c36,h⟩:=ZcP h;obtain ⟨c37,h⟩:=Zba h;exact an [.r [(3,{oc:=x21.lo})],cT,.r [(4,{oc:=x21.lo}),(5,{oc:=x21.lo}),(6,{oc:=x21.lo,st:=st22,wm:=2})],.r [(4,{oc:=x23.lo}),(5,{oc:=x23.lo}),(8,{oc:=x23.lo,m:=8,wm:=1})]] (aO c32 c33 c32 (leI 0 64) (leN 0 64) c34 c32 (aO z0 c34 c32 (Zaj.s c35) c36 (leI 0 64) c37 (aM (Nat.le_refl (zG x23.rest)) c36 (rfl:Root.obj i15=Root.obj i15) c36 c37 (eN ((zG x23.rest)-64))))) (hc2 (zR st22 i15 (Zar.lo {x23 with rest:=wY 64 x23.rest})) h)
 exact an [.r [(3,{oc:=x21.lo})],cF,rZ] (aI c32 c33) (hc1 (some i15) (w64 (v1+1)) st20 h)
def ZaE.k1 {A12 A1 v1 st13 r c1_ J1} (h:ZaE.p1 N A1 c1_ (A12,v1,st13)=some r) (hE:En Tryz.f176 g0 w0 (ZaE.rs r) r R) (hc1 : ∀A12 v1 st13,c1_ (A12,v1,st13)=some r->At g0 w0 (ZaE.S1 A12 A1 v1 st13) J1):At g0 w0 (ZaE.S1 A12 A1 v1 st13) (XK zC R (cK ZaE.B [1,1,0,0] :: .h J1 :: [.b 0])):=by
 unfold ZaE.p1 at h;refine Zbd h (fun c20 h=>?_) (fun c20 h=>?_)
 ·obtain ⟨c21,h⟩:=Zba h;obtain ⟨x14,c22,h⟩:=ZuK h;obtain ⟨i15,rfl,h⟩:=Zab h;obtain ⟨x16,c24,h⟩:=ZcP h;obtain ⟨c25,h⟩:=Zba h;let u7:=x16.size+(v64 (((yC x14:Nat):Int)));let u6:=Zar.lo {x16 with size:=v64 u7};let u9:=x16.rest++(ZoY x14);exact aq [rZ,cT,.r [(1,{oe:=[vO x14]})],.r [(3,{oc:=x16.lo}),(10,{oc:=x16.lo})],.r [(4,{oc:=Zar.lo {x16 with size:=v64 u7}}),(6,{oe:=Zar.lo {x16 with size:=v64 u7}}),(9,{oc:=gs u6 1,mv:=[30]})]] (aO c20 c21 (oD c20) c22 c24 c24 (Zaq c24 u6) (aN z0 (eN (zG x16.rest)) (Zaq c24 u6) c25 (Zaq (Zaq c24 u6) (gs u6 1)) z0 (eN (zG u9)))) (At.loop N (At.loopN (fun y:LL=>ZaE.S2 i15 A1 v1 y) (fun c J hc y h=>ZaE.k2 h hE hc1 (fun st20=>hc st20)) N (zR (zR (zR st13 i15 u6) i15 (gs u6 1)) i15 (Zar.lo (Zar.mk x16.state u9 (v64 u7)))) h))
 exact xR h hE [rZ,cF] c20
def ZaE.s {h_0:Option Nat} {A1:LL} {st:LL} {r:LL} (h:ZaE N h_0 A1 st=some r):Snd zC 176 [.one (zN h_0),.one (vQ 1 A1)] st (ZaE.rs r) r:=
 sO ZaE.B Tryz.func176 fun g0 w0 R hE=>by
  unfold ZaE at h;exact Zbd h (fun c1 h=>xR h hE [rZ,cT] c1) fun c1 h=>aq [rZ,cF,rZ] c1 (At.loop N (At.loopN (fun y:(Option Nat)×Int×LL=>ZaE.S1 y.1 A1 y.2.1 y.2.2) (fun c J hc y h=>ZaE.k1 (A12:=y.1) (v1:=y.2.1) (st13:=y.2.2) h hE (fun A12 v1 st13=>hc (A12,v1,st13))) N (h_0,0,st) h))
noncomputable def Zao.B:Code:=Tryz.f177.body.getD .skip
noncomputable def Zao.rs (r:(List Int)×LL):List CV:=[.agg [zL .u8 32 r.1]]
noncomputable def Zao.p4 (N:Nat) (x47:Zar) (st45:LL) (c4_:(Int×(List Int))->Option ((List Int)×LL)):(Int×(List Int))->Option ((List Int)×LL):=fun (v48,A49)=> if (decide (v48<8))=true then chk (0<=v48)<| chk (0<=(w64 (4*v48)))<| chk ((w64 (4*v48))<32)<| chk (0<=(w64 ((w64 (4*v48))+1)))<| chk ((w64 ((w64 (4*v48))+1))<32)<| chk (0<=(w64 ((w64 (4*v48))+2)))<| chk ((w64 ((w64 (4*v48))+2))<32)<| chk (0<=(w64 ((w64 (4*v48))+3)))<| chk ((w64 ((w64 (4*v48))+3))<32)<| c4_ (w64 (v48+1),zR (zR (zR (zR A49 (zD (w64 (4*v48))) (v8 (Zbx .u32 (zF x47.state (zD v48) 0) 24))) (zD (w64 ((w64 (4*v48))+1))) (v8 (Zbx .u32 (zF x47.state (zD v48) 0) 16))) (zD (w64 ((w64 (4*v48))+2))) (v8 (Zbx .u32 (zF x47.state (zD v48) 0) 8))) (zD (w64 ((w64 (4*v48))+3))) (v8 (zF x47.state (zD v48) 0))) else some (A49,st45)
noncomputable def Zao.p3 (N:Nat) (st v38:LL) (c3_:(Nat×Nat×LL)->Option ((List Int)×LL)):(Nat×Nat×LL)->Option ((List Int)×LL):=fun (A43,A44,st45)=> if (decide (((A44:Nat):Int)>0))=true then chk ((A43+64)<=(zG v38))<| Zbb (Zaj N (some (zG st)) (xY 64 (wY A43 v38)) st45) fun st46=> chk (64<=A44)<| c3_ (A43+64,A44-64,st46) else ZcO (st45[zG st]?) Zcy fun x47=> loopN (Zao.p4 N x47 st45) N (0,zB 32 0)
noncomputable def Zao.p2 (N:Nat) (h_0:Zar) (st:LL) (c2_:(LL×Int)->Option ((List Int)×LL)):(LL×Int)->Option ((List Int)×LL):=fun (v38,A26)=> if (decide (A26>=0))=true then chk (0<=(w64 (8*A26)))<| chk (zG (v38++[[zK .u8 (v8 (Zbx .u64 (v64 (h_0.size*8)) (w64 (8*A26))))]])*1<=140737488355328)<| c2_ (v38++[[zK .u8 (v8 (Zbx .u64 (v64 (h_0.size*8)) (w64 (8*A26))))]],w64 (A26-1)) else loopN (Zao.p3 N st v38) N (0,zG v38,st++[Zar.lo (Zar.mk h_0.state [] 0)])
noncomputable def Zao.p1 (N:Nat) (h_0:Zar) (st:LL) (c1_:LL->Option ((List Int)×LL)):LL->Option ((List Int)×LL):=fun v25=> if ((Int.tmod (len v25) 64) != 56)=true then chk (zG (v25++[[zK .u8 0]])*1<=140737488355328)<| c1_ (v25++[[zK .u8 0]]) else loopN (Zao.p2 N h_0 st) N (v25,7)
noncomputable def Zao (N:Nat) (h_0:Zar) (st:LL):Option ((List Int)×LL):= chk (zG ([]++h_0.rest)*1<=140737488355328)<| chk (zG (([]++h_0.rest)++[[zK .u8 128]])*1<=140737488355328)<| loopN (Zao.p1 N h_0 st) N (([]++h_0.rest)++[[zK .u8 128]])
noncomputable def Zao.S4 (x47:Zar) (v48:Int) (A49:List Int) (st45:LL):S:=mkS 94 [(2,sA 2),(6,sA 6),(61,.agg [.l (zL .u32 8 x47.state)]),(62,sI v48)] [(2,.cells [zL .u8 32 (zB 32 0)]),(6,.cells [zL .u8 32 A49])] st45
noncomputable def Zao.S3 (st:LL) (A43 A44:Nat) (v38 st45:LL):S:=mkS 94 [(2,sA 2),(3,sP (some (zG st))),(4,.one (.h (.row 22 0) 1 A43 A44))] [(2,.cells [zL .u8 32 (zB 32 0)]),(22,.row 0 false 1 v38)] st45
noncomputable def Zao.S2 (h_0:Zar) (st v38:LL) (A26:Int):S:=mkS 94 [(0,.one (.l (L.bx 10 h_0.ls))),(2,sA 2),(3,sP (some (zG st))),(4,.one (.h (.row 22 0) 1 0 (zG v38))),(5,sI A26)] [(2,.cells [zL .u8 32 (zB 32 0)]),(22,.row 0 false 1 v38)] (st++[Zar.lo (Zar.mk h_0.state [] 0)])
noncomputable def Zao.S1 (h_0:Zar) (st v25:LL):S:=mkS 94 [(0,.one (.l (L.bx 10 h_0.ls))),(2,sA 2),(3,sP (some (zG st))),(4,.one (.h (.row 22 0) 1 0 (zG v25)))] [(2,.cells [zL .u8 32 (zB 32 0)]),(22,.row 0 false 1 v25)] (st++[Zar.lo (Zar.mk h_0.state [] 0)])
def Zao.k4 {x47 v48 A49 st45 r c4_ J4} (h:Zao.p4 N x47 st45 c4_ (v48,A49)=some r) (hE:En Tryz.f177 g0 w0 (Zao.rs r) r.2 R) (hc4 : ∀v48 A49,c4_ (v48,A49)=some r->At g0 w0 (Zao.S4 x47 v48 A49 st45) J4):At g0 w0 (Zao.S4 x47 v48 A49 st45) (XK zC R (cK Zao.B [1,1,1,1,1,1,1,1,1,0,1,0,0] :: .h J4 :: [.b 6,cK Zao.B [1,1,1,1,1,1,1,1,1,1]])):=by
 unfold Zao.p4 at h;refine Zbd h (fun c205 h=>?_) (fun c205 h=>?_)
 ·obtain ⟨c206,c207,c208,c209,c210,c211,c212,c213,h⟩:=ck8 h;obtain ⟨c214,h⟩:=Zba h;let u6:=zF x47.state (zD v48) 0;exact an [rZ,cT,rZ,rZ,rZ] (aO c205 c206 (oD c205) (leI 0 24) (leI 0 16) (leI 0 8) c207 (aN c208 c209 c210 c211 c212 c213 c214)) (hc4 (w64 (v48+1)) (zR (zR (zR (zR A49 (zD (w64 (4*v48))) (v8 (Zbx .u32 u6 24))) (zD (w64 ((w64 (4*v48))+1))) (v8 (Zbx .u32 u6 16))) (zD (w64 ((w64 (4*v48))+2))) (v8 (Zbx .u32 u6 8))) (zD (w64 ((w64 (4*v48))+3))) (v8 u6)) h)
 exact xT h hE [rZ,cF,rZ] c205
def Zao.k3 {st A43 A44 v38 st45 r c3_ J3} (h:Zao.p3 N st v38 c3_ (A43,A44,st45)=some r) (hE:En Tryz.f177 g0 w0 (Zao.rs r) r.2 R) (hc3 : ∀A43 A44 st45,c3_ (A43,A44,st45)=some r->At g0 w0 (Zao.S3 st A43 A44 v38 st45) J3):At g0 w0 (Zao.S3 st A43 A44 v38 st45) (XK zC R (cK Zao.B [1,1,1,1,1,1,1,0,0,0] :: .h J3 :: [.b 4,cK Zao.B [1,1,1,1,1,1,1,1]])):=by
 unfold Zao.p3 at h;refine Zbd h (fun c190 h=>?_) (fun c190 h=>?_)
 ·obtain ⟨c191,h⟩:=Zba h;obtain ⟨st46,c192,h⟩:=Zab h;obtain ⟨c193,h⟩:=Zba h;exact an [rZ,cT,.r [(2,{m:=9}),(3,{st:=st46,wm:=3,fz:=[22]})],rZ] (aO c190 (leI 0 64) (leN 0 64) c191 c191 (Zaj.s c192) (leI 0 64) (aI c193 (Nat.le_refl (A44)))) (hc3 (A43+64) (A44-64) st46 h)
 obtain ⟨x47,c194,h⟩:=ZcP h;exact aq [rZ,cF,rZ,.r [(3,{oc:=x47.lo})]] (aI c190 c194) (At.loop N (At.loopN (fun y:Int×(List Int)=>Zao.S4 x47 y.1 y.2 st45) (fun c J hc y h=>Zao.k4 (v48:=y.1) (A49:=y.2) h hE (fun v48 A49=>hc (v48,A49))) N (0,zB 32 0) h))
def Zao.k2 {h_0 st v38 A26 r c2_ J2} (h:Zao.p2 N h_0 st c2_ (v38,A26)=some r) (hE:En Tryz.f177 g0 w0 (Zao.rs r) r.2 R) (hc2 : ∀v38 A26,c2_ (v38,A26)=some r->At g0 w0 (Zao.S2 h_0 st v38 A26) J2):At g0 w0 (Zao.S2 h_0 st v38 A26) (XK zC R (cK Zao.B [1,1,1,1,1,1,0,1,0,0] :: .h J2 :: [.b 2,cK Zao.B [1,1,1,1,1,1,1]])):=by
 unfold Zao.p2 at h;refine Zbd h (fun c163 h=>?_) (fun c163 h=>?_)
 ·obtain ⟨c164,c165,h⟩:=ck2 h;exact an [rZ,cT,.r [(4,{oe:=h_0.ls})],rZ] (aO c163 (eO h_0.ls) c164 z0 (eN (zG v38)) z0 (eN (1)) c165) (hc2 (v38++[[zK .u8 (v8 (Zbx .u64 (v64 (h_0.size*8)) (w64 (8*A26))))]]) (w64 (A26-1)) h)
 exact aq [rZ,cF] c163 (At.loop N (At.loopN (fun y:Nat×Nat×LL=>Zao.S3 st y.1 y.2.1 v38 y.2.2) (fun c J hc y h=>Zao.k3 (A43:=y.1) (A44:=y.2.1) (st45:=y.2.2) h hE (fun A43 A44 st45=>hc (A43,A44,st45))) N (0,zG v38,st++[Zar.lo (Zar.mk h_0.state [] 0)]) h))
def Zao.k1 {h_0 st v25 r c1_ J1} (h:Zao.p1 N h_0 st c1_ v25=some r) (hE:En Tryz.f177 g0 w0 (Zao.rs r) r.2 R) (hc1 : ∀v25,c1_ v25=some r->At g0 w0 (Zao.S1 h_0 st v25) J1):At g0 w0 (Zao.S1 h_0 st v25) (XK zC R (cK Zao.B [1,1,1,1,1,0,0,0] :: .h J1 :: [.b 0,cK Zao.B [1,1,1,1,1,1]])):=by
 unfold Zao.p1 at h;refine Zbd h (fun c109 h=>?_) (fun c109 h=>?_)
 ·obtain ⟨c110,h⟩:=Zba h;exact an [rZ,cT,rZ] (aN (neI 64) c109 z0 (eN (zG v25)) z0 (eN (1)) c110) (hc1 (v25++[[zK .u8 0]]) h)
 exact aq [rZ,cF,rZ] (aI (neI 64) c109) (At.loop N (At.loopN (fun y:LL×Int=>Zao.S2 h_0 st y.1 y.2) (fun c J hc y h=>Zao.k2 (v38:=y.1) (A26:=y.2) h hE (fun v38 A26=>hc (v38,A26))) N (v25,7) h))
def Zao.s {h_0:Zar} {st:LL} {r:(List Int)×LL} (h:Zao N h_0 st=some r):Snd zC 177 [.one (L.bx 10 h_0.ls)] st (Zao.rs r) r.2:=
 sO Zao.B Tryz.func177 fun g0 w0 R hE=>by
  unfold Zao at h;obtain ⟨c1,c2,h⟩:=ck2 h;exact aq [rZ,rZ,cF,.r [(3,{oe:=h_0.ls}),(4,{mv:=[1]}),(5,{m:=1})],.r [(3,{oe:=h_0.ls}),(5,{fz:=[22]})],rZ] (aO eF (eO h_0.ls) (eO h_0.ls) c1 z0 (eN (zG ([]++h_0.rest))) z0 (aI (eN (1)) c2)) (At.loop N (At.loopN (fun y:LL=>Zao.S1 h_0 st y) (fun c J hc y h=>Zao.k1 h hE (fun v25=>hc v25)) N (([]++h_0.rest)++[[zK .u8 128]]) h))
noncomputable def Zam.B:Code:=Tryz.f177.body.getD .skip
noncomputable def Zam.rs (r:(List Int)×LL):List CV:=[.agg [zL .u8 32 r.1]]
noncomputable def Zam.p4 (N:Nat) (x53:Zar) (st51:LL) (c4_:(Int×(List Int))->Option ((List Int)×LL)):(Int×(List Int))->Option ((List Int)×LL):=fun (v54,A55)=> if (decide (v54<8))=true then chk (0<=v54)<| chk (0<=(w64 (4*v54)))<| chk ((w64 (4*v54))<32)<| chk (0<=(w64 ((w64 (4*v54))+1)))<| chk ((w64 ((w64 (4*v54))+1))<32)<| chk (0<=(w64 ((w64 (4*v54))+2)))<| chk ((w64 ((w64 (4*v54))+2))<32)<| chk (0<=(w64 ((w64 (4*v54))+3)))<| chk ((w64 ((w64 (4*v54))+3))<32)<| c4_ (w64 (v54+1),zR (zR (zR (zR A55 (zD (w64 (4*v54))) (v8 (Zbx .u32 (zF x53.state (zD v54) 0) 24))) (zD (w64 ((w64 (4*v54))+1))) (v8 (Zbx .u32 (zF x53.state (zD v54) 0) 16))) (zD (w64 ((w64 (4*v54))+2))) (v8 (Zbx .u32 (zF x53.state (zD v54) 0) 8))) (zD (w64 ((w64 (4*v54))+3))) (v8 (zF x53.state (zD v54) 0))) else some (A55,st51)
noncomputable def Zam.p3 (N:Nat) (st v43:LL) (c3_:(Nat×Nat×LL)->Option ((List Int)×LL)):(Nat×Nat×LL)->Option ((List Int)×LL):=fun (A49,A50,st51)=> if (decide (((A50:Nat):Int)>0))=true then chk ((A49+64)<=(zG v43))<| Zbb (Zaj N (some (zG st)) (xY 64 (wY A49 v43)) st51) fun st52=> chk (64<=A50)<| c3_ (A49+64,A50-64,st52) else ZcO (st51[zG st]?) Zcy fun x53=> loopN (Zam.p4 N x53 st51) N (0,zB 32 0)
noncomputable def Zam.p2 (N:Nat) (i1:Nat) (st:LL) (x2:Zar) (c2_:(LL×Int)->Option ((List Int)×LL)):(LL×Int)->Option ((List Int)×LL):=fun (v43,A30)=> if (decide (A30>=0))=true then ZcO ((st++[Zar.lo (Zar.mk x2.state [] 0)])[i1]?) Zcy fun x44=> chk (0<=(w64 (8*A30)))<| chk (zG (v43++[[zK .u8 (v8 (Zbx .u64 (v64 (x44.size*8)) (w64 (8*A30))))]])*1<=140737488355328)<| c2_ (v43++[[zK .u8 (v8 (Zbx .u64 (v64 (x44.size*8)) (w64 (8*A30))))]],w64 (A30-1)) else loopN (Zam.p3 N st v43) N (0,zG v43,st++[Zar.lo (Zar.mk x2.state [] 0)])
noncomputable def Zam.p1 (N:Nat) (i1:Nat) (st:LL) (x2:Zar) (c1_:LL->Option ((List Int)×LL)):LL->Option ((List Int)×LL):=fun v29=> if ((Int.tmod (len v29) 64) != 56)=true then chk (zG (v29++[[zK .u8 0]])*1<=140737488355328)<| c1_ (v29++[[zK .u8 0]]) else loopN (Zam.p2 N i1 st x2) N (v29,7)
noncomputable def Zam (N:Nat) (h_0:Option Nat) (st:LL):Option ((List Int)×LL):= if (xX h_0)=true then some (zB 32 0,st) else Zbb h_0 fun i1=> ZcO (st[i1]?) Zcy fun x2=> chk (zG ([]++x2.rest)*1<=140737488355328)<| chk (zG (([]++x2.rest)++[[zK .u8 128]])*1<=140737488355328)<| loopN (Zam.p1 N i1 st x2) N (([]++x2.rest)++[[zK .u8 128]])
noncomputable def Zam.S4 (x53:Zar) (v54:Int) (A55:List Int) (st51:LL):S:=mkS 94 [(2,sA 2),(6,sA 6),(61,.agg [.l (zL .u32 8 x53.state)]),(62,sI v54)] [(2,.cells [zL .u8 32 (zB 32 0)]),(6,.cells [zL .u8 32 A55])] st51
noncomputable def Zam.S3 (st:LL) (A49 A50:Nat) (v43 st51:LL):S:=mkS 94 [(2,sA 2),(3,sP (some (zG st))),(4,.one (.h (.row 22 0) 1 A49 A50))] [(2,.cells [zL .u8 32 (zB 32 0)]),(22,.row 0 false 1 v43)] st51
noncomputable def Zam.S2 (i1:Nat) (st v43:LL) (A30:Int) (x2:Zar):S:=mkS 94 [(0,sP (some i1)),(2,sA 2),(3,sP (some (zG st))),(4,.one (.h (.row 22 0) 1 0 (zG v43))),(5,sI A30)] [(2,.cells [zL .u8 32 (zB 32 0)]),(22,.row 0 false 1 v43)] (st++[Zar.lo (Zar.mk x2.state [] 0)])
noncomputable def Zam.S1 (i1:Nat) (st v29:LL) (x2:Zar):S:=mkS 94 [(0,sP (some i1)),(2,sA 2),(3,sP (some (zG st))),(4,.one (.h (.row 22 0) 1 0 (zG v29)))] [(2,.cells [zL .u8 32 (zB 32 0)]),(22,.row 0 false 1 v29)] (st++[Zar.lo (Zar.mk x2.state [] 0)])
def Zam.k4 {x53 v54 A55 st51 r c4_ J4} (h:Zam.p4 N x53 st51 c4_ (v54,A55)=some r) (hE:En Tryz.f177 g0 w0 (Zam.rs r) r.2 R) (hc4 : ∀v54 A55,c4_ (v54,A55)=some r->At g0 w0 (Zam.S4 x53 v54 A55 st51) J4):At g0 w0 (Zam.S4 x53 v54 A55 st51) (XK zC R (cK Zam.B [1,1,1,1,1,1,1,1,1,0,1,0,0] :: .h J4 :: [.b 6,cK Zam.B [1,1,1,1,1,1,1,1,1,1]])):=by
 unfold Zam.p4 at h;refine Zbd h (fun c212 h=>?_) (fun c212 h=>?_)
 ·obtain ⟨c213,c214,c215,c216,c217,c218,c219,c220,h⟩:=ck8 h;obtain ⟨c221,h⟩:=Zba h;let u6:=zF x53.state (zD v54) 0;exact an [rZ,cT,rZ,rZ,rZ] (aO c212 c213 (oD c212) (leI 0 24) (leI 0 16) (leI 0 8) c214 (aN c215 c216 c217 c218 c219 c220 c221)) (hc4 (w64 (v54+1)) (zR (zR (zR (zR A55 (zD (w64 (4*v54))) (v8 (Zbx .u32 u6 24))) (zD (w64 ((w64 (4*v54))+1))) (v8 (Zbx .u32 u6 16))) (zD (w64 ((w64 (4*v54))+2))) (v8 (Zbx .u32 u6 8))) (zD (w64 ((w64 (4*v54))+3))) (v8 u6)) h)
 exact xT h hE [rZ,cF,rZ] c212
def Zam.k3 {st A49 A50 v43 st51 r c3_ J3} (h:Zam.p3 N st v43 c3_ (A49,A50,st51)=some r) (hE:En Tryz.f177 g0 w0 (Zam.rs r) r.2 R) (hc3 : ∀A49 A50 st51,c3_ (A49,A50,st51)=some r->At g0 w0 (Zam.S3 st A49 A50 v43 st51) J3):At g0 w0 (Zam.S3 st A49 A50 v43 st51) (XK zC R (cK Zam.B [1,1,1,1,1,1,1,0,0,0] :: .h J3 :: [.b 4,cK Zam.B [1,1,1,1,1,1,1,1]])):=by
 unfold Zam.p3 at h;refine Zbd h (fun c197 h=>?_) (fun c197 h=>?_)
 ·obtain ⟨c198,h⟩:=Zba h;obtain ⟨st52,c199,h⟩:=Zab h;obtain ⟨c200,h⟩:=Zba h;exact an [rZ,cT,.r [(2,{m:=9}),(3,{st:=st52,wm:=3,fz:=[22]})],rZ] (aO c197 (leI 0 64) (leN 0 64) c198 c198 (Zaj.s c199) (leI 0 64) (aI c200 (Nat.le_refl (A50)))) (hc3 (A49+64) (A50-64) st52 h)
 obtain ⟨x53,c201,h⟩:=ZcP h;exact aq [rZ,cF,rZ,.r [(3,{oc:=x53.lo})]] (aI c197 c201) (At.loop N (At.loopN (fun y:Int×(List Int)=>Zam.S4 x53 y.1 y.2 st51) (fun c J hc y h=>Zam.k4 (v54:=y.1) (A55:=y.2) h hE (fun v54 A55=>hc (v54,A55))) N (0,zB 32 0) h))
def Zam.k2 {i1 st v43 A30 x2 r c2_ J2} (h:Zam.p2 N i1 st x2 c2_ (v43,A30)=some r) (hE:En Tryz.f177 g0 w0 (Zam.rs r) r.2 R) (hc2 : ∀v43 A30,c2_ (v43,A30)=some r->At g0 w0 (Zam.S2 i1 st v43 A30 x2) J2):At g0 w0 (Zam.S2 i1 st v43 A30 x2) (XK zC R (cK Zam.B [1,1,1,1,1,1,0,1,0,0] :: .h J2 :: [.b 2,cK Zam.B [1,1,1,1,1,1,1]])):=by
 unfold Zam.p2 at h;refine Zbd h (fun c169 h=>?_) (fun c169 h=>?_)
 ·obtain ⟨x44,c170,h⟩:=ZcP h;obtain ⟨c171,c172,h⟩:=ck2 h;exact an [rZ,cT,.r [(4,{oc:=x44.lo})],rZ] (aO c169 c170 c171 z0 (eN (zG v43)) z0 (eN (1)) c172) (hc2 (v43++[[zK .u8 (v8 (Zbx .u64 (v64 (x44.size*8)) (w64 (8*A30))))]]) (w64 (A30-1)) h)
 exact aq [rZ,cF] c169 (At.loop N (At.loopN (fun y:Nat×Nat×LL=>Zam.S3 st y.1 y.2.1 v43 y.2.2) (fun c J hc y h=>Zam.k3 (A49:=y.1) (A50:=y.2.1) (st51:=y.2.2) h hE (fun A49 A50 st51=>hc (A49,A50,st51))) N (0,zG v43,st++[Zar.lo (Zar.mk x2.state [] 0)]) h))
def Zam.k1 {i1 st v29 x2 r c1_ J1} (h:Zam.p1 N i1 st x2 c1_ v29=some r) (hE:En Tryz.f177 g0 w0 (Zam.rs r) r.2 R) (hc1 : ∀v29,c1_ v29=some r->At g0 w0 (Zam.S1 i1 st v29 x2) J1):At g0 w0 (Zam.S1 i1 st v29 x2) (XK zC R (cK Zam.B [1,1,1,1,1,0,0,0] :: .h J1 :: [.b 0,cK Zam.B [1,1,1,1,1,1]])):=by
 unfold Zam.p1 at h;refine Zbd h (fun c114 h=>?_) (fun c114 h=>?_)
 ·obtain ⟨c115,h⟩:=Zba h;exact an [rZ,cT,rZ] (aN (neI 64) c114 z0 (eN (zG v29)) z0 (eN (1)) c115) (hc1 (v29++[[zK .u8 0]]) h)
 exact aq [rZ,cF,rZ] (aI (neI 64) c114) (At.loop N (At.loopN (fun y:LL×Int=>Zam.S2 i1 st y.1 y.2 x2) (fun c J hc y h=>Zam.k2 (v43:=y.1) (A30:=y.2) h hE (fun v43 A30=>hc (v43,A30))) N (v29,7) h))
def Zam.s {h_0:Option Nat} {st:LL} {r:(List Int)×LL} (h:Zam N h_0 st=some r):Snd zC 177 [.one (zN h_0)] st (Zam.rs r) r.2:=
 sO Zam.B Tryz.func177 fun g0 w0 R hE=>by
  unfold Zam at h;refine Zbd h (fun c1 h=>xT h hE [rZ,rZ,cT,rZ] c1) fun c1 h=>?_;obtain ⟨i1,rfl,h⟩:=Zab h;obtain ⟨x2,c3,h⟩:=ZcP h;obtain ⟨c4,c5,h⟩:=ck2 h;let u6:=st_old c3 (Zar.lo (Zar.mk x2.state [] 0));exact aq [rZ,rZ,cF,.r [(3,{oc:=x2.lo}),(4,{mv:=[1]}),(5,{m:=1})],.r [(3,{oc:=x2.lo}),(4,{oc:=x2.lo}),(5,{fz:=[22]})],rZ] (aO c1 c3 u6 z0 (eN (zG x2.rest)) u6 c4 (aL z0 (eN (zG ([]++x2.rest))) z0 (eN (1)) c5)) (At.loop N (At.loopN (fun y:LL=>Zam.S1 i1 st y x2) (fun c J hc y h=>Zam.k1 h hE (fun v29=>hc v29)) N (([]++x2.rest)++[[zK .u8 128]]) h))
noncomputable def Zfb.B:Code:=Tryz.f160.body.getD .skip
noncomputable def Zfb.rs (r:(List Int)×LL):List CV:=[.agg [zL .u8 32 r.1]]
noncomputable def Zfb (N:Nat) (A0 st:LL):Option ((List Int)×LL):= Zbb (Zfu N st) fun (x1,st2)=> Zbb (ZaE N x1 A0 st2) fun st3=> Zbb (Zam N x1 st3) fun (x4,st5)=> some (x4,st5)
def Zfb.s {A0:LL} {st:LL} {r:(List Int)×LL} (h:Zfb N A0 st=some r):Snd zC 160 [.one (vQ 1 A0)] st (Zfb.rs r) r.2:=
 sO Zfb.B Tryz.func160 fun g0 w0 R hE=>by
  unfold Zfb at h;obtain ⟨⟨x1,st2⟩,c1,h⟩:=Zab h;obtain ⟨st3,c2,h⟩:=Zab h;obtain ⟨⟨x4,st5⟩,c3,h⟩:=Zab h;exact xT h hE [rZ,.r [(0,{rs:=[.one (zN x1)],st:=st2})],.r [(2,{st:=st3})],.r [(1,{rs:=[.agg [zL .u8 32 x4]],st:=st5})]] (aJ (Zfu.s c1) (ZaE.s c2) (Zam.s c3))
noncomputable def ZdZ.B:Code:=Tryz.f140.body.getD .skip
noncomputable def ZdZ.rs (r:(List Int)×LL):List CV:=[.agg [zL .u8 32 r.1]]
noncomputable def ZdZ (N:Nat) (A0 st:LL):Option ((List Int)×LL):= Zbb (Zfb N A0 st) fun (x1,st2)=> Zbb (Zfb N [[vO (Zlz x1)]] st2) fun (x3,st4)=> some (x3,st4)
def ZdZ.s {A0:LL} {st:LL} {r:(List Int)×LL} (h:ZdZ N A0 st=some r):Snd zC 140 [.one (vQ 1 A0)] st (ZdZ.rs r) r.2:=
 sO ZdZ.B Tryz.func140 fun g0 w0 R hE=>by
  unfold ZdZ at h;obtain ⟨⟨x1,st2⟩,c1,h⟩:=Zab h;obtain ⟨⟨x3,st4⟩,c2,h⟩:=Zab h;exact xT h hE [rZ,.r [(1,{rs:=[.agg [zL .u8 32 x1]],st:=st2})],.r [(3,{rs:=[.agg [zL .u8 32 x3]],st:=st4,fz:=[8]})]] (aM (Zfb.s c1) (leN 0 32) (leN 32 32) z0 (eN (1)) (Zfb.s c2))
noncomputable def ZeT.B:Code:=Tryz.f118.body.getD .skip
noncomputable def ZeT.rs (r:(List Int)×LL):List CV:=[.agg [zL .u8 32 r.1]]
noncomputable def ZeT (N:Nat) (h_0:Zal) (st:LL):Option ((List Int)×LL):= Zbb (ZdU N h_0 st) fun (x1,x2,st3)=> if (x2 != 0)=true then some (zB 32 0,st3) else Zbb (ZdZ N [[vO x1]] st3) fun (x4,st5)=> some (x4,st5)
def ZeT.s {h_0:Zal} {st:LL} {r:(List Int)×LL} (h:ZeT N h_0 st=some r):Snd zC 118 [.agg h_0.ls] st (ZeT.rs r) r.2:=
 sO ZeT.B Tryz.func118 fun g0 w0 R hE=>by
  unfold ZeT at h;obtain ⟨⟨x1,x2,st3⟩,c1,h⟩:=Zab h;let o1:List PS:=[rZ,.r [(1,{rs:=[.one (vO x1),oI x2],st:=st3})],rZ]
  refine Zbd h (fun c2 h=>xT h hE (o1++[cT,rZ]) (aI (ZdU.s c1) c2)) fun c2 h=>?_;obtain ⟨⟨x4,st5⟩,c3,h⟩:=Zab h;exact xT h hE (o1++[cF,.r [(2,{rs:=[.agg [zL .u8 32 x4]],st:=st5,fz:=[14]})]]) (aL (ZdU.s c1) c2 z0 (eN (1)) (ZdZ.s c3))
noncomputable def Zbc.B:Code:=Tryz.f148.body.getD .skip
noncomputable def Zbc.rs (r:LL):List CV:=[]
noncomputable def Zbc.p1 (N:Nat) (A1:LL) (c1_:((Option Nat)×Int×LL)->Option LL):((Option Nat)×Int×LL)->Option LL:=fun (A5,v1,st6)=> if (decide (v1<(len A1)))=true then chk (0<=v1)<| ZcO (A1[zD v1]?) Zdv fun x7=> Zbb A5 fun i8=> ZcO (st6[i8]?) Zks fun x9=> chk (0<=(if (10:Int)<(len x9) then 10 else (len x9)))<| chk ((zD (if (10:Int)<(len x9) then 10 else (len x9)))<=(zG x9))<| chk (zG ([[zK .i64 x7]]++(xY (zD (if (10:Int)<(len x9) then 10 else (len x9))) x9))*8<=140737488355328)<| c1_ ((some i8),w64 (v1+1),zR st6 i8 [yI true 1 ([[zK .i64 x7]]++(xY (zD (if (10:Int)<(len x9) then 10 else (len x9))) x9))]) else some st6
noncomputable def Zbc (N:Nat) (A0:Option Nat) (A1 st:LL):Option LL:= if (xX A0)=true then some st else loopN (Zbc.p1 N A1) N (A0,0,st)
noncomputable def Zbc.S1 (A5:Option Nat) (A1:LL) (v1:Int) (st6:LL):S:=mkS 32 [(0,sP A5),(8,sV 1 A1),(9,sI (len A1)),(10,sI v1)] [] st6
def Zbc.k1 {A5 A1 v1 st6 r c1_ J1} (h:Zbc.p1 N A1 c1_ (A5,v1,st6)=some r) (hE:En Tryz.f148 g0 w0 (Zbc.rs r) r R) (hc1 : ∀A5 v1 st6,c1_ (A5,v1,st6)=some r->At g0 w0 (Zbc.S1 A5 A1 v1 st6) J1):At g0 w0 (Zbc.S1 A5 A1 v1 st6) (XK zC R (cK Zbc.B [1,1,0,0] :: .h J1 :: [.b 0])):=by
 unfold Zbc.p1 at h;refine Zbd h (fun c10 h=>?_) (fun c10 h=>?_)
 ·obtain ⟨c11,h⟩:=Zba h;obtain ⟨x7,c12,h⟩:=Zcq h;obtain ⟨i8,rfl,h⟩:=Zab h;obtain ⟨x9,c14,h⟩:=Zhj h;obtain ⟨c15,c16,c17,h⟩:=ck3 h;exact Zlu fol [rZ,cT,.r [(1,{oe:=[zK .i64 x7]})],.d {ds:=[(6,{oc:=[yI true 1 x9]}),(10,{oc:=[yI true 1 x9]}),(13,{oc:=[yI true 1 x9]}),(14,{oc:=[yI true 1 x9],wm:=2}),(17,{oc:=[yI true 1 x9],mv:=[16]})],hv:=147460,Hs:=[4,16388,147460]},rZ] [0,8,9,10] [] (aO c10 c11 (oD c10) c12 c14 c14 c14 (aO c14 c15 (Nat.zero_le (zD (if (10:Int)<(len x9) then 10 else (len x9)))) c16 c14 c15 (Nat.zero_le (zD (if (10:Int)<(len x9) then 10 else (len x9)))) (aO c16 c14 z0 (eN (1)) z0 c16 c14 (aK c17 c14 z0 (eN (zG ([[zK .i64 x7]]++(xY (zD (if (10:Int)<(len x9) then 10 else (len x9))) x9)))))))) (hc1 (some i8) (w64 (v1+1)) (zR st6 i8 [yI true 1 ([[zK .i64 x7]]++(xY (zD (if (10:Int)<(len x9) then 10 else (len x9))) x9))]) h)
 exact xR h hE [rZ,cF] c10
def Zbc.s {A0:Option Nat} {A1:LL} {st:LL} {r:LL} (h:Zbc N A0 A1 st=some r):Snd zC 148 [.one (zN A0),.one (vQ 1 A1)] st (Zbc.rs r) r:=
 sO Zbc.B Tryz.func148 fun g0 w0 R hE=>by
  unfold Zbc at h;exact Zbd h (fun c1 h=>xR h hE [rZ,cT] c1) fun c1 h=>aq [rZ,cF,rZ] c1 (At.loop N (At.loopN (fun y:(Option Nat)×Int×LL=>Zbc.S1 y.1 A1 y.2.1 y.2.2) (fun c J hc y h=>Zbc.k1 (A5:=y.1) (v1:=y.2.1) (st6:=y.2.2) h hE (fun A5 v1 st6=>hc (A5,v1,st6))) N (A0,0,st) h))
noncomputable def ZdT.B:Code:=Tryz.f149.body.getD .skip
noncomputable def ZdT.rs (r:LL×LL):List CV:=[.row true 1 r.1]
noncomputable def ZdT (N:Nat) (A0:Option Nat) (st:LL):Option (LL×LL):= if (xX A0)=true then some ([],st) else Zbb A0 fun i1=> ZcO (st[i1]?) Zks fun x2=> Zbb (ZbI N x2) fun x3=> chk (Zes x3=true)<| some (x3,st)
def ZdT.s {A0:Option Nat} {st:LL} {r:LL×LL} (h:ZdT N A0 st=some r):Snd zC 149 [.one (zN A0)] st (ZdT.rs r) r.2:=
 sO ZdT.B Tryz.func149 fun g0 w0 R hE=>by
  unfold ZdT at h;refine Zbd h (fun c1 h=>?_) (fun c1 h=>?_)
  ·obtain rfl:=Zac h;exact af hE [.r [(0,{m:=2})],rZ,cT,.r [(0,{m:=2})]] [] 0 [0] c1
  obtain ⟨i1,rfl,h⟩:=Zab h;obtain ⟨x2,c3,h⟩:=Zhj h;obtain ⟨x3,c4,h⟩:=Zab h;obtain ⟨c5,h⟩:=Zba h;obtain rfl:=Zac h;exact af hE [.r [(0,{m:=2})],rZ,cF,.r [(3,{oc:=[yI true 1 x2]}),(4,{oc:=[yI true 1 x2],rs:=[.row true 1 x3],ns:=[9],m:=2})]] [] 0 [0] (aO c1 c3 z0 (eN (zG x2)) c3 c5 (ZbI.s c4) (aI z0 (eN (zG x3))))
noncomputable def ZdS.B:Code:=Tryz.f147.body.getD .skip
noncomputable def ZdS.rs (r:Bool):List CV:=[oB r]
noncomputable def ZdS (N:Nat) (A0:Zae) (A1:Int):Option Bool:= if (decide (A0.Interval>0))=true then chk (A0.Interval≠0)<| some ((Int.tmod A1 A0.Interval)==0) else some false
def ZdS.s {A0:Zae} {A1:Int} {r:Bool} (h:ZdS N A0 A1=some r):ZdW zC 147 [.agg A0.ls,oI A1] (ZdS.rs r):=fun st=>
 sO ZdS.B Tryz.func147 fun g0 w0 R hE=>by
  unfold ZdS at h;refine Zbd h (fun c1 h=>?_) (fun c1 h=>?_)
  ·obtain ⟨c2,h⟩:=Zba h;exact xS h hE [rZ,rZ] (aN c1 c1 c1 c1 c2 c1 c1)
  exact xS h hE [rZ,.r [(4,wF),(5,wF),(6,wF),(7,wF),(8,wF),(9,yF)]] (aM c1 c1 c1 c1 c1 c1)
noncomputable def ZcD.B:Code:=Tryz.f149.body.getD .skip
noncomputable def ZcD.rs (r:LL):List CV:=[.row true 1 r]
noncomputable def ZcD (N:Nat) (A0:LL):Option LL:= Zbb (ZbI N A0) fun x1=> some x1
def ZcD.s {A0:LL} {r:LL} (h:ZcD N A0=some r):ZdW zC 149 [.one (L.bx 1 [vQ 1 A0])] (ZcD.rs r):=fun st=>
 sO ZcD.B Tryz.func149 fun g0 w0 R hE=>by
  unfold ZcD at h;obtain ⟨x1,c1,h⟩:=Zab h;obtain rfl:=Zac h;exact af hE [.r [(0,{m:=2})],rZ,cF,.r [(3,{oe:=[vQ 1 A0]}),(4,{rs:=[.row true 1 x1],ns:=[9],m:=1})]] [] 0 [0] (aL eF (eO [vQ 1 A0]) (ZbI.s c1) z0 (eN (zG x1)))
noncomputable def ZaS.B:Code:=Tryz.f120.body.getD .skip
noncomputable def ZaS.rs (r:ZaW×LL):List CV:=[.agg r.1.ls]
noncomputable def ZaS.p3 (N:Nat) (st2:LL) (at_1:ZaW) (h_2:Zal) (A8:ZaW) (c3_:(Int×LL)->Option (ZaW×LL)):(Int×LL)->Option (ZaW×LL):=fun (A9,st15)=> if (decide (A9>=0))=true then chk (0<=A9)<| chk (A9<(len at_1.Times))<| ZcO (at_1.Times[zD A9]?) Zdv fun x16=> Zbb (Zbc N (some (zG st2)) [[zK .i64 x16]] st15) fun st17=> c3_ (w64 (A9-1),st17) else Zbb (Zbc N (some (zG st2)) [[zK .i64 h_2.Time]] st15) fun st18=> ZcO (st18[zG st2]?) Zks fun x19=> Zbb (ZcD N x19) fun x20=> chk (Zes x20=true)<| some ({A8 with Times:=x20},st18)
noncomputable def ZaS.p2 (N:Nat) (at_1:ZaW) (h_2:Zal) (A8:ZaW) (st2:LL):Option (ZaW×LL):= loopN (ZaS.p3 N st2 at_1 h_2 A8) N (w64 ((if (11:Int)<(len at_1.Times) then 11 else (len at_1.Times))-1),st2++[[yI true 1 []]])
noncomputable def ZaS.p1 (N:Nat) (A0:Zae) (at_1:ZaW) (h_2:Zal) (A5:ZaW) (st2:LL):Option (ZaW×LL):= if A0.Easy=true then if (h_2.Bits==A0.Limit)=true then Zbb (ZdS N A0 at_1.Point.Height) fun x6=> if (!x6)=true then ZaS.p2 N at_1 h_2 {A5 with Point:={A5.Point with Hard:=at_1.Point.Hard}} st2 else ZaS.p2 N at_1 h_2 A5 st2 else ZaS.p2 N at_1 h_2 A5 st2 else ZaS.p2 N at_1 h_2 A5 st2
noncomputable def ZaS (N:Nat) (A0:Zae) (at_1:ZaW) (h_2:Zal) (st:LL):Option (ZaW×LL):= Zbb (ZeT N h_2 st) fun (x1,st2)=> Zbb (ZdS N A0 at_1.Point.Height) fun x3=> if x3=true then ZaS.p1 N A0 at_1 h_2 (ZaW.mk (Zeh.mk (w64 (at_1.Point.Height+1)) h_2.Bits h_2.Time h_2.Time h_2.Bits) x1 []) st2 else ZaS.p1 N A0 at_1 h_2 (ZaW.mk (Zeh.mk (w64 (at_1.Point.Height+1)) h_2.Bits h_2.Time at_1.Point.First h_2.Bits) x1 []) st2
noncomputable def ZaS.S3 (st2:LL) (A9:Int) (at_1:ZaW) (h_2:Zal) (A8:ZaW) (st15:LL):S:=mkS 81 [(4,sA 4),(5,sA 5),(6,sA 6),(7,sA 7),(8,sP (some (zG st2))),(9,sI A9)] [(4,.cells at_1.ls),(5,.cells h_2.ls),(6,.cells [zK .i64 0,zK .i64 0,zK .i64 0,zK .i64 0,zK .i64 0,zL .u8 32 (zB 32 0),yI true 1 []]),(7,.cells A8.ls)] st15
noncomputable def ZaS.S2 (at_1:ZaW) (h_2:Zal) (A8:ZaW) (st2:LL):S:=mkS 81 [(4,sA 4),(5,sA 5),(6,sA 6),(7,sA 7)] [(4,.cells at_1.ls),(5,.cells h_2.ls),(6,.cells [zK .i64 0,zK .i64 0,zK .i64 0,zK .i64 0,zK .i64 0,zL .u8 32 (zB 32 0),yI true 1 []]),(7,.cells A8.ls)] st2
noncomputable def ZaS.S1 (A0:Zae) (at_1:ZaW) (h_2:Zal) (A5:ZaW) (st2:LL):S:=mkS 81 [(3,sA 3),(4,sA 4),(5,sA 5),(6,sA 6),(7,sA 7)] [(3,.cells A0.ls),(4,.cells at_1.ls),(5,.cells h_2.ls),(6,.cells [zK .i64 0,zK .i64 0,zK .i64 0,zK .i64 0,zK .i64 0,zL .u8 32 (zB 32 0),yI true 1 []]),(7,.cells A5.ls)] st2
def ZaS.k3 {st2 A9 at_1 h_2 A8 st15 r c3_ J3} (h:ZaS.p3 N st2 at_1 h_2 A8 c3_ (A9,st15)=some r) (hE:En Tryz.f120 g0 w0 (ZaS.rs r) r.2 R) (hc3 : ∀A9 st15,c3_ (A9,st15)=some r->At g0 w0 (ZaS.S3 st2 A9 at_1 h_2 A8 st15) J3):At g0 w0 (ZaS.S3 st2 A9 at_1 h_2 A8 st15) (XK zC R (cK ZaS.B [1,1,1,1,1,0,1,0,0] :: .h J3 :: [.b 0,cK ZaS.B [1,1,1,1,1,1]])):=by
 unfold ZaS.p3 at h;refine Zbd h (fun c17 h=>?_) (fun c17 h=>?_)
 ·obtain ⟨c18,c19,h⟩:=ck2 h;obtain ⟨x16,c20,h⟩:=Zcq h;obtain ⟨st17,c21,h⟩:=Zab h;exact an [rZ,cT,.r [(4,{oe:=[zK .i64 x16]}),(6,{st:=st17,fz:=[72]})],rZ] (aN c17 c18 c19 c20 z0 (eN (1)) (Zbc.s c21)) (hc3 (w64 (A9-1)) st17 h)
 obtain ⟨st18,c22,h⟩:=Zab h;obtain ⟨x19,c23,h⟩:=Zhj h;obtain ⟨x20,c24,h⟩:=Zab h;obtain ⟨c25,h⟩:=Zba h;exact xT h hE [rZ,cF,.r [(3,{st:=st18,fz:=[76]})],.r [(0,{rs:=[.row true 1 x20],ns:=[78],m:=10,cv:=[.one (L.bx 1 [vQ 1 x19])]}),(2,{fz:=[78]})],rZ] (aO c17 z0 (eN (1)) (Zbc.s c22) (bO 1 c23 ((bW bN):BVs st18 [yI true 1 x19] [vQ 1 x19])) c25 (ZcD.s c24) (aI z0 (eN (zG x20))))
def ZaS.k2 {at_1 h_2 A8 st2 r} (h:ZaS.p2 N at_1 h_2 A8 st2=some r) (hE:En Tryz.f120 g0 w0 (ZaS.rs r) r.2 R):At g0 w0 (ZaS.S2 at_1 h_2 A8 st2) (XK zC R [cK ZaS.B [1,1,1,1]]):=by
 unfold ZaS.p2 at h;exact aq [.r [(0,{m:=1})],rZ] trivial (At.loop N (At.loopN (fun y:Int×LL=>ZaS.S3 st2 y.1 at_1 h_2 A8 y.2) (fun c J hc y h=>ZaS.k3 (A9:=y.1) (st15:=y.2) h hE (fun A9 st15=>hc (A9,st15))) N (w64 ((if (11:Int)<(len at_1.Times) then 11 else (len at_1.Times))-1),st2++[[yI true 1 []]]) h))
def ZaS.k1 {A0 at_1 h_2 A5 st2 r} (h:ZaS.p1 N A0 at_1 h_2 A5 st2=some r) (hE:En Tryz.f120 g0 w0 (ZaS.rs r) r.2 R):At g0 w0 (ZaS.S1 A0 at_1 h_2 A5 st2) (XK zC R [cK ZaS.B [1,1,1]]):=by
 unfold ZaS.p1 at h;refine Zbd h (fun c4 h=>?_) (fun c4 h=>?_)
 ·have t1 {Q:Prop} (q:Q):=aN c4 c4 c4 c4 c4 c4 q;refine Zbd h (fun c5 h=>?_) (fun c5 h=>?_)
  ·obtain ⟨x6,c6,h⟩:=Zab h;let o1:List PS:=[.r [(14,q1 [oB x6])]]
   have t2 {Q:Prop} (q:Q):=t1 (aO c5 c5 c5 c5 c5 (ZdS.s c6) c5 (aI c5 q));exact Zbd h (fun c7 h=>aq (o1++[cT,rZ,.s 1]) (t2 c7) (ZaS.k2 h hE)) fun c7 h=>aq (o1++[cF,.s 1]) (t2 c7) (ZaS.k2 h hE)
  exact aq [.r [(10,wF),(11,wF),(12,wF),(13,wF),(14,wF),(15,wF),(16,yF)],cF,.s 1] (t1 (aO c5 c5 c5 c5 c5 c5 c5 eF)) (ZaS.k2 h hE)
 exact aq [.r [(3,wF),(4,wF),(5,wF),(6,wF),(7,wF),(8,yF),(10,wF),(11,wF),(12,wF),(13,wF),(14,wF),(15,wF),(16,yF)],cF,.s 1] (aO c4 c4 c4 c4 c4 c4 eF (aN eF eF eF eF eF eF eF)) (ZaS.k2 h hE)
def ZaS.s {A0:Zae} {at_1:ZaW} {h_2:Zal} {st:LL} {r:ZaW×LL} (h:ZaS N A0 at_1 h_2 st=some r):Snd zC 120 [.agg A0.ls,.agg at_1.ls,.agg h_2.ls] st (ZaS.rs r) r.2:=
 sO ZaS.B Tryz.func120 fun g0 w0 R hE=>by
  unfold ZaS at h;obtain ⟨⟨x1,st2⟩,c1,h⟩:=Zab h;obtain ⟨x3,c2,h⟩:=Zab h;let o2:List PS:=[rZ,.d {ds:=[(15,{rs:=[.agg [zL .u8 32 x1]],st:=st2})],hv:=425984,Hs:=[32768,131072,163840,425984]},.r [(4,q1 [oB x3])]]
  have t3 {Q:Prop} (q:Q):=aK (ZeT.s c1) (ZeT.s c1) (ZdS.s c2) q;exact Zbd h (fun c3 h=>aqd (o2++[cT,rZ,.s 1]) (t3 c3) (ZaS.k1 h hE)) fun c3 h=>aqd (o2++[cF,.s 1]) (t3 c3) (ZaS.k1 h hE)
noncomputable def Zfr.B:Code:=Tryz.f106.body.getD .skip
noncomputable def Zfr.rs (r:ZaW×LL):List CV:=[.agg r.1.ls]
noncomputable def Zfr (N:Nat) (A0:Zae) (st:LL):Option (ZaW×LL):= Zbb (ZaS N A0 (ZaW.mk (Zeh.mk 0 0 0 0 A0.Limit) (zB 32 0) []) A0.Genesis st) fun (x1,st2)=> some (x1,st2)
def Zfr.s {A0:Zae} {st:LL} {r:ZaW×LL} (h:Zfr N A0 st=some r):Snd zC 106 [.agg A0.ls] st (Zfr.rs r) r.2:=
 sO Zfr.B Tryz.func106 fun g0 w0 R hE=>by
  unfold Zfr at h;obtain ⟨⟨x1,st2⟩,c1,h⟩:=Zab h;exact xT h hE [rZ,.r [(7,{rs:=[.agg x1.ls],st:=st2})]] (ZaS.s c1)
end Go.Dn.F
