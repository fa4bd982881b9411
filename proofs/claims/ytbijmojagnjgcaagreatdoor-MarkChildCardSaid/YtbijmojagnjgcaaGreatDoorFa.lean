import Derived.Test.YtbijmojagnjgcaaGreatDoorProg
import Derived.Test.YtbijmojagnjgcaaGreatDoorKc
set_option linter.all false
open ByteArray renaming size→zY
open Go.Dn.L renaming ptr→zQ,arr→zH,int→zJ,own→yB,sl→vM,str→wZ
open Go.Proofs.Tryz renaming prog→zC
open Int renaming toNat→zE
open List renaming length→zK,set→zM,map→wX,replicate→zB,getD→zF,take→tP,drop→rS
open Option renaming isNone→wY
set_option maxRecDepth 100000
namespace Go.Dn.F
open Go.Proofs
noncomputable def qla (a0 a1 a2 a3:Option Nat):List L:=[zQ a0,zQ a1,zQ a2,zQ a3]
noncomputable def glob_digest_steps:List Int:=[1116352408,1899447441,3049323471,3921009573,961987163,1508970993,2453635748,2870763221,3624381080,310598401,607225278,1426881987,1925078388,2162078206,2614888103,3248222580,3835390401,4022224774,264347078,604807628,770255983,1249150122,1555081692,1996064986,2554220882,2821834349,2952996808,3210313671,3336571891,3584528711,113926993,338241895,666307205,773529912,1294757372,1396182291,1695183700,1986661051,2177026350,2456956037,2730485921,2820302411,3259730800,3345764771,3516065817,3600352804,4094571909,275423344,430227734,506948616,659060556,883997877,958139571,1322822218,1537002063,1747873779,1955562222,2024104815,2227730452,2361852424,2428436474,2756734187,3204031479,3329325298]
noncomputable def glob_digest_starts:List Int:=[1779033703,3144134277,1013904242,2773480762,1359893119,2600822924,528734635,1541459225]
noncomputable instance glob:Globs:=⟨fun k=>match k with
  | 0=>some [zH .u32 8 glob_digest_starts]
  | 1=>some [zH .u32 64 glob_digest_steps]
  | _=>none⟩
theorem fol:Tryz.prog.follows .mixedOrders=true:=by kernel_rfl
abbrev En (f:Func) (g0:G) (w0:World) (rs:List CV) (st:LL) (R:Exit→Act→World→Prop):Prop:=Zmp zC f g0 w0 rs st R
variable {N:Nat} {g0:G} {w0:World} {R:Exit→Act→World→Prop}
structure Zaj where
  Version:Int
  Prev:List Int
  Root:List Int
  Time:Int
  Bits:Int
  Nonce:Int
noncomputable def Zaj.ls (x:Zaj):List L:=[zJ .i64 x.Version,zH .u8 32 x.Prev,zH .u8 32 x.Root,zJ .i64 x.Time,zJ .i64 x.Bits,zJ .i64 x.Nonce]
noncomputable def Zec {α:Type} (l:List L) (k:Zaj→Option α):Option α:=match l with | [zJ .i64 x0,zH .u8 32 x1,zH .u8 32 x2,zJ .i64 x3,zJ .i64 x4,zJ .i64 x5]=>k ⟨x0,x1,x2,x3,x4,x5⟩ | _=>none
theorem Zev {α:Type} {o:Option (List L)} {k:Zaj→Option α} {r:α} (h:ZcX o Zec k=some r) : ∃x:Zaj,o=some x.ls∧k x=some r:=by
  obtain ⟨l,e,k1⟩:=Zac h;subst e;unfold Zec at k1;split at k1
  · exact ⟨_,rfl,k1⟩
  cases k1
@[simp] theorem ZeD {α:Type} (x:Zaj) (k:Zaj→Option α):Zec x.ls k=k x:=rfl
theorem Zaj.bv {st:LL} (x:Zaj):BVs st x.ls x.ls:=(bP (bP (bP (bP (bP (bP bN))))))
structure Zaq where
  state:List Int
  rest:LL
  size:Int
noncomputable def Zaq.lo (x:Zaq):List L:=[zH .u32 8 x.state,yB false 1 x.rest,zJ .u64 x.size]
noncomputable def Zcr {α:Type} (l:List L) (k:Zaq→Option α):Option α:=match l with | [zH .u32 8 x0,yB false 1 x1,zJ .u64 x2]=>k ⟨x0,x1,x2⟩ | _=>none
theorem ZcF {α:Type} {o:Option (List L)} {k:Zaq→Option α} {r:α} (h:ZcX o Zcr k=some r) : ∃x:Zaq,o=some x.lo∧k x=some r:=by
  obtain ⟨l,e,k1⟩:=Zac h;subst e;unfold Zcr at k1;split at k1
  · exact ⟨_,rfl,k1⟩
  cases k1
@[simp] theorem ZeX {α:Type} (x:Zaq) (k:Zaq→Option α):Zcr x.lo k=k x:=rfl
noncomputable def Zaq.ls (x:Zaq):List L:=[zH .u32 8 x.state,vM 1 x.rest,zJ .u64 x.size]
theorem Zaq.bv {st:LL} (x:Zaq):BVs st x.lo x.ls:=(bP (bW (bP bN)))
structure Zae where
  Limit:Int
  Interval:Int
  Spacing:Int
  Future:Int
  Easy:Bool
  Gates:LL
  Checks:LL
  MinWork:List Int
  Margin:List Int
  Genesis:Zaj
noncomputable def Zae.ls (x:Zae):List L:=[zJ .i64 x.Limit,zJ .i64 x.Interval,zJ .i64 x.Spacing,zJ .i64 x.Future,L.bool x.Easy,vM 2 x.Gates,vM 33 x.Checks,zH .u64 4 x.MinWork,zH .u64 4 x.Margin,zJ .i64 x.Genesis.Version,zH .u8 32 x.Genesis.Prev,zH .u8 32 x.Genesis.Root,zJ .i64 x.Genesis.Time,zJ .i64 x.Genesis.Bits,zJ .i64 x.Genesis.Nonce]
structure ZdJ where
  Height:Int
  Bits:Int
  Time:Int
  First:Int
  Hard:Int
noncomputable def ZdJ.ls (x:ZdJ):List L:=[zJ .i64 x.Height,zJ .i64 x.Bits,zJ .i64 x.Time,zJ .i64 x.First,zJ .i64 x.Hard]
theorem ZdJ.bv {st:LL} (x:ZdJ):BVs st x.ls x.ls:=(bP (bP (bP (bP (bP bN)))))
structure ZaU where
  Point:ZdJ
  Prev:List Int
  Times:LL
noncomputable def ZaU.ls (x:ZaU):List L:=[zJ .i64 x.Point.Height,zJ .i64 x.Point.Bits,zJ .i64 x.Point.Time,zJ .i64 x.Point.First,zJ .i64 x.Point.Hard,zH .u8 32 x.Prev,vM 1 x.Times]
noncomputable def Zgl {α:Type} (l:List L) (k:ZaU→Option α):Option α:=match l with | [zJ .i64 x0,zJ .i64 x1,zJ .i64 x2,zJ .i64 x3,zJ .i64 x4,zH .u8 32 x5,vM 1 x6]=>k ⟨⟨x0,x1,x2,x3,x4⟩,x5,x6⟩ | _=>none
theorem ZjW {α:Type} {o:Option (List L)} {k:ZaU→Option α} {r:α} (h:ZcX o Zgl k=some r) : ∃x:ZaU,o=some x.ls∧k x=some r:=by
  obtain ⟨l,e,k1⟩:=Zac h;subst e;unfold Zgl at k1;split at k1
  · exact ⟨_,rfl,k1⟩
  cases k1
@[simp] theorem Zkz {α:Type} (x:ZaU) (k:ZaU→Option α):Zgl x.ls k=k x:=rfl
noncomputable def ZaU.lo (x:ZaU):List L:=[zJ .i64 x.Point.Height,zJ .i64 x.Point.Bits,zJ .i64 x.Point.Time,zJ .i64 x.Point.First,zJ .i64 x.Point.Hard,zH .u8 32 x.Prev,yB true 1 x.Times]
theorem ZaU.bv {st:LL} (x:ZaU):BVs st x.lo x.ls:=(bP (bP (bP (bP (bP (bP (bW bN)))))))
noncomputable def ZdP {α:Type} (l:List L) (k:Int→Option α):Option α:=match l with | [zJ .i64 x0]=>k x0 | _=>none
theorem ZiT {α:Type} {l:List L} {k:Int→Option α} {r:α} (h:ZdP l k=some r) : ∃x0,l = [zJ .i64 x0]∧k x0=some r:=by
  unfold ZdP at h;split at h
  · exact ⟨_,rfl,h⟩
  cases h
theorem Zdh {α:Type} {o:Option (List L)} {k:Int→Option α} {r:α} (h:ZcX o ZdP k=some r) : ∃x0,o=some [zJ .i64 x0]∧k x0=some r:=by
  obtain ⟨l,e,k1⟩:=Zac h;subst e;unfold ZdP at k1;split at k1
  · exact ⟨_,rfl,k1⟩
  cases k1
@[simp] theorem ZdV {α:Type} (x0:Int) (k:Int→Option α):ZdP [zJ .i64 x0] k=k x0:=rfl
noncomputable def Zjw {α:Type} (l:List L) (k:LL→Option α):Option α:=match l with | [yB true 1 x0]=>k x0 | _=>none
theorem Zgr {α:Type} {o:Option (List L)} {k:LL→Option α} {r:α} (h:ZcX o Zjw k=some r) : ∃x0,o=some [yB true 1 x0]∧k x0=some r:=by
  obtain ⟨l,e,k1⟩:=Zac h;subst e;unfold Zjw at k1;split at k1
  · exact ⟨_,rfl,k1⟩
  cases k1
@[simp] theorem Zih {α:Type} (x0:LL) (k:LL→Option α):Zjw [yB true 1 x0] k=k x0:=rfl
noncomputable def Zhi {α:Type} (l:List L) (k:(List Int)→Option α):Option α:=match l with | [zH .u8 32 x0]=>k x0 | _=>none
theorem Zhz {α:Type} {o:Option (List L)} {k:(List Int)→Option α} {r:α} (h:ZcX o Zhi k=some r) : ∃x0,o=some [zH .u8 32 x0]∧k x0=some r:=by
  obtain ⟨l,e,k1⟩:=Zac h;subst e;unfold Zhi at k1;split at k1
  · exact ⟨_,rfl,k1⟩
  cases k1
@[simp] theorem Zkt {α:Type} (x0:List Int) (k:(List Int)→Option α):Zhi [zH .u8 32 x0] k=k x0:=rfl
noncomputable def dec_t {α:Type} (l:List L) (k:ByteArray→Option α):Option α:=match l with | [wZ x0]=>k x0 | _=>none
theorem ZtD {α:Type} {o:Option (List L)} {k:ByteArray→Option α} {r:α} (h:ZcX o dec_t k=some r) : ∃x0,o=some [wZ x0]∧k x0=some r:=by
  obtain ⟨l,e,k1⟩:=Zac h;subst e;unfold dec_t at k1;split at k1
  · exact ⟨_,rfl,k1⟩
  cases k1
@[simp] theorem dec_t_ls {α:Type} (x0:ByteArray) (k:ByteArray→Option α):dec_t [wZ x0] k=k x0:=rfl
noncomputable def ZlL {α:Type} (l:List L) (k:Int→Option α):Option α:=match l with | [zJ .u8 x0]=>k x0 | _=>none
theorem Zix {α:Type} {o:Option (List L)} {k:Int→Option α} {r:α} (h:ZcX o ZlL k=some r) : ∃x0,o=some [zJ .u8 x0]∧k x0=some r:=by
  obtain ⟨l,e,k1⟩:=Zac h;subst e;unfold ZlL at k1;split at k1
  · exact ⟨_,rfl,k1⟩
  cases k1
@[simp] theorem Zju {α:Type} (x0:Int) (k:Int→Option α):ZlL [zJ .u8 x0] k=k x0:=rfl
noncomputable def ZbK.B:Code:=Tryz.f135.body.getD .skip
noncomputable def ZbK.rs (r:List (List L)):List CV:=[.row true 1 r]
noncomputable def ZbK (N:Nat) (A0:List (List L)):Option (List (List L)):=chk (zK A0*8≤140737488355328) (some A0)
theorem ZbK.snd {A0:LL} {r:LL} (h:ZbK N A0=some r):ZdD zC 135 [.one (.sl 1 A0)] (ZbK.rs r):=fun st=>
  Snd.of (fn:=Tryz.f135) (c:=ZbK.B) Tryz.func135 (by kernel_rfl) (by kernel_rfl) (of_decide_eq_true (by kernel_rfl)) fun g w R hE=>by
    unfold ZbK at h;obtain ⟨c1,h⟩:=Zbd h;obtain rfl:=Zad h;refine At.q (s':=mkS 8 [(0,.one (.l (.sl 1 A0)))] [] st) (ks':=[.c (.seq (.region 1 #[{ dst:=some 3,op:=.move (.tmp 0),type:=52,pos:=opPos (Zbz ZbK.B [1,0]) 0,after:=#[],guard:=none},{ dst:=some 4,op:=.binOp .eql 52 (.tmp 3) (.const (.slice none 0 0)) 52,type:=4,pos:=opPos (Zbz ZbK.B [1,0]) 1,after:=#[⟨0,.data⟩],guard:=none}] false) (Zbz ZbK.B [1,0,1])),cK ZbK.B [1,1]]) fol 400 [.r [(0,{m:=2})],.s 2] [0] [] trivial ?_ (by kernel_rfl);refine At.nilcmp (T:=52) (E:=3) (sz:=1) (xs:=A0) (Zfi _) rfl rfl rfl rfl rfl rfl Tryz.underlying52 (by kernel_rfl) (of_decide_eq_true (by kernel_rfl)) fun b hb=>?_;cases b with
    | true=>
      obtain rfl:=hb rfl;exact At.f fol hE 400 [cT,.r [(0,{m:=2})]] [] 0 [0] (rfl:true=true) (by kernel_rfl)
    | false=>
      exact At.f fol hE 400 [cF,rZ] [] 0 [0] (And.intro (rfl:false=false) (And.intro (rfl:(0:Nat)=0) (And.intro (@rfl Nat (zK ([]:List (List L)))) (And.intro c1 (And.intro (rfl:(0:Nat)=0) (@rfl Nat (zK A0))))))) (by kernel_rfl)
noncomputable def Zdw.B:Code:=Tryz.f102.body.getD .skip
noncomputable def Zdw.rs (r:Bool):List CV:=[oB r]
noncomputable def Zdw (N:Nat) (A0:Int):Option Bool:= if (decide (A0≥0))=true then some (decide (A0≤4294967295)) else some false
theorem Zdw.snd {A0:Int} {r:Bool} (h:Zdw N A0=some r):ZdD zC 102 [oI A0] (Zdw.rs r):=fun st=>
 sO Zdw.B Tryz.func102 fun g0 w0 R hE=>by
  unfold Zdw at h;refine Zbe h (fun c1 h1=>?_) (fun c1 h2=>?_)
  ·exact xS fol h1 hE [rZ,rZ] (aJ c1 c1 c1)
  exact xS fol h2 hE [rZ,.r [(3,wF),(4,wF),(5,yF)]] (aJ c1 c1 c1)
noncomputable def ZcM.B:Code:=Tryz.f80.body.getD .skip
noncomputable def ZcM.rs (r:Bool):List CV:=[oB r]
noncomputable def ZcM (N:Nat) (h_0:Zaj):Option Bool:= if (decide (h_0.Version≥(-2147483648)))=true then if (decide (h_0.Version<2147483648))=true then if (decide (h_0.Time≥0))=true then if (decide (h_0.Time<4294967296))=true then Zbj (Zdw N h_0.Bits) fun x1=> if x1=true then if (decide (h_0.Nonce≥0))=true then some (decide (h_0.Nonce<4294967296)) else some false else some false else some false else some false else some false else some false
theorem ZcM.snd {h_0:Zaj} {r:Bool} (h:ZcM N h_0=some r):ZdD zC 80 [.agg h_0.ls] (ZcM.rs r):=fun st=>
 sO ZcM.B Tryz.func80 fun g0 w0 R hE=>by
  unfold ZcM at h;refine Zbe h (fun c1 h1=>?_) (fun c1 h2=>?_)
  ·have t1 {Q:Prop} (q:Q):=aL c1 c1 c1 c1 q;refine Zbe h1 (fun c2 h3=>?_) (fun c2 h4=>?_)
   ·have t2 {Q:Prop} (q:Q):=t1 (aL c2 c2 c2 c2 q);refine Zbe h3 (fun c3 h5=>?_) (fun c3 h6=>?_)
    ·have t3 {Q:Prop} (q:Q):=t2 (aL c3 c3 c3 c3 q);refine Zbe h5 (fun c4 h7=>?_) (fun c4 h8=>?_)
     ·obtain ⟨x1,c5,h9⟩:=Zac h7;have t4 {Q:Prop} (q:Q):=t3 (aM c4 c4 c4 (Zdw.snd c5) c4 q);refine Zbe h9 (fun c6 h10=>?_) (fun c6 h11=>?_)
      ·refine Zbe h10 (fun c7 h12=>?_) (fun c7 h13=>?_)
       ·exact xS fol h12 hE [rZ,.r [(21,q1 [oB x1])]] (t4 (aO c6 c6 c6 c6 c7 c7 c7 c7))
       exact xS fol h13 hE [rZ,.r [(21,q1 [oB x1]),(29,wF),(30,wF),(31,wF),(32,yF)]] (t4 (aO c6 c6 c6 c6 c7 c7 c7 c7))
      exact xS fol h11 hE [rZ,.r [(21,q1 [oB x1]),(24,wF),(25,wF),(26,wF),(27,yF),(29,wF),(30,wF),(31,wF),(32,yF)]] (t4 (aO c6 c6 c6 c6 eF eF eF eF))
     exact xS fol h8 hE [rZ,.r [(19,wF),(20,wF),(21,wF),(22,yF),(24,wF),(25,wF),(26,wF),(27,yF),(29,wF),(30,wF),(31,wF),(32,yF)]] (t3 (aO c4 c4 c4 c4 eF eF eF (aL eF eF eF eF eF)))
    exact xS fol h6 hE [rZ,.r [(14,wF),(15,wF),(16,wF),(17,yF),(19,wF),(20,wF),(21,wF),(22,yF),(24,wF),(25,wF),(26,wF),(27,yF),(29,wF),(30,wF),(31,wF),(32,yF)]] (t2 (aO c3 c3 c3 c3 eF eF eF (aO eF eF eF eF eF eF eF (aI eF eF))))
   exact xS fol h4 hE [rZ,.r [(9,wF),(10,wF),(11,wF),(12,yF),(14,wF),(15,wF),(16,wF),(17,yF),(19,wF),(20,wF),(21,wF),(22,yF),(24,wF),(25,wF),(26,wF),(27,yF),(29,wF),(30,wF),(31,wF),(32,yF)]] (t1 (aO c2 c2 c2 c2 eF eF eF (aO eF eF eF eF eF eF eF (aM eF eF eF eF eF eF))))
  exact xS fol h2 hE [rZ,.r [(4,wF),(5,wF),(6,wF),(7,yF),(9,wF),(10,wF),(11,wF),(12,yF),(14,wF),(15,wF),(16,wF),(17,yF),(19,wF),(20,wF),(21,wF),(22,yF),(24,wF),(25,wF),(26,wF),(27,yF),(29,wF),(30,wF),(31,wF),(32,yF)]] (aO c1 c1 c1 c1 eF eF eF (aO eF eF eF eF eF eF eF (aO eF eF eF eF eF eF eF (aJ eF eF eF))))
noncomputable def ZaT.B:Code:=Tryz.f144.body.getD .skip
noncomputable def ZaT.rs (r:LL):List CV:=[]
noncomputable def ZaT.p2 (N:Nat) (c1_:((Option Nat)×Int×LL)→Option LL) (A1 x12:Int) (A2:LL) (v1:Int) (c2_:((Option Nat)×Int×LL)→Option LL):((Option Nat)×Int×LL)→Option LL:=fun (A16,v13,st17)=> if (decide (v13<(if (8:Int)<(if (1:Int)>A1 then 1 else A1) then 8 else (if (1:Int)>A1 then 1 else A1))))=true then Zbj A16 fun i18=> ZcX (st17[i18]?) Zjw fun x19=> chk (0≤(w64 (8*v13)))<| chk (zK (x19++[[zJ .u8 (v8 (Zbs .i64 x12 (w64 (8*v13))))]])*1≤140737488355328)<| c2_ ((some i18),w64 (v13+1),zM (zM st17 i18 [L.gone]) i18 [yB true 1 (x19++[[zJ .u8 (v8 (Zbs .i64 x12 (w64 (8*v13))))]])]) else c1_ (A16,w64 (v1+1),st17)
noncomputable def ZaT.p1 (N:Nat) (A1:Int) (A2:LL) (c1_:((Option Nat)×Int×LL)→Option LL):((Option Nat)×Int×LL)→Option LL:=fun (A10,v1,st11)=> if (decide (v1<(len A2)))=true then chk (0≤v1)<| ZcX (A2[zE v1]?) ZdP fun x12=> loopN (ZaT.p2 N c1_ A1 x12 A2 v1) N (A10,0,st11) else some st11
noncomputable def ZaT (N:Nat) (A0:Option Nat) (A1:Int) (A2 st:LL):Option LL:= loopN (ZaT.p1 N A1 A2) N (A0,0,st)
noncomputable def ZaT.p2.S (A16:Option Nat) (A1 x12:Int) (A2:LL) (v1 v13:Int) (st17:LL):S:=mkS 37 [(0,sP A16),(1,sI A1),(7,sI x12),(9,sV 1 A2),(10,sI (len A2)),(11,sI v1),(17,sI (if (8:Int)<(if (1:Int)>A1 then 1 else A1) then 8 else (if (1:Int)>A1 then 1 else A1))),(18,sI v13)] [] st17
noncomputable def ZaT.p1.S (A10:Option Nat) (A1:Int) (A2:LL) (v1:Int) (st11:LL):S:=mkS 37 [(0,sP A10),(1,sI A1),(9,sV 1 A2),(10,sI (len A2)),(11,sI v1)] [] st11
theorem ZaT.p2_ok {A16 A1 x12 A2 v1 v13 st17 r c1_ c2_ J1 J2} (h:ZaT.p2 N c1_ A1 x12 A2 v1 c2_ (A16,v13,st17)=some r) (hE:En Tryz.f144 g0 w0 (ZaT.rs r) r R) (hc1 : ∀A10 v1 st11,c1_ (A10,v1,st11)=some r→At g0 w0 (ZaT.p1.S A10 A1 A2 v1 st11) J1) (hc2 : ∀A16 v13 st17,c2_ (A16,v13,st17)=some r→At g0 w0 (ZaT.p2.S A16 A1 x12 A2 v1 v13 st17) J2):At g0 w0 (ZaT.p2.S A16 A1 x12 A2 v1 v13 st17) (XK zC R (cK ZaT.B [1,0,0,1,1,0,0,1,1,0,0] :: .h J2 :: [.b 2,.b 1,cK ZaT.B [1,0,0,1,1,1],.h J1,.b 0])):=by
 unfold ZaT.p2 at h;refine Zbe h (fun c22 h1=>?_) (fun c22 h2=>?_)
 ·obtain ⟨i18,rfl,h3⟩:=Zac h1;obtain ⟨x19,c24,h4⟩:=Zgr h3;obtain ⟨c25,c26,h5⟩:=ck2 h4;exact ZjD fol [rZ,cT,rZ,.d {ds:=[(4,{oc:=[yB true 1 x19]}),(11,{oe:=[yB true 1 x19]}),(14,{oc:=[L.gone],mv:=[32]})],hv:=19456,Hs:=[1024,3072,19456]},rZ] [0,1,7,9,10,11,17,18] [] (aO c22 c24 c24 c25 z0 (eN (zK x19)) c24 (aM z0 (eN (1)) c26 (Zao c24 [L.gone]) z0 (eN (zK (x19++[[zJ .u8 (v8 (Zbs .i64 x12 (w64 (8*v13))))]]))))) (hc2 (some i18) (w64 (v13+1)) (zM (zM st17 i18 [L.gone]) i18 [yB true 1 (x19++[[zJ .u8 (v8 (Zbs .i64 x12 (w64 (8*v13))))]])]) h5)
 exact an fol [rZ,cF,rZ] [0,1,9,10,11] [] c22 (hc1 A16 (w64 (v1+1)) st17 h2)
theorem ZaT.p1_ok {A10 A1 A2 v1 st11 r c1_ J1} (h:ZaT.p1 N A1 A2 c1_ (A10,v1,st11)=some r) (hE:En Tryz.f144 g0 w0 (ZaT.rs r) r R) (hc1 : ∀A10 v1 st11,c1_ (A10,v1,st11)=some r→At g0 w0 (ZaT.p1.S A10 A1 A2 v1 st11) J1):At g0 w0 (ZaT.p1.S A10 A1 A2 v1 st11) (XK zC R (cK ZaT.B [1,0,0] :: .h J1 :: [.b 0])):=by
 unfold ZaT.p1 at h;refine Zbe h (fun c14 h6=>?_) (fun c14 h7=>?_)
 ·obtain ⟨c15,h8⟩:=Zbd h6;obtain ⟨x12,c16,h9⟩:=Zdh h8;exact aq fol [rZ,cT,.r [(1,{oe:=[zJ .i64 x12]})],rZ] [0,1,7,9,10,11,17,18] [] (aK c14 c15 (oD c14) c16) (At.loop N (At.loopN (fun y:(Option Nat)×Int×LL=>ZaT.p2.S y.1 A1 x12 A2 v1 y.2.1 y.2.2) (fun c J hc y h=>ZaT.p2_ok (A16:=y.1) (v13:=y.2.1) (st17:=y.2.2) h hE hc1 (fun A16 v13 st17=>hc (A16,v13,st17))) N (A10,0,st11) h9))
 exact xR fol h7 hE [rZ,cF] c14
theorem ZaT.snd {A0:Option Nat} {A1:Int} {A2:LL} {st:LL} {r:LL} (h:ZaT N A0 A1 A2 st=some r):Snd zC 144 [.one (zQ A0),oI A1,.one (vM 1 A2)] st (ZaT.rs r) r:=
 sO ZaT.B Tryz.func144 fun g0 w0 R hE=>by
  unfold ZaT at h;exact aq fol [rZ] [0,1,9,10,11] [] trivial (At.loop N (At.loopN (fun y:(Option Nat)×Int×LL=>ZaT.p1.S y.1 A1 A2 y.2.1 y.2.2) (fun c J hc y h=>ZaT.p1_ok (A10:=y.1) (v1:=y.2.1) (st11:=y.2.2) h hE (fun A10 v1 st11=>hc (A10,v1,st11))) N (A0,0,st) h))
noncomputable def Zbq.B:Code:=Tryz.f145.body.getD .skip
noncomputable def Zbq.rs (r:LL):List CV:=[]
noncomputable def Zbq.p1 (N:Nat) (A1:LL) (c1_:((Option Nat)×Int×LL)→Option LL):((Option Nat)×Int×LL)→Option LL:=fun (A5,v1,st6)=> if (decide (v1<(len A1)))=true then chk (0≤v1)<| ZcX (A1[zE v1]?) Zhi fun x7=> Zbj A5 fun i8=> ZcX (st6[i8]?) Zjw fun x9=> chk (zK (x9++(wX (fun x=>[zJ .u8 x]) x7))*1≤140737488355328)<| c1_ ((some i8),w64 (v1+1),zM (zM st6 i8 [L.gone]) i8 [yB true 1 (x9++(wX (fun x=>[zJ .u8 x]) x7))]) else some st6
noncomputable def Zbq (N:Nat) (A0:Option Nat) (A1 st:LL):Option LL:= loopN (Zbq.p1 N A1) N (A0,0,st)
noncomputable def Zbq.p1.S (A5:Option Nat) (A1:LL) (v1:Int) (st6:LL):S:=mkS 22 [(0,sP A5),(6,sV 32 A1),(7,sI (len A1)),(8,sI v1)] [] st6
theorem Zbq.p1_ok {A5 A1 v1 st6 r c1_ J1} (h:Zbq.p1 N A1 c1_ (A5,v1,st6)=some r) (hE:En Tryz.f145 g0 w0 (Zbq.rs r) r R) (hc1 : ∀A5 v1 st6,c1_ (A5,v1,st6)=some r→At g0 w0 (Zbq.p1.S A5 A1 v1 st6) J1):At g0 w0 (Zbq.p1.S A5 A1 v1 st6) (XK zC R (cK Zbq.B [1,0,0] :: .h J1 :: [.b 0])):=by
 unfold Zbq.p1 at h;refine Zbe h (fun c7 h1=>?_) (fun c7 h2=>?_)
 ·obtain ⟨c8,h3⟩:=Zbd h1;obtain ⟨x7,c9,h4⟩:=Zhz h3;obtain ⟨i8,rfl,h5⟩:=Zac h4;obtain ⟨x9,c11,h6⟩:=Zgr h5;obtain ⟨c12,h7⟩:=Zbd h6;exact ZjD fol [rZ,cT,.r [(1,{oe:=[zH .u8 32 x7]})],.d {ds:=[(4,{oc:=[yB true 1 x9]}),(6,{oe:=[yB true 1 x9]}),(9,{oc:=[L.gone],mv:=[18]})],hv:=576,Hs:=[64,576]},rZ] [0,6,7,8] [] (aO c7 c8 (oD c7) c9 c11 (leN 0 32) (leN 32 32) (aN z0 (eN (zK x9)) c11 c12 (Zao c11 [L.gone]) z0 (eN (zK (x9++(wX (fun x=>[zJ .u8 x]) x7)))))) (hc1 (some i8) (w64 (v1+1)) (zM (zM st6 i8 [L.gone]) i8 [yB true 1 (x9++(wX (fun x=>[zJ .u8 x]) x7))]) h7)
 exact xR fol h2 hE [rZ,cF] c7
theorem Zbq.snd {A0:Option Nat} {A1:LL} {st:LL} {r:LL} (h:Zbq N A0 A1 st=some r):Snd zC 145 [.one (zQ A0),.one (vM 32 A1)] st (Zbq.rs r) r:=
 sO Zbq.B Tryz.func145 fun g0 w0 R hE=>by
  unfold Zbq at h;exact aq fol [rZ] [0,6,7,8] [] trivial (At.loop N (At.loopN (fun y:(Option Nat)×Int×LL=>Zbq.p1.S y.1 A1 y.2.1 y.2.2) (fun c J hc y h=>Zbq.p1_ok (A5:=y.1) (v1:=y.2.1) (st6:=y.2.2) h hE (fun A5 v1 st6=>hc (A5,v1,st6))) N (A0,0,st) h))
noncomputable def Zcv.B:Code:=Tryz.f129.body.getD .skip
noncomputable def Zcv.rs (r:LL):List CV:=[]
noncomputable def Zcv.p1 (N:Nat) (A0:Option Nat) (h_2:Zaj) (st:LL):Option LL:= Zbj (ZaT N A0 4 [[zJ .i64 h_2.Version]] st) fun st3=> Zbj (Zbq N A0 [[zH .u8 32 h_2.Prev],[zH .u8 32 h_2.Root]] st3) fun st4=> Zbj (ZaT N A0 4 [[zJ .i64 h_2.Time],[zJ .i64 h_2.Bits],[zJ .i64 h_2.Nonce]] st4) fun st5=> some st5
noncomputable def Zcv (N:Nat) (A0:Option Nat) (A1:Zaj) (st:LL):Option LL:= Zbj (ZcM N A1) fun x1=> if (!x1)=true then Zcv.p1 N A0 (Zaj.mk 0 (zB 32 0) (zB 32 0) 0 0 0) st else Zcv.p1 N A0 A1 st
noncomputable def Zcv.p1.S (A0:Option Nat) (h_2:Zaj) (st:LL):S:=mkS 29 [(0,sP A0),(3,sA 3)] [(3,.cells h_2.ls)] st
theorem Zcv.p1_ok {A0 h_2 st r} (h:Zcv.p1 N A0 h_2 st=some r) (hE:En Tryz.f129 g0 w0 (Zcv.rs r) r R):At g0 w0 (Zcv.p1.S A0 h_2 st) (XK zC R [cK Zcv.B [1,1]]):=by
 unfold Zcv.p1 at h;obtain ⟨st3,c3,h1⟩:=Zac h;obtain ⟨st4,c4,h2⟩:=Zac h1;obtain ⟨st5,c5,h3⟩:=Zac h2;exact xR fol h3 hE [.r [(4,{st:=st3,fz:=[11]})],.r [(6,{st:=st4,fz:=[18]})],.r [(8,{st:=st5,fz:=[27]})]] (aO z0 (eN (1)) (ZaT.snd c3) z0 (eN (2)) (Zbq.snd c4) z0 (aI (eN (3)) (ZaT.snd c5)))
theorem Zcv.snd {A0:Option Nat} {A1:Zaj} {st:LL} {r:LL} (h:Zcv N A0 A1 st=some r):Snd zC 129 [.one (zQ A0),.agg A1.ls] st (Zcv.rs r) r:=
 sO Zcv.B Tryz.func129 fun g0 w0 R hE=>by
  unfold Zcv at h;obtain ⟨x1,c1,h4⟩:=Zac h;let o1:List PS:=[rZ,.r [(1,q1 [oB x1])]]
  refine Zbe h4 (fun c2 h5=>?_) (fun c2 h6=>?_)
  ·exact aq fol (o1++[cT,rZ,.s 1]) [0,3] [3] (aI (ZcM.snd c1) c2) (Zcv.p1_ok h5 hE)
  exact aq fol (o1++[cF,.s 1]) [0,3] [3] (aI (ZcM.snd c1) c2) (Zcv.p1_ok h6 hE)
noncomputable def ZcS.B:Code:=Tryz.f130.body.getD .skip
noncomputable def ZcS.rs (r:ByteArray):List CV:=[.one (wZ r)]
noncomputable def ZcS (N:Nat) (A0:LL):Option ByteArray:= chk (isB A0=true)<| some (Zky (wX ZfG A0))
theorem ZcS.snd {A0:LL} {r:ByteArray} (h:ZcS N A0=some r):ZdD zC 130 [.one (L.bx 1 [vM 1 A0])] (ZcS.rs r):=fun st=>
 sO ZcS.B Tryz.func130 fun g0 w0 R hE=>by
  unfold ZcS at h;obtain ⟨c1,h1⟩:=Zbd h;exact xS fol h1 hE [rZ,.r [(3,{oe:=[vM 1 A0]})]] (aI (eO [vM 1 A0]) c1)
noncomputable def Zdv.B:Code:=Tryz.f103.body.getD .skip
noncomputable def Zdv.rs (r:ByteArray×Int×LL):List CV:=[.one (wZ r.1),oI r.2.1]
noncomputable def Zdv (N:Nat) (h_0:Zaj) (st:LL):Option (ByteArray×Int×LL):= Zbj (ZcM N h_0) fun x1=> if (!x1)=true then some ((ByteArray.mk #[]),1,st) else Zbj (Zcv N (some (zK st)) h_0 (st++[[yB true 1 []]])) fun st2=> ZcX (st2[zK st]?) Zjw fun x3=> Zbj (ZcS N x3) fun x4=> some (x4,0,st2)
theorem Zdv.snd {h_0:Zaj} {st:LL} {r:ByteArray×Int×LL} (h:Zdv N h_0 st=some r):Snd zC 103 [.agg h_0.ls] st (Zdv.rs r) r.2.2:=
 sO Zdv.B Tryz.func103 fun g0 w0 R hE=>by
  unfold Zdv at h;obtain ⟨x1,c1,h1⟩:=Zac h;let o1:List PS:=[rZ,.r [(1,q1 [oB x1])]]
  refine Zbe h1 (fun c2 h2=>?_) (fun c2 h3=>?_)
  ·exact xU fol h2 hE (o1++[cT,rZ]) (aI (ZcM.snd c1) c2)
  obtain ⟨st2,c3,h4⟩:=Zac h3;obtain ⟨x3,c4,h5⟩:=Zgr h4;obtain ⟨x4,c5,h6⟩:=Zac h5;exact xU fol h6 hE (o1++[cF,.r [(0,{ns:=[0]}),(1,{m:=1})],.r [(2,{st:=st2})],.r [(1,{rs:=[.one (wZ x4)],m:=10,cv:=[.one (L.bx 1 [vM 1 x3])]})]]) (aL (ZcM.snd c1) c2 (Zcv.snd c3) (bO 1 c4 ((bW bN):BVs st2 [yB true 1 x3] [vM 1 x3])) (ZcS.snd c5))
noncomputable def ZeT.B:Code:=Tryz.f146.body.getD .skip
noncomputable def ZeT.rs (r:(Option Nat)×LL):List CV:=[.one (zQ r.1)]
noncomputable def ZeT (N:Nat) (st:LL):Option ((Option Nat)×LL):= some ((some (zK st)),st++[Zaq.lo (Zaq.mk glob_digest_starts [] 0)])
theorem ZeT.snd {st:LL} {r:(Option Nat)×LL} (h:ZeT N st=some r):Snd zC 146 [] st (ZeT.rs r) r.2:=
 sO ZeT.B Tryz.func146 fun g0 w0 R hE=>by
  unfold ZeT at h;exact xT fol h hE [rZ,.r [(1,{mv:=[1]}),(2,{m:=1})]] trivial
noncomputable def Zco.B:Code:=Tryz.f179.body.getD .skip
noncomputable def Zco.rs (r:Int):List CV:=[.one (zJ .u32 r)]
noncomputable def Zco (N:Nat) (A0 A1:Int):Option Int:= chk (0≤(ZaE .and .u64 (v64 (A1)) 31))<| chk (0≤(v64 (32-(ZaE .and .u64 (v64 (A1)) 31))))<| some (ZaE .or .u32 (ZbA .u32 A0 (ZaE .and .u64 (v64 (A1)) 31)) (Zbs .u32 A0 (v64 (32-(ZaE .and .u64 (v64 (A1)) 31)))))
theorem Zco.snd {A0 A1:Int} {r:Int} (h:Zco N A0 A1=some r):ZdD zC 179 [.one (zJ .u32 A0),oI A1] (Zco.rs r):=fun st=>
 sO Zco.B Tryz.func179 fun g0 w0 R hE=>by
  unfold Zco at h;obtain ⟨c1,c2,h1⟩:=ck2 h;exact xS fol h1 hE [rZ,rZ,rZ] (aI c1 c2)
noncomputable def Zbl.B:Code:=Tryz.f167.body.getD .skip
noncomputable def Zbl.rs (r:Int):List CV:=[.one (zJ .u32 r)]
noncomputable def Zbl.p1 (N:Nat) (A0:Int) (F1:LL) (c1_:(Int×Int)→Option Int):(Int×Int)→Option Int:=fun (A1,v2)=> if (decide (v2<(len F1)))=true then chk (0≤v2)<| ZcX (F1[zE v2]?) ZdP fun x3=> Zbj (Zco N A0 (w64 (0-x3))) fun x4=> c1_ (ZaE .xor .u32 A1 x4,w64 (v2+1)) else some A1
noncomputable def Zbl (N:Nat) (A0:Int) (F1:LL):Option Int:= loopN (Zbl.p1 N A0 F1) N (0,0)
noncomputable def Zbl.p1.S (A0 A1:Int) (F1:LL) (v2:Int) (st:LL):S:=mkS 22 [(0,.one (.l (zJ .u32 A0))),(5,.one (.l (zJ .u32 A1))),(8,sV 1 F1),(9,sI (len F1)),(10,sI v2)] [] st
theorem Zbl.p1_ok {A0 A1 F1 v2 st r c1_ J1} (h:Zbl.p1 N A0 F1 c1_ (A1,v2)=some r) (hE:En Tryz.f167 g0 w0 (Zbl.rs r) st R) (hc1 : ∀A1 v2,c1_ (A1,v2)=some r→At g0 w0 (Zbl.p1.S A0 A1 F1 v2 st) J1):At g0 w0 (Zbl.p1.S A0 A1 F1 v2 st) (XK zC R (cK Zbl.B [1,1,0,1,0,0] :: .h J1 :: [.b 0,cK Zbl.B [1,1,1]])):=by
 unfold Zbl.p1 at h;refine Zbe h (fun c1 h1=>?_) (fun c1 h2=>?_)
 ·obtain ⟨c2,h3⟩:=Zbd h1;obtain ⟨x3,c3,h4⟩:=Zdh h3;obtain ⟨x4,c4,h5⟩:=Zac h4;exact an fol [rZ,cT,.r [(1,{oe:=[zJ .i64 x3]})],.r [(4,q1 [.one (zJ .u32 x4)])],rZ] [0,5,8,9,10] [] (aL c1 c2 (oD c1) c3 (Zco.snd c4)) (hc1 (ZaE .xor .u32 A1 x4) (w64 (v2+1)) h5)
 exact xS fol h2 hE [rZ,cF,rZ] c1
theorem Zbl.snd {A0:Int} {F1:LL} {r:Int} (h:Zbl N A0 F1=some r):ZdD zC 167 [.one (zJ .u32 A0),.one (vM 1 F1)] (Zbl.rs r):=fun st=>
 sO Zbl.B Tryz.func167 fun g0 w0 R hE=>by
  unfold Zbl at h;exact aq fol [rZ,rZ,rZ] [0,5,8,9,10] [] trivial (At.loop N (At.loopN (fun y:Int×Int=>Zbl.p1.S A0 y.1 F1 y.2 st) (fun c J hc y h=>Zbl.p1_ok (A1:=y.1) (v2:=y.2) h hE (fun A1 v2=>hc (A1,v2))) N (0,0) h))
noncomputable def Zah.B:Code:=Tryz.f160.body.getD .skip
noncomputable def Zah.rs (r:LL):List CV:=[]
noncomputable def Zah.p4 (N:Nat) (i71:Nat) (A80:List Int) (c4_:(Int×LL)→Option LL):(Int×LL)→Option LL:=fun (v83,st85)=> if (decide (v83<8))=true then chk (0≤v83)<| ZcX (st85[i71]?) Zcr fun x86=> c4_ (w64 (v83+1),zM st85 i71 (Zaq.lo {x86 with state:=zM x86.state (zE v83) (v32 ((zF x86.state (zE v83) 0)+(zF A80 (zE v83) 0)))})) else some st85
noncomputable def Zah.p3 (N:Nat) (i71:Nat) (A68:List Int) (st:LL) (c3_:(Int×(List Int))→Option LL):(Int×(List Int))→Option LL:=fun (v73,A80)=> if (decide (v73<64))=true then Zbj (Zbl N (zF A80 4 0) [[zJ .i64 6],[zJ .i64 11],[zJ .i64 25]]) fun x81=> chk (0≤v73)<| Zbj (Zbl N (zF A80 0 0) [[zJ .i64 2],[zJ .i64 13],[zJ .i64 22]]) fun x82=> c3_ (w64 (v73+1),[v32 ((v32 ((v32 ((v32 ((v32 ((zF A80 7 0)+x81))+(ZaE .xor .u32 (ZaE .and .u32 (zF A80 4 0) (zF A80 5 0)) (ZaE .and .u32 (ZaE .xor .u32 (IntKind.max IntKind.u32) (zF A80 4 0)) (zF A80 6 0)))))+(zF glob_digest_steps (zE v73) 0)))+(zF A68 (zE v73) 0)))+(v32 (x82+(ZaE .xor .u32 (ZaE .xor .u32 (ZaE .and .u32 (zF A80 0 0) (zF A80 1 0)) (ZaE .and .u32 (zF A80 0 0) (zF A80 2 0))) (ZaE .and .u32 (zF A80 1 0) (zF A80 2 0)))))),zF A80 0 0,zF A80 1 0,zF A80 2 0,v32 ((zF A80 3 0)+(v32 ((v32 ((v32 ((v32 ((zF A80 7 0)+x81))+(ZaE .xor .u32 (ZaE .and .u32 (zF A80 4 0) (zF A80 5 0)) (ZaE .and .u32 (ZaE .xor .u32 (IntKind.max IntKind.u32) (zF A80 4 0)) (zF A80 6 0)))))+(zF glob_digest_steps (zE v73) 0)))+(zF A68 (zE v73) 0)))),zF A80 4 0,zF A80 5 0,zF A80 6 0]) else loopN (Zah.p4 N i71 A80) N (0,st)
noncomputable def Zah.p2 (N:Nat) (h_0:Option Nat) (st:LL) (c2_:(Int×(List Int))→Option LL):(Int×(List Int))→Option LL:=fun (A49,A68)=> if (decide (A49<64))=true then chk (0≤(w64 (A49-15)))<| chk ((w64 (A49-15))<64)<| chk (0≤(w64 (A49-2)))<| chk ((w64 (A49-2))<64)<| chk (0≤(w64 (A49-16)))<| chk ((w64 (A49-16))<64)<| Zbj (Zbl N (zF A68 (zE (w64 (A49-15))) 0) [[zJ .i64 7],[zJ .i64 18]]) fun x69=> chk (0≤(w64 (A49-7)))<| chk ((w64 (A49-7))<64)<| Zbj (Zbl N (zF A68 (zE (w64 (A49-2))) 0) [[zJ .i64 17],[zJ .i64 19]]) fun x70=> chk (0≤A49)<| c2_ (w64 (A49+1),zM A68 (zE A49) (v32 ((v32 ((v32 ((zF A68 (zE (w64 (A49-16))) 0)+(ZaE .xor .u32 x69 (Zbs .u32 (zF A68 (zE (w64 (A49-15))) 0) 3))))+(zF A68 (zE (w64 (A49-7))) 0)))+(ZaE .xor .u32 x70 (Zbs .u32 (zF A68 (zE (w64 (A49-2))) 0) 10))))) else Zbj h_0 fun i71=> ZcX (st[i71]?) Zcr fun x72=> loopN (Zah.p3 N i71 A68 st) N (0,x72.state)
noncomputable def Zah.p1 (N:Nat) (h_0:Option Nat) (A1 st:LL) (c1_:(Int×(List Int))→Option LL):(Int×(List Int))→Option LL:=fun (v1,A44)=> if (decide (v1<16))=true then chk (0≤(w64 (4*v1)))<| chk ((w64 (4*v1))<(len A1))<| ZcX (A1[zE (w64 (4*v1))]?) ZlL fun x45=> chk (0≤(w64 ((w64 (4*v1))+1)))<| chk ((w64 ((w64 (4*v1))+1))<(len A1))<| ZcX (A1[zE (w64 ((w64 (4*v1))+1))]?) ZlL fun x46=> chk (0≤(w64 ((w64 (4*v1))+2)))<| chk ((w64 ((w64 (4*v1))+2))<(len A1))<| ZcX (A1[zE (w64 ((w64 (4*v1))+2))]?) ZlL fun x47=> chk (0≤(w64 ((w64 (4*v1))+3)))<| chk ((w64 ((w64 (4*v1))+3))<(len A1))<| ZcX (A1[zE (w64 ((w64 (4*v1))+3))]?) ZlL fun x48=> chk (0≤v1)<| chk (v1<64)<| c1_ (w64 (v1+1),zM A44 (zE v1) (ZaE .or .u32 (ZaE .or .u32 (ZaE .or .u32 (ZbA .u32 (v32 (x45)) 24) (ZbA .u32 (v32 (x46)) 16)) (ZbA .u32 (v32 (x47)) 8)) (v32 (x48)))) else loopN (Zah.p2 N h_0 st) N (16,A44)
noncomputable def Zah (N:Nat) (h_0:Option Nat) (A1 st:LL):Option LL:= loopN (Zah.p1 N h_0 A1 st) N (0,zB 64 0)
noncomputable def Zah.p4.S (i71:Nat) (v83:Int) (A80:List Int) (st85:LL):S:=mkS 189 [(0,sP (some i71)),(9,sA 9),(172,sI v83)] [(9,.cells [zH .u32 8 A80])] st85
noncomputable def Zah.p3.S (i71:Nat) (v73:Int) (A68 A80:List Int) (st:LL):S:=mkS 189 [(0,sP (some i71)),(4,sA 4),(9,sA 9),(96,sI v73)] [(4,.cells [zH .u32 64 A68]),(9,.cells [zH .u32 8 A80])] st
noncomputable def Zah.p2.S (h_0:Option Nat) (A49:Int) (A68:List Int) (st:LL):S:=mkS 189 [(0,sP h_0),(4,sA 4),(6,sI A49)] [(4,.cells [zH .u32 64 A68])] st
noncomputable def Zah.p1.S (h_0:Option Nat) (A1:LL) (v1:Int) (A44:List Int) (st:LL):S:=mkS 189 [(0,sP h_0),(1,sV 1 A1),(4,sA 4),(16,sI v1)] [(4,.cells [zH .u32 64 A44])] st
theorem Zah.p4_ok {i71 v83 A80 st85 r c4_ J4} (h:Zah.p4 N i71 A80 c4_ (v83,st85)=some r) (hE:En Tryz.f160 g0 w0 (Zah.rs r) r R) (hc4 : ∀v83 st85,c4_ (v83,st85)=some r→At g0 w0 (Zah.p4.S i71 v83 A80 st85) J4):At g0 w0 (Zah.p4.S i71 v83 A80 st85) (XK zC R (cK Zah.B [1,1,1,1,1,1,0,0] :: .h J4 :: [.b 6])):=by
 unfold Zah.p4 at h;refine Zbe h (fun c164 h1=>?_) (fun c164 h2=>?_)
 ·obtain ⟨c165,h3⟩:=Zbd h1;obtain ⟨x86,c166,h4⟩:=ZcF h3;exact ZjD fol [rZ,cT,rZ,.d {ds:=[(5,{oc:=x86.lo}),(13,{oc:=x86.lo})],hv:=8192,Hs:=[8192]},rZ] [0,9,172] [9] (aO c164 c165 (oD c164) c166 c165 (oD c164) c165 (aI (oD c164) c166)) (hc4 (w64 (v83+1)) (zM st85 i71 (Zaq.lo {x86 with state:=zM x86.state (zE v83) (v32 ((zF x86.state (zE v83) 0)+(zF A80 (zE v83) 0)))})) h4)
 exact xR fol h2 hE [rZ,cF] c164
theorem Zah.p3_ok {i71 v73 A68 A80 st r c3_ J3} (h:Zah.p3 N i71 A68 st c3_ (v73,A80)=some r) (hE:En Tryz.f160 g0 w0 (Zah.rs r) r R) (hc3 : ∀v73 A80,c3_ (v73,A80)=some r→At g0 w0 (Zah.p3.S i71 v73 A68 A80 st) J3):At g0 w0 (Zah.p3.S i71 v73 A68 A80 st) (XK zC R (cK Zah.B [1,1,1,1,0,1,0,0] :: .h J3 :: [.b 4,cK Zah.B [1,1,1,1,1]])):=by
 unfold Zah.p3 at h;refine Zbe h (fun c157 h5=>?_) (fun c157 h6=>?_)
 ·obtain ⟨x81,c158,h7⟩:=Zac h5;obtain ⟨c159,h8⟩:=Zbd h7;obtain ⟨x82,c160,h9⟩:=Zac h8;exact ZjD fol [rZ,cT,rZ,rZ,rZ,.d {ds:=[(5,{rs:=[.one (zJ .u32 x81)],m:=2})],hv:=16,Hs:=[16]},.r [(3,{rs:=[.one (zJ .u32 x82)],m:=2})],.r [(19,{m:=3})],rZ] [0,4,9,96] [4,9] (aI c157 (ix 4 8 (ix 5 8 (ix 4 8 (ix 6 8 (ix 0 8 (ix 1 8 (ix 0 8 (ix 2 8 (ix 1 8 (ix 2 8 (ix 7 8 (ix 7 8 (ix 4 8 (ix 4 8 (aO z0 (eN (3)) (Zbl.snd c158) c159 (oD c157) c159 (oD c157) (aL c159 (oD c157) c159 (oD c157) (ix 0 8 (aK z0 (eN (3)) (Zbl.snd c160) (ix 0 8 (ix 1 8 (ix 2 8 (ix 3 8 (ix 4 8 (ix 5 8 (aI (leI 0 6) (ltI 6 8))))))))))))))))))))))))))) (hc3 (w64 (v73+1)) [v32 ((v32 ((v32 ((v32 ((v32 ((zF A80 7 0)+x81))+(ZaE .xor .u32 (ZaE .and .u32 (zF A80 4 0) (zF A80 5 0)) (ZaE .and .u32 (ZaE .xor .u32 (IntKind.max IntKind.u32) (zF A80 4 0)) (zF A80 6 0)))))+(zF glob_digest_steps (zE v73) 0)))+(zF A68 (zE v73) 0)))+(v32 (x82+(ZaE .xor .u32 (ZaE .xor .u32 (ZaE .and .u32 (zF A80 0 0) (zF A80 1 0)) (ZaE .and .u32 (zF A80 0 0) (zF A80 2 0))) (ZaE .and .u32 (zF A80 1 0) (zF A80 2 0)))))),zF A80 0 0,zF A80 1 0,zF A80 2 0,v32 ((zF A80 3 0)+(v32 ((v32 ((v32 ((v32 ((zF A80 7 0)+x81))+(ZaE .xor .u32 (ZaE .and .u32 (zF A80 4 0) (zF A80 5 0)) (ZaE .and .u32 (ZaE .xor .u32 (IntKind.max IntKind.u32) (zF A80 4 0)) (zF A80 6 0)))))+(zF glob_digest_steps (zE v73) 0)))+(zF A68 (zE v73) 0)))),zF A80 4 0,zF A80 5 0,zF A80 6 0] h9)
 exact aq fol [rZ,cF,rZ] [0,9,172] [9] c157 (At.loop N (At.loopN (fun y:Int×LL=>Zah.p4.S i71 y.1 A80 y.2) (fun c J hc y h=>Zah.p4_ok (v83:=y.1) (st85:=y.2) h hE (fun v83 st85=>hc (v83,st85))) N (0,st) h6))
theorem Zah.p2_ok {h_0 A49 A68 st r c2_ J2} (h:Zah.p2 N h_0 st c2_ (A49,A68)=some r) (hE:En Tryz.f160 g0 w0 (Zah.rs r) r R) (hc2 : ∀A49 A68,c2_ (A49,A68)=some r→At g0 w0 (Zah.p2.S h_0 A49 A68 st) J2):At g0 w0 (Zah.p2.S h_0 A49 A68 st) (XK zC R (cK Zah.B [1,1,0,1,0,0] :: .h J2 :: [.b 2,cK Zah.B [1,1,1]])):=by
 unfold Zah.p2 at h;refine Zbe h (fun c133 h10=>?_) (fun c133 h11=>?_)
 ·obtain ⟨c134,c135,c136,c137,c138,c139,h12⟩:=ck6 h10;obtain ⟨x69,c140,h13⟩:=Zac h12;obtain ⟨c141,c142,h14⟩:=ck2 h13;obtain ⟨x70,c143,h15⟩:=Zac h14;obtain ⟨c144,h16⟩:=Zbd h15;exact ZjD fol [rZ,cT,.d {ds:=[],hv:=0,Hs:=[]},.d {ds:=[(7,{rs:=[.one (zJ .u32 x69)],m:=2}),(19,{rs:=[.one (zJ .u32 x70)],m:=2})],hv:=33816640,Hs:=[64,262144,262208,33816640]},rZ] [0,4,6] [4] (aO c133 c134 c135 c136 c137 c138 c139 (aO c138 c139 c138 c139 c138 c139 z0 (aO (eN (2)) (Zbl.snd c140) z0 (eN (2)) (Zbl.snd c140) (leI 0 3) (leI 0 3) (aO (leI 0 3) (leI 0 3) c141 c142 c141 c142 c141 (aO c142 c141 c142 z0 (eN (2)) (Zbl.snd c143) (leI 0 10) (aL (leI 0 10) (leI 0 10) (leI 0 10) c144 (oD c133))))))) (hc2 (w64 (A49+1)) (zM A68 (zE A49) (v32 ((v32 ((v32 ((zF A68 (zE (w64 (A49-16))) 0)+(ZaE .xor .u32 x69 (Zbs .u32 (zF A68 (zE (w64 (A49-15))) 0) 3))))+(zF A68 (zE (w64 (A49-7))) 0)))+(ZaE .xor .u32 x70 (Zbs .u32 (zF A68 (zE (w64 (A49-2))) 0) 10))))) h16)
 obtain ⟨i71,rfl,h17⟩:=Zac h11;obtain ⟨x72,c146,h18⟩:=ZcF h17;exact aq fol [rZ,cF,.r [(3,{oc:=x72.lo})],rZ] [0,4,9,96] [4,9] (aI c133 c146) (At.loop N (At.loopN (fun y:Int×(List Int)=>Zah.p3.S i71 y.1 A68 y.2 st) (fun c J hc y h=>Zah.p3_ok (v73:=y.1) (A80:=y.2) h hE (fun v73 A80=>hc (v73,A80))) N (0,x72.state) h18))
theorem Zah.p1_ok {h_0 A1 v1 A44 st r c1_ J1} (h:Zah.p1 N h_0 A1 st c1_ (v1,A44)=some r) (hE:En Tryz.f160 g0 w0 (Zah.rs r) r R) (hc1 : ∀v1 A44,c1_ (v1,A44)=some r→At g0 w0 (Zah.p1.S h_0 A1 v1 A44 st) J1):At g0 w0 (Zah.p1.S h_0 A1 v1 A44 st) (XK zC R (cK Zah.B [1,0,1,0,0] :: .h J1 :: [.b 0,cK Zah.B [1,1]])):=by
 unfold Zah.p1 at h;refine Zbe h (fun c84 h19=>?_) (fun c84 h20=>?_)
 ·obtain ⟨c85,c86,h21⟩:=ck2 h19;obtain ⟨x45,c87,h22⟩:=Zix h21;obtain ⟨c88,c89,h23⟩:=ck2 h22;obtain ⟨x46,c90,h24⟩:=Zix h23;obtain ⟨c91,c92,h25⟩:=ck2 h24;obtain ⟨x47,c93,h26⟩:=Zix h25;obtain ⟨c94,c95,h27⟩:=ck2 h26;obtain ⟨x48,c96,h28⟩:=Zix h27;obtain ⟨c97,c98,h29⟩:=ck2 h28;exact ZjD fol [rZ,cT,rZ,.d {ds:=[(5,{oe:=[zJ .u8 x45]}),(13,{oe:=[zJ .u8 x46]}),(22,{oe:=[zJ .u8 x47]}),(31,{oe:=[zJ .u8 x48]})],hv:=34359738368,Hs:=[34359738368]},rZ] [0,1,4,16] [4] (aO c84 c85 c86 c87 (leI 0 24) c88 c89 (aO c90 (leI 0 16) c91 c92 c93 (leI 0 8) c94 (aK c95 c96 c97 c98))) (hc1 (w64 (v1+1)) (zM A44 (zE v1) (ZaE .or .u32 (ZaE .or .u32 (ZaE .or .u32 (ZbA .u32 (v32 (x45)) 24) (ZbA .u32 (v32 (x46)) 16)) (ZbA .u32 (v32 (x47)) 8)) (v32 (x48)))) h29)
 exact aq fol [rZ,cF,rZ] [0,4,6] [4] c84 (At.loop N (At.loopN (fun y:Int×(List Int)=>Zah.p2.S h_0 y.1 y.2 st) (fun c J hc y h=>Zah.p2_ok (A49:=y.1) (A68:=y.2) h hE (fun A49 A68=>hc (A49,A68))) N (16,A44) h20))
theorem Zah.snd {h_0:Option Nat} {A1:LL} {st:LL} {r:LL} (h:Zah N h_0 A1 st=some r):Snd zC 160 [.one (zQ h_0),.one (vM 1 A1)] st (Zah.rs r) r:=
 sO Zah.B Tryz.func160 fun g0 w0 R hE=>by
  unfold Zah at h;exact aq fol [rZ,rZ] [0,1,4,16] [4] trivial (At.loop N (At.loopN (fun y:Int×(List Int)=>Zah.p1.S h_0 A1 y.1 y.2 st) (fun c J hc y h=>Zah.p1_ok (v1:=y.1) (A44:=y.2) h hE (fun v1 A44=>hc (v1,A44))) N (0,zB 64 0) h))
noncomputable def ZaB.B:Code:=Tryz.f147.body.getD .skip
noncomputable def ZaB.rs (r:LL):List CV:=[]
noncomputable def ZaB.p2 (N:Nat) (c1_:((Option Nat)×Int×LL)→Option LL) (i15:Nat) (A1:LL) (v1:Int) (c2_:LL→Option LL):LL→Option LL:=fun st20=> ZcX (st20[i15]?) Zcr fun x21=> if (decide ((len x21.rest)≥64))=true then chk (64≤(zK x21.rest))<| Zbj (Zah N (some i15) (tP 64 x21.rest) st20) fun st22=> ZcX (st22[i15]?) Zcr fun x23=> chk (64≤(zK x23.rest))<| c2_ (zM st22 i15 (Zaq.lo {x23 with rest:=rS 64 x23.rest})) else c1_ ((some i15),w64 (v1+1),st20)
noncomputable def ZaB.p1 (N:Nat) (A1:LL) (c1_:((Option Nat)×Int×LL)→Option LL):((Option Nat)×Int×LL)→Option LL:=fun (A12,v1,st13)=> if (decide (v1<(len A1)))=true then chk (0≤v1)<| ZcX (A1[zE v1]?) dec_t fun x14=> Zbj A12 fun i15=> ZcX (st13[i15]?) Zcr fun x16=> chk (zK (x16.rest++(Zob x14))*1≤140737488355328)<| loopN (ZaB.p2 N c1_ i15 A1 v1) N (zM (zM (zM st13 i15 (Zaq.lo {x16 with size:=v64 (x16.size+(v64 (((zY x14:Nat):Int))))})) i15 (gs (Zaq.lo {x16 with size:=v64 (x16.size+(v64 (((zY x14:Nat):Int))))}) 1)) i15 (Zaq.lo (Zaq.mk x16.state (x16.rest++(Zob x14)) (v64 (x16.size+(v64 (((zY x14:Nat):Int)))))))) else some st13
noncomputable def ZaB (N:Nat) (h_0:Option Nat) (A1 st:LL):Option LL:= if (wY h_0)=true then some st else loopN (ZaB.p1 N A1) N (h_0,0,st)
noncomputable def ZaB.p2.S (i15:Nat) (A1:LL) (v1:Int) (st20:LL):S:=mkS 55 [(0,sP (some i15)),(8,sV 1 A1),(9,sI (len A1)),(10,sI v1)] [] st20
noncomputable def ZaB.p1.S (A12:Option Nat) (A1:LL) (v1:Int) (st13:LL):S:=mkS 55 [(0,sP A12),(8,sV 1 A1),(9,sI (len A1)),(10,sI v1)] [] st13
theorem ZaB.p2_ok {i15 A1 v1 st20 r c1_ c2_ J1 J2} (h:ZaB.p2 N c1_ i15 A1 v1 c2_ st20=some r) (hE:En Tryz.f147 g0 w0 (ZaB.rs r) r R) (hc1 : ∀A12 v1 st13,c1_ (A12,v1,st13)=some r→At g0 w0 (ZaB.p1.S A12 A1 v1 st13) J1) (hc2 : ∀st20,c2_ st20=some r→At g0 w0 (ZaB.p2.S i15 A1 v1 st20) J2):At g0 w0 (ZaB.p2.S i15 A1 v1 st20) (XK zC R (cK ZaB.B [1,1,0,0,1,1,0,0,1,1,1,0,0] :: .h J2 :: [.b 2,.b 1,cK ZaB.B [1,1,0,0,1,1,1],.h J1,.b 0])):=by
 unfold ZaB.p2 at h;obtain ⟨x21,c32,h1⟩:=ZcF h;refine Zbe h1 (fun c33 h2=>?_) (fun c33 h3=>?_)
 ·obtain ⟨c34,h4⟩:=Zbd h2;obtain ⟨st22,c35,h5⟩:=Zac h4;obtain ⟨x23,c36,h6⟩:=ZcF h5;obtain ⟨c37,h7⟩:=Zbd h6;exact an fol [.r [(3,{oc:=x21.lo})],cT,.r [(4,{oc:=x21.lo}),(5,{oc:=x21.lo}),(6,{oc:=x21.lo,st:=st22,wm:=2})],.r [(4,{oc:=x23.lo}),(5,{oc:=x23.lo}),(8,{oc:=x23.lo,m:=8,wm:=1})]] [0,8,9,10] [] (aO c32 c33 c32 (leI 0 64) (leN 0 64) c34 c32 (aO z0 c34 c32 (Zah.snd c35) c36 (leI 0 64) c37 (aM (Nat.le_refl (zK x23.rest)) c36 (rfl:Root.obj i15=Root.obj i15) c36 c37 (eN ((zK x23.rest)-64))))) (hc2 (zM st22 i15 (Zaq.lo {x23 with rest:=rS 64 x23.rest})) h7)
 exact an fol [.r [(3,{oc:=x21.lo})],cF,rZ] [0,8,9,10] [] (aI c32 c33) (hc1 (some i15) (w64 (v1+1)) st20 h3)
theorem ZaB.p1_ok {A12 A1 v1 st13 r c1_ J1} (h:ZaB.p1 N A1 c1_ (A12,v1,st13)=some r) (hE:En Tryz.f147 g0 w0 (ZaB.rs r) r R) (hc1 : ∀A12 v1 st13,c1_ (A12,v1,st13)=some r→At g0 w0 (ZaB.p1.S A12 A1 v1 st13) J1):At g0 w0 (ZaB.p1.S A12 A1 v1 st13) (XK zC R (cK ZaB.B [1,1,0,0] :: .h J1 :: [.b 0])):=by
 unfold ZaB.p1 at h;refine Zbe h (fun c20 h8=>?_) (fun c20 h9=>?_)
 ·obtain ⟨c21,h10⟩:=Zbd h8;obtain ⟨x14,c22,h11⟩:=ZtD h10;obtain ⟨i15,rfl,h12⟩:=Zac h11;obtain ⟨x16,c24,h13⟩:=ZcF h12;obtain ⟨c25,h14⟩:=Zbd h13;exact aq fol [rZ,cT,.r [(1,{oe:=[wZ x14]})],.r [(3,{oc:=x16.lo}),(10,{oc:=x16.lo})],.r [(4,{oc:=Zaq.lo {x16 with size:=v64 (x16.size+(v64 (((zY x14:Nat):Int))))}}),(6,{oe:=Zaq.lo {x16 with size:=v64 (x16.size+(v64 (((zY x14:Nat):Int))))}}),(9,{oc:=gs (Zaq.lo {x16 with size:=v64 (x16.size+(v64 (((zY x14:Nat):Int))))}) 1,mv:=[30]})]] [0,8,9,10] [] (aO c20 c21 (oD c20) c22 c24 c24 (Zao c24 (Zaq.lo {x16 with size:=v64 (x16.size+(v64 (((zY x14:Nat):Int))))})) (aN z0 (eN (zK x16.rest)) (Zao c24 (Zaq.lo {x16 with size:=v64 (x16.size+(v64 (((zY x14:Nat):Int))))})) c25 (Zao (Zao c24 (Zaq.lo {x16 with size:=v64 (x16.size+(v64 (((zY x14:Nat):Int))))})) (gs (Zaq.lo {x16 with size:=v64 (x16.size+(v64 (((zY x14:Nat):Int))))}) 1)) z0 (eN (zK (x16.rest++(Zob x14)))))) (At.loop N (At.loopN (fun y:LL=>ZaB.p2.S i15 A1 v1 y) (fun c J hc y h=>ZaB.p2_ok h hE hc1 (fun st20=>hc st20)) N (zM (zM (zM st13 i15 (Zaq.lo {x16 with size:=v64 (x16.size+(v64 (((zY x14:Nat):Int))))})) i15 (gs (Zaq.lo {x16 with size:=v64 (x16.size+(v64 (((zY x14:Nat):Int))))}) 1)) i15 (Zaq.lo (Zaq.mk x16.state (x16.rest++(Zob x14)) (v64 (x16.size+(v64 (((zY x14:Nat):Int)))))))) h14))
 exact xR fol h9 hE [rZ,cF] c20
theorem ZaB.snd {h_0:Option Nat} {A1:LL} {st:LL} {r:LL} (h:ZaB N h_0 A1 st=some r):Snd zC 147 [.one (zQ h_0),.one (vM 1 A1)] st (ZaB.rs r) r:=
 sO ZaB.B Tryz.func147 fun g0 w0 R hE=>by
  unfold ZaB at h;refine Zbe h (fun c1 h15=>?_) (fun c1 h16=>?_)
  ·exact xR fol h15 hE [rZ,cT] c1
  exact aq fol [rZ,cF,rZ] [0,8,9,10] [] c1 (At.loop N (At.loopN (fun y:(Option Nat)×Int×LL=>ZaB.p1.S y.1 A1 y.2.1 y.2.2) (fun c J hc y h=>ZaB.p1_ok (A12:=y.1) (v1:=y.2.1) (st13:=y.2.2) h hE (fun A12 v1 st13=>hc (A12,v1,st13))) N (h_0,0,st) h16))
noncomputable def Zal.B:Code:=Tryz.f148.body.getD .skip
noncomputable def Zal.rs (r:(List Int)×LL):List CV:=[.agg [zH .u8 32 r.1]]
noncomputable def Zal.p4 (N:Nat) (x47:Zaq) (st45:LL) (c4_:(Int×(List Int))→Option ((List Int)×LL)):(Int×(List Int))→Option ((List Int)×LL):=fun (v48,A49)=> if (decide (v48<8))=true then chk (0≤v48)<| chk (0≤(w64 (4*v48)))<| chk ((w64 (4*v48))<32)<| chk (0≤(w64 ((w64 (4*v48))+1)))<| chk ((w64 ((w64 (4*v48))+1))<32)<| chk (0≤(w64 ((w64 (4*v48))+2)))<| chk ((w64 ((w64 (4*v48))+2))<32)<| chk (0≤(w64 ((w64 (4*v48))+3)))<| chk ((w64 ((w64 (4*v48))+3))<32)<| c4_ (w64 (v48+1),zM (zM (zM (zM A49 (zE (w64 (4*v48))) (v8 (Zbs .u32 (zF x47.state (zE v48) 0) 24))) (zE (w64 ((w64 (4*v48))+1))) (v8 (Zbs .u32 (zF x47.state (zE v48) 0) 16))) (zE (w64 ((w64 (4*v48))+2))) (v8 (Zbs .u32 (zF x47.state (zE v48) 0) 8))) (zE (w64 ((w64 (4*v48))+3))) (v8 (zF x47.state (zE v48) 0))) else some (A49,st45)
noncomputable def Zal.p3 (N:Nat) (st v38:LL) (c3_:(Nat×Nat×LL)→Option ((List Int)×LL)):(Nat×Nat×LL)→Option ((List Int)×LL):=fun (A43,A44,st45)=> if (decide (((A44:Nat):Int)>0))=true then chk ((A43+64)≤(zK v38))<| Zbj (Zah N (some (zK st)) (tP 64 (rS A43 v38)) st45) fun st46=> chk (64≤A44)<| c3_ (A43+64,A44-64,st46) else ZcX (st45[zK st]?) Zcr fun x47=> loopN (Zal.p4 N x47 st45) N (0,zB 32 0)
noncomputable def Zal.p2 (N:Nat) (h_0:Zaq) (st:LL) (c2_:(LL×Int)→Option ((List Int)×LL)):(LL×Int)→Option ((List Int)×LL):=fun (v38,A26)=> if (decide (A26≥0))=true then chk (0≤(w64 (8*A26)))<| chk (zK (v38++[[zJ .u8 (v8 (Zbs .u64 (v64 (h_0.size*8)) (w64 (8*A26))))]])*1≤140737488355328)<| c2_ (v38++[[zJ .u8 (v8 (Zbs .u64 (v64 (h_0.size*8)) (w64 (8*A26))))]],w64 (A26-1)) else loopN (Zal.p3 N st v38) N (0,zK v38,st++[Zaq.lo (Zaq.mk h_0.state [] 0)])
noncomputable def Zal.p1 (N:Nat) (h_0:Zaq) (st:LL) (c1_:LL→Option ((List Int)×LL)):LL→Option ((List Int)×LL):=fun v25=> if ((Int.tmod (len v25) 64) != 56)=true then chk (zK (v25++[[zJ .u8 0]])*1≤140737488355328)<| c1_ (v25++[[zJ .u8 0]]) else loopN (Zal.p2 N h_0 st) N (v25,7)
noncomputable def Zal (N:Nat) (h_0:Zaq) (st:LL):Option ((List Int)×LL):= chk (zK ([]++h_0.rest)*1≤140737488355328)<| chk (zK (([]++h_0.rest)++[[zJ .u8 128]])*1≤140737488355328)<| loopN (Zal.p1 N h_0 st) N (([]++h_0.rest)++[[zJ .u8 128]])
noncomputable def Zal.p4.S (x47:Zaq) (v48:Int) (A49:List Int) (st45:LL):S:=mkS 94 [(2,sA 2),(6,sA 6),(61,.agg [.l (zH .u32 8 x47.state)]),(62,sI v48)] [(2,.cells [zH .u8 32 (zB 32 0)]),(6,.cells [zH .u8 32 A49])] st45
noncomputable def Zal.p3.S (st:LL) (A43 A44:Nat) (v38 st45:LL):S:=mkS 94 [(2,sA 2),(3,sP (some (zK st))),(4,.one (.h (.row 22 0) 1 A43 A44))] [(2,.cells [zH .u8 32 (zB 32 0)]),(22,.row 0 false 1 v38)] st45
noncomputable def Zal.p2.S (h_0:Zaq) (st v38:LL) (A26:Int):S:=mkS 94 [(0,.one (.l (L.bx 10 h_0.ls))),(2,sA 2),(3,sP (some (zK st))),(4,.one (.h (.row 22 0) 1 0 (zK v38))),(5,sI A26)] [(2,.cells [zH .u8 32 (zB 32 0)]),(22,.row 0 false 1 v38)] (st++[Zaq.lo (Zaq.mk h_0.state [] 0)])
noncomputable def Zal.p1.S (h_0:Zaq) (st v25:LL):S:=mkS 94 [(0,.one (.l (L.bx 10 h_0.ls))),(2,sA 2),(3,sP (some (zK st))),(4,.one (.h (.row 22 0) 1 0 (zK v25)))] [(2,.cells [zH .u8 32 (zB 32 0)]),(22,.row 0 false 1 v25)] (st++[Zaq.lo (Zaq.mk h_0.state [] 0)])
theorem Zal.p4_ok {x47 v48 A49 st45 r c4_ J4} (h:Zal.p4 N x47 st45 c4_ (v48,A49)=some r) (hE:En Tryz.f148 g0 w0 (Zal.rs r) r.2 R) (hc4 : ∀v48 A49,c4_ (v48,A49)=some r→At g0 w0 (Zal.p4.S x47 v48 A49 st45) J4):At g0 w0 (Zal.p4.S x47 v48 A49 st45) (XK zC R (cK Zal.B [1,1,1,1,1,1,1,1,1,0,1,0,0] :: .h J4 :: [.b 6,cK Zal.B [1,1,1,1,1,1,1,1,1,1]])):=by
 unfold Zal.p4 at h;refine Zbe h (fun c205 h1=>?_) (fun c205 h2=>?_)
 ·obtain ⟨c206,c207,c208,c209,c210,c211,c212,c213,h3⟩:=ck8 h1;obtain ⟨c214,h4⟩:=Zbd h3;exact an fol [rZ,cT,rZ,rZ,rZ] [2,6,61,62] [2,6] (aO c205 c206 (oD c205) (leI 0 24) (leI 0 16) (leI 0 8) c207 (aN c208 c209 c210 c211 c212 c213 c214)) (hc4 (w64 (v48+1)) (zM (zM (zM (zM A49 (zE (w64 (4*v48))) (v8 (Zbs .u32 (zF x47.state (zE v48) 0) 24))) (zE (w64 ((w64 (4*v48))+1))) (v8 (Zbs .u32 (zF x47.state (zE v48) 0) 16))) (zE (w64 ((w64 (4*v48))+2))) (v8 (Zbs .u32 (zF x47.state (zE v48) 0) 8))) (zE (w64 ((w64 (4*v48))+3))) (v8 (zF x47.state (zE v48) 0))) h4)
 exact xT fol h2 hE [rZ,cF,rZ] c205
theorem Zal.p3_ok {st A43 A44 v38 st45 r c3_ J3} (h:Zal.p3 N st v38 c3_ (A43,A44,st45)=some r) (hE:En Tryz.f148 g0 w0 (Zal.rs r) r.2 R) (hc3 : ∀A43 A44 st45,c3_ (A43,A44,st45)=some r→At g0 w0 (Zal.p3.S st A43 A44 v38 st45) J3):At g0 w0 (Zal.p3.S st A43 A44 v38 st45) (XK zC R (cK Zal.B [1,1,1,1,1,1,1,0,0,0] :: .h J3 :: [.b 4,cK Zal.B [1,1,1,1,1,1,1,1]])):=by
 unfold Zal.p3 at h;refine Zbe h (fun c190 h5=>?_) (fun c190 h6=>?_)
 ·obtain ⟨c191,h7⟩:=Zbd h5;obtain ⟨st46,c192,h8⟩:=Zac h7;obtain ⟨c193,h9⟩:=Zbd h8;exact an fol [rZ,cT,.r [(2,{m:=9}),(3,{st:=st46,wm:=3,fz:=[22]})],rZ] [2,3,4] [2,22] (aO c190 (leI 0 64) (leN 0 64) c191 c191 (Zah.snd c192) (leI 0 64) (aI c193 (Nat.le_refl (A44)))) (hc3 (A43+64) (A44-64) st46 h9)
 obtain ⟨x47,c194,h10⟩:=ZcF h6;exact aq fol [rZ,cF,rZ,.r [(3,{oc:=x47.lo})]] [2,6,61,62] [2,6] (aI c190 c194) (At.loop N (At.loopN (fun y:Int×(List Int)=>Zal.p4.S x47 y.1 y.2 st45) (fun c J hc y h=>Zal.p4_ok (v48:=y.1) (A49:=y.2) h hE (fun v48 A49=>hc (v48,A49))) N (0,zB 32 0) h10))
theorem Zal.p2_ok {h_0 st v38 A26 r c2_ J2} (h:Zal.p2 N h_0 st c2_ (v38,A26)=some r) (hE:En Tryz.f148 g0 w0 (Zal.rs r) r.2 R) (hc2 : ∀v38 A26,c2_ (v38,A26)=some r→At g0 w0 (Zal.p2.S h_0 st v38 A26) J2):At g0 w0 (Zal.p2.S h_0 st v38 A26) (XK zC R (cK Zal.B [1,1,1,1,1,1,0,1,0,0] :: .h J2 :: [.b 2,cK Zal.B [1,1,1,1,1,1,1]])):=by
 unfold Zal.p2 at h;refine Zbe h (fun c163 h11=>?_) (fun c163 h12=>?_)
 ·obtain ⟨c164,c165,h13⟩:=ck2 h11;exact an fol [rZ,cT,.r [(4,{oe:=h_0.ls})],rZ] [0,2,3,4,5] [2,22] (aO c163 (eO h_0.ls) c164 z0 (eN (zK v38)) z0 (eN (1)) c165) (hc2 (v38++[[zJ .u8 (v8 (Zbs .u64 (v64 (h_0.size*8)) (w64 (8*A26))))]]) (w64 (A26-1)) h13)
 exact aq fol [rZ,cF] [2,3,4] [2,22] c163 (At.loop N (At.loopN (fun y:Nat×Nat×LL=>Zal.p3.S st y.1 y.2.1 v38 y.2.2) (fun c J hc y h=>Zal.p3_ok (A43:=y.1) (A44:=y.2.1) (st45:=y.2.2) h hE (fun A43 A44 st45=>hc (A43,A44,st45))) N (0,zK v38,st++[Zaq.lo (Zaq.mk h_0.state [] 0)]) h12))
theorem Zal.p1_ok {h_0 st v25 r c1_ J1} (h:Zal.p1 N h_0 st c1_ v25=some r) (hE:En Tryz.f148 g0 w0 (Zal.rs r) r.2 R) (hc1 : ∀v25,c1_ v25=some r→At g0 w0 (Zal.p1.S h_0 st v25) J1):At g0 w0 (Zal.p1.S h_0 st v25) (XK zC R (cK Zal.B [1,1,1,1,1,0,0,0] :: .h J1 :: [.b 0,cK Zal.B [1,1,1,1,1,1]])):=by
 unfold Zal.p1 at h;refine Zbe h (fun c109 h14=>?_) (fun c109 h15=>?_)
 ·obtain ⟨c110,h16⟩:=Zbd h14;exact an fol [rZ,cT,rZ] [0,2,3,4] [2,22] (aN (neI 64) c109 z0 (eN (zK v25)) z0 (eN (1)) c110) (hc1 (v25++[[zJ .u8 0]]) h16)
 exact aq fol [rZ,cF,rZ] [0,2,3,4,5] [2,22] (aI (neI 64) c109) (At.loop N (At.loopN (fun y:LL×Int=>Zal.p2.S h_0 st y.1 y.2) (fun c J hc y h=>Zal.p2_ok (v38:=y.1) (A26:=y.2) h hE (fun v38 A26=>hc (v38,A26))) N (v25,7) h15))
theorem Zal.snd {h_0:Zaq} {st:LL} {r:(List Int)×LL} (h:Zal N h_0 st=some r):Snd zC 148 [.one (L.bx 10 h_0.ls)] st (Zal.rs r) r.2:=
 sO Zal.B Tryz.func148 fun g0 w0 R hE=>by
  unfold Zal at h;obtain ⟨c1,c2,h17⟩:=ck2 h;exact aq fol [rZ,rZ,cF,.r [(3,{oe:=h_0.ls}),(4,{mv:=[1]}),(5,{m:=1})],.r [(3,{oe:=h_0.ls}),(5,{fz:=[22]})],rZ] [0,2,3,4] [2,22] (aO eF (eO h_0.ls) (eO h_0.ls) c1 z0 (eN (zK ([]++h_0.rest))) z0 (aI (eN (1)) c2)) (At.loop N (At.loopN (fun y:LL=>Zal.p1.S h_0 st y) (fun c J hc y h=>Zal.p1_ok h hE (fun v25=>hc v25)) N (([]++h_0.rest)++[[zJ .u8 128]]) h17))
noncomputable def Zak.B:Code:=Tryz.f148.body.getD .skip
noncomputable def Zak.rs (r:(List Int)×LL):List CV:=[.agg [zH .u8 32 r.1]]
noncomputable def Zak.p4 (N:Nat) (x53:Zaq) (st51:LL) (c4_:(Int×(List Int))→Option ((List Int)×LL)):(Int×(List Int))→Option ((List Int)×LL):=fun (v54,A55)=> if (decide (v54<8))=true then chk (0≤v54)<| chk (0≤(w64 (4*v54)))<| chk ((w64 (4*v54))<32)<| chk (0≤(w64 ((w64 (4*v54))+1)))<| chk ((w64 ((w64 (4*v54))+1))<32)<| chk (0≤(w64 ((w64 (4*v54))+2)))<| chk ((w64 ((w64 (4*v54))+2))<32)<| chk (0≤(w64 ((w64 (4*v54))+3)))<| chk ((w64 ((w64 (4*v54))+3))<32)<| c4_ (w64 (v54+1),zM (zM (zM (zM A55 (zE (w64 (4*v54))) (v8 (Zbs .u32 (zF x53.state (zE v54) 0) 24))) (zE (w64 ((w64 (4*v54))+1))) (v8 (Zbs .u32 (zF x53.state (zE v54) 0) 16))) (zE (w64 ((w64 (4*v54))+2))) (v8 (Zbs .u32 (zF x53.state (zE v54) 0) 8))) (zE (w64 ((w64 (4*v54))+3))) (v8 (zF x53.state (zE v54) 0))) else some (A55,st51)
noncomputable def Zak.p3 (N:Nat) (st v43:LL) (c3_:(Nat×Nat×LL)→Option ((List Int)×LL)):(Nat×Nat×LL)→Option ((List Int)×LL):=fun (A49,A50,st51)=> if (decide (((A50:Nat):Int)>0))=true then chk ((A49+64)≤(zK v43))<| Zbj (Zah N (some (zK st)) (tP 64 (rS A49 v43)) st51) fun st52=> chk (64≤A50)<| c3_ (A49+64,A50-64,st52) else ZcX (st51[zK st]?) Zcr fun x53=> loopN (Zak.p4 N x53 st51) N (0,zB 32 0)
noncomputable def Zak.p2 (N:Nat) (i1:Nat) (st:LL) (x2:Zaq) (c2_:(LL×Int)→Option ((List Int)×LL)):(LL×Int)→Option ((List Int)×LL):=fun (v43,A30)=> if (decide (A30≥0))=true then ZcX ((st++[Zaq.lo (Zaq.mk x2.state [] 0)])[i1]?) Zcr fun x44=> chk (0≤(w64 (8*A30)))<| chk (zK (v43++[[zJ .u8 (v8 (Zbs .u64 (v64 (x44.size*8)) (w64 (8*A30))))]])*1≤140737488355328)<| c2_ (v43++[[zJ .u8 (v8 (Zbs .u64 (v64 (x44.size*8)) (w64 (8*A30))))]],w64 (A30-1)) else loopN (Zak.p3 N st v43) N (0,zK v43,st++[Zaq.lo (Zaq.mk x2.state [] 0)])
noncomputable def Zak.p1 (N:Nat) (i1:Nat) (st:LL) (x2:Zaq) (c1_:LL→Option ((List Int)×LL)):LL→Option ((List Int)×LL):=fun v29=> if ((Int.tmod (len v29) 64) != 56)=true then chk (zK (v29++[[zJ .u8 0]])*1≤140737488355328)<| c1_ (v29++[[zJ .u8 0]]) else loopN (Zak.p2 N i1 st x2) N (v29,7)
noncomputable def Zak (N:Nat) (h_0:Option Nat) (st:LL):Option ((List Int)×LL):= if (wY h_0)=true then some (zB 32 0,st) else Zbj h_0 fun i1=> ZcX (st[i1]?) Zcr fun x2=> chk (zK ([]++x2.rest)*1≤140737488355328)<| chk (zK (([]++x2.rest)++[[zJ .u8 128]])*1≤140737488355328)<| loopN (Zak.p1 N i1 st x2) N (([]++x2.rest)++[[zJ .u8 128]])
noncomputable def Zak.p4.S (x53:Zaq) (v54:Int) (A55:List Int) (st51:LL):S:=mkS 94 [(2,sA 2),(6,sA 6),(61,.agg [.l (zH .u32 8 x53.state)]),(62,sI v54)] [(2,.cells [zH .u8 32 (zB 32 0)]),(6,.cells [zH .u8 32 A55])] st51
noncomputable def Zak.p3.S (st:LL) (A49 A50:Nat) (v43 st51:LL):S:=mkS 94 [(2,sA 2),(3,sP (some (zK st))),(4,.one (.h (.row 22 0) 1 A49 A50))] [(2,.cells [zH .u8 32 (zB 32 0)]),(22,.row 0 false 1 v43)] st51
noncomputable def Zak.p2.S (i1:Nat) (st v43:LL) (A30:Int) (x2:Zaq):S:=mkS 94 [(0,sP (some i1)),(2,sA 2),(3,sP (some (zK st))),(4,.one (.h (.row 22 0) 1 0 (zK v43))),(5,sI A30)] [(2,.cells [zH .u8 32 (zB 32 0)]),(22,.row 0 false 1 v43)] (st++[Zaq.lo (Zaq.mk x2.state [] 0)])
noncomputable def Zak.p1.S (i1:Nat) (st v29:LL) (x2:Zaq):S:=mkS 94 [(0,sP (some i1)),(2,sA 2),(3,sP (some (zK st))),(4,.one (.h (.row 22 0) 1 0 (zK v29)))] [(2,.cells [zH .u8 32 (zB 32 0)]),(22,.row 0 false 1 v29)] (st++[Zaq.lo (Zaq.mk x2.state [] 0)])
theorem Zak.p4_ok {x53 v54 A55 st51 r c4_ J4} (h:Zak.p4 N x53 st51 c4_ (v54,A55)=some r) (hE:En Tryz.f148 g0 w0 (Zak.rs r) r.2 R) (hc4 : ∀v54 A55,c4_ (v54,A55)=some r→At g0 w0 (Zak.p4.S x53 v54 A55 st51) J4):At g0 w0 (Zak.p4.S x53 v54 A55 st51) (XK zC R (cK Zak.B [1,1,1,1,1,1,1,1,1,0,1,0,0] :: .h J4 :: [.b 6,cK Zak.B [1,1,1,1,1,1,1,1,1,1]])):=by
 unfold Zak.p4 at h;refine Zbe h (fun c212 h1=>?_) (fun c212 h2=>?_)
 ·obtain ⟨c213,c214,c215,c216,c217,c218,c219,c220,h3⟩:=ck8 h1;obtain ⟨c221,h4⟩:=Zbd h3;exact an fol [rZ,cT,rZ,rZ,rZ] [2,6,61,62] [2,6] (aO c212 c213 (oD c212) (leI 0 24) (leI 0 16) (leI 0 8) c214 (aN c215 c216 c217 c218 c219 c220 c221)) (hc4 (w64 (v54+1)) (zM (zM (zM (zM A55 (zE (w64 (4*v54))) (v8 (Zbs .u32 (zF x53.state (zE v54) 0) 24))) (zE (w64 ((w64 (4*v54))+1))) (v8 (Zbs .u32 (zF x53.state (zE v54) 0) 16))) (zE (w64 ((w64 (4*v54))+2))) (v8 (Zbs .u32 (zF x53.state (zE v54) 0) 8))) (zE (w64 ((w64 (4*v54))+3))) (v8 (zF x53.state (zE v54) 0))) h4)
 exact xT fol h2 hE [rZ,cF,rZ] c212
theorem Zak.p3_ok {st A49 A50 v43 st51 r c3_ J3} (h:Zak.p3 N st v43 c3_ (A49,A50,st51)=some r) (hE:En Tryz.f148 g0 w0 (Zak.rs r) r.2 R) (hc3 : ∀A49 A50 st51,c3_ (A49,A50,st51)=some r→At g0 w0 (Zak.p3.S st A49 A50 v43 st51) J3):At g0 w0 (Zak.p3.S st A49 A50 v43 st51) (XK zC R (cK Zak.B [1,1,1,1,1,1,1,0,0,0] :: .h J3 :: [.b 4,cK Zak.B [1,1,1,1,1,1,1,1]])):=by
 unfold Zak.p3 at h;refine Zbe h (fun c197 h5=>?_) (fun c197 h6=>?_)
 ·obtain ⟨c198,h7⟩:=Zbd h5;obtain ⟨st52,c199,h8⟩:=Zac h7;obtain ⟨c200,h9⟩:=Zbd h8;exact an fol [rZ,cT,.r [(2,{m:=9}),(3,{st:=st52,wm:=3,fz:=[22]})],rZ] [2,3,4] [2,22] (aO c197 (leI 0 64) (leN 0 64) c198 c198 (Zah.snd c199) (leI 0 64) (aI c200 (Nat.le_refl (A50)))) (hc3 (A49+64) (A50-64) st52 h9)
 obtain ⟨x53,c201,h10⟩:=ZcF h6;exact aq fol [rZ,cF,rZ,.r [(3,{oc:=x53.lo})]] [2,6,61,62] [2,6] (aI c197 c201) (At.loop N (At.loopN (fun y:Int×(List Int)=>Zak.p4.S x53 y.1 y.2 st51) (fun c J hc y h=>Zak.p4_ok (v54:=y.1) (A55:=y.2) h hE (fun v54 A55=>hc (v54,A55))) N (0,zB 32 0) h10))
theorem Zak.p2_ok {i1 st v43 A30 x2 r c2_ J2} (h:Zak.p2 N i1 st x2 c2_ (v43,A30)=some r) (hE:En Tryz.f148 g0 w0 (Zak.rs r) r.2 R) (hc2 : ∀v43 A30,c2_ (v43,A30)=some r→At g0 w0 (Zak.p2.S i1 st v43 A30 x2) J2):At g0 w0 (Zak.p2.S i1 st v43 A30 x2) (XK zC R (cK Zak.B [1,1,1,1,1,1,0,1,0,0] :: .h J2 :: [.b 2,cK Zak.B [1,1,1,1,1,1,1]])):=by
 unfold Zak.p2 at h;refine Zbe h (fun c169 h11=>?_) (fun c169 h12=>?_)
 ·obtain ⟨x44,c170,h13⟩:=ZcF h11;obtain ⟨c171,c172,h14⟩:=ck2 h13;exact an fol [rZ,cT,.r [(4,{oc:=x44.lo})],rZ] [0,2,3,4,5] [2,22] (aO c169 c170 c171 z0 (eN (zK v43)) z0 (eN (1)) c172) (hc2 (v43++[[zJ .u8 (v8 (Zbs .u64 (v64 (x44.size*8)) (w64 (8*A30))))]]) (w64 (A30-1)) h14)
 exact aq fol [rZ,cF] [2,3,4] [2,22] c169 (At.loop N (At.loopN (fun y:Nat×Nat×LL=>Zak.p3.S st y.1 y.2.1 v43 y.2.2) (fun c J hc y h=>Zak.p3_ok (A49:=y.1) (A50:=y.2.1) (st51:=y.2.2) h hE (fun A49 A50 st51=>hc (A49,A50,st51))) N (0,zK v43,st++[Zaq.lo (Zaq.mk x2.state [] 0)]) h12))
theorem Zak.p1_ok {i1 st v29 x2 r c1_ J1} (h:Zak.p1 N i1 st x2 c1_ v29=some r) (hE:En Tryz.f148 g0 w0 (Zak.rs r) r.2 R) (hc1 : ∀v29,c1_ v29=some r→At g0 w0 (Zak.p1.S i1 st v29 x2) J1):At g0 w0 (Zak.p1.S i1 st v29 x2) (XK zC R (cK Zak.B [1,1,1,1,1,0,0,0] :: .h J1 :: [.b 0,cK Zak.B [1,1,1,1,1,1]])):=by
 unfold Zak.p1 at h;refine Zbe h (fun c114 h15=>?_) (fun c114 h16=>?_)
 ·obtain ⟨c115,h17⟩:=Zbd h15;exact an fol [rZ,cT,rZ] [0,2,3,4] [2,22] (aN (neI 64) c114 z0 (eN (zK v29)) z0 (eN (1)) c115) (hc1 (v29++[[zJ .u8 0]]) h17)
 exact aq fol [rZ,cF,rZ] [0,2,3,4,5] [2,22] (aI (neI 64) c114) (At.loop N (At.loopN (fun y:LL×Int=>Zak.p2.S i1 st y.1 y.2 x2) (fun c J hc y h=>Zak.p2_ok (v43:=y.1) (A30:=y.2) h hE (fun v43 A30=>hc (v43,A30))) N (v29,7) h16))
theorem Zak.snd {h_0:Option Nat} {st:LL} {r:(List Int)×LL} (h:Zak N h_0 st=some r):Snd zC 148 [.one (zQ h_0)] st (Zak.rs r) r.2:=
 sO Zak.B Tryz.func148 fun g0 w0 R hE=>by
  unfold Zak at h;refine Zbe h (fun c1 h18=>?_) (fun c1 h19=>?_)
  ·exact xT fol h18 hE [rZ,rZ,cT,rZ] c1
  obtain ⟨i1,rfl,h20⟩:=Zac h19;obtain ⟨x2,c3,h21⟩:=ZcF h20;obtain ⟨c4,c5,h22⟩:=ck2 h21;exact aq fol [rZ,rZ,cF,.r [(3,{oc:=x2.lo}),(4,{mv:=[1]}),(5,{m:=1})],.r [(3,{oc:=x2.lo}),(4,{oc:=x2.lo}),(5,{fz:=[22]})],rZ] [0,2,3,4] [2,22] (aO c1 c3 (st_old c3 (Zaq.lo (Zaq.mk x2.state [] 0))) z0 (eN (zK x2.rest)) (st_old c3 (Zaq.lo (Zaq.mk x2.state [] 0))) c4 (aL z0 (eN (zK ([]++x2.rest))) z0 (eN (1)) c5)) (At.loop N (At.loopN (fun y:LL=>Zak.p1.S i1 st y x2) (fun c J hc y h=>Zak.p1_ok h hE (fun v29=>hc v29)) N (([]++x2.rest)++[[zJ .u8 128]]) h22))
noncomputable def ZeC.B:Code:=Tryz.f131.body.getD .skip
noncomputable def ZeC.rs (r:(List Int)×LL):List CV:=[.agg [zH .u8 32 r.1]]
noncomputable def ZeC (N:Nat) (A0 st:LL):Option ((List Int)×LL):= Zbj (ZeT N st) fun (x1,st2)=> Zbj (ZaB N x1 A0 st2) fun st3=> Zbj (Zak N x1 st3) fun (x4,st5)=> some (x4,st5)
theorem ZeC.snd {A0:LL} {st:LL} {r:(List Int)×LL} (h:ZeC N A0 st=some r):Snd zC 131 [.one (vM 1 A0)] st (ZeC.rs r) r.2:=
 sO ZeC.B Tryz.func131 fun g0 w0 R hE=>by
  unfold ZeC at h;obtain ⟨⟨x1,st2⟩,c1,h1⟩:=Zac h;obtain ⟨st3,c2,h2⟩:=Zac h1;obtain ⟨⟨x4,st5⟩,c3,h3⟩:=Zac h2;exact xT fol h3 hE [rZ,.r [(0,{rs:=[.one (zQ x1)],st:=st2})],.r [(2,{st:=st3})],.r [(1,{rs:=[.agg [zH .u8 32 x4]],st:=st5})]] (aJ (ZeT.snd c1) (ZaB.snd c2) (Zak.snd c3))
noncomputable def ZdB.B:Code:=Tryz.f104.body.getD .skip
noncomputable def ZdB.rs (r:(List Int)×LL):List CV:=[.agg [zH .u8 32 r.1]]
noncomputable def ZdB (N:Nat) (A0 st:LL):Option ((List Int)×LL):= Zbj (ZeC N A0 st) fun (x1,st2)=> Zbj (ZeC N [[wZ (Zky x1)]] st2) fun (x3,st4)=> some (x3,st4)
theorem ZdB.snd {A0:LL} {st:LL} {r:(List Int)×LL} (h:ZdB N A0 st=some r):Snd zC 104 [.one (vM 1 A0)] st (ZdB.rs r) r.2:=
 sO ZdB.B Tryz.func104 fun g0 w0 R hE=>by
  unfold ZdB at h;obtain ⟨⟨x1,st2⟩,c1,h1⟩:=Zac h;obtain ⟨⟨x3,st4⟩,c2,h2⟩:=Zac h1;exact xT fol h2 hE [rZ,.r [(1,{rs:=[.agg [zH .u8 32 x1]],st:=st2})],.r [(3,{rs:=[.agg [zH .u8 32 x3]],st:=st4,fz:=[8]})]] (aM (ZeC.snd c1) (leN 0 32) (leN 32 32) z0 (eN (1)) (ZeC.snd c2))
noncomputable def Zeu.B:Code:=Tryz.f81.body.getD .skip
noncomputable def Zeu.rs (r:(List Int)×LL):List CV:=[.agg [zH .u8 32 r.1]]
noncomputable def Zeu (N:Nat) (h_0:Zaj) (st:LL):Option ((List Int)×LL):= Zbj (Zdv N h_0 st) fun (x1,x2,st3)=> if (x2 != 0)=true then some (zB 32 0,st3) else Zbj (ZdB N [[wZ x1]] st3) fun (x4,st5)=> some (x4,st5)
theorem Zeu.snd {h_0:Zaj} {st:LL} {r:(List Int)×LL} (h:Zeu N h_0 st=some r):Snd zC 81 [.agg h_0.ls] st (Zeu.rs r) r.2:=
 sO Zeu.B Tryz.func81 fun g0 w0 R hE=>by
  unfold Zeu at h;obtain ⟨⟨x1,x2,st3⟩,c1,h1⟩:=Zac h;let o1:List PS:=[rZ,.r [(1,{rs:=[.one (wZ x1),oI x2],st:=st3})],rZ]
  refine Zbe h1 (fun c2 h2=>?_) (fun c2 h3=>?_)
  ·exact xT fol h2 hE (o1++[cT,rZ]) (aI (Zdv.snd c1) c2)
  obtain ⟨⟨x4,st5⟩,c3,h4⟩:=Zac h3;exact xT fol h4 hE (o1++[cF,.r [(2,{rs:=[.agg [zH .u8 32 x4]],st:=st5,fz:=[14]})]]) (aL (Zdv.snd c1) c2 z0 (eN (1)) (ZdB.snd c3))
noncomputable def ZaY.B:Code:=Tryz.f112.body.getD .skip
noncomputable def ZaY.rs (r:LL):List CV:=[]
noncomputable def ZaY.p1 (N:Nat) (A1:LL) (c1_:((Option Nat)×Int×LL)→Option LL):((Option Nat)×Int×LL)→Option LL:=fun (A5,v1,st6)=> if (decide (v1<(len A1)))=true then chk (0≤v1)<| ZcX (A1[zE v1]?) ZdP fun x7=> Zbj A5 fun i8=> ZcX (st6[i8]?) Zjw fun x9=> chk (0≤(if (10:Int)<(len x9) then 10 else (len x9)))<| chk ((zE (if (10:Int)<(len x9) then 10 else (len x9)))≤(zK x9))<| chk (zK ([[zJ .i64 x7]]++(tP (zE (if (10:Int)<(len x9) then 10 else (len x9))) x9))*8≤140737488355328)<| c1_ ((some i8),w64 (v1+1),zM st6 i8 [yB true 1 ([[zJ .i64 x7]]++(tP (zE (if (10:Int)<(len x9) then 10 else (len x9))) x9))]) else some st6
noncomputable def ZaY (N:Nat) (A0:Option Nat) (A1 st:LL):Option LL:= if (wY A0)=true then some st else loopN (ZaY.p1 N A1) N (A0,0,st)
noncomputable def ZaY.p1.S (A5:Option Nat) (A1:LL) (v1:Int) (st6:LL):S:=mkS 32 [(0,sP A5),(8,sV 1 A1),(9,sI (len A1)),(10,sI v1)] [] st6
theorem ZaY.p1_ok {A5 A1 v1 st6 r c1_ J1} (h:ZaY.p1 N A1 c1_ (A5,v1,st6)=some r) (hE:En Tryz.f112 g0 w0 (ZaY.rs r) r R) (hc1 : ∀A5 v1 st6,c1_ (A5,v1,st6)=some r→At g0 w0 (ZaY.p1.S A5 A1 v1 st6) J1):At g0 w0 (ZaY.p1.S A5 A1 v1 st6) (XK zC R (cK ZaY.B [1,1,0,0] :: .h J1 :: [.b 0])):=by
 unfold ZaY.p1 at h;refine Zbe h (fun c10 h1=>?_) (fun c10 h2=>?_)
 ·obtain ⟨c11,h3⟩:=Zbd h1;obtain ⟨x7,c12,h4⟩:=Zdh h3;obtain ⟨i8,rfl,h5⟩:=Zac h4;obtain ⟨x9,c14,h6⟩:=Zgr h5;obtain ⟨c15,c16,c17,h7⟩:=ck3 h6;exact ZjD fol [rZ,cT,.r [(1,{oe:=[zJ .i64 x7]})],.d {ds:=[(6,{oc:=[yB true 1 x9]}),(10,{oc:=[yB true 1 x9]}),(13,{oc:=[yB true 1 x9]}),(14,{oc:=[yB true 1 x9],wm:=2}),(17,{oc:=[yB true 1 x9],mv:=[16]})],hv:=147460,Hs:=[4,16388,147460]},rZ] [0,8,9,10] [] (aO c10 c11 (oD c10) c12 c14 c14 c14 (aO c14 c15 (Nat.zero_le (zE (if (10:Int)<(len x9) then 10 else (len x9)))) c16 c14 c15 (Nat.zero_le (zE (if (10:Int)<(len x9) then 10 else (len x9)))) (aO c16 c14 z0 (eN (1)) z0 c16 c14 (aK c17 c14 z0 (eN (zK ([[zJ .i64 x7]]++(tP (zE (if (10:Int)<(len x9) then 10 else (len x9))) x9)))))))) (hc1 (some i8) (w64 (v1+1)) (zM st6 i8 [yB true 1 ([[zJ .i64 x7]]++(tP (zE (if (10:Int)<(len x9) then 10 else (len x9))) x9))]) h7)
 exact xR fol h2 hE [rZ,cF] c10
theorem ZaY.snd {A0:Option Nat} {A1:LL} {st:LL} {r:LL} (h:ZaY N A0 A1 st=some r):Snd zC 112 [.one (zQ A0),.one (vM 1 A1)] st (ZaY.rs r) r:=
 sO ZaY.B Tryz.func112 fun g0 w0 R hE=>by
  unfold ZaY at h;refine Zbe h (fun c1 h8=>?_) (fun c1 h9=>?_)
  ·exact xR fol h8 hE [rZ,cT] c1
  exact aq fol [rZ,cF,rZ] [0,8,9,10] [] c1 (At.loop N (At.loopN (fun y:(Option Nat)×Int×LL=>ZaY.p1.S y.1 A1 y.2.1 y.2.2) (fun c J hc y h=>ZaY.p1_ok (A5:=y.1) (v1:=y.2.1) (st6:=y.2.2) h hE (fun A5 v1 st6=>hc (A5,v1,st6))) N (A0,0,st) h9))
noncomputable def Zdu.B:Code:=Tryz.f113.body.getD .skip
noncomputable def Zdu.rs (r:LL×LL):List CV:=[.row true 1 r.1]
noncomputable def Zdu (N:Nat) (A0:Option Nat) (st:LL):Option (LL×LL):= if (wY A0)=true then some ([],st) else Zbj A0 fun i1=> ZcX (st[i1]?) Zjw fun x2=> Zbj (ZbK N x2) fun x3=> chk (Zex x3=true)<| some (x3,st)
theorem Zdu.snd {A0:Option Nat} {st:LL} {r:LL×LL} (h:Zdu N A0 st=some r):Snd zC 113 [.one (zQ A0)] st (Zdu.rs r) r.2:=
 sO Zdu.B Tryz.func113 fun g0 w0 R hE=>by
  unfold Zdu at h;refine Zbe h (fun c1 h1=>?_) (fun c1 h2=>?_)
  ·obtain rfl:=Zad h1;exact af fol hE [.r [(0,{m:=2})],rZ,cT,.r [(0,{m:=2})]] [] 0 [0] c1
  obtain ⟨i1,rfl,h3⟩:=Zac h2;obtain ⟨x2,c3,h4⟩:=Zgr h3;obtain ⟨x3,c4,h5⟩:=Zac h4;obtain ⟨c5,h6⟩:=Zbd h5;obtain rfl:=Zad h6;exact af fol hE [.r [(0,{m:=2})],rZ,cF,.r [(3,{oc:=[yB true 1 x2]}),(4,{oc:=[yB true 1 x2],rs:=[.row true 1 x3],ns:=[9],m:=2})]] [] 0 [0] (aO c1 c3 z0 (eN (zK x2)) c3 c5 (ZbK.snd c4) (aI z0 (eN (zK x3))))
noncomputable def Zdt.B:Code:=Tryz.f111.body.getD .skip
noncomputable def Zdt.rs (r:Bool):List CV:=[oB r]
noncomputable def Zdt (N:Nat) (A0:Zae) (A1:Int):Option Bool:= if (decide (A0.Interval>0))=true then chk (A0.Interval≠0)<| some ((Int.tmod A1 A0.Interval)==0) else some false
theorem Zdt.snd {A0:Zae} {A1:Int} {r:Bool} (h:Zdt N A0 A1=some r):ZdD zC 111 [.agg A0.ls,oI A1] (Zdt.rs r):=fun st=>
 sO Zdt.B Tryz.func111 fun g0 w0 R hE=>by
  unfold Zdt at h;refine Zbe h (fun c1 h1=>?_) (fun c1 h2=>?_)
  ·obtain ⟨c2,h3⟩:=Zbd h1;exact xS fol h3 hE [rZ,rZ] (aN c1 c1 c1 c1 c2 c1 c1)
  exact xS fol h2 hE [rZ,.r [(4,wF),(5,wF),(6,wF),(7,wF),(8,wF),(9,yF)]] (aM c1 c1 c1 c1 c1 c1)
noncomputable def Zcu.B:Code:=Tryz.f113.body.getD .skip
noncomputable def Zcu.rs (r:LL):List CV:=[.row true 1 r]
noncomputable def Zcu (N:Nat) (A0:LL):Option LL:= Zbj (ZbK N A0) fun x1=> some x1
theorem Zcu.snd {A0:LL} {r:LL} (h:Zcu N A0=some r):ZdD zC 113 [.one (L.bx 1 [vM 1 A0])] (Zcu.rs r):=fun st=>
 sO Zcu.B Tryz.func113 fun g0 w0 R hE=>by
  unfold Zcu at h;obtain ⟨x1,c1,h1⟩:=Zac h;obtain rfl:=Zad h1;exact af fol hE [.r [(0,{m:=2})],rZ,cF,.r [(3,{oe:=[vM 1 A0]}),(4,{rs:=[.row true 1 x1],ns:=[9],m:=1})]] [] 0 [0] (aL eF (eO [vM 1 A0]) (ZbK.snd c1) z0 (eN (zK x1)))
noncomputable def ZaR.B:Code:=Tryz.f83.body.getD .skip
noncomputable def ZaR.rs (r:ZaU×LL):List CV:=[.agg r.1.ls]
noncomputable def ZaR.p3 (N:Nat) (st2:LL) (at_1:ZaU) (h_2:Zaj) (A8:ZaU) (c3_:(Int×LL)→Option (ZaU×LL)):(Int×LL)→Option (ZaU×LL):=fun (A9,st15)=> if (decide (A9≥0))=true then chk (0≤A9)<| chk (A9<(len at_1.Times))<| ZcX (at_1.Times[zE A9]?) ZdP fun x16=> Zbj (ZaY N (some (zK st2)) [[zJ .i64 x16]] st15) fun st17=> c3_ (w64 (A9-1),st17) else Zbj (ZaY N (some (zK st2)) [[zJ .i64 h_2.Time]] st15) fun st18=> ZcX (st18[zK st2]?) Zjw fun x19=> Zbj (Zcu N x19) fun x20=> chk (Zex x20=true)<| some ({A8 with Times:=x20},st18)
noncomputable def ZaR.p2 (N:Nat) (at_1:ZaU) (h_2:Zaj) (A8:ZaU) (st2:LL):Option (ZaU×LL):= loopN (ZaR.p3 N st2 at_1 h_2 A8) N (w64 ((if (11:Int)<(len at_1.Times) then 11 else (len at_1.Times))-1),st2++[[yB true 1 []]])
noncomputable def ZaR.p1 (N:Nat) (A0:Zae) (at_1:ZaU) (h_2:Zaj) (A5:ZaU) (st2:LL):Option (ZaU×LL):= if A0.Easy=true then if (h_2.Bits==A0.Limit)=true then Zbj (Zdt N A0 at_1.Point.Height) fun x6=> if (!x6)=true then ZaR.p2 N at_1 h_2 {A5 with Point:={A5.Point with Hard:=at_1.Point.Hard}} st2 else ZaR.p2 N at_1 h_2 A5 st2 else ZaR.p2 N at_1 h_2 A5 st2 else ZaR.p2 N at_1 h_2 A5 st2
noncomputable def ZaR (N:Nat) (A0:Zae) (at_1:ZaU) (h_2:Zaj) (st:LL):Option (ZaU×LL):= Zbj (Zeu N h_2 st) fun (x1,st2)=> Zbj (Zdt N A0 at_1.Point.Height) fun x3=> if x3=true then ZaR.p1 N A0 at_1 h_2 (ZaU.mk (ZdJ.mk (w64 (at_1.Point.Height+1)) h_2.Bits h_2.Time h_2.Time h_2.Bits) x1 []) st2 else ZaR.p1 N A0 at_1 h_2 (ZaU.mk (ZdJ.mk (w64 (at_1.Point.Height+1)) h_2.Bits h_2.Time at_1.Point.First h_2.Bits) x1 []) st2
noncomputable def ZaR.p3.S (st2:LL) (A9:Int) (at_1:ZaU) (h_2:Zaj) (A8:ZaU) (st15:LL):S:=mkS 81 [(4,sA 4),(5,sA 5),(6,sA 6),(7,sA 7),(8,sP (some (zK st2))),(9,sI A9)] [(4,.cells at_1.ls),(5,.cells h_2.ls),(6,.cells [zJ .i64 0,zJ .i64 0,zJ .i64 0,zJ .i64 0,zJ .i64 0,zH .u8 32 (zB 32 0),yB true 1 []]),(7,.cells A8.ls)] st15
noncomputable def ZaR.p2.S (at_1:ZaU) (h_2:Zaj) (A8:ZaU) (st2:LL):S:=mkS 81 [(4,sA 4),(5,sA 5),(6,sA 6),(7,sA 7)] [(4,.cells at_1.ls),(5,.cells h_2.ls),(6,.cells [zJ .i64 0,zJ .i64 0,zJ .i64 0,zJ .i64 0,zJ .i64 0,zH .u8 32 (zB 32 0),yB true 1 []]),(7,.cells A8.ls)] st2
noncomputable def ZaR.p1.S (A0:Zae) (at_1:ZaU) (h_2:Zaj) (A5:ZaU) (st2:LL):S:=mkS 81 [(3,sA 3),(4,sA 4),(5,sA 5),(6,sA 6),(7,sA 7)] [(3,.cells A0.ls),(4,.cells at_1.ls),(5,.cells h_2.ls),(6,.cells [zJ .i64 0,zJ .i64 0,zJ .i64 0,zJ .i64 0,zJ .i64 0,zH .u8 32 (zB 32 0),yB true 1 []]),(7,.cells A5.ls)] st2
theorem ZaR.p3_ok {st2 A9 at_1 h_2 A8 st15 r c3_ J3} (h:ZaR.p3 N st2 at_1 h_2 A8 c3_ (A9,st15)=some r) (hE:En Tryz.f83 g0 w0 (ZaR.rs r) r.2 R) (hc3 : ∀A9 st15,c3_ (A9,st15)=some r→At g0 w0 (ZaR.p3.S st2 A9 at_1 h_2 A8 st15) J3):At g0 w0 (ZaR.p3.S st2 A9 at_1 h_2 A8 st15) (XK zC R (cK ZaR.B [1,1,1,1,1,0,1,0,0] :: .h J3 :: [.b 0,cK ZaR.B [1,1,1,1,1,1]])):=by
 unfold ZaR.p3 at h;refine Zbe h (fun c17 h1=>?_) (fun c17 h2=>?_)
 ·obtain ⟨c18,c19,h3⟩:=ck2 h1;obtain ⟨x16,c20,h4⟩:=Zdh h3;obtain ⟨st17,c21,h5⟩:=Zac h4;exact an fol [rZ,cT,.r [(4,{oe:=[zJ .i64 x16]}),(6,{st:=st17,fz:=[72]})],rZ] [4,5,6,7,8,9] [4,5,6,7] (aN c17 c18 c19 c20 z0 (eN (1)) (ZaY.snd c21)) (hc3 (w64 (A9-1)) st17 h5)
 obtain ⟨st18,c22,h6⟩:=Zac h2;obtain ⟨x19,c23,h7⟩:=Zgr h6;obtain ⟨x20,c24,h8⟩:=Zac h7;obtain ⟨c25,h9⟩:=Zbd h8;exact xT fol h9 hE [rZ,cF,.r [(3,{st:=st18,fz:=[76]})],.r [(0,{rs:=[.row true 1 x20],ns:=[78],m:=10,cv:=[.one (L.bx 1 [vM 1 x19])]}),(2,{fz:=[78]})],rZ] (aO c17 z0 (eN (1)) (ZaY.snd c22) (bO 1 c23 ((bW bN):BVs st18 [yB true 1 x19] [vM 1 x19])) c25 (Zcu.snd c24) (aI z0 (eN (zK x20))))
theorem ZaR.p2_ok {at_1 h_2 A8 st2 r} (h:ZaR.p2 N at_1 h_2 A8 st2=some r) (hE:En Tryz.f83 g0 w0 (ZaR.rs r) r.2 R):At g0 w0 (ZaR.p2.S at_1 h_2 A8 st2) (XK zC R [cK ZaR.B [1,1,1,1]]):=by
 unfold ZaR.p2 at h;exact aq fol [.r [(0,{m:=1})],rZ] [4,5,6,7,8,9] [4,5,6,7] trivial (At.loop N (At.loopN (fun y:Int×LL=>ZaR.p3.S st2 y.1 at_1 h_2 A8 y.2) (fun c J hc y h=>ZaR.p3_ok (A9:=y.1) (st15:=y.2) h hE (fun A9 st15=>hc (A9,st15))) N (w64 ((if (11:Int)<(len at_1.Times) then 11 else (len at_1.Times))-1),st2++[[yB true 1 []]]) h))
theorem ZaR.p1_ok {A0 at_1 h_2 A5 st2 r} (h:ZaR.p1 N A0 at_1 h_2 A5 st2=some r) (hE:En Tryz.f83 g0 w0 (ZaR.rs r) r.2 R):At g0 w0 (ZaR.p1.S A0 at_1 h_2 A5 st2) (XK zC R [cK ZaR.B [1,1,1]]):=by
 unfold ZaR.p1 at h;refine Zbe h (fun c4 h10=>?_) (fun c4 h11=>?_)
 ·have t1 {Q:Prop} (q:Q):=aN c4 c4 c4 c4 c4 c4 q;refine Zbe h10 (fun c5 h12=>?_) (fun c5 h13=>?_)
  ·obtain ⟨x6,c6,h14⟩:=Zac h12;let o1:List PS:=[.r [(14,q1 [oB x6])]]
   have t2 {Q:Prop} (q:Q):=t1 (aO c5 c5 c5 c5 c5 (Zdt.snd c6) c5 (aI c5 q));refine Zbe h14 (fun c7 h15=>?_) (fun c7 h16=>?_)
   ·exact aq fol (o1++[cT,rZ,.s 1]) [4,5,6,7] [4,5,6,7] (t2 c7) (ZaR.p2_ok h15 hE)
   exact aq fol (o1++[cF,.s 1]) [4,5,6,7] [4,5,6,7] (t2 c7) (ZaR.p2_ok h16 hE)
  exact aq fol [.r [(10,wF),(11,wF),(12,wF),(13,wF),(14,wF),(15,wF),(16,yF)],cF,.s 1] [4,5,6,7] [4,5,6,7] (t1 (aO c5 c5 c5 c5 c5 c5 c5 eF)) (ZaR.p2_ok h13 hE)
 exact aq fol [.r [(3,wF),(4,wF),(5,wF),(6,wF),(7,wF),(8,yF),(10,wF),(11,wF),(12,wF),(13,wF),(14,wF),(15,wF),(16,yF)],cF,.s 1] [4,5,6,7] [4,5,6,7] (aO c4 c4 c4 c4 c4 c4 eF (aN eF eF eF eF eF eF eF)) (ZaR.p2_ok h11 hE)
theorem ZaR.snd {A0:Zae} {at_1:ZaU} {h_2:Zaj} {st:LL} {r:ZaU×LL} (h:ZaR N A0 at_1 h_2 st=some r):Snd zC 83 [.agg A0.ls,.agg at_1.ls,.agg h_2.ls] st (ZaR.rs r) r.2:=
 sO ZaR.B Tryz.func83 fun g0 w0 R hE=>by
  unfold ZaR at h;obtain ⟨⟨x1,st2⟩,c1,h17⟩:=Zac h;obtain ⟨x3,c2,h18⟩:=Zac h17;let o2:List PS:=[rZ,.d {ds:=[(15,{rs:=[.agg [zH .u8 32 x1]],st:=st2})],hv:=425984,Hs:=[32768,131072,163840,425984]},.r [(4,q1 [oB x3])]]
  have t3 {Q:Prop} (q:Q):=aK (Zeu.snd c1) (Zeu.snd c1) (Zdt.snd c2) q;refine Zbe h18 (fun c3 h19=>?_) (fun c3 h20=>?_)
  ·exact aqd fol (o2++[cT,rZ,.s 1]) [3,4,5,6,7] [3,4,5,6,7] (t3 c3) (ZaR.p1_ok h19 hE)
  exact aqd fol (o2++[cF,.s 1]) [3,4,5,6,7] [3,4,5,6,7] (t3 c3) (ZaR.p1_ok h20 hE)
noncomputable def ZeR.B:Code:=Tryz.f74.body.getD .skip
noncomputable def ZeR.rs (r:ZaU×LL):List CV:=[.agg r.1.ls]
noncomputable def ZeR (N:Nat) (A0:Zae) (st:LL):Option (ZaU×LL):= Zbj (ZaR N A0 (ZaU.mk (ZdJ.mk 0 0 0 0 A0.Limit) (zB 32 0) []) A0.Genesis st) fun (x1,st2)=> some (x1,st2)
theorem ZeR.snd {A0:Zae} {st:LL} {r:ZaU×LL} (h:ZeR N A0 st=some r):Snd zC 74 [.agg A0.ls] st (ZeR.rs r) r.2:=
 sO ZeR.B Tryz.func74 fun g0 w0 R hE=>by
  unfold ZeR at h;obtain ⟨⟨x1,st2⟩,c1,h1⟩:=Zac h;exact xT fol h1 hE [rZ,.r [(7,{rs:=[.agg x1.ls],st:=st2})]] (ZaR.snd c1)
end Go.Dn.F
