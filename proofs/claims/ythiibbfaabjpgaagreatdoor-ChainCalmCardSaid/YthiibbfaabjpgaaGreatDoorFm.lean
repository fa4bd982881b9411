import Derived.Test.YthiibbfaabjpgaaGreatDoorFa
import Derived.Test.YthiibbfaabjpgaaGreatDoorFaP
import Derived.Test.YthiibbfaabjpgaaGreatDoorIns
set_option linter.all false
open Go.Dn.L renaming int->zK,bool->wD,arr->zL,own->yI,ptr->zN
open Go.Proofs.Tryz renaming prog->zC
open List renaming replicate->zB
open Option renaming isNone->xX
noncomputable section
set_option maxRecDepth 100000
namespace Go.Dn.F
open Go.Proofs
variable {N:Nat} {g0:G} {w0:World} {R:Exit->Act->World->Prop}
structure ZaG where
  rules:Zae
  list:LL
  spots:LL
  places:LM
  room:Int
def ZaG.ls (x:ZaG):List L:=[zK .i64 x.rules.Limit,zK .i64 x.rules.Interval,zK .i64 x.rules.Spacing,zK .i64 x.rules.Future,wD x.rules.Easy,L.sl 2 x.rules.Gates,L.sl 33 x.rules.Checks,zL .u64 4 x.rules.MinWork,zL .u64 4 x.rules.Margin,zK .i64 x.rules.Genesis.Version,zL .u8 32 x.rules.Genesis.Prev,zL .u8 32 x.rules.Genesis.Root,zK .i64 x.rules.Genesis.Time,zK .i64 x.rules.Genesis.Bits,zK .i64 x.rules.Genesis.Nonce,L.sl 106 x.list,L.sl 38 x.spots,L.mz x.places,zK .i64 x.room]
structure Zat where
  store:ZaG
  leaps:LL
def Zat.ls (x:Zat):List L:=[L.bx 87 x.store.ls,L.sl 1 x.leaps]
structure ZjE where
  tree:Zat
  list:LL
def ZjE.ls (x:ZjE):List L:=[L.bx 2 x.tree.ls,L.sl 3 x.list]
def ZaG.lo (x:ZaG):List L:=[zK .i64 x.rules.Limit,zK .i64 x.rules.Interval,zK .i64 x.rules.Spacing,zK .i64 x.rules.Future,wD x.rules.Easy,L.sl 2 x.rules.Gates,L.sl 33 x.rules.Checks,zL .u64 4 x.rules.MinWork,zL .u64 4 x.rules.Margin,zK .i64 x.rules.Genesis.Version,zL .u8 32 x.rules.Genesis.Prev,zL .u8 32 x.rules.Genesis.Root,zK .i64 x.rules.Genesis.Time,zK .i64 x.rules.Genesis.Bits,zK .i64 x.rules.Genesis.Nonce,yI true 106 x.list,yI true 38 x.spots,L.mp x.places,zK .i64 x.room]
def Zbt {α:Type} (l:List L) (k:ZaG->Option α):Option α:=match l with | [zK .i64 x0,zK .i64 x1,zK .i64 x2,zK .i64 x3,wD x4,L.sl 2 x5,L.sl 33 x6,zL .u64 4 x7,zL .u64 4 x8,zK .i64 x9,zL .u8 32 x10,zL .u8 32 x11,zK .i64 x12,zK .i64 x13,zK .i64 x14,yI true 106 x15,yI true 38 x16,L.mp x17,zK .i64 x18]=>k ⟨⟨x0,x1,x2,x3,x4,x5,x6,x7,x8,⟨x9,x10,x11,x12,x13,x14⟩⟩,x15,x16,x17,x18⟩ | _=>none
def Zbi {α:Type} {o:Option (List L)} {k:ZaG->Option α} {r:α} (h:ZcO o Zbt k=some r) : ∃x:ZaG,o=some x.lo/\k x=some r:=by
  obtain ⟨l,e,k1⟩:=Zab h;subst e;unfold Zbt at k1;split at k1
  · exact ⟨_,rfl,k1⟩
  cases k1
@[simp] def Zbv {α:Type} (x:ZaG) (k:ZaG->Option α):Zbt x.lo k=k x:=rfl
def ZaG.bv {st:LL} (x:ZaG):BVs st x.lo x.ls:=(bP (bP (bP (bP (bP (bS (bS (bP (bP (bP (bP (bP (bP (bP (bP (bW (bW (bM (bP bN)))))))))))))))))))
structure Zcr where
  Header:Zal
  Id:List Int
  Ahead:Int
  Height:Int
  Work:List Int
def Zcr.ls (x:Zcr):List L:=[zK .i64 x.Header.Version,zL .u8 32 x.Header.Prev,zL .u8 32 x.Header.Root,zK .i64 x.Header.Time,zK .i64 x.Header.Bits,zK .i64 x.Header.Nonce,zL .u8 32 x.Id,zK .i64 x.Ahead,zK .i64 x.Height,zL .u64 4 x.Work]
def ZeN {α:Type} (l:List L) (k:Zcr->Option α):Option α:=match l with | [zK .i64 x0,zL .u8 32 x1,zL .u8 32 x2,zK .i64 x3,zK .i64 x4,zK .i64 x5,zL .u8 32 x6,zK .i64 x7,zK .i64 x8,zL .u64 4 x9]=>k ⟨⟨x0,x1,x2,x3,x4,x5⟩,x6,x7,x8,x9⟩ | _=>none
def Zfm {α:Type} {o:Option (List L)} {k:Zcr->Option α} {r:α} (h:ZcO o ZeN k=some r) : ∃x:Zcr,o=some x.ls/\k x=some r:=by
  obtain ⟨l,e,k1⟩:=Zab h;subst e;unfold ZeN at k1;split at k1
  · exact ⟨_,rfl,k1⟩
  cases k1
@[simp] def ZfC {α:Type} (x:Zcr) (k:Zcr->Option α):ZeN x.ls k=k x:=rfl
def Zcr.bv {st:LL} (x:Zcr):BVs st x.ls x.ls:=(bP (bP (bP (bP (bP (bP (bP (bP (bP (bP bN))))))))))
structure ZcB where
  verdict:Int
  out:Bool
  child:Bool
def ZcB.ls (x:ZcB):List L:=[zK .i64 x.verdict,wD x.out,wD x.child]
def Zfv {α:Type} (l:List L) (k:ZcB->Option α):Option α:=match l with | [zK .i64 x0,wD x1,wD x2]=>k ⟨x0,x1,x2⟩ | _=>none
def Zgo {α:Type} {o:Option (List L)} {k:ZcB->Option α} {r:α} (h:ZcO o Zfv k=some r) : ∃x:ZcB,o=some x.ls/\k x=some r:=by
  obtain ⟨l,e,k1⟩:=Zab h;subst e;unfold Zfv at k1;split at k1
  · exact ⟨_,rfl,k1⟩
  cases k1
@[simp] def ZgC {α:Type} (x:ZcB) (k:ZcB->Option α):Zfv x.ls k=k x:=rfl
def ZcB.bv {st:LL} (x:ZcB):BVs st x.ls x.ls:=(bP (bP (bP bN)))
def ZbO {α:Type} (l:List L) (k:(Option Nat)->LL->Option α):Option α:=match l with | [zN x0,yI true 1 x1]=>k x0 x1 | _=>none
def Zbs {α:Type} {o:Option (List L)} {k:(Option Nat)->LL->Option α} {r:α} (h:ZcO o ZbO k=some r) : ∃x0 x1,o=some [zN x0,yI true 1 x1]/\k x0 x1=some r:=by
  obtain ⟨l,e,k1⟩:=Zab h;subst e;unfold ZbO at k1;split at k1
  · exact ⟨_,_,rfl,k1⟩
  cases k1
@[simp] def ZcA {α:Type} (x0:Option Nat) (x1:LL) (k:(Option Nat)->LL->Option α):ZbO [zN x0,yI true 1 x1] k=k x0 x1:=rfl
def Zdu {α:Type} (l:List L) (k:(Option Nat)->LL->Option α):Option α:=match l with | [zN x0,yI true 3 x1]=>k x0 x1 | _=>none
def Zdx {α:Type} {o:Option (List L)} {k:(Option Nat)->LL->Option α} {r:α} (h:ZcO o Zdu k=some r) : ∃x0 x1,o=some [zN x0,yI true 3 x1]/\k x0 x1=some r:=by
  obtain ⟨l,e,k1⟩:=Zab h;subst e;unfold Zdu at k1;split at k1
  · exact ⟨_,_,rfl,k1⟩
  cases k1
@[simp] def ZsI {α:Type} (x0:Option Nat) (x1:LL) (k:(Option Nat)->LL->Option α):Zdu [zN x0,yI true 3 x1] k=k x0 x1:=rfl
def Zdm.B:Code:=Tryz.f99.body.getD .skip
def Zdm.rs (r:Int):List CV:=[oI r]
def Zdm (N:Nat) (A0:ZaG):Option Int:= some (len A0.list)
def Zdm.s {A0:ZaG} {r:Int} (h:Zdm N A0=some r):ZdW zC 99 [.one (L.bx 87 A0.ls)] (Zdm.rs r):=fun st=>
 sO Zdm.B Tryz.func99 fun g0 w0 R hE=>by
  unfold Zdm at h;exact xS h hE [rZ,rZ,cF,.r [(3,{oe:=A0.ls})]] (aI eF (eO A0.ls))
def Zdc.B:Code:=Tryz.f66.body.getD .skip
def Zdc.rs (r:Int×LL):List CV:=[oI r.1]
def Zdc (N:Nat) (A0:Option Nat) (st:LL):Option (Int×LL):= if (xX A0)=true then some (0,st) else Zbb A0 fun i1=> ZcO (st[i1]?) ZbO fun x2 x3=> Zbb x2 fun i4=> ZcO (st[i4]?) Zbt fun x5=> Zbb (Zdm N x5) fun x6=> some (x6,st)
def Zdc.s {A0:Option Nat} {st:LL} {r:Int×LL} (h:Zdc N A0 st=some r):Snd zC 66 [.one (zN A0)] st (Zdc.rs r) r.2:=
 sO Zdc.B Tryz.func66 fun g0 w0 R hE=>by
  unfold Zdc at h;refine Zbd h (fun c1 h=>xT h hE [rZ,rZ,cT,rZ] c1) fun c1 h=>?_;obtain ⟨i1,rfl,h⟩:=Zab h;obtain ⟨x2,x3,c3,h⟩:=Zbs h;obtain ⟨i4,rfl,h⟩:=Zab h;obtain ⟨x5,c5,h⟩:=Zbi h;obtain ⟨x6,c6,h⟩:=Zab h;exact xT h hE [rZ,rZ,cF,.r [(3,{oc:=[zN (some i4),yI true 1 x3]}),(4,{rs:=[oI x6],m:=10,cv:=[.one (L.bx 87 x5.ls)]})]] (aK c1 c3 (bO 87 c5 (ZaG.bv x5)) (Zdm.s c6))
def ZbT.B:Code:=Tryz.f64.body.getD .skip
def ZbT.rs (r:Bool):List CV:=[oB r]
def ZbT (N:Nat) (A0:ZaG) (at_1:Int):Option Bool:= if (decide (at_1>=0))=true then some (decide (at_1<(len A0.list))) else some false
def ZbT.s {A0:ZaG} {at_1:Int} {r:Bool} (h:ZbT N A0 at_1=some r):ZdW zC 64 [.one (L.bx 87 A0.ls),oI at_1] (ZbT.rs r):=fun st=>
 sO ZbT.B Tryz.func64 fun g0 w0 R hE=>by
  unfold ZbT at h;exact Zbd h (fun c1 h=>xS h hE [rZ,.r [(11,{oe:=A0.ls})]] (aO eT eT eT c1 c1 c1 c1 (aL c1 (eO A0.ls) c1 c1 c1))) fun c1 h=>xS h hE [rZ,.r [(7,wF),(8,wF),(9,wF),(10,wF),(11,wF),(12,wF),(13,wF),(14,yF)]] (aO eT eT eT c1 c1 c1 c1 (aK c1 c1 c1 c1))
def Zco.B:Code:=Tryz.f83.body.getD .skip
def Zco.rs (r:Zcr×Bool):List CV:=[.agg r.1.ls,oB r.2]
def Zco (N:Nat) (A0:ZaG) (at_1:Int):Option (Zcr×Bool):= Zbb (ZbT N A0 at_1) fun x1=> if (!x1)=true then some (Zcr.mk (Zal.mk 0 (zB 32 0) (zB 32 0) 0 0 0) (zB 32 0) (-1) 0 (zB 4 0),false) else chk (0<=at_1)<| chk (at_1<(len A0.list))<| ZcO (A0.list[Int.toNat at_1]?) ZeN fun x2=> some (x2,true)
def Zco.s {A0:ZaG} {at_1:Int} {r:Zcr×Bool} (h:Zco N A0 at_1=some r):ZdW zC 83 [.one (L.bx 87 A0.ls),oI at_1] (Zco.rs r):=fun st=>
 sO Zco.B Tryz.func83 fun g0 w0 R hE=>by
  unfold Zco at h;obtain ⟨x1,c1,h⟩:=Zab h;let o1:List PS:=[rZ,.r [(2,q0 [oB x1])]]
  refine Zbd h (fun c2 h=>xS h hE (o1++[cT,rZ]) (aI (ZbT.s c1) c2)) fun c2 h=>?_;obtain ⟨c3,c4,h⟩:=ck2 h;obtain ⟨x2,c5,h⟩:=Zfm h;exact xS h hE (o1++[cF,.r [(3,{oe:=A0.ls}),(6,{oe:=x2.ls})]]) (aM (ZbT.s c1) c2 (eO A0.ls) c3 c4 c5)
def ZbU.B:Code:=Tryz.f94.body.getD .skip
def ZbU.rs (r:Zcr×Bool):List CV:=[.agg r.1.ls,oB r.2]
def ZbU (N:Nat) (A0:Zat) (at_1:Int):Option (Zcr×Bool):= Zbb (Zco N A0.store at_1) fun (x1,x2)=> some (x1,x2)
def ZbU.s {A0:Zat} {at_1:Int} {r:Zcr×Bool} (h:ZbU N A0 at_1=some r):ZdW zC 94 [.one (L.bx 2 A0.ls),oI at_1] (ZbU.rs r):=fun st=>
 sO ZbU.B Tryz.func94 fun g0 w0 R hE=>by
  unfold ZbU at h;obtain ⟨⟨x1,x2⟩,c1,h⟩:=Zab h;exact xS h hE [rZ,rZ,cF,.r [(3,{oe:=A0.ls}),(5,q0 [.agg x1.ls,oB x2])]] (aJ eF (eO A0.ls) (Zco.s c1))
def ZcS.B:Code:=Tryz.f98.body.getD .skip
def ZcS.rs (r:Bool):List CV:=[oB r]
def ZcS (N:Nat) (A0:ZcB):Option Bool:= if A0.out=true then some true else some (A0.verdict==2)
def ZcS.s {A0:ZcB} {r:Bool} (h:ZcS N A0=some r):ZdW zC 98 [.agg A0.ls] (ZcS.rs r):=fun st=>
 sO ZcS.B Tryz.func98 fun g0 w0 R hE=>by
  unfold ZcS at h;exact Zbd h (fun c1 h=>xS h hE [rZ,.r [(3,wF),(4,wF),(5,wF)]] (aK c1 c1 c1 c1)) fun c1 h=>xS h hE [rZ,.r [(6,yF)]] (aK c1 c1 c1 c1)
def ZaL.B:Code:=Tryz.f128.body.getD .skip
def ZaL.rs (r:LL):List CV:=[]
def ZaL.p2 (N:Nat) (c1_:(Int×LL)->Option LL) (i1:Nat) (A4:Int) (A41:ZcB) (st28:LL):Option LL:= ZcO (st28[i1]?) Zdu fun x42 x43=> chk (List.length (x43++[A41.ls])*16<=140737488355328)<| c1_ (w64 (A4+1),List.set (List.set st28 i1 [zN x42,L.gone]) i1 [zN x42,yI true 3 (x43++[A41.ls])])
def ZaL.p1 (N:Nat) (i1:Nat) (c1_:(Int×LL)->Option LL):(Int×LL)->Option LL:=fun (A4,st24)=> ZcO (st24[i1]?) Zdu fun x25 x26=> Zbb (Zdc N x25 st24) fun (x27,st28)=> if (decide (A4<x27))=true then ZcO (st28[i1]?) Zdu fun x29 x30=> Zbb x29 fun i31=> ZcO (st28[i31]?) ZbO fun x32 x33=> Zbb x32 fun i34=> ZcO (st28[i34]?) Zbt fun x35=> Zbb (ZbU N (Zat.mk x35 x33) A4) fun (x36,x37)=> if (x36.Ahead != (-1))=true then chk (0<=x36.Ahead)<| chk (x36.Ahead<(len x30))<| ZcO (x30[0+(Int.toNat x36.Ahead)]?) Zfv fun x38=> if x38.child=true then ZaL.p2 N c1_ i1 A4 (ZcB.mk 0 false true) st28 else Zbb (ZcS N x38) fun x39=> ZaL.p2 N c1_ i1 A4 (ZcB.mk 0 false x39) st28 else ZaL.p2 N c1_ i1 A4 (ZcB.mk 1 false false) st28 else some st28
def ZaL (N:Nat) (m_0:Option Nat) (st:LL):Option LL:= Zbb m_0 fun i1=> ZcO (st[i1]?) Zdu fun x2 x3=> loopN (ZaL.p1 N i1) N ((len x3),st)
def ZaL.S2 (i1:Nat) (A4:Int) (A41:ZcB) (st28:LL):S:=mkS 60 [(0,sP (some i1)),(2,sI A4),(3,sA 3)] [(3,.cells A41.ls)] st28
def ZaL.S1 (i1:Nat) (A4:Int) (st24:LL):S:=mkS 60 [(0,sP (some i1)),(2,sI A4)] [] st24
def ZaL.k2 {i1 A4 A41 st28 r c1_ J1} (h:ZaL.p2 N c1_ i1 A4 A41 st28=some r) (hE:En Tryz.f128 g0 w0 (ZaL.rs r) r R) (hc1 : ∀A4 st24,c1_ (A4,st24)=some r->At g0 w0 (ZaL.S1 i1 A4 st24) J1):At g0 w0 (ZaL.S2 i1 A4 A41 st28) (XK zC R [cK ZaL.B [1,0,0,1,0,0,1,1],.b 1,cK ZaL.B [1,0,0,1,1],.h J1,.b 0]):=by
 unfold ZaL.p2 at h;obtain ⟨x42,x43,c35,h⟩:=Zdx h;obtain ⟨c36,h⟩:=Zba h;exact Zlu fol [.d {ds:=[(4,{oc:=[zN x42,yI true 3 x43]}),(7,{oe:=[zN x42,yI true 3 x43]}),(10,{oc:=[zN x42,L.gone],mv:=[57]})],hv:=1216,Hs:=[64,192,1216]},rZ] [0,2] [] (aO c35 c35 z0 (eN (List.length x43)) c35 z0 (eN (1)) (aK c36 (Zaq c35 [zN x42,L.gone]) z0 (eN (List.length (x43++[A41.ls]))))) (hc1 (w64 (A4+1)) (List.set (List.set st28 i1 [zN x42,L.gone]) i1 [zN x42,yI true 3 (x43++[A41.ls])]) h)
def ZaL.k1 {i1 A4 st24 r c1_ J1} (h:ZaL.p1 N i1 c1_ (A4,st24)=some r) (hE:En Tryz.f128 g0 w0 (ZaL.rs r) r R) (hc1 : ∀A4 st24,c1_ (A4,st24)=some r->At g0 w0 (ZaL.S1 i1 A4 st24) J1):At g0 w0 (ZaL.S1 i1 A4 st24) (XK zC R (cK ZaL.B [1,0,0] :: .h J1 :: [.b 0])):=by
 unfold ZaL.p1 at h;obtain ⟨x25,x26,c20,h⟩:=Zdx h;obtain ⟨⟨x27,st28⟩,c21,h⟩:=Zab h;let o1:List PS:=[.r [(4,{oc:=[zN x25,yI true 3 x26]}),(5,{rs:=[oI x27],st:=st28})]]
 have t1 {Q:Prop} (q:Q):=aJ c20 (Zdc.s c21) q;refine Zbd h (fun c22 h=>?_) (fun c22 h=>?_)
 ·obtain ⟨x29,x30,c23,h⟩:=Zdx h;obtain ⟨i31,rfl,h⟩:=Zab h;obtain ⟨x32,x33,c25,h⟩:=Zbs h;obtain ⟨i34,rfl,h⟩:=Zab h;obtain ⟨x35,c27,h⟩:=Zbi h;obtain ⟨⟨x36,x37⟩,c28,h⟩:=Zab h;let o2:List PS:=o1++[cT,rZ,.r [(3,{oc:=[zN (some i31),yI true 3 x30]}),(5,{rs:=[.agg x36.ls,oB x37],m:=10,cv:=[.one (L.bx 2 (Zat.ls (Zat.mk x35 x33)))]})],rZ]
  have t2 {Q:Prop} (q:Q):=t1 (aL c22 c23 (bO 2 c25 ((bC 87 c27 (ZaG.bv x35) (bW bN)):BVs st28 [zN (some i34),yI true 1 x33] (Zat.ls (Zat.mk x35 x33)))) (ZbU.s c28) q);refine Zbd h (fun c29 h=>?_) (fun c29 h=>?_)
  ·obtain ⟨c30,c31,h⟩:=ck2 h;obtain ⟨x38,c32,h⟩:=Zgo h;let o3:List PS:=o2++[cT,.d {ds:=[(3,{oc:=[zN (some i31),yI true 3 x30]}),(7,{oc:=[zN (some i31),yI true 3 x30],oe:=x38.ls})],hv:=768,Hs:=[256,768]}]
   have t3 {Q:Prop} (q:Q):=t2 (aO c29 c23 c23 c30 c31 c30 c31 (aL c32 c23 c32 c23 q));refine Zbd h (fun c33 h=>aqd (o3++[.r [(3,wF),(4,wF)],.s 5]) (t3 (aJ c33 c33 c33)) (ZaL.k2 h hE hc1)) fun c33 h=>?_;obtain ⟨x39,c34,h⟩:=Zab h;exact aqd (o3++[.r [(4,q1 [oB x39]),(5,yF)],.s 5]) (t3 (aK c33 c33 (ZcS.s c34) c33)) (ZaL.k2 h hE hc1)
  exact aq (o2++[cF,rZ,.s 5]) (t2 c29) (ZaL.k2 h hE hc1)
 exact xR h hE (o1++[cF]) (t1 c22)
def ZaL.s {m_0:Option Nat} {st:LL} {r:LL} (h:ZaL N m_0 st=some r):Snd zC 128 [.one (zN m_0)] st (ZaL.rs r) r:=
 sO ZaL.B Tryz.func128 fun g0 w0 R hE=>by
  unfold ZaL at h;obtain ⟨i1,rfl,h⟩:=Zab h;obtain ⟨x2,x3,c2,h⟩:=Zdx h;exact aq [.r [(3,{oc:=[zN x2,yI true 3 x3]})]] c2 (At.loop N (At.loopN (fun y:Int×LL=>ZaL.S1 i1 y.1 y.2) (fun c J hc y h=>ZaL.k1 (A4:=y.1) (st24:=y.2) h hE (fun A4 st24=>hc (A4,st24))) N ((len x3),st) h))
def Zdd.B:Code:=Tryz.f97.body.getD .skip
def Zdd.rs (r:Bool×LL):List CV:=[oB r.1]
def Zdd (N:Nat) (m_0:Option Nat) (at_1:Int) (st:LL):Option (Bool×LL):= if (xX m_0)=true then some (false,st) else Zbb (ZaL N m_0 st) fun st1=> if (decide (at_1>=0))=true then Zbb m_0 fun i2=> ZcO (st1[i2]?) Zdu fun x3 x4=> some (decide (at_1<(len x4)),st1) else some (false,st1)
def Zdd.s {m_0:Option Nat} {at_1:Int} {st:LL} {r:Bool×LL} (h:Zdd N m_0 at_1 st=some r):Snd zC 97 [.one (zN m_0),oI at_1] st (Zdd.rs r) r.2:=
 sO Zdd.B Tryz.func97 fun g0 w0 R hE=>by
  unfold Zdd at h;refine Zbd h (fun c1 h=>xT h hE [rZ,rZ,cT,rZ] c1) fun c1 h=>?_;obtain ⟨st1,c2,h⟩:=Zab h;let o1:List PS:=[rZ,rZ,cF,.r [(1,{st:=st1})]]
  refine Zbd h (fun c3 h=>?_) (fun c3 h=>?_)
  ·obtain ⟨i2,rfl,h⟩:=Zab h;obtain ⟨x3,x4,c5,h⟩:=Zdx h;exact xT h hE (o1++[.r [(7,{oc:=[zN x3,yI true 3 x4]})]]) (aO c1 (ZaL.s c2) c3 c3 c3 c3 c3 (aK c5 c3 c3 c3))
  exact xT h hE (o1++[.r [(3,wF),(4,wF),(5,wF),(6,wF),(7,wF),(8,wF),(9,wF),(10,yF)]]) (aO c1 (ZaL.s c2) c3 c3 c3 c3 c3 (aJ c3 c3 c3))
def ZcT.B:Code:=Tryz.f63.body.getD .skip
def ZcT.rs (r:Bool×LL):List CV:=[oB r.1]
def ZcT (N:Nat) (m_0:Option Nat) (at_1:Int) (st:LL):Option (Bool×LL):= Zbb (Zdd N m_0 at_1 st) fun (x1,st2)=> if x1=true then Zbb m_0 fun i3=> ZcO (st2[i3]?) Zdu fun x4 x5=> chk (0<=at_1)<| chk (at_1<(len x5))<| ZcO (x5[0+(Int.toNat at_1)]?) Zfv fun x6=> if x6.child=true then some (true,st2) else Zbb (ZcS N x6) fun x7=> some (x7,st2) else some (false,st2)
def ZcT.s {m_0:Option Nat} {at_1:Int} {st:LL} {r:Bool×LL} (h:ZcT N m_0 at_1 st=some r):Snd zC 63 [.one (zN m_0),oI at_1] st (ZcT.rs r) r.2:=
 sO ZcT.B Tryz.func63 fun g0 w0 R hE=>by
  unfold ZcT at h;obtain ⟨⟨x1,st2⟩,c1,h⟩:=Zab h;have t1 {Q:Prop} (q:Q):=aI (Zdd.s c1) q;refine Zbd h (fun c2 h=>?_) (fun c2 h=>?_)
  ·obtain ⟨i3,rfl,h⟩:=Zab h;obtain ⟨x4,x5,c4,h⟩:=Zdx h;obtain ⟨c5,c6,h⟩:=ck2 h;obtain ⟨x6,c7,h⟩:=Zgo h;have t2 {Q:Prop} (q:Q):=t1 (aO c2 c2 c2 c2 c4 c2 c2 (aO c5 c6 c2 c2 c7 c4 c2 q));refine Zbd h (fun c8 h=>xT h hE [rZ,.r [(2,{rs:=[oB x1],st:=st2}),(7,{oc:=[zN x4,yI true 3 x5]}),(11,{oc:=[zN x4,yI true 3 x5],oe:=x6.ls}),(13,wF),(14,wF),(15,wF),(16,wF),(17,wF),(18,wF),(19,wF),(20,wF)]] (t2 (aO c8 c8 c8 c8 c8 c8 c8 (aK c8 c2 c8 c2)))) fun c8 h=>?_;obtain ⟨x7,c9,h⟩:=Zab h;exact xT h hE [rZ,.r [(2,{rs:=[oB x1],st:=st2}),(7,{oc:=[zN x4,yI true 3 x5]}),(11,{oc:=[zN x4,yI true 3 x5],oe:=x6.ls}),(16,{oc:=[zN x4,yI true 3 x5]}),(19,{oc:=[zN x4,yI true 3 x5],oe:=x6.ls}),(20,q1 [oB x7]),(21,yF)]] (t2 (aO c8 c8 c8 c8 c4 c8 c8 (aO c5 c6 c8 c7 c4 c8 (ZcS.s c9) (aJ c2 c8 c2))))
  exact xT h hE [rZ,.r [(2,{rs:=[oB x1],st:=st2}),(4,wF),(5,wF),(6,wF),(7,wF),(8,wF),(9,wF),(10,wF),(11,wF),(12,wF),(21,wF),(22,yF)]] (t1 (aO c2 c2 c2 c2 c2 c2 c2 (aK c2 c2 c2 c2)))
def ZeB.B:Code:=Tryz.f94.body.getD .skip
def ZeB.rs (r:Zcr×Bool×LL):List CV:=[.agg r.1.ls,oB r.2.1]
def ZeB (N:Nat) (A0:Option Nat) (at_1:Int) (st:LL):Option (Zcr×Bool×LL):= if (xX A0)=true then some (Zcr.mk (Zal.mk 0 (zB 32 0) (zB 32 0) 0 0 0) (zB 32 0) (-1) 0 (zB 4 0),false,st) else Zbb A0 fun i1=> ZcO (st[i1]?) ZbO fun x2 x3=> Zbb x2 fun i4=> ZcO (st[i4]?) Zbt fun x5=> Zbb (Zco N x5 at_1) fun (x6,x7)=> some (x6,x7,st)
def ZeB.s {A0:Option Nat} {at_1:Int} {st:LL} {r:Zcr×Bool×LL} (h:ZeB N A0 at_1 st=some r):Snd zC 94 [.one (zN A0),oI at_1] st (ZeB.rs r) r.2.2:=
 sO ZeB.B Tryz.func94 fun g0 w0 R hE=>by
  unfold ZeB at h;refine Zbd h (fun c1 h=>xU h hE [rZ,rZ,cT,rZ] c1) fun c1 h=>?_;obtain ⟨i1,rfl,h⟩:=Zab h;obtain ⟨x2,x3,c3,h⟩:=Zbs h;obtain ⟨i4,rfl,h⟩:=Zab h;obtain ⟨x5,c5,h⟩:=Zbi h;obtain ⟨⟨x6,x7⟩,c6,h⟩:=Zab h;exact xU h hE [rZ,rZ,cF,.r [(3,{oc:=[zN (some i4),yI true 1 x3]}),(5,{rs:=[.agg x6.ls,oB x7],m:=10,cv:=[.one (L.bx 87 x5.ls)]})]] (aK c1 c3 (bO 87 c5 (ZaG.bv x5)) (Zco.s c6))
end Go.Dn.F
end
