import Derived.Test.YtbijmojagnjgcaaGreatDoorFa
import Derived.Test.YtbijmojagnjgcaaGreatDoorFaP
set_option linter.all false
open Go.Dn.L renaming int→zJ,bool→xL,arr→zH,own→yB,ptr→zQ
open Go.Proofs.Tryz renaming prog→zC
open List renaming replicate→zB
open Option renaming isNone→vA
noncomputable section
set_option maxRecDepth 100000
namespace Go.Dn.F
open Go.Proofs
variable {N:Nat} {g0:G} {w0:World} {R:Exit→Act→World→Prop}
structure ZaG where
  rules:Zae
  list:LL
  spots:LL
  places:LM
  room:Int
def ZaG.ls (x:ZaG):List L:=[zJ .i64 x.rules.Limit,zJ .i64 x.rules.Interval,zJ .i64 x.rules.Spacing,zJ .i64 x.rules.Future,xL x.rules.Easy,L.sl 2 x.rules.Gates,L.sl 33 x.rules.Checks,zH .u64 4 x.rules.MinWork,zH .u64 4 x.rules.Margin,zJ .i64 x.rules.Genesis.Version,zH .u8 32 x.rules.Genesis.Prev,zH .u8 32 x.rules.Genesis.Root,zJ .i64 x.rules.Genesis.Time,zJ .i64 x.rules.Genesis.Bits,zJ .i64 x.rules.Genesis.Nonce,L.sl 106 x.list,L.sl 38 x.spots,L.mz x.places,zJ .i64 x.room]
structure Zaz where
  store:ZaG
  leaps:LL
def Zaz.ls (x:Zaz):List L:=[L.bx 87 x.store.ls,L.sl 1 x.leaps]
structure ZiZ where
  tree:Zaz
  list:LL
def ZiZ.ls (x:ZiZ):List L:=[L.bx 2 x.tree.ls,L.sl 3 x.list]
def ZaG.lo (x:ZaG):List L:=[zJ .i64 x.rules.Limit,zJ .i64 x.rules.Interval,zJ .i64 x.rules.Spacing,zJ .i64 x.rules.Future,xL x.rules.Easy,L.sl 2 x.rules.Gates,L.sl 33 x.rules.Checks,zH .u64 4 x.rules.MinWork,zH .u64 4 x.rules.Margin,zJ .i64 x.rules.Genesis.Version,zH .u8 32 x.rules.Genesis.Prev,zH .u8 32 x.rules.Genesis.Root,zJ .i64 x.rules.Genesis.Time,zJ .i64 x.rules.Genesis.Bits,zJ .i64 x.rules.Genesis.Nonce,yB true 106 x.list,yB true 38 x.spots,L.mp x.places,zJ .i64 x.room]
def ZbK {α:Type} (l:List L) (k:ZaG→Option α):Option α:=match l with | [zJ .i64 x0,zJ .i64 x1,zJ .i64 x2,zJ .i64 x3,xL x4,L.sl 2 x5,L.sl 33 x6,zH .u64 4 x7,zH .u64 4 x8,zJ .i64 x9,zH .u8 32 x10,zH .u8 32 x11,zJ .i64 x12,zJ .i64 x13,zJ .i64 x14,yB true 106 x15,yB true 38 x16,L.mp x17,zJ .i64 x18]=>k ⟨⟨x0,x1,x2,x3,x4,x5,x6,x7,x8,⟨x9,x10,x11,x12,x13,x14⟩⟩,x15,x16,x17,x18⟩ | _=>none
theorem Zbx {α:Type} {o:Option (List L)} {k:ZaG→Option α} {r:α} (h:ZcY o ZbK k=some r) : ∃x:ZaG,o=some x.lo∧k x=some r:=by
  obtain ⟨l,e,k1⟩:=Zac h;subst e;unfold ZbK at k1;split at k1
  · exact ⟨_,rfl,k1⟩
  cases k1
@[simp] theorem ZbL {α:Type} (x:ZaG) (k:ZaG→Option α):ZbK x.lo k=k x:=rfl
theorem ZaG.bv {st:LL} (x:ZaG):BVs st x.lo x.ls:=(bP (bP (bP (bP (bP (bS (bS (bP (bP (bP (bP (bP (bP (bP (bP (bW (bW (bM (bP bN)))))))))))))))))))
structure Zcq where
  Header:Zak
  Id:List Int
  Ahead:Int
  Height:Int
  Work:List Int
def Zcq.ls (x:Zcq):List L:=[zJ .i64 x.Header.Version,zH .u8 32 x.Header.Prev,zH .u8 32 x.Header.Root,zJ .i64 x.Header.Time,zJ .i64 x.Header.Bits,zJ .i64 x.Header.Nonce,zH .u8 32 x.Id,zJ .i64 x.Ahead,zJ .i64 x.Height,zH .u64 4 x.Work]
def Zer {α:Type} (l:List L) (k:Zcq→Option α):Option α:=match l with | [zJ .i64 x0,zH .u8 32 x1,zH .u8 32 x2,zJ .i64 x3,zJ .i64 x4,zJ .i64 x5,zH .u8 32 x6,zJ .i64 x7,zJ .i64 x8,zH .u64 4 x9]=>k ⟨⟨x0,x1,x2,x3,x4,x5⟩,x6,x7,x8,x9⟩ | _=>none
theorem ZeT {α:Type} {o:Option (List L)} {k:Zcq→Option α} {r:α} (h:ZcY o Zer k=some r) : ∃x:Zcq,o=some x.ls∧k x=some r:=by
  obtain ⟨l,e,k1⟩:=Zac h;subst e;unfold Zer at k1;split at k1
  · exact ⟨_,rfl,k1⟩
  cases k1
@[simp] theorem Zfh {α:Type} (x:Zcq) (k:Zcq→Option α):Zer x.ls k=k x:=rfl
theorem Zcq.bv {st:LL} (x:Zcq):BVs st x.ls x.ls:=(bP (bP (bP (bP (bP (bP (bP (bP (bP (bP bN))))))))))
structure ZaQ where
  verdict:Int
  out:Bool
  child:Bool
def ZaQ.ls (x:ZaQ):List L:=[zJ .i64 x.verdict,xL x.out,xL x.child]
def ZcF {α:Type} (l:List L) (k:ZaQ→Option α):Option α:=match l with | [zJ .i64 x0,xL x1,xL x2]=>k ⟨x0,x1,x2⟩ | _=>none
theorem ZcD {α:Type} {o:Option (List L)} {k:ZaQ→Option α} {r:α} (h:ZcY o ZcF k=some r) : ∃x:ZaQ,o=some x.ls∧k x=some r:=by
  obtain ⟨l,e,k1⟩:=Zac h;subst e;unfold ZcF at k1;split at k1
  · exact ⟨_,rfl,k1⟩
  cases k1
@[simp] theorem Zde {α:Type} (x:ZaQ) (k:ZaQ→Option α):ZcF x.ls k=k x:=rfl
theorem ZaQ.bv {st:LL} (x:ZaQ):BVs st x.ls x.ls:=(bP (bP (bP bN)))
def ZcZ {α:Type} (l:List L) (k:(Option Nat)→LL→Option α):Option α:=match l with | [zQ x0,yB true 1 x1]=>k x0 x1 | _=>none
theorem ZcM {α:Type} {o:Option (List L)} {k:(Option Nat)→LL→Option α} {r:α} (h:ZcY o ZcZ k=some r) : ∃x0 x1,o=some [zQ x0,yB true 1 x1]∧k x0 x1=some r:=by
  obtain ⟨l,e,k1⟩:=Zac h;subst e;unfold ZcZ at k1;split at k1
  · exact ⟨_,_,rfl,k1⟩
  cases k1
@[simp] theorem ZcU {α:Type} (x0:Option Nat) (x1:LL) (k:(Option Nat)→LL→Option α):ZcZ [zQ x0,yB true 1 x1] k=k x0 x1:=rfl
def Zcj {α:Type} (l:List L) (k:(Option Nat)→LL→Option α):Option α:=match l with | [zQ x0,yB true 3 x1]=>k x0 x1 | _=>none
theorem ZbS {α:Type} {o:Option (List L)} {k:(Option Nat)→LL→Option α} {r:α} (h:ZcY o Zcj k=some r) : ∃x0 x1,o=some [zQ x0,yB true 3 x1]∧k x0 x1=some r:=by
  obtain ⟨l,e,k1⟩:=Zac h;subst e;unfold Zcj at k1;split at k1
  · exact ⟨_,_,rfl,k1⟩
  cases k1
@[simp] theorem ZrU {α:Type} (x0:Option Nat) (x1:LL) (k:(Option Nat)→LL→Option α):Zcj [zQ x0,yB true 3 x1] k=k x0 x1:=rfl
def Zdf.B:Code:=Tryz.f119.body.getD .skip
def Zdf.rs (r:Int):List CV:=[oI r]
def Zdf (N:Nat) (A0:ZaG):Option Int:= some (len A0.list)
theorem Zdf.snd {A0:ZaG} {r:Int} (h:Zdf N A0=some r):ZdH zC 119 [.one (L.bx 87 A0.ls)] (Zdf.rs r):=fun st=>
 sO Zdf.B Tryz.func119 fun g0 w0 R hE=>by
  unfold Zdf at h;exact xS fol h hE [rZ,rZ,cF,.r [(3,{oe:=A0.ls})]] (aI eF (eO A0.ls))
def ZdE.B:Code:=Tryz.f91.body.getD .skip
def ZdE.rs (r:Int×LL):List CV:=[oI r.1]
def ZdE (N:Nat) (A0:Option Nat) (st:LL):Option (Int×LL):= if (vA A0)=true then some (0,st) else Zbj A0 fun i1=> ZcY (st[i1]?) ZcZ fun x2 x3=> Zbj x2 fun i4=> ZcY (st[i4]?) ZbK fun x5=> Zbj (Zdf N x5) fun x6=> some (x6,st)
theorem ZdE.snd {A0:Option Nat} {st:LL} {r:Int×LL} (h:ZdE N A0 st=some r):Snd zC 91 [.one (zQ A0)] st (ZdE.rs r) r.2:=
 sO ZdE.B Tryz.func91 fun g0 w0 R hE=>by
  unfold ZdE at h;refine Zbc h (fun c1 h1=>?_) (fun c1 h2=>?_)
  ·exact xT fol h1 hE [rZ,rZ,cT,rZ] c1
  obtain ⟨i1,rfl,h3⟩:=Zac h2;obtain ⟨x2,x3,c3,h4⟩:=ZcM h3;obtain ⟨i4,rfl,h5⟩:=Zac h4;obtain ⟨x5,c5,h6⟩:=Zbx h5;obtain ⟨x6,c6,h7⟩:=Zac h6;exact xT fol h7 hE [rZ,rZ,cF,.r [(3,{oc:=[zQ (some i4),yB true 1 x3]}),(4,{rs:=[oI x6],m:=10,cv:=[.one (L.bx 87 x5.ls)]})]] (aK c1 c3 (bO 87 c5 (ZaG.bv x5)) (Zdf.snd c6))
def ZbR.B:Code:=Tryz.f68.body.getD .skip
def ZbR.rs (r:Bool):List CV:=[oB r]
def ZbR (N:Nat) (A0:ZaG) (at_1:Int):Option Bool:= if (decide (at_1≥0))=true then some (decide (at_1<(len A0.list))) else some false
theorem ZbR.snd {A0:ZaG} {at_1:Int} {r:Bool} (h:ZbR N A0 at_1=some r):ZdH zC 68 [.one (L.bx 87 A0.ls),oI at_1] (ZbR.rs r):=fun st=>
 sO ZbR.B Tryz.func68 fun g0 w0 R hE=>by
  unfold ZbR at h;refine Zbc h (fun c1 h1=>?_) (fun c1 h2=>?_)
  ·exact xS fol h1 hE [rZ,.r [(11,{oe:=A0.ls})]] (aO eT eT eT c1 c1 c1 c1 (aL c1 (eO A0.ls) c1 c1 c1))
  exact xS fol h2 hE [rZ,.r [(7,wF),(8,wF),(9,wF),(10,wF),(11,wF),(12,wF),(13,wF),(14,yF)]] (aO eT eT eT c1 c1 c1 c1 (aK c1 c1 c1 c1))
def Zcn.B:Code:=Tryz.f57.body.getD .skip
def Zcn.rs (r:Zcq×Bool):List CV:=[.agg r.1.ls,oB r.2]
def Zcn (N:Nat) (A0:ZaG) (at_1:Int):Option (Zcq×Bool):= Zbj (ZbR N A0 at_1) fun x1=> if (!x1)=true then some (Zcq.mk (Zak.mk 0 (zB 32 0) (zB 32 0) 0 0 0) (zB 32 0) (-1) 0 (zB 4 0),false) else chk (0≤at_1)<| chk (at_1<(len A0.list))<| ZcY (A0.list[Int.toNat at_1]?) Zer fun x2=> some (x2,true)
theorem Zcn.snd {A0:ZaG} {at_1:Int} {r:Zcq×Bool} (h:Zcn N A0 at_1=some r):ZdH zC 57 [.one (L.bx 87 A0.ls),oI at_1] (Zcn.rs r):=fun st=>
 sO Zcn.B Tryz.func57 fun g0 w0 R hE=>by
  unfold Zcn at h;obtain ⟨x1,c1,h1⟩:=Zac h;let o1:List PS:=[rZ,.r [(2,q0 [oB x1])]]
  refine Zbc h1 (fun c2 h2=>?_) (fun c2 h3=>?_)
  ·exact xS fol h2 hE (o1++[cT,rZ]) (aI (ZbR.snd c1) c2)
  obtain ⟨c3,c4,h4⟩:=ck2 h3;obtain ⟨x2,c5,h5⟩:=ZeT h4;exact xS fol h5 hE (o1++[cF,.r [(3,{oe:=A0.ls}),(6,{oe:=x2.ls})]]) (aM (ZbR.snd c1) c2 (eO A0.ls) c3 c4 c5)
def ZbP.B:Code:=Tryz.f67.body.getD .skip
def ZbP.rs (r:Zcq×Bool):List CV:=[.agg r.1.ls,oB r.2]
def ZbP (N:Nat) (A0:Zaz) (at_1:Int):Option (Zcq×Bool):= Zbj (Zcn N A0.store at_1) fun (x1,x2)=> some (x1,x2)
theorem ZbP.snd {A0:Zaz} {at_1:Int} {r:Zcq×Bool} (h:ZbP N A0 at_1=some r):ZdH zC 67 [.one (L.bx 2 A0.ls),oI at_1] (ZbP.rs r):=fun st=>
 sO ZbP.B Tryz.func67 fun g0 w0 R hE=>by
  unfold ZbP at h;obtain ⟨⟨x1,x2⟩,c1,h1⟩:=Zac h;exact xS fol h1 hE [rZ,rZ,cF,.r [(3,{oe:=A0.ls}),(5,q0 [.agg x1.ls,oB x2])]] (aJ eF (eO A0.ls) (Zcn.snd c1))
def Zcu.B:Code:=Tryz.f40.body.getD .skip
def Zcu.rs (r:Bool):List CV:=[oB r]
def Zcu (N:Nat) (A0:ZaQ):Option Bool:= if A0.out=true then some true else some (A0.verdict==2)
theorem Zcu.snd {A0:ZaQ} {r:Bool} (h:Zcu N A0=some r):ZdH zC 40 [.agg A0.ls] (Zcu.rs r):=fun st=>
 sO Zcu.B Tryz.func40 fun g0 w0 R hE=>by
  unfold Zcu at h;refine Zbc h (fun c1 h1=>?_) (fun c1 h2=>?_)
  ·exact xS fol h1 hE [rZ,.r [(3,wF),(4,wF),(5,wF)]] (aK c1 c1 c1 c1)
  exact xS fol h2 hE [rZ,.r [(6,yF)]] (aK c1 c1 c1 c1)
def ZaL.B:Code:=Tryz.f65.body.getD .skip
def ZaL.rs (r:LL):List CV:=[]
def ZaL.p2 (N:Nat) (c1_:(Int×LL)→Option LL) (i1:Nat) (A4:Int) (A41:ZaQ) (st28:LL):Option LL:= ZcY (st28[i1]?) Zcj fun x42 x43=> chk (List.length (x43++[A41.ls])*16≤140737488355328)<| c1_ (w64 (A4+1),List.set (List.set st28 i1 [zQ x42,L.gone]) i1 [zQ x42,yB true 3 (x43++[A41.ls])])
def ZaL.p1 (N:Nat) (i1:Nat) (c1_:(Int×LL)→Option LL):(Int×LL)→Option LL:=fun (A4,st24)=> ZcY (st24[i1]?) Zcj fun x25 x26=> Zbj (ZdE N x25 st24) fun (x27,st28)=> if (decide (A4<x27))=true then ZcY (st28[i1]?) Zcj fun x29 x30=> Zbj x29 fun i31=> ZcY (st28[i31]?) ZcZ fun x32 x33=> Zbj x32 fun i34=> ZcY (st28[i34]?) ZbK fun x35=> Zbj (ZbP N (Zaz.mk x35 x33) A4) fun (x36,x37)=> if (x36.Ahead != (-1))=true then chk (0≤x36.Ahead)<| chk (x36.Ahead<(len x30))<| ZcY (x30[0+(Int.toNat x36.Ahead)]?) ZcF fun x38=> if x38.child=true then ZaL.p2 N c1_ i1 A4 (ZaQ.mk 0 false true) st28 else Zbj (Zcu N x38) fun x39=> ZaL.p2 N c1_ i1 A4 (ZaQ.mk 0 false x39) st28 else ZaL.p2 N c1_ i1 A4 (ZaQ.mk 1 false false) st28 else some st28
def ZaL (N:Nat) (m_0:Option Nat) (st:LL):Option LL:= Zbj m_0 fun i1=> ZcY (st[i1]?) Zcj fun x2 x3=> loopN (ZaL.p1 N i1) N ((len x3),st)
def ZaL.p2.S (i1:Nat) (A4:Int) (A41:ZaQ) (st28:LL):S:=mkS 60 [(0,sP (some i1)),(2,sI A4),(3,sA 3)] [(3,.cells A41.ls)] st28
def ZaL.p1.S (i1:Nat) (A4:Int) (st24:LL):S:=mkS 60 [(0,sP (some i1)),(2,sI A4)] [] st24
theorem ZaL.p2_ok {i1 A4 A41 st28 r c1_ J1} (h:ZaL.p2 N c1_ i1 A4 A41 st28=some r) (hE:En Tryz.f65 g0 w0 (ZaL.rs r) r R) (hc1 : ∀A4 st24,c1_ (A4,st24)=some r→At g0 w0 (ZaL.p1.S i1 A4 st24) J1):At g0 w0 (ZaL.p2.S i1 A4 A41 st28) (XK zC R [cK ZaL.B [1,0,0,1,0,0,1,1],.b 1,cK ZaL.B [1,0,0,1,1],.h J1,.b 0]):=by
 unfold ZaL.p2 at h;obtain ⟨x42,x43,c35,h1⟩:=ZbS h;obtain ⟨c36,h2⟩:=Zbd h1;exact ZjO fol [.d {ds:=[(4,{oc:=[zQ x42,yB true 3 x43]}),(7,{oe:=[zQ x42,yB true 3 x43]}),(10,{oc:=[zQ x42,L.gone],mv:=[57]})],hv:=1216,Hs:=[64,192,1216]},rZ] [0,2] [] (aO c35 c35 z0 (eN (List.length x43)) c35 z0 (eN (1)) (aK c36 (Zap c35 [zQ x42,L.gone]) z0 (eN (List.length (x43++[A41.ls]))))) (hc1 (w64 (A4+1)) (List.set (List.set st28 i1 [zQ x42,L.gone]) i1 [zQ x42,yB true 3 (x43++[A41.ls])]) h2)
theorem ZaL.p1_ok {i1 A4 st24 r c1_ J1} (h:ZaL.p1 N i1 c1_ (A4,st24)=some r) (hE:En Tryz.f65 g0 w0 (ZaL.rs r) r R) (hc1 : ∀A4 st24,c1_ (A4,st24)=some r→At g0 w0 (ZaL.p1.S i1 A4 st24) J1):At g0 w0 (ZaL.p1.S i1 A4 st24) (XK zC R (cK ZaL.B [1,0,0] :: .h J1 :: [.b 0])):=by
 unfold ZaL.p1 at h;obtain ⟨x25,x26,c20,h3⟩:=ZbS h;obtain ⟨⟨x27,st28⟩,c21,h4⟩:=Zac h3;let o1:List PS:=[.r [(4,{oc:=[zQ x25,yB true 3 x26]}),(5,{rs:=[oI x27],st:=st28})]]
 have t1 {Q:Prop} (q:Q):=aJ c20 (ZdE.snd c21) q;refine Zbc h4 (fun c22 h5=>?_) (fun c22 h6=>?_)
 ·obtain ⟨x29,x30,c23,h7⟩:=ZbS h5;obtain ⟨i31,rfl,h8⟩:=Zac h7;obtain ⟨x32,x33,c25,h9⟩:=ZcM h8;obtain ⟨i34,rfl,h10⟩:=Zac h9;obtain ⟨x35,c27,h11⟩:=Zbx h10;obtain ⟨⟨x36,x37⟩,c28,h12⟩:=Zac h11;let o2:List PS:=o1++[cT,rZ,.r [(3,{oc:=[zQ (some i31),yB true 3 x30]}),(5,{rs:=[.agg x36.ls,oB x37],m:=10,cv:=[.one (L.bx 2 (Zaz.ls (Zaz.mk x35 x33)))]})],rZ]
  have t2 {Q:Prop} (q:Q):=t1 (aL c22 c23 (bO 2 c25 ((bC 87 c27 (ZaG.bv x35) (bW bN)):BVs st28 [zQ (some i34),yB true 1 x33] (Zaz.ls (Zaz.mk x35 x33)))) (ZbP.snd c28) q);refine Zbc h12 (fun c29 h13=>?_) (fun c29 h14=>?_)
  ·obtain ⟨c30,c31,h15⟩:=ck2 h13;obtain ⟨x38,c32,h16⟩:=ZcD h15;let o3:List PS:=o2++[cT,.d {ds:=[(3,{oc:=[zQ (some i31),yB true 3 x30]}),(7,{oc:=[zQ (some i31),yB true 3 x30],oe:=x38.ls})],hv:=768,Hs:=[256,768]}]
   have t3 {Q:Prop} (q:Q):=t2 (aO c29 c23 c23 c30 c31 c30 c31 (aL c32 c23 c32 c23 q));refine Zbc h16 (fun c33 h17=>?_) (fun c33 h18=>?_)
   ·exact aqd fol (o3++[.r [(3,wF),(4,wF)],.s 5]) [0,2,3] [3] (t3 (aJ c33 c33 c33)) (ZaL.p2_ok h17 hE hc1)
   obtain ⟨x39,c34,h19⟩:=Zac h18;exact aqd fol (o3++[.r [(4,q1 [oB x39]),(5,yF)],.s 5]) [0,2,3] [3] (t3 (aK c33 c33 (Zcu.snd c34) c33)) (ZaL.p2_ok h19 hE hc1)
  exact aq fol (o2++[cF,rZ,.s 5]) [0,2,3] [3] (t2 c29) (ZaL.p2_ok h14 hE hc1)
 exact xR fol h6 hE (o1++[cF]) (t1 c22)
theorem ZaL.snd {m_0:Option Nat} {st:LL} {r:LL} (h:ZaL N m_0 st=some r):Snd zC 65 [.one (zQ m_0)] st (ZaL.rs r) r:=
 sO ZaL.B Tryz.func65 fun g0 w0 R hE=>by
  unfold ZaL at h;obtain ⟨i1,rfl,h20⟩:=Zac h;obtain ⟨x2,x3,c2,h21⟩:=ZbS h20;exact aq fol [.r [(3,{oc:=[zQ x2,yB true 3 x3]})]] [0,2] [] c2 (At.loop N (At.loopN (fun y:Int×LL=>ZaL.p1.S i1 y.1 y.2) (fun c J hc y h=>ZaL.p1_ok (A4:=y.1) (st24:=y.2) h hE (fun A4 st24=>hc (A4,st24))) N ((len x3),st) h21))
def Zcs.B:Code:=Tryz.f39.body.getD .skip
def Zcs.rs (r:Bool×LL):List CV:=[oB r.1]
def Zcs (N:Nat) (m_0:Option Nat) (at_1:Int) (st:LL):Option (Bool×LL):= if (vA m_0)=true then some (false,st) else Zbj (ZaL N m_0 st) fun st1=> if (decide (at_1≥0))=true then Zbj m_0 fun i2=> ZcY (st1[i2]?) Zcj fun x3 x4=> some (decide (at_1<(len x4)),st1) else some (false,st1)
theorem Zcs.snd {m_0:Option Nat} {at_1:Int} {st:LL} {r:Bool×LL} (h:Zcs N m_0 at_1 st=some r):Snd zC 39 [.one (zQ m_0),oI at_1] st (Zcs.rs r) r.2:=
 sO Zcs.B Tryz.func39 fun g0 w0 R hE=>by
  unfold Zcs at h;refine Zbc h (fun c1 h1=>?_) (fun c1 h2=>?_)
  ·exact xT fol h1 hE [rZ,rZ,cT,rZ] c1
  obtain ⟨st1,c2,h3⟩:=Zac h2;let o1:List PS:=[rZ,rZ,cF,.r [(1,{st:=st1})]]
  refine Zbc h3 (fun c3 h4=>?_) (fun c3 h5=>?_)
  ·obtain ⟨i2,rfl,h6⟩:=Zac h4;obtain ⟨x3,x4,c5,h7⟩:=ZbS h6;exact xT fol h7 hE (o1++[.r [(7,{oc:=[zQ x3,yB true 3 x4]})]]) (aO c1 (ZaL.snd c2) c3 c3 c3 c3 c3 (aK c5 c3 c3 c3))
  exact xT fol h5 hE (o1++[.r [(3,wF),(4,wF),(5,wF),(6,wF),(7,wF),(8,wF),(9,wF),(10,yF)]]) (aO c1 (ZaL.snd c2) c3 c3 c3 c3 c3 (aJ c3 c3 c3))
def ZbJ.B:Code:=Tryz.f15.body.getD .skip
def ZbJ.rs (r:Bool×LL):List CV:=[oB r.1]
def ZbJ (N:Nat) (m_0:Option Nat) (at_1:Int) (st:LL):Option (Bool×LL):= Zbj (Zcs N m_0 at_1 st) fun (x1,st2)=> if x1=true then Zbj m_0 fun i3=> ZcY (st2[i3]?) Zcj fun x4 x5=> chk (0≤at_1)<| chk (at_1<(len x5))<| ZcY (x5[0+(Int.toNat at_1)]?) ZcF fun x6=> if x6.child=true then some (true,st2) else Zbj (Zcu N x6) fun x7=> some (x7,st2) else some (false,st2)
theorem ZbJ.snd {m_0:Option Nat} {at_1:Int} {st:LL} {r:Bool×LL} (h:ZbJ N m_0 at_1 st=some r):Snd zC 15 [.one (zQ m_0),oI at_1] st (ZbJ.rs r) r.2:=
 sO ZbJ.B Tryz.func15 fun g0 w0 R hE=>by
  unfold ZbJ at h;obtain ⟨⟨x1,st2⟩,c1,h1⟩:=Zac h;have t1 {Q:Prop} (q:Q):=aI (Zcs.snd c1) q;refine Zbc h1 (fun c2 h2=>?_) (fun c2 h3=>?_)
  ·obtain ⟨i3,rfl,h4⟩:=Zac h2;obtain ⟨x4,x5,c4,h5⟩:=ZbS h4;obtain ⟨c5,c6,h6⟩:=ck2 h5;obtain ⟨x6,c7,h7⟩:=ZcD h6;have t2 {Q:Prop} (q:Q):=t1 (aO c2 c2 c2 c2 c4 c2 c2 (aO c5 c6 c2 c2 c7 c4 c2 q));refine Zbc h7 (fun c8 h8=>?_) (fun c8 h9=>?_)
   ·exact xT fol h8 hE [rZ,.r [(2,{rs:=[oB x1],st:=st2}),(7,{oc:=[zQ x4,yB true 3 x5]}),(11,{oc:=[zQ x4,yB true 3 x5],oe:=x6.ls}),(13,wF),(14,wF),(15,wF),(16,wF),(17,wF),(18,wF),(19,wF),(20,wF)]] (t2 (aO c8 c8 c8 c8 c8 c8 c8 (aK c8 c2 c8 c2)))
   obtain ⟨x7,c9,h10⟩:=Zac h9;exact xT fol h10 hE [rZ,.r [(2,{rs:=[oB x1],st:=st2}),(7,{oc:=[zQ x4,yB true 3 x5]}),(11,{oc:=[zQ x4,yB true 3 x5],oe:=x6.ls}),(16,{oc:=[zQ x4,yB true 3 x5]}),(19,{oc:=[zQ x4,yB true 3 x5],oe:=x6.ls}),(20,q1 [oB x7]),(21,yF)]] (t2 (aO c8 c8 c8 c8 c4 c8 c8 (aO c5 c6 c8 c7 c4 c8 (Zcu.snd c9) (aJ c2 c8 c2))))
  exact xT fol h3 hE [rZ,.r [(2,{rs:=[oB x1],st:=st2}),(4,wF),(5,wF),(6,wF),(7,wF),(8,wF),(9,wF),(10,wF),(11,wF),(12,wF),(21,wF),(22,yF)]] (t1 (aO c2 c2 c2 c2 c2 c2 c2 (aK c2 c2 c2 c2)))
def Zeh.B:Code:=Tryz.f67.body.getD .skip
def Zeh.rs (r:Zcq×Bool×LL):List CV:=[.agg r.1.ls,oB r.2.1]
def Zeh (N:Nat) (A0:Option Nat) (at_1:Int) (st:LL):Option (Zcq×Bool×LL):= if (vA A0)=true then some (Zcq.mk (Zak.mk 0 (zB 32 0) (zB 32 0) 0 0 0) (zB 32 0) (-1) 0 (zB 4 0),false,st) else Zbj A0 fun i1=> ZcY (st[i1]?) ZcZ fun x2 x3=> Zbj x2 fun i4=> ZcY (st[i4]?) ZbK fun x5=> Zbj (Zcn N x5 at_1) fun (x6,x7)=> some (x6,x7,st)
theorem Zeh.snd {A0:Option Nat} {at_1:Int} {st:LL} {r:Zcq×Bool×LL} (h:Zeh N A0 at_1 st=some r):Snd zC 67 [.one (zQ A0),oI at_1] st (Zeh.rs r) r.2.2:=
 sO Zeh.B Tryz.func67 fun g0 w0 R hE=>by
  unfold Zeh at h;refine Zbc h (fun c1 h1=>?_) (fun c1 h2=>?_)
  ·exact xU fol h1 hE [rZ,rZ,cT,rZ] c1
  obtain ⟨i1,rfl,h3⟩:=Zac h2;obtain ⟨x2,x3,c3,h4⟩:=ZcM h3;obtain ⟨i4,rfl,h5⟩:=Zac h4;obtain ⟨x5,c5,h6⟩:=Zbx h5;obtain ⟨⟨x6,x7⟩,c6,h7⟩:=Zac h6;exact xU fol h7 hE [rZ,rZ,cF,.r [(3,{oc:=[zQ (some i4),yB true 1 x3]}),(5,{rs:=[.agg x6.ls,oB x7],m:=10,cv:=[.one (L.bx 87 x5.ls)]})]] (aK c1 c3 (bO 87 c5 (ZaG.bv x5)) (Zcn.snd c6))
end Go.Dn.F
end
