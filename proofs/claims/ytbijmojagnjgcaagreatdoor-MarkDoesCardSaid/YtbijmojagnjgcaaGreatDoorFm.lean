import Derived.Test.YtbijmojagnjgcaaGreatDoorFa
import Derived.Test.YtbijmojagnjgcaaGreatDoorFaP
set_option linter.all false
open Go.Dn.L renaming int→zK,bool→xW,arr→zI,own→yC,ptr→zQ
open Go.Proofs.Tryz renaming prog→zB
open List renaming replicate→zC
open Option renaming isNone→vJ
noncomputable section
set_option maxRecDepth 100000
namespace Go.Dn.F
open Go.Proofs
variable {N:Nat} {g0:G} {w0:World} {R:Exit→Act→World→Prop}
structure ZaH where
  rules:Zae
  list:LL
  spots:LL
  places:LM
  room:Int
def ZaH.ls (x:ZaH):List L:=[zK .i64 x.rules.Limit,zK .i64 x.rules.Interval,zK .i64 x.rules.Spacing,zK .i64 x.rules.Future,xW x.rules.Easy,L.sl 2 x.rules.Gates,L.sl 33 x.rules.Checks,zI .u64 4 x.rules.MinWork,zI .u64 4 x.rules.Margin,zK .i64 x.rules.Genesis.Version,zI .u8 32 x.rules.Genesis.Prev,zI .u8 32 x.rules.Genesis.Root,zK .i64 x.rules.Genesis.Time,zK .i64 x.rules.Genesis.Bits,zK .i64 x.rules.Genesis.Nonce,L.sl 106 x.list,L.sl 38 x.spots,L.mz x.places,zK .i64 x.room]
structure ZaD where
  store:ZaH
  leaps:LL
def ZaD.ls (x:ZaD):List L:=[L.bx 87 x.store.ls,L.sl 1 x.leaps]
structure Zjc where
  tree:ZaD
  list:LL
def Zjc.ls (x:Zjc):List L:=[L.bx 2 x.tree.ls,L.sl 3 x.list]
def ZaH.lo (x:ZaH):List L:=[zK .i64 x.rules.Limit,zK .i64 x.rules.Interval,zK .i64 x.rules.Spacing,zK .i64 x.rules.Future,xW x.rules.Easy,L.sl 2 x.rules.Gates,L.sl 33 x.rules.Checks,zI .u64 4 x.rules.MinWork,zI .u64 4 x.rules.Margin,zK .i64 x.rules.Genesis.Version,zI .u8 32 x.rules.Genesis.Prev,zI .u8 32 x.rules.Genesis.Root,zK .i64 x.rules.Genesis.Time,zK .i64 x.rules.Genesis.Bits,zK .i64 x.rules.Genesis.Nonce,yC true 106 x.list,yC true 38 x.spots,L.mp x.places,zK .i64 x.room]
def ZbZ {α:Type} (l:List L) (k:ZaH→Option α):Option α:=match l with | [zK .i64 x0,zK .i64 x1,zK .i64 x2,zK .i64 x3,xW x4,L.sl 2 x5,L.sl 33 x6,zI .u64 4 x7,zI .u64 4 x8,zK .i64 x9,zI .u8 32 x10,zI .u8 32 x11,zK .i64 x12,zK .i64 x13,zK .i64 x14,yC true 106 x15,yC true 38 x16,L.mp x17,zK .i64 x18]=>k ⟨⟨x0,x1,x2,x3,x4,x5,x6,x7,x8,⟨x9,x10,x11,x12,x13,x14⟩⟩,x15,x16,x17,x18⟩ | _=>none
theorem ZbO {α:Type} {o:Option (List L)} {k:ZaH→Option α} {r:α} (h:Zde o ZbZ k=some r) : ∃x:ZaH,o=some x.lo∧k x=some r:=by
  obtain ⟨l,e,k1⟩:=Zac h;subst e;unfold ZbZ at k1;split at k1
  · exact ⟨_,rfl,k1⟩
  cases k1
@[simp] theorem Zcc {α:Type} (x:ZaH) (k:ZaH→Option α):ZbZ x.lo k=k x:=rfl
theorem ZaH.bv {st:LL} (x:ZaH):BVs st x.lo x.ls:=(bP (bP (bP (bP (bP (bS (bS (bP (bP (bP (bP (bP (bP (bP (bP (bW (bW (bM (bP bN)))))))))))))))))))
structure Zcx where
  Header:Zak
  Id:List Int
  Ahead:Int
  Height:Int
  Work:List Int
def Zcx.ls (x:Zcx):List L:=[zK .i64 x.Header.Version,zI .u8 32 x.Header.Prev,zI .u8 32 x.Header.Root,zK .i64 x.Header.Time,zK .i64 x.Header.Bits,zK .i64 x.Header.Nonce,zI .u8 32 x.Id,zK .i64 x.Ahead,zK .i64 x.Height,zI .u64 4 x.Work]
def Zey {α:Type} (l:List L) (k:Zcx→Option α):Option α:=match l with | [zK .i64 x0,zI .u8 32 x1,zI .u8 32 x2,zK .i64 x3,zK .i64 x4,zK .i64 x5,zI .u8 32 x6,zK .i64 x7,zK .i64 x8,zI .u64 4 x9]=>k ⟨⟨x0,x1,x2,x3,x4,x5⟩,x6,x7,x8,x9⟩ | _=>none
theorem Zfc {α:Type} {o:Option (List L)} {k:Zcx→Option α} {r:α} (h:Zde o Zey k=some r) : ∃x:Zcx,o=some x.ls∧k x=some r:=by
  obtain ⟨l,e,k1⟩:=Zac h;subst e;unfold Zey at k1;split at k1
  · exact ⟨_,rfl,k1⟩
  cases k1
@[simp] theorem Zfp {α:Type} (x:Zcx) (k:Zcx→Option α):Zey x.ls k=k x:=rfl
theorem Zcx.bv {st:LL} (x:Zcx):BVs st x.ls x.ls:=(bP (bP (bP (bP (bP (bP (bP (bP (bP (bP bN))))))))))
structure ZaS where
  verdict:Int
  out:Bool
  child:Bool
def ZaS.ls (x:ZaS):List L:=[zK .i64 x.verdict,xW x.out,xW x.child]
def Zcz {α:Type} (l:List L) (k:ZaS→Option α):Option α:=match l with | [zK .i64 x0,xW x1,xW x2]=>k ⟨x0,x1,x2⟩ | _=>none
theorem Zcs {α:Type} {o:Option (List L)} {k:ZaS→Option α} {r:α} (h:Zde o Zcz k=some r) : ∃x:ZaS,o=some x.ls∧k x=some r:=by
  obtain ⟨l,e,k1⟩:=Zac h;subst e;unfold Zcz at k1;split at k1
  · exact ⟨_,rfl,k1⟩
  cases k1
@[simp] theorem ZcV {α:Type} (x:ZaS) (k:ZaS→Option α):Zcz x.ls k=k x:=rfl
theorem ZaS.bv {st:LL} (x:ZaS):BVs st x.ls x.ls:=(bP (bP (bP bN)))
def Zdp {α:Type} (l:List L) (k:(Option Nat)→LL→Option α):Option α:=match l with | [zQ x0,yC true 1 x1]=>k x0 x1 | _=>none
theorem Zdf {α:Type} {o:Option (List L)} {k:(Option Nat)→LL→Option α} {r:α} (h:Zde o Zdp k=some r) : ∃x0 x1,o=some [zQ x0,yC true 1 x1]∧k x0 x1=some r:=by
  obtain ⟨l,e,k1⟩:=Zac h;subst e;unfold Zdp at k1;split at k1
  · exact ⟨_,_,rfl,k1⟩
  cases k1
@[simp] theorem Zdj {α:Type} (x0:Option Nat) (x1:LL) (k:(Option Nat)→LL→Option α):Zdp [zQ x0,yC true 1 x1] k=k x0 x1:=rfl
def Zca {α:Type} (l:List L) (k:(Option Nat)→LL→Option α):Option α:=match l with | [zQ x0,yC true 3 x1]=>k x0 x1 | _=>none
theorem ZbP {α:Type} {o:Option (List L)} {k:(Option Nat)→LL→Option α} {r:α} (h:Zde o Zca k=some r) : ∃x0 x1,o=some [zQ x0,yC true 3 x1]∧k x0 x1=some r:=by
  obtain ⟨l,e,k1⟩:=Zac h;subst e;unfold Zca at k1;split at k1
  · exact ⟨_,_,rfl,k1⟩
  cases k1
@[simp] theorem Zsh {α:Type} (x0:Option Nat) (x1:LL) (k:(Option Nat)→LL→Option α):Zca [zQ x0,yC true 3 x1] k=k x0 x1:=rfl
def Zdn.B:Code:=Tryz.f119.body.getD .skip
def Zdn.rs (r:Int):List CV:=[oI r]
def Zdn (N:Nat) (A0:ZaH):Option Int:= some (len A0.list)
theorem Zdn.snd {A0:ZaH} {r:Int} (h:Zdn N A0=some r):ZdP zB 119 [.one (L.bx 87 A0.ls)] (Zdn.rs r):=fun st=>
 sO Zdn.B Tryz.func119 fun g0 w0 R hE=>by
  unfold Zdn at h;exact xS fol h hE [rZ,rZ,cF,.r [(3,{oe:=A0.ls})]] (aI eF (eO A0.ls))
def ZdG.B:Code:=Tryz.f91.body.getD .skip
def ZdG.rs (r:Int×LL):List CV:=[oI r.1]
def ZdG (N:Nat) (A0:Option Nat) (st:LL):Option (Int×LL):= if (vJ A0)=true then some (0,st) else Zbm A0 fun i1=> Zde (st[i1]?) Zdp fun x2 x3=> Zbm x2 fun i4=> Zde (st[i4]?) ZbZ fun x5=> Zbm (Zdn N x5) fun x6=> some (x6,st)
theorem ZdG.snd {A0:Option Nat} {st:LL} {r:Int×LL} (h:ZdG N A0 st=some r):Snd zB 91 [.one (zQ A0)] st (ZdG.rs r) r.2:=
 sO ZdG.B Tryz.func91 fun g0 w0 R hE=>by
  unfold ZdG at h;refine Zbc h (fun c1 h1=>?_) (fun c1 h2=>?_)
  ·exact xT fol h1 hE [rZ,rZ,cT,rZ] c1
  obtain ⟨i1,rfl,h3⟩:=Zac h2;obtain ⟨x2,x3,c3,h4⟩:=Zdf h3;obtain ⟨i4,rfl,h5⟩:=Zac h4;obtain ⟨x5,c5,h6⟩:=ZbO h5;obtain ⟨x6,c6,h7⟩:=Zac h6;exact xT fol h7 hE [rZ,rZ,cF,.r [(3,{oc:=[zQ (some i4),yC true 1 x3]}),(4,{rs:=[oI x6],m:=10,cv:=[.one (L.bx 87 x5.ls)]})]] (aK c1 c3 (bO 87 c5 (ZaH.bv x5)) (Zdn.snd c6))
def Zcb.B:Code:=Tryz.f68.body.getD .skip
def Zcb.rs (r:Bool):List CV:=[oB r]
def Zcb (N:Nat) (A0:ZaH) (at_1:Int):Option Bool:= if (decide (at_1≥0))=true then some (decide (at_1<(len A0.list))) else some false
theorem Zcb.snd {A0:ZaH} {at_1:Int} {r:Bool} (h:Zcb N A0 at_1=some r):ZdP zB 68 [.one (L.bx 87 A0.ls),oI at_1] (Zcb.rs r):=fun st=>
 sO Zcb.B Tryz.func68 fun g0 w0 R hE=>by
  unfold Zcb at h;refine Zbc h (fun c1 h1=>?_) (fun c1 h2=>?_)
  ·exact xS fol h1 hE [rZ,.r [(11,{oe:=A0.ls})]] (aO eT eT eT c1 c1 c1 c1 (aL c1 (eO A0.ls) c1 c1 c1))
  exact xS fol h2 hE [rZ,.r [(7,wF),(8,wF),(9,wF),(10,wF),(11,wF),(12,wF),(13,wF),(14,yF)]] (aO eT eT eT c1 c1 c1 c1 (aK c1 c1 c1 c1))
def Zcu.B:Code:=Tryz.f57.body.getD .skip
def Zcu.rs (r:Zcx×Bool):List CV:=[.agg r.1.ls,oB r.2]
def Zcu (N:Nat) (A0:ZaH) (at_1:Int):Option (Zcx×Bool):= Zbm (Zcb N A0 at_1) fun x1=> if (!x1)=true then some (Zcx.mk (Zak.mk 0 (zC 32 0) (zC 32 0) 0 0 0) (zC 32 0) (-1) 0 (zC 4 0),false) else chk (0≤at_1)<| chk (at_1<(len A0.list))<| Zde (A0.list[Int.toNat at_1]?) Zey fun x2=> some (x2,true)
theorem Zcu.snd {A0:ZaH} {at_1:Int} {r:Zcx×Bool} (h:Zcu N A0 at_1=some r):ZdP zB 57 [.one (L.bx 87 A0.ls),oI at_1] (Zcu.rs r):=fun st=>
 sO Zcu.B Tryz.func57 fun g0 w0 R hE=>by
  unfold Zcu at h;obtain ⟨x1,c1,h1⟩:=Zac h;let o1:List PS:=[rZ,.r [(2,q0 [oB x1])]]
  refine Zbc h1 (fun c2 h2=>?_) (fun c2 h3=>?_)
  ·exact xS fol h2 hE (o1++[cT,rZ]) (aI (Zcb.snd c1) c2)
  obtain ⟨c3,c4,h4⟩:=ck2 h3;obtain ⟨x2,c5,h5⟩:=Zfc h4;exact xS fol h5 hE (o1++[cF,.r [(3,{oe:=A0.ls}),(6,{oe:=x2.ls})]]) (aM (Zcb.snd c1) c2 (eO A0.ls) c3 c4 c5)
def ZbU.B:Code:=Tryz.f67.body.getD .skip
def ZbU.rs (r:Zcx×Bool):List CV:=[.agg r.1.ls,oB r.2]
def ZbU (N:Nat) (A0:ZaD) (at_1:Int):Option (Zcx×Bool):= Zbm (Zcu N A0.store at_1) fun (x1,x2)=> some (x1,x2)
theorem ZbU.snd {A0:ZaD} {at_1:Int} {r:Zcx×Bool} (h:ZbU N A0 at_1=some r):ZdP zB 67 [.one (L.bx 2 A0.ls),oI at_1] (ZbU.rs r):=fun st=>
 sO ZbU.B Tryz.func67 fun g0 w0 R hE=>by
  unfold ZbU at h;obtain ⟨⟨x1,x2⟩,c1,h1⟩:=Zac h;exact xS fol h1 hE [rZ,rZ,cF,.r [(3,{oe:=A0.ls}),(5,q0 [.agg x1.ls,oB x2])]] (aJ eF (eO A0.ls) (Zcu.snd c1))
def ZcB.B:Code:=Tryz.f40.body.getD .skip
def ZcB.rs (r:Bool):List CV:=[oB r]
def ZcB (N:Nat) (A0:ZaS):Option Bool:= if A0.out=true then some true else some (A0.verdict==2)
theorem ZcB.snd {A0:ZaS} {r:Bool} (h:ZcB N A0=some r):ZdP zB 40 [.agg A0.ls] (ZcB.rs r):=fun st=>
 sO ZcB.B Tryz.func40 fun g0 w0 R hE=>by
  unfold ZcB at h;refine Zbc h (fun c1 h1=>?_) (fun c1 h2=>?_)
  ·exact xS fol h1 hE [rZ,.r [(3,wF),(4,wF),(5,wF)]] (aK c1 c1 c1 c1)
  exact xS fol h2 hE [rZ,.r [(6,yF)]] (aK c1 c1 c1 c1)
def ZaL.B:Code:=Tryz.f65.body.getD .skip
def ZaL.rs (r:LL):List CV:=[]
def ZaL.p2 (N:Nat) (c1_:(Int×LL)→Option LL) (i1:Nat) (A4:Int) (A41:ZaS) (st28:LL):Option LL:= Zde (st28[i1]?) Zca fun x42 x43=> chk (List.length (x43++[A41.ls])*16≤140737488355328)<| c1_ (w64 (A4+1),List.set (List.set st28 i1 [zQ x42,L.gone]) i1 [zQ x42,yC true 3 (x43++[A41.ls])])
def ZaL.p1 (N:Nat) (i1:Nat) (c1_:(Int×LL)→Option LL):(Int×LL)→Option LL:=fun (A4,st24)=> Zde (st24[i1]?) Zca fun x25 x26=> Zbm (ZdG N x25 st24) fun (x27,st28)=> if (decide (A4<x27))=true then Zde (st28[i1]?) Zca fun x29 x30=> Zbm x29 fun i31=> Zde (st28[i31]?) Zdp fun x32 x33=> Zbm x32 fun i34=> Zde (st28[i34]?) ZbZ fun x35=> Zbm (ZbU N (ZaD.mk x35 x33) A4) fun (x36,x37)=> if (x36.Ahead != (-1))=true then chk (0≤x36.Ahead)<| chk (x36.Ahead<(len x30))<| Zde (x30[0+(Int.toNat x36.Ahead)]?) Zcz fun x38=> if x38.child=true then ZaL.p2 N c1_ i1 A4 (ZaS.mk 0 false true) st28 else Zbm (ZcB N x38) fun x39=> ZaL.p2 N c1_ i1 A4 (ZaS.mk 0 false x39) st28 else ZaL.p2 N c1_ i1 A4 (ZaS.mk 1 false false) st28 else some st28
def ZaL (N:Nat) (m_0:Option Nat) (st:LL):Option LL:= Zbm m_0 fun i1=> Zde (st[i1]?) Zca fun x2 x3=> loopN (ZaL.p1 N i1) N ((len x3),st)
def ZaL.p2.S (i1:Nat) (A4:Int) (A41:ZaS) (st28:LL):S:=mkS 60 [(0,sP (some i1)),(2,sI A4),(3,sA 3)] [(3,.cells A41.ls)] st28
def ZaL.p1.S (i1:Nat) (A4:Int) (st24:LL):S:=mkS 60 [(0,sP (some i1)),(2,sI A4)] [] st24
theorem ZaL.p2_ok {i1 A4 A41 st28 r c1_ J1} (h:ZaL.p2 N c1_ i1 A4 A41 st28=some r) (hE:En Tryz.f65 g0 w0 (ZaL.rs r) r R) (hc1 : ∀A4 st24,c1_ (A4,st24)=some r→At g0 w0 (ZaL.p1.S i1 A4 st24) J1):At g0 w0 (ZaL.p2.S i1 A4 A41 st28) (XK zB R [cK ZaL.B [1,0,0,1,0,0,1,1],.b 1,cK ZaL.B [1,0,0,1,1],.h J1,.b 0]):=by
 unfold ZaL.p2 at h;obtain ⟨x42,x43,c35,h1⟩:=ZbP h;obtain ⟨c36,h2⟩:=Zbe h1;exact ZjR fol [.d {ds:=[(4,{oc:=[zQ x42,yC true 3 x43]}),(7,{oe:=[zQ x42,yC true 3 x43]}),(10,{oc:=[zQ x42,L.gone],mv:=[57]})],hv:=1216,Hs:=[64,192,1216]},rZ] [0,2] [] (aO c35 c35 z0 (eN (List.length x43)) c35 z0 (eN (1)) (aK c36 (Zar c35 [zQ x42,L.gone]) z0 (eN (List.length (x43++[A41.ls]))))) (hc1 (w64 (A4+1)) (List.set (List.set st28 i1 [zQ x42,L.gone]) i1 [zQ x42,yC true 3 (x43++[A41.ls])]) h2)
theorem ZaL.p1_ok {i1 A4 st24 r c1_ J1} (h:ZaL.p1 N i1 c1_ (A4,st24)=some r) (hE:En Tryz.f65 g0 w0 (ZaL.rs r) r R) (hc1 : ∀A4 st24,c1_ (A4,st24)=some r→At g0 w0 (ZaL.p1.S i1 A4 st24) J1):At g0 w0 (ZaL.p1.S i1 A4 st24) (XK zB R (cK ZaL.B [1,0,0] :: .h J1 :: [.b 0])):=by
 unfold ZaL.p1 at h;obtain ⟨x25,x26,c20,h3⟩:=ZbP h;obtain ⟨⟨x27,st28⟩,c21,h4⟩:=Zac h3;let o1:List PS:=[.r [(4,{oc:=[zQ x25,yC true 3 x26]}),(5,{rs:=[oI x27],st:=st28})]]
 have t1 {Q:Prop} (q:Q):=aJ c20 (ZdG.snd c21) q;refine Zbc h4 (fun c22 h5=>?_) (fun c22 h6=>?_)
 ·obtain ⟨x29,x30,c23,h7⟩:=ZbP h5;obtain ⟨i31,rfl,h8⟩:=Zac h7;obtain ⟨x32,x33,c25,h9⟩:=Zdf h8;obtain ⟨i34,rfl,h10⟩:=Zac h9;obtain ⟨x35,c27,h11⟩:=ZbO h10;obtain ⟨⟨x36,x37⟩,c28,h12⟩:=Zac h11;let o2:List PS:=o1++[cT,rZ,.r [(3,{oc:=[zQ (some i31),yC true 3 x30]}),(5,{rs:=[.agg x36.ls,oB x37],m:=10,cv:=[.one (L.bx 2 (ZaD.ls (ZaD.mk x35 x33)))]})],rZ]
  have t2 {Q:Prop} (q:Q):=t1 (aL c22 c23 (bO 2 c25 ((bC 87 c27 (ZaH.bv x35) (bW bN)):BVs st28 [zQ (some i34),yC true 1 x33] (ZaD.ls (ZaD.mk x35 x33)))) (ZbU.snd c28) q);refine Zbc h12 (fun c29 h13=>?_) (fun c29 h14=>?_)
  ·obtain ⟨c30,c31,h15⟩:=ck2 h13;obtain ⟨x38,c32,h16⟩:=Zcs h15;let o3:List PS:=o2++[cT,.d {ds:=[(3,{oc:=[zQ (some i31),yC true 3 x30]}),(7,{oc:=[zQ (some i31),yC true 3 x30],oe:=x38.ls})],hv:=768,Hs:=[256,768]}]
   have t3 {Q:Prop} (q:Q):=t2 (aO c29 c23 c23 c30 c31 c30 c31 (aL c32 c23 c32 c23 q));refine Zbc h16 (fun c33 h17=>?_) (fun c33 h18=>?_)
   ·exact aqd fol (o3++[.r [(3,wF),(4,wF)],.s 5]) [0,2,3] [3] (t3 (aJ c33 c33 c33)) (ZaL.p2_ok h17 hE hc1)
   obtain ⟨x39,c34,h19⟩:=Zac h18;exact aqd fol (o3++[.r [(4,q1 [oB x39]),(5,yF)],.s 5]) [0,2,3] [3] (t3 (aK c33 c33 (ZcB.snd c34) c33)) (ZaL.p2_ok h19 hE hc1)
  exact aq fol (o2++[cF,rZ,.s 5]) [0,2,3] [3] (t2 c29) (ZaL.p2_ok h14 hE hc1)
 exact xR fol h6 hE (o1++[cF]) (t1 c22)
theorem ZaL.snd {m_0:Option Nat} {st:LL} {r:LL} (h:ZaL N m_0 st=some r):Snd zB 65 [.one (zQ m_0)] st (ZaL.rs r) r:=
 sO ZaL.B Tryz.func65 fun g0 w0 R hE=>by
  unfold ZaL at h;obtain ⟨i1,rfl,h20⟩:=Zac h;obtain ⟨x2,x3,c2,h21⟩:=ZbP h20;exact aq fol [.r [(3,{oc:=[zQ x2,yC true 3 x3]})]] [0,2] [] c2 (At.loop N (At.loopN (fun y:Int×LL=>ZaL.p1.S i1 y.1 y.2) (fun c J hc y h=>ZaL.p1_ok (A4:=y.1) (st24:=y.2) h hE (fun A4 st24=>hc (A4,st24))) N ((len x3),st) h21))
def ZbA.B:Code:=Tryz.f39.body.getD .skip
def ZbA.rs (r:Bool×LL):List CV:=[oB r.1]
def ZbA (N:Nat) (m_0:Option Nat) (at_1:Int) (st:LL):Option (Bool×LL):= if (vJ m_0)=true then some (false,st) else Zbm (ZaL N m_0 st) fun st1=> if (decide (at_1≥0))=true then Zbm m_0 fun i2=> Zde (st1[i2]?) Zca fun x3 x4=> some (decide (at_1<(len x4)),st1) else some (false,st1)
theorem ZbA.snd {m_0:Option Nat} {at_1:Int} {st:LL} {r:Bool×LL} (h:ZbA N m_0 at_1 st=some r):Snd zB 39 [.one (zQ m_0),oI at_1] st (ZbA.rs r) r.2:=
 sO ZbA.B Tryz.func39 fun g0 w0 R hE=>by
  unfold ZbA at h;refine Zbc h (fun c1 h1=>?_) (fun c1 h2=>?_)
  ·exact xT fol h1 hE [rZ,rZ,cT,rZ] c1
  obtain ⟨st1,c2,h3⟩:=Zac h2;let o1:List PS:=[rZ,rZ,cF,.r [(1,{st:=st1})]]
  refine Zbc h3 (fun c3 h4=>?_) (fun c3 h5=>?_)
  ·obtain ⟨i2,rfl,h6⟩:=Zac h4;obtain ⟨x3,x4,c5,h7⟩:=ZbP h6;exact xT fol h7 hE (o1++[.r [(7,{oc:=[zQ x3,yC true 3 x4]})]]) (aO c1 (ZaL.snd c2) c3 c3 c3 c3 c3 (aK c5 c3 c3 c3))
  exact xT fol h5 hE (o1++[.r [(3,wF),(4,wF),(5,wF),(6,wF),(7,wF),(8,wF),(9,wF),(10,yF)]]) (aO c1 (ZaL.snd c2) c3 c3 c3 c3 c3 (aJ c3 c3 c3))
def ZbX.B:Code:=Tryz.f15.body.getD .skip
def ZbX.rs (r:Bool×LL):List CV:=[oB r.1]
def ZbX (N:Nat) (m_0:Option Nat) (at_1:Int) (st:LL):Option (Bool×LL):= Zbm (ZbA N m_0 at_1 st) fun (x1,st2)=> if x1=true then Zbm m_0 fun i3=> Zde (st2[i3]?) Zca fun x4 x5=> chk (0≤at_1)<| chk (at_1<(len x5))<| Zde (x5[0+(Int.toNat at_1)]?) Zcz fun x6=> if x6.child=true then some (true,st2) else Zbm (ZcB N x6) fun x7=> some (x7,st2) else some (false,st2)
theorem ZbX.snd {m_0:Option Nat} {at_1:Int} {st:LL} {r:Bool×LL} (h:ZbX N m_0 at_1 st=some r):Snd zB 15 [.one (zQ m_0),oI at_1] st (ZbX.rs r) r.2:=
 sO ZbX.B Tryz.func15 fun g0 w0 R hE=>by
  unfold ZbX at h;obtain ⟨⟨x1,st2⟩,c1,h1⟩:=Zac h;have t1 {Q:Prop} (q:Q):=aI (ZbA.snd c1) q;refine Zbc h1 (fun c2 h2=>?_) (fun c2 h3=>?_)
  ·obtain ⟨i3,rfl,h4⟩:=Zac h2;obtain ⟨x4,x5,c4,h5⟩:=ZbP h4;obtain ⟨c5,c6,h6⟩:=ck2 h5;obtain ⟨x6,c7,h7⟩:=Zcs h6;have t2 {Q:Prop} (q:Q):=t1 (aO c2 c2 c2 c2 c4 c2 c2 (aO c5 c6 c2 c2 c7 c4 c2 q));refine Zbc h7 (fun c8 h8=>?_) (fun c8 h9=>?_)
   ·exact xT fol h8 hE [rZ,.r [(2,{rs:=[oB x1],st:=st2}),(7,{oc:=[zQ x4,yC true 3 x5]}),(11,{oc:=[zQ x4,yC true 3 x5],oe:=x6.ls}),(13,wF),(14,wF),(15,wF),(16,wF),(17,wF),(18,wF),(19,wF),(20,wF)]] (t2 (aO c8 c8 c8 c8 c8 c8 c8 (aK c8 c2 c8 c2)))
   obtain ⟨x7,c9,h10⟩:=Zac h9;exact xT fol h10 hE [rZ,.r [(2,{rs:=[oB x1],st:=st2}),(7,{oc:=[zQ x4,yC true 3 x5]}),(11,{oc:=[zQ x4,yC true 3 x5],oe:=x6.ls}),(16,{oc:=[zQ x4,yC true 3 x5]}),(19,{oc:=[zQ x4,yC true 3 x5],oe:=x6.ls}),(20,q1 [oB x7]),(21,yF)]] (t2 (aO c8 c8 c8 c8 c4 c8 c8 (aO c5 c6 c8 c7 c4 c8 (ZcB.snd c9) (aJ c2 c8 c2))))
  exact xT fol h3 hE [rZ,.r [(2,{rs:=[oB x1],st:=st2}),(4,wF),(5,wF),(6,wF),(7,wF),(8,wF),(9,wF),(10,wF),(11,wF),(12,wF),(21,wF),(22,yF)]] (t1 (aO c2 c2 c2 c2 c2 c2 c2 (aK c2 c2 c2 c2)))
def Zeo.B:Code:=Tryz.f67.body.getD .skip
def Zeo.rs (r:Zcx×Bool×LL):List CV:=[.agg r.1.ls,oB r.2.1]
def Zeo (N:Nat) (A0:Option Nat) (at_1:Int) (st:LL):Option (Zcx×Bool×LL):= if (vJ A0)=true then some (Zcx.mk (Zak.mk 0 (zC 32 0) (zC 32 0) 0 0 0) (zC 32 0) (-1) 0 (zC 4 0),false,st) else Zbm A0 fun i1=> Zde (st[i1]?) Zdp fun x2 x3=> Zbm x2 fun i4=> Zde (st[i4]?) ZbZ fun x5=> Zbm (Zcu N x5 at_1) fun (x6,x7)=> some (x6,x7,st)
theorem Zeo.snd {A0:Option Nat} {at_1:Int} {st:LL} {r:Zcx×Bool×LL} (h:Zeo N A0 at_1 st=some r):Snd zB 67 [.one (zQ A0),oI at_1] st (Zeo.rs r) r.2.2:=
 sO Zeo.B Tryz.func67 fun g0 w0 R hE=>by
  unfold Zeo at h;refine Zbc h (fun c1 h1=>?_) (fun c1 h2=>?_)
  ·exact xU fol h1 hE [rZ,rZ,cT,rZ] c1
  obtain ⟨i1,rfl,h3⟩:=Zac h2;obtain ⟨x2,x3,c3,h4⟩:=Zdf h3;obtain ⟨i4,rfl,h5⟩:=Zac h4;obtain ⟨x5,c5,h6⟩:=ZbO h5;obtain ⟨⟨x6,x7⟩,c6,h7⟩:=Zac h6;exact xU fol h7 hE [rZ,rZ,cF,.r [(3,{oc:=[zQ (some i4),yC true 1 x3]}),(5,{rs:=[.agg x6.ls,oB x7],m:=10,cv:=[.one (L.bx 87 x5.ls)]})]] (aK c1 c3 (bO 87 c5 (ZaH.bv x5)) (Zcu.snd c6))
end Go.Dn.F
end
