import Derived.Test.YthiibbfaabjpgaaGreatDoorFm
import Derived.Test.YthiibbfaabjpgaaGreatDoorMv
set_option linter.all false
open Array renaming toList->qK
open ByteArray renaming size->yC,mk->wL,data->rQ
open Go.Dn.L renaming int->zK,arr->zL,bx->wE,sl->vQ,bool->wD,own->yI,ptr->zN,str->vO
open Go.Proofs.Tryz renaming prog->zC
open Int renaming tdiv->zT,tmod->yB,toNat->zD,natCast_nonneg->vP
open List renaming set->zR,getD->zF,replicate->zB,length->zG,take->xY,drop->wY,map->vN
open Option renaming isNone->xX
noncomputable section
set_option maxRecDepth 100000
namespace Go.Dn.F
open Go.Proofs
variable {N:Nat} {g0:G} {w0:World} {R:Exit->Act->World->Prop}
structure ZcQ where
  Height:Int
  Version:Int
def ZcQ.ls (x:ZcQ):List L:=[zK .i64 x.Height,zK .i64 x.Version]
def Zfi {α:Type} (l:List L) (k:ZcQ->Option α):Option α:=match l with | [zK .i64 x0,zK .i64 x1]=>k ⟨x0,x1⟩ | _=>none
def Zfn {α:Type} {o:Option (List L)} {k:ZcQ->Option α} {r:α} (h:ZcO o Zfi k=some r) : ∃x:ZcQ,o=some x.ls/\k x=some r:=by
  obtain ⟨l,e,k1⟩:=Zab h;subst e;unfold Zfi at k1;split at k1
  · exact ⟨_,rfl,k1⟩
  cases k1
@[simp] def ZfI {α:Type} (x:ZcQ) (k:ZcQ->Option α):Zfi x.ls k=k x:=rfl
def ZcQ.bv {st:LL} (x:ZcQ):BVs st x.ls x.ls:=(bP (bP bN))
structure Zcl where
  Height:Int
  Id:List Int
def Zcl.ls (x:Zcl):List L:=[zK .i64 x.Height,zL .u8 32 x.Id]
def ZeV {α:Type} (l:List L) (k:Zcl->Option α):Option α:=match l with | [zK .i64 x0,zL .u8 32 x1]=>k ⟨x0,x1⟩ | _=>none
def Zfd {α:Type} {o:Option (List L)} {k:Zcl->Option α} {r:α} (h:ZcO o ZeV k=some r) : ∃x:Zcl,o=some x.ls/\k x=some r:=by
  obtain ⟨l,e,k1⟩:=Zab h;subst e;unfold ZeV at k1;split at k1
  · exact ⟨_,rfl,k1⟩
  cases k1
@[simp] def Zfo {α:Type} (x:Zcl) (k:Zcl->Option α):ZeV x.ls k=k x:=rfl
def Zcl.bv {st:LL} (x:Zcl):BVs st x.ls x.ls:=(bP (bP bN))
structure ZbM where
  tree:Zat
  list:LL
def ZbM.ls (x:ZbM):List L:=[wE 2 x.tree.ls,vQ 1 x.list]
structure Zjd where
  tree:Zat
  marks:ZjE
  heads:ZbM
  active:LL
def Zjd.ls (x:Zjd):List L:=[wE 2 x.tree.ls,wE 2 x.marks.ls,wE 2 x.heads.ls,vQ 1 x.active]
structure ZbH where
  Kind:Int
  Header:Zal
  Now:Int
  N:Int
  Right:Bool
def ZbH.ls (x:ZbH):List L:=[zK .i64 x.Kind,zK .i64 x.Header.Version,zL .u8 32 x.Header.Prev,zL .u8 32 x.Header.Root,zK .i64 x.Header.Time,zK .i64 x.Header.Bits,zK .i64 x.Header.Nonce,zK .i64 x.Now,zK .i64 x.N,wD x.Right]
def Zed {α:Type} (l:List L) (k:ZbH->Option α):Option α:=match l with | [zK .i64 x0,zK .i64 x1,zL .u8 32 x2,zL .u8 32 x3,zK .i64 x4,zK .i64 x5,zK .i64 x6,zK .i64 x7,zK .i64 x8,wD x9]=>k ⟨x0,⟨x1,x2,x3,x4,x5,x6⟩,x7,x8,x9⟩ | _=>none
def ZfS {α:Type} {o:Option (List L)} {k:ZbH->Option α} {r:α} (h:ZcO o Zed k=some r) : ∃x:ZbH,o=some x.ls/\k x=some r:=by
  obtain ⟨l,e,k1⟩:=Zab h;subst e;unfold Zed at k1;split at k1
  · exact ⟨_,rfl,k1⟩
  cases k1
@[simp] def ZfV {α:Type} (x:ZbH) (k:ZbH->Option α):Zed x.ls k=k x:=rfl
def ZbH.bv {st:LL} (x:ZbH):BVs st x.ls x.ls:=(bP (bP (bP (bP (bP (bP (bP (bP (bP (bP bN))))))))))
structure Zad where
  Rules:Zae
  List_:LL
  Ids:LL
  Ahead:LL
  Works:LL
  Room:Int
def Zad.lo (x:Zad):List L:=[zK .i64 x.Rules.Limit,zK .i64 x.Rules.Interval,zK .i64 x.Rules.Spacing,zK .i64 x.Rules.Future,wD x.Rules.Easy,vQ 2 x.Rules.Gates,vQ 33 x.Rules.Checks,zL .u64 4 x.Rules.MinWork,zL .u64 4 x.Rules.Margin,zK .i64 x.Rules.Genesis.Version,zL .u8 32 x.Rules.Genesis.Prev,zL .u8 32 x.Rules.Genesis.Root,zK .i64 x.Rules.Genesis.Time,zK .i64 x.Rules.Genesis.Bits,zK .i64 x.Rules.Genesis.Nonce,yI false 68 x.List_,yI false 32 x.Ids,yI false 1 x.Ahead,yI false 4 x.Works,zK .i64 x.Room]
def ZbS {α:Type} (l:List L) (k:Zad->Option α):Option α:=match l with | [zK .i64 x0,zK .i64 x1,zK .i64 x2,zK .i64 x3,wD x4,vQ 2 x5,vQ 33 x6,zL .u64 4 x7,zL .u64 4 x8,zK .i64 x9,zL .u8 32 x10,zL .u8 32 x11,zK .i64 x12,zK .i64 x13,zK .i64 x14,yI false 68 x15,yI false 32 x16,yI false 1 x17,yI false 4 x18,zK .i64 x19]=>k ⟨⟨x0,x1,x2,x3,x4,x5,x6,x7,x8,⟨x9,x10,x11,x12,x13,x14⟩⟩,x15,x16,x17,x18,x19⟩ | _=>none
def Zcg {α:Type} {o:Option (List L)} {k:Zad->Option α} {r:α} (h:ZcO o ZbS k=some r) : ∃x:Zad,o=some x.lo/\k x=some r:=by
  obtain ⟨l,e,k1⟩:=Zab h;subst e;unfold ZbS at k1;split at k1
  · exact ⟨_,rfl,k1⟩
  cases k1
@[simp] def Zcn {α:Type} (x:Zad) (k:Zad->Option α):ZbS x.lo k=k x:=rfl
def Zad.ls (x:Zad):List L:=[zK .i64 x.Rules.Limit,zK .i64 x.Rules.Interval,zK .i64 x.Rules.Spacing,zK .i64 x.Rules.Future,wD x.Rules.Easy,vQ 2 x.Rules.Gates,vQ 33 x.Rules.Checks,zL .u64 4 x.Rules.MinWork,zL .u64 4 x.Rules.Margin,zK .i64 x.Rules.Genesis.Version,zL .u8 32 x.Rules.Genesis.Prev,zL .u8 32 x.Rules.Genesis.Root,zK .i64 x.Rules.Genesis.Time,zK .i64 x.Rules.Genesis.Bits,zK .i64 x.Rules.Genesis.Nonce,vQ 68 x.List_,vQ 32 x.Ids,vQ 1 x.Ahead,vQ 4 x.Works,zK .i64 x.Room]
def Zad.bv {st:LL} (x:Zad):BVs st x.lo x.ls:=(bP (bP (bP (bP (bP (bS (bS (bP (bP (bP (bP (bP (bP (bP (bP (bW (bW (bW (bW (bP bN))))))))))))))))))))
structure ZbD where
  Said:List Int
  Out:List Bool
def ZbD.ls (x:ZbD):List L:=[zL .i64 600 x.Said,L.brr 600 x.Out]
def Zdz {α:Type} (l:List L) (k:ZbD->Option α):Option α:=match l with | [zL .i64 600 x0,L.brr 600 x1]=>k ⟨x0,x1⟩ | _=>none
def ZfB {α:Type} {o:Option (List L)} {k:ZbD->Option α} {r:α} (h:ZcO o Zdz k=some r) : ∃x:ZbD,o=some x.ls/\k x=some r:=by
  obtain ⟨l,e,k1⟩:=Zab h;subst e;unfold Zdz at k1;split at k1
  · exact ⟨_,rfl,k1⟩
  cases k1
@[simp] def ZmN {α:Type} (x:ZbD) (k:ZbD->Option α):Zdz x.ls k=k x:=rfl
def ZbD.bv {st:LL} (x:ZbD):BVs st x.ls x.ls:=(bP (bP bN))
structure ZcC where
  A:Zad
  M:ZbD
  Active:LL
def ZcC.ls (x:ZcC):List L:=[wE 88 x.A.ls,wE 1200 x.M.ls,vQ 1 x.Active]
structure ZgW where
  c:Zjd
  m:ZcC
def ZgW.ls (x:ZgW):List L:=[wE 4 x.c.ls,wE 3 x.m.ls]
def ZgN {α:Type} (l:List L) (k:(List Int)->Option α):Option α:=match l with | [zL .u64 4 x0]=>k x0 | _=>none
def Zin {α:Type} {o:Option (List L)} {k:(List Int)->Option α} {r:α} (h:ZcO o ZgN k=some r) : ∃x0,o=some [zL .u64 4 x0]/\k x0=some r:=by
  obtain ⟨l,e,k1⟩:=Zab h;subst e;unfold ZgN at k1;split at k1
  · exact ⟨_,rfl,k1⟩
  cases k1
@[simp] def Zqq {α:Type} (x0:List Int) (k:(List Int)->Option α):ZgN [zL .u64 4 x0] k=k x0:=rfl
def Zct {α:Type} (l:List L) (k:(Option Nat)->(Option Nat)->(Option Nat)->LL->Option α):Option α:=match l with | [zN x0,zN x1,zN x2,yI true 1 x3]=>k x0 x1 x2 x3 | _=>none
def Zcj {α:Type} {o:Option (List L)} {k:(Option Nat)->(Option Nat)->(Option Nat)->LL->Option α} {r:α} (h:ZcO o Zct k=some r) : ∃x0 x1 x2 x3,o=some [zN x0,zN x1,zN x2,yI true 1 x3]/\k x0 x1 x2 x3=some r:=by
  obtain ⟨l,e,k1⟩:=Zab h;subst e;unfold Zct at k1;split at k1
  · exact ⟨_,_,_,_,rfl,k1⟩
  cases k1
@[simp] def ZrO {α:Type} (x0:Option Nat) (x1:Option Nat) (x2:Option Nat) (x3:LL) (k:(Option Nat)->(Option Nat)->(Option Nat)->LL->Option α):Zct [zN x0,zN x1,zN x2,yI true 1 x3] k=k x0 x1 x2 x3:=rfl
def Zbh {α:Type} (l:List L) (k:(Option Nat)->(Option Nat)->Option α):Option α:=match l with | [zN x0,zN x1]=>k x0 x1 | _=>none
def Zbl {α:Type} {o:Option (List L)} {k:(Option Nat)->(Option Nat)->Option α} {r:α} (h:ZcO o Zbh k=some r) : ∃x0 x1,o=some [zN x0,zN x1]/\k x0 x1=some r:=by
  obtain ⟨l,e,k1⟩:=Zab h;subst e;unfold Zbh at k1;split at k1
  · exact ⟨_,_,rfl,k1⟩
  cases k1
@[simp] def Zna {α:Type} (x0:Option Nat) (x1:Option Nat) (k:(Option Nat)->(Option Nat)->Option α):Zbh [zN x0,zN x1] k=k x0 x1:=rfl
def Zcs {α:Type} (l:List L) (k:(Option Nat)->(Option Nat)->LL->Option α):Option α:=match l with | [zN x0,zN x1,yI true 1 x2]=>k x0 x1 x2 | _=>none
def Zde {α:Type} {o:Option (List L)} {k:(Option Nat)->(Option Nat)->LL->Option α} {r:α} (h:ZcO o Zcs k=some r) : ∃x0 x1 x2,o=some [zN x0,zN x1,yI true 1 x2]/\k x0 x1 x2=some r:=by
  obtain ⟨l,e,k1⟩:=Zab h;subst e;unfold Zcs at k1;split at k1
  · exact ⟨_,_,_,rfl,k1⟩
  cases k1
@[simp] def Zmq {α:Type} (x0:Option Nat) (x1:Option Nat) (x2:LL) (k:(Option Nat)->(Option Nat)->LL->Option α):Zcs [zN x0,zN x1,yI true 1 x2] k=k x0 x1 x2:=rfl
def slices_Insert_int.snd:InsC zC 76:=slices_Insert_int.holds
def slices_Sort_int.snd:SortC zC 183:=slices_Sort_int.holds
def ZeH.s {x y z:Int} {r:Int×Int} (h:ZeH N x y z=some r):ExtI zC 184 [(.u64,x),(.u64,y),(.u64,z)] [(.u64,r.1),(.u64,r.2)]:=Znm Tryz.func184 aQ aQ aQ aQ h
def ZfQ.s {x y z:Int} {r:Int×Int} (h:ZfQ N x y z=some r):ExtI zC 193 [(.u64,x),(.u64,y),(.u64,z)] [(.u64,r.1),(.u64,r.2)]:=Znl Tryz.func193 aQ aQ aQ aQ h
def ZdX.B:Code:=Tryz.f167.body.getD .skip
def ZdX.rs (r:(List Int)):List CV:=[.agg [zL .u64 4 r]]
def ZdX (N:Nat) (A0:Int):Option (List Int):= some [A0,0,0,0]
def ZdX.s {A0:Int} {r:(List Int)} (h:ZdX N A0=some r):ZdW zC 167 [.one (zK .u64 A0)] (ZdX.rs r):=fun st=>
 sO ZdX.B Tryz.func167 fun g0 w0 R hE=>by
  unfold ZdX at h;exact xS h hE [rZ,.r [(1,{m:=3})]] trivial
def Zbu.B:Code:=Tryz.f168.body.getD .skip
def Zbu.rs (r:(List Int)):List CV:=[.agg [zL .u64 4 r]]
def Zbu.p2 (N:Nat) (c1_:(Int×(List Int))->Option (List Int)) (F1 v1:Int) (A0_0 A4:List Int):Option (List Int):= c1_ (w64 (v1+1),A4)
def Zbu.p1 (N:Nat) (F1:Int) (A0_0:List Int) (c1_:(Int×(List Int))->Option (List Int)):(Int×(List Int))->Option (List Int):=fun (v1,A3)=> if (decide (v1<(w64 (4-(w64 (zT (if (0:Int)>F1 then 0 else F1) 64))))))=true then chk (0<=(w64 (v1+(w64 (zT (if (0:Int)>F1 then 0 else F1) 64)))))<| chk ((w64 (v1+(w64 (zT (if (0:Int)>F1 then 0 else F1) 64))))<4)<| chk (0<=(yB (if (0:Int)>F1 then 0 else F1) 64))<| chk (0<=v1)<| chk (v1<4)<| if (decide ((w64 ((w64 (v1+(w64 (zT (if (0:Int)>F1 then 0 else F1) 64))))+1))<4))=true then chk (0<=(w64 ((w64 (v1+(w64 (zT (if (0:Int)>F1 then 0 else F1) 64))))+1)))<| chk (0<=(w64 (64-(yB (if (0:Int)>F1 then 0 else F1) 64))))<| Zbu.p2 N c1_ F1 v1 A0_0 (zR (zR A3 (zD v1) (Zbx .u64 (zF A0_0 (zD (w64 (v1+(w64 (zT (if (0:Int)>F1 then 0 else F1) 64))))) 0) (yB (if (0:Int)>F1 then 0 else F1) 64))) (zD v1) (ZaI .or .u64 (zF (zR A3 (zD v1) (Zbx .u64 (zF A0_0 (zD (w64 (v1+(w64 (zT (if (0:Int)>F1 then 0 else F1) 64))))) 0) (yB (if (0:Int)>F1 then 0 else F1) 64))) (zD v1) 0) (ZbP .u64 (zF A0_0 (zD (w64 ((w64 (v1+(w64 (zT (if (0:Int)>F1 then 0 else F1) 64))))+1))) 0) (w64 (64-(yB (if (0:Int)>F1 then 0 else F1) 64)))))) else Zbu.p2 N c1_ F1 v1 A0_0 (zR A3 (zD v1) (Zbx .u64 (zF A0_0 (zD (w64 (v1+(w64 (zT (if (0:Int)>F1 then 0 else F1) 64))))) 0) (yB (if (0:Int)>F1 then 0 else F1) 64))) else some A3
def Zbu (N:Nat) (A0_0:List Int) (F1:Int):Option (List Int):= if (decide (F1>=256))=true then some (zB 4 0) else loopN (Zbu.p1 N F1 A0_0) N (0,zB 4 0)
def Zbu.S2 (F1 v1:Int) (A0_0 A4:List Int) (st:LL):S:=mkS 53 [(2,sA 2),(4,sA 4),(5,sA 5),(6,sI (w64 (zT (if (0:Int)>F1 then 0 else F1) 64))),(7,sI (yB (if (0:Int)>F1 then 0 else F1) 64)),(19,sI (w64 (4-(w64 (zT (if (0:Int)>F1 then 0 else F1) 64))))),(20,sI v1)] [(2,.cells [zL .u64 4 A0_0]),(4,.cells [zL .u64 4 (zB 4 0)]),(5,.cells [zL .u64 4 A4])] st
def Zbu.S1 (F1 v1:Int) (A0_0 A3:List Int) (st:LL):S:=mkS 53 [(2,sA 2),(4,sA 4),(5,sA 5),(6,sI (w64 (zT (if (0:Int)>F1 then 0 else F1) 64))),(7,sI (yB (if (0:Int)>F1 then 0 else F1) 64)),(19,sI (w64 (4-(w64 (zT (if (0:Int)>F1 then 0 else F1) 64))))),(20,sI v1)] [(2,.cells [zL .u64 4 A0_0]),(4,.cells [zL .u64 4 (zB 4 0)]),(5,.cells [zL .u64 4 A3])] st
def Zbu.k2 {F1 v1 A0_0 A4 st r c1_ J1} (h:Zbu.p2 N c1_ F1 v1 A0_0 A4=some r) (hE:En Tryz.f168 g0 w0 (Zbu.rs r) st R) (hc1 : ∀v1 A3,c1_ (v1,A3)=some r->At g0 w0 (Zbu.S1 F1 v1 A0_0 A3 st) J1):At g0 w0 (Zbu.S2 F1 v1 A0_0 A4 st) (XK zC R [cK Zbu.B [1,1,1,1,0,1,0,0,1,1,1],.h J1,.b 0,cK Zbu.B [1,1,1,1,1]]):=by
 unfold Zbu.p2 at h;exact an [rZ] trivial (hc1 (w64 (v1+1)) A4 h)
def Zbu.k1 {F1 v1 A0_0 A3 st r c1_ J1} (h:Zbu.p1 N F1 A0_0 c1_ (v1,A3)=some r) (hE:En Tryz.f168 g0 w0 (Zbu.rs r) st R) (hc1 : ∀v1 A3,c1_ (v1,A3)=some r->At g0 w0 (Zbu.S1 F1 v1 A0_0 A3 st) J1):At g0 w0 (Zbu.S1 F1 v1 A0_0 A3 st) (XK zC R (cK Zbu.B [1,1,1,1,0,1,0,0] :: .h J1 :: [.b 0,cK Zbu.B [1,1,1,1,1]])):=by
 unfold Zbu.p1 at h;refine Zbd h (fun c11 h=>?_) (fun c11 h=>?_)
 ·obtain ⟨c12,c13,c14,c15,c16,h⟩:=ck5 h;let o1:List PS:=[rZ,cT,rZ,rZ,rZ]
  refine Zbd h (fun c17 h=>?_) (fun c17 h=>?_)
  ·obtain ⟨c18,c19,h⟩:=ck2 h;exact aqd (o1++[cT,.d {ds:=[],hv:=16384,Hs:=[16384]},.s 4]) (aO c11 c12 c13 c14 c15 c16 c17 (aN c15 c16 c18 (oD c17) c19 c15 c16)) (Zbu.k2 h hE hc1)
  exact aq (o1++[cF,.s 4]) (aN c11 c12 c13 c14 c15 c16 c17) (Zbu.k2 h hE hc1)
 exact xS h hE [rZ,cF,rZ] c11
def Zbu.s {A0_0:List Int} {F1:Int} {r:(List Int)} (h:Zbu N A0_0 F1=some r):ZdW zC 168 [.agg [zL .u64 4 A0_0],oI F1] (Zbu.rs r):=fun st=>
 sO Zbu.B Tryz.func168 fun g0 w0 R hE=>by
  unfold Zbu at h;exact Zbd h (fun c1 h=>xS h hE [rZ,rZ,cT,rZ] c1) fun c1 h=>aq [rZ,rZ,cF,rZ,rZ,rZ] (aJ c1 (neI 64) (neI 64)) (At.loop N (At.loopN (fun y:Int×(List Int)=>Zbu.S1 F1 y.1 A0_0 y.2 st) (fun c J hc y h=>Zbu.k1 (v1:=y.1) (A3:=y.2) h hE (fun v1 A3=>hc (v1,A3))) N (0,zB 4 0) h))
def ZbY.B:Code:=Tryz.f169.body.getD .skip
def ZbY.rs (r:(List Int)):List CV:=[.agg [zL .u64 4 r]]
def ZbY.p2 (N:Nat) (c1_:(Int×(List Int))->Option (List Int)) (F1 A1:Int) (A0_0 A4:List Int):Option (List Int):= c1_ (w64 (A1+1),A4)
def ZbY.p1 (N:Nat) (F1:Int) (A0_0:List Int) (c1_:(Int×(List Int))->Option (List Int)):(Int×(List Int))->Option (List Int):=fun (A1,A3)=> if (decide (A1<4))=true then chk (0<=(w64 (A1-(w64 (zT (if (0:Int)>F1 then 0 else F1) 64)))))<| chk ((w64 (A1-(w64 (zT (if (0:Int)>F1 then 0 else F1) 64))))<4)<| chk (0<=(yB (if (0:Int)>F1 then 0 else F1) 64))<| chk (0<=A1)<| if (decide (A1>(w64 (zT (if (0:Int)>F1 then 0 else F1) 64))))=true then chk (0<=(w64 ((w64 (A1-(w64 (zT (if (0:Int)>F1 then 0 else F1) 64))))-1)))<| chk ((w64 ((w64 (A1-(w64 (zT (if (0:Int)>F1 then 0 else F1) 64))))-1))<4)<| chk (0<=(w64 (64-(yB (if (0:Int)>F1 then 0 else F1) 64))))<| ZbY.p2 N c1_ F1 A1 A0_0 (zR (zR A3 (zD A1) (ZbP .u64 (zF A0_0 (zD (w64 (A1-(w64 (zT (if (0:Int)>F1 then 0 else F1) 64))))) 0) (yB (if (0:Int)>F1 then 0 else F1) 64))) (zD A1) (ZaI .or .u64 (zF (zR A3 (zD A1) (ZbP .u64 (zF A0_0 (zD (w64 (A1-(w64 (zT (if (0:Int)>F1 then 0 else F1) 64))))) 0) (yB (if (0:Int)>F1 then 0 else F1) 64))) (zD A1) 0) (Zbx .u64 (zF A0_0 (zD (w64 ((w64 (A1-(w64 (zT (if (0:Int)>F1 then 0 else F1) 64))))-1))) 0) (w64 (64-(yB (if (0:Int)>F1 then 0 else F1) 64)))))) else ZbY.p2 N c1_ F1 A1 A0_0 (zR A3 (zD A1) (ZbP .u64 (zF A0_0 (zD (w64 (A1-(w64 (zT (if (0:Int)>F1 then 0 else F1) 64))))) 0) (yB (if (0:Int)>F1 then 0 else F1) 64))) else some A3
def ZbY (N:Nat) (A0_0:List Int) (F1:Int):Option (List Int):= if (decide (F1>=256))=true then some (zB 4 0) else loopN (ZbY.p1 N F1 A0_0) N (w64 (zT (if (0:Int)>F1 then 0 else F1) 64),zB 4 0)
def ZbY.S2 (F1 A1:Int) (A0_0 A4:List Int) (st:LL):S:=mkS 50 [(2,sA 2),(4,sA 4),(5,sA 5),(6,sI (w64 (zT (if (0:Int)>F1 then 0 else F1) 64))),(7,sI (yB (if (0:Int)>F1 then 0 else F1) 64)),(8,sI A1)] [(2,.cells [zL .u64 4 A0_0]),(4,.cells [zL .u64 4 (zB 4 0)]),(5,.cells [zL .u64 4 A4])] st
def ZbY.S1 (F1 A1:Int) (A0_0 A3:List Int) (st:LL):S:=mkS 50 [(2,sA 2),(4,sA 4),(5,sA 5),(6,sI (w64 (zT (if (0:Int)>F1 then 0 else F1) 64))),(7,sI (yB (if (0:Int)>F1 then 0 else F1) 64)),(8,sI A1)] [(2,.cells [zL .u64 4 A0_0]),(4,.cells [zL .u64 4 (zB 4 0)]),(5,.cells [zL .u64 4 A3])] st
def ZbY.k2 {F1 A1 A0_0 A4 st r c1_ J1} (h:ZbY.p2 N c1_ F1 A1 A0_0 A4=some r) (hE:En Tryz.f169 g0 w0 (ZbY.rs r) st R) (hc1 : ∀A1 A3,c1_ (A1,A3)=some r->At g0 w0 (ZbY.S1 F1 A1 A0_0 A3 st) J1):At g0 w0 (ZbY.S2 F1 A1 A0_0 A4 st) (XK zC R [cK ZbY.B [1,1,1,1,0,1,0,0,1,1],.h J1,.b 0,cK ZbY.B [1,1,1,1,1]]):=by
 unfold ZbY.p2 at h;exact an [rZ] trivial (hc1 (w64 (A1+1)) A4 h)
def ZbY.k1 {F1 A1 A0_0 A3 st r c1_ J1} (h:ZbY.p1 N F1 A0_0 c1_ (A1,A3)=some r) (hE:En Tryz.f169 g0 w0 (ZbY.rs r) st R) (hc1 : ∀A1 A3,c1_ (A1,A3)=some r->At g0 w0 (ZbY.S1 F1 A1 A0_0 A3 st) J1):At g0 w0 (ZbY.S1 F1 A1 A0_0 A3 st) (XK zC R (cK ZbY.B [1,1,1,1,0,1,0,0] :: .h J1 :: [.b 0,cK ZbY.B [1,1,1,1,1]])):=by
 unfold ZbY.p1 at h;refine Zbd h (fun c11 h=>?_) (fun c11 h=>?_)
 ·obtain ⟨c12,c13,c14,c15,h⟩:=ck4 h;refine Zbd h (fun c16 h=>?_) (fun c16 h=>?_)
  ·obtain ⟨c17,c18,c19,h⟩:=ck3 h;exact aqd [rZ,cT,rZ,rZ,cT,.d {ds:=[],hv:=16384,Hs:=[16384]},.s 4] (aO c11 c12 c13 c14 c15 (oD c11) c16 (aN c15 (oD c11) c17 c18 c19 c15 (oD c11))) (ZbY.k2 h hE hc1)
  exact aq [rZ,cT,rZ,rZ,cF,.s 4] (aN c11 c12 c13 c14 c15 (oD c11) c16) (ZbY.k2 h hE hc1)
 exact xS h hE [rZ,cF,rZ] c11
def ZbY.s {A0_0:List Int} {F1:Int} {r:(List Int)} (h:ZbY N A0_0 F1=some r):ZdW zC 169 [.agg [zL .u64 4 A0_0],oI F1] (ZbY.rs r):=fun st=>
 sO ZbY.B Tryz.func169 fun g0 w0 R hE=>by
  unfold ZbY at h;exact Zbd h (fun c1 h=>xS h hE [rZ,rZ,cT,rZ] c1) fun c1 h=>aq [rZ,rZ,cF,rZ,rZ,rZ] (aJ c1 (neI 64) (neI 64)) (At.loop N (At.loopN (fun y:Int×(List Int)=>ZbY.S1 F1 y.1 A0_0 y.2 st) (fun c J hc y h=>ZbY.k1 (A1:=y.1) (A3:=y.2) h hE (fun A1 A3=>hc (A1,A3))) N (w64 (zT (if (0:Int)>F1 then 0 else F1) 64),zB 4 0) h))
def ZaR.B:Code:=Tryz.f152.body.getD .skip
def ZaR.rs (r:(List Int)×Bool×Bool):List CV:=[.agg [zL .u64 4 r.1],oB r.2.1,oB r.2.2]
def ZaR.p2 (N:Nat) (A0:Int) (A6:Bool) (A5:List Int):Option ((List Int)×Bool×Bool):= if ((ZaI .and .i64 A0 8388607) != 0)=true then if (decide ((Zbx .i64 A0 24)>34))=true then some (A5,A6,true) else if (decide ((ZaI .and .i64 A0 8388607)>255))=true then if (decide ((Zbx .i64 A0 24)>33))=true then some (A5,A6,true) else if (decide ((ZaI .and .i64 A0 8388607)>65535))=true then some (A5,A6,decide ((Zbx .i64 A0 24)>32)) else some (A5,A6,false) else if (decide ((ZaI .and .i64 A0 8388607)>65535))=true then some (A5,A6,decide ((Zbx .i64 A0 24)>32)) else some (A5,A6,false) else some (A5,A6,false)
def ZaR.p1 (N:Nat) (A0:Int) (A5:List Int):Option ((List Int)×Bool×Bool):= if ((ZaI .and .i64 A0 8388607) != 0)=true then ZaR.p2 N A0 ((ZaI .and .i64 A0 8388608) != 0) A5 else ZaR.p2 N A0 false A5
def ZaR (N:Nat) (A0:Int):Option ((List Int)×Bool×Bool):= Zbb (ZdV N A0) fun x1=> if (!x1)=true then some (zB 4 0,false,false) else Zbb (ZdX N (v64 (ZaI .and .i64 A0 8388607))) fun x2=> if (decide ((Zbx .i64 A0 24)<=3))=true then Zbb (Zbu N x2 (w64 (8*(w64 (3-(Zbx .i64 A0 24)))))) fun x3=> ZaR.p1 N A0 x3 else Zbb (ZbY N x2 (w64 (8*(w64 ((Zbx .i64 A0 24)-3))))) fun x4=> ZaR.p1 N A0 x4
def ZaR.S2 (A0:Int) (A6:Bool) (A5:List Int) (st:LL):S:=mkS 65 [(2,sA 2),(5,sI (Zbx .i64 A0 24)),(6,sI (ZaI .and .i64 A0 8388607)),(7,sA 7),(8,.one (.l (wD A6)))] [(2,.cells [zL .u64 4 (zB 4 0)]),(7,.cells [zL .u64 4 A5])] st
def ZaR.S1 (A0:Int) (A5:List Int) (st:LL):S:=mkS 65 [(0,sI A0),(2,sA 2),(5,sI (Zbx .i64 A0 24)),(6,sI (ZaI .and .i64 A0 8388607)),(7,sA 7)] [(2,.cells [zL .u64 4 (zB 4 0)]),(7,.cells [zL .u64 4 A5])] st
def ZaR.k2 {A0 A6 A5 st r} (h:ZaR.p2 N A0 A6 A5=some r) (hE:En Tryz.f152 g0 w0 (ZaR.rs r) st R):At g0 w0 (ZaR.S2 A0 A6 A5 st) (XK zC R [cK ZaR.B [1,1,1,1,1,1]]):=by
 unfold ZaR.p2 at h;refine Zbd h (fun c8 h=>?_) (fun c8 h=>?_)
 ·have t1 {Q:Prop} (q:Q):=aK c8 c8 c8 q;refine Zbd h (fun c9 h=>xS h hE [.r [(6,wF),(7,wF),(8,wF),(11,wF),(14,wF),(15,wF),(16,wF),(19,wF)],rZ] (t1 (aO c9 c9 c9 c9 c8 c9 c8 (aN eT eT eT eT c8 eT c8)))) fun c9 h=>?_;have t2 {Q:Prop} (q:Q):=t1 (aK c9 c9 c9 q);refine Zbd h (fun c10 h=>?_) (fun c10 h=>?_)
  ·have t3 {Q:Prop} (q:Q):=t2 (aO c10 c10 c9 c10 c8 c9 c8 q);exact Zbd h (fun c11 h=>xS h hE [.r [(12,yF),(14,wF),(15,wF),(16,wF),(19,wF)],rZ] (t3 (aN c11 c11 c11 c11 c8 c11 c8))) fun c11 h=>Zbd h (fun c12 h=>xS h hE [.r [(12,yF),(20,yF)],rZ] (t3 (aO c11 c11 c11 c12 c12 c11 c12 (aJ c8 c11 c8)))) fun c12 h=>xS h hE [.r [(12,yF),(17,wF),(18,wF),(19,yF),(20,yF)],rZ] (t3 (aO c11 c11 c11 c12 c12 c11 c12 (aJ c8 c11 c8)))
  have t4 {Q:Prop} (q:Q):=t2 (aO c10 c10 c9 c10 c8 c9 c8 (aK eF eF eF q));exact Zbd h (fun c13 h=>xS h hE [.r [(9,wF),(10,wF),(11,yF),(12,yF),(20,yF)],rZ] (t4 (aN c13 c13 eF c13 c8 eF c8))) fun c13 h=>xS h hE [.r [(9,wF),(10,wF),(11,yF),(12,yF),(17,wF),(18,wF),(19,yF),(20,yF)],rZ] (t4 (aN c13 c13 eF c13 c8 eF c8))
 exact xS h hE [.r [(3,wF),(4,wF),(5,wF),(12,wF),(13,wF),(20,wF),(21,yF)],rZ] (aN c8 c8 c8 c8 c8 c8 c8)
def ZaR.k1 {A0 A5 st r} (h:ZaR.p1 N A0 A5=some r) (hE:En Tryz.f152 g0 w0 (ZaR.rs r) st R):At g0 w0 (ZaR.S1 A0 A5 st) (XK zC R [cK ZaR.B [1,1,1,1,1]]):=by
 unfold ZaR.p1 at h;exact Zbd h (fun c7 h=>aq [rZ,.s 1] (aK c7 c7 c7 c7) (ZaR.k2 h hE)) fun c7 h=>aq [.r [(3,wF),(4,wF),(5,wF),(6,yF)],.s 1] (aK c7 c7 c7 c7) (ZaR.k2 h hE)
def ZaR.s {A0:Int} {r:(List Int)×Bool×Bool} (h:ZaR N A0=some r):ZdW zC 152 [oI A0] (ZaR.rs r):=fun st=>
 sO ZaR.B Tryz.func152 fun g0 w0 R hE=>by
  unfold ZaR at h;obtain ⟨x1,c1,h⟩:=Zab h;let o1:List PS:=[rZ,.r [(1,q1 [oB x1])]]
  have t5 {Q:Prop} (q:Q):=aI (ZdV.s c1) q;refine Zbd h (fun c2 h=>xS h hE (o1++[cT,rZ]) (t5 c2)) fun c2 h=>?_;obtain ⟨x2,c3,h⟩:=Zab h;let o2:List PS:=o1++[cF,rZ,.r [(2,q1 [.agg [zL .u64 4 x2]])],rZ]
  refine Zbd h (fun c4 h=>?_) (fun c4 h=>?_)
  ·obtain ⟨x3,c5,h⟩:=Zab h;exact aq (o2++[cT,.r [(4,q1 [.agg [zL .u64 4 x3]])],.s 1]) (t5 (aL c2 (leI 0 24) (ZdX.s c3) c4 (Zbu.s c5))) (ZaR.k1 h hE)
  obtain ⟨x4,c6,h⟩:=Zab h;exact aq (o2++[cF,.r [(4,q1 [.agg [zL .u64 4 x4]])],.s 1]) (t5 (aL c2 (leI 0 24) (ZdX.s c3) c4 (ZbY.s c6))) (ZaR.k1 h hE)
def Zdy.B:Code:=Tryz.f153.body.getD .skip
def Zdy.rs (r:Bool):List CV:=[oB r]
def Zdy (N:Nat) (A0_0:List Int):Option Bool:= some (A0_0==(zB 4 0))
def Zdy.s {A0_0:List Int} {r:Bool} (h:Zdy N A0_0=some r):ZdW zC 153 [.agg [zL .u64 4 A0_0]] (Zdy.rs r):=fun st=>
 sO Zdy.B Tryz.func153 fun g0 w0 R hE=>by
  unfold Zdy at h;exact xS h hE [rZ,rZ] trivial
def ZbJ.B:Code:=Tryz.f65.body.getD .skip
def ZbJ.rs (r:Int):List CV:=[oI r]
def ZbJ.p1 (N:Nat) (A0_0 A1_0:List Int) (c1_:Int->Option Int):Int->Option Int:=fun A1=> if (decide (A1>=0))=true then chk (0<=A1)<| chk (A1<4)<| if (decide ((zF A0_0 (zD A1) 0)<(zF A1_0 (zD A1) 0)))=true then some (-1) else if (decide ((zF A0_0 (zD A1) 0)>(zF A1_0 (zD A1) 0)))=true then some 1 else c1_ (w64 (A1-1)) else some 0
def ZbJ (N:Nat) (A0_0 A1_0:List Int):Option Int:= loopN (ZbJ.p1 N A0_0 A1_0) N 3
def ZbJ.S1 (A1:Int) (A0_0 A1_0:List Int) (st:LL):S:=mkS 26 [(2,sA 2),(3,sA 3),(5,sI A1)] [(2,.cells [zL .u64 4 A0_0]),(3,.cells [zL .u64 4 A1_0])] st
def ZbJ.k1 {A1 A0_0 A1_0 st r c1_ J1} (h:ZbJ.p1 N A0_0 A1_0 c1_ A1=some r) (hE:En Tryz.f65 g0 w0 (ZbJ.rs r) st R) (hc1 : ∀A1,c1_ A1=some r->At g0 w0 (ZbJ.S1 A1 A0_0 A1_0 st) J1):At g0 w0 (ZbJ.S1 A1 A0_0 A1_0 st) (XK zC R (cK ZbJ.B [1,0,1,0,0] :: .h J1 :: [.b 0,cK ZbJ.B [1,1]])):=by
 unfold ZbJ.p1 at h;refine Zbd h (fun c1 h=>?_) (fun c1 h=>?_)
 ·obtain ⟨c2,c3,h⟩:=ck2 h;let o1:List PS:=[rZ,cT,.d {ds:=[],hv:=0,Hs:=[]}]
  refine Zbd h (fun c4 h=>xSd h hE (o1++[cT,rZ]) (aM c1 c2 c3 c2 c3 c4)) fun c4 h=>?_;let o2:List PS:=o1++[cF,.d {ds:=[],hv:=0,Hs:=[]}]
  exact Zbd h (fun c5 h=>xSd h hE (o2++[cT,rZ]) (aO c1 c2 c3 c2 c3 c4 c2 (aK c3 c2 c3 c5))) fun c5 h=>Zlu fol (o2++[cF,rZ]) [2,3,5] [2,3] (aO c1 c2 c3 c2 c3 c4 c2 (aK c3 c2 c3 c5)) (hc1 (w64 (A1-1)) h)
 exact xS h hE [rZ,cF,rZ] c1
def ZbJ.s {A0_0 A1_0:List Int} {r:Int} (h:ZbJ N A0_0 A1_0=some r):ZdW zC 65 [.agg [zL .u64 4 A0_0],.agg [zL .u64 4 A1_0]] (ZbJ.rs r):=fun st=>
 sO ZbJ.B Tryz.func65 fun g0 w0 R hE=>by
  unfold ZbJ at h;exact aq [rZ,rZ] trivial (At.loop N (At.loopN (fun y:Int=>ZbJ.S1 y A0_0 A1_0 st) (fun c J hc y h=>ZbJ.k1 h hE (fun A1=>hc A1)) N 3 h))
def ZdN.B:Code:=Tryz.f166.body.getD .skip
def ZdN.rs (r:Bool):List CV:=[oB r]
def ZdN (N:Nat) (A0_0 A1_0:List Int):Option Bool:= Zbb (ZbJ N A0_0 A1_0) fun x1=> some (decide (x1<0))
def ZdN.s {A0_0 A1_0:List Int} {r:Bool} (h:ZdN N A0_0 A1_0=some r):ZdW zC 166 [.agg [zL .u64 4 A0_0],.agg [zL .u64 4 A1_0]] (ZdN.rs r):=fun st=>
 sO ZdN.B Tryz.func166 fun g0 w0 R hE=>by
  unfold ZdN at h;obtain ⟨x1,c1,h⟩:=Zab h;exact xS h hE [rZ,.r [(2,q1 [oI x1])]] (ZbJ.s c1)
def ZcR.B:Code:=Tryz.f151.body.getD .skip
def ZcR.rs (r:(List Int)×Bool):List CV:=[.agg [zL .u64 4 r.1],oB r.2]
def ZcR (N:Nat) (A0 A1:Int):Option ((List Int)×Bool):= Zbb (ZaR N A0) fun (x1,x2,x3)=> Zbb (ZaR N A1) fun (x4,x5,x6)=> if x2=true then some (zB 4 0,false) else if x3=true then some (zB 4 0,false) else if x5=true then some (zB 4 0,false) else if x6=true then some (zB 4 0,false) else Zbb (Zdy N x1) fun x7=> if x7=true then some (zB 4 0,false) else Zbb (ZdN N x4 x1) fun x8=> if x8=true then some (zB 4 0,false) else some (x1,true)
def ZcR.s {A0 A1:Int} {r:(List Int)×Bool} (h:ZcR N A0 A1=some r):ZdW zC 151 [oI A0,oI A1] (ZcR.rs r):=fun st=>
 sO ZcR.B Tryz.func151 fun g0 w0 R hE=>by
  unfold ZcR at h;obtain ⟨⟨x1,x2,x3⟩,c1,h⟩:=Zab h;obtain ⟨⟨x4,x5,x6⟩,c2,h⟩:=Zab h;let o1:List PS:=[rZ,.r [(1,q1 [.agg [zL .u64 4 x1],oB x2,oB x3])],.r [(1,q1 [.agg [zL .u64 4 x4],oB x5,oB x6])]]
  have t1 {Q:Prop} (q:Q):=aJ (ZaR.s c1) (ZaR.s c2) q;refine Zbd h (fun c3 h=>xS h hE (o1++[.r [(2,wF),(5,wF),(8,wF),(11,wF),(12,wF),(15,wF),(16,wF),(17,wF)],cT,rZ]) (t1 (aO c3 c3 eT eT eT eT eT (aN eT eT eT eT eT eT eT)))) fun c3 h=>?_;refine Zbd h (fun c4 h=>xS h hE (o1++[.r [(3,yF),(5,wF),(8,wF),(11,wF),(12,wF),(15,wF),(16,wF),(17,wF)],cT,rZ]) (t1 (aO c3 c3 c4 c4 eT eT eT (aN eT eT eT eT eT eT eT)))) fun c4 h=>?_;have t2 {Q:Prop} (q:Q):=t1 (aL c3 c3 c4 c4 q);refine Zbd h (fun c5 h=>xS h hE (o1++[.r [(3,yF),(6,yF),(8,wF),(11,wF),(12,wF),(15,wF),(16,wF),(17,wF)],cT,rZ]) (t2 (aO c5 c5 eT eT eT eT eT (aJ eT eT eT)))) fun c5 h=>?_;refine Zbd h (fun c6 h=>xS h hE (o1++[.r [(3,yF),(6,yF),(9,yF),(11,wF),(12,wF),(15,wF),(16,wF),(17,wF)],cT,rZ]) (t2 (aO c5 c5 c6 c6 c6 eT eT (aJ eT eT eT)))) fun c6 h=>?_;obtain ⟨x7,c7,h⟩:=Zab h;have t3 {Q:Prop} (q:Q):=t2 (aN c5 c5 c6 c6 (Zdy.s c7) c6 q);refine Zbd h (fun c8 h=>xS h hE (o1++[.r [(3,yF),(6,yF),(9,yF),(12,q1 [oB x7]),(13,yF),(15,wF),(16,wF),(17,wF)],cT,rZ]) (t3 (aL c8 c8 c8 c8 eT))) fun c8 h=>?_;obtain ⟨x8,c9,h⟩:=Zab h;let o2:List PS:=o1++[.r [(3,yF),(6,yF),(9,yF),(12,q1 [oB x7]),(13,yF),(17,q1 [oB x8]),(18,yF)]]
  exact Zbd h (fun c10 h=>xS h hE (o2++[cT,rZ]) (t3 (aM c8 c8 c8 (ZdN.s c9) c8 c10))) fun c10 h=>xS h hE (o2++[cF,rZ]) (t3 (aM c8 c8 c8 (ZdN.s c9) c8 c10))
def ZeY.B:Code:=Tryz.f131.body.getD .skip
def ZeY.rs (r:Bool):List CV:=[oB r]
def ZeY (N:Nat) (A0:Zae):Option Bool:= Zbb (ZcR N A0.Limit A0.Limit) fun (x1,x2)=> if x2=true then if (decide (A0.Interval>=2))=true then if (decide (A0.Interval<=64))=true then if (decide (A0.Spacing>=1))=true then if (decide (A0.Spacing<=10000))=true then if (decide (A0.Future>=0))=true then some (decide (A0.Future<4294967296)) else some false else some false else some false else some false else some false else some false
def ZeY.s {A0:Zae} {r:Bool} (h:ZeY N A0=some r):ZdW zC 131 [.agg A0.ls] (ZeY.rs r):=fun st=>
 sO ZeY.B Tryz.func131 fun g0 w0 R hE=>by
  unfold ZeY at h;obtain ⟨⟨x1,x2⟩,c1,h⟩:=Zab h;let o1:List PS:=[rZ,.r [(4,q1 [.agg [zL .u64 4 x1],oB x2])]]
  have t1 {Q:Prop} (q:Q):=aI (ZcR.s c1) q;refine Zbd h (fun c2 h=>?_) (fun c2 h=>?_)
  ·have t2 {Q:Prop} (q:Q):=t1 (aL c2 c2 c2 c2 q);refine Zbd h (fun c3 h=>?_) (fun c3 h=>?_)
   ·have t3 {Q:Prop} (q:Q):=t2 (aL c3 c3 c3 c3 q);refine Zbd h (fun c4 h=>?_) (fun c4 h=>?_)
    ·have t4 {Q:Prop} (q:Q):=t3 (aL c4 c4 c4 c4 q);exact Zbd h (fun c5 h=>Zbd h (fun c6 h=>Zbd h (fun c7 h=>xS h hE (o1++[rZ]) (t4 (aO c5 c5 c5 c5 c6 c6 c6 (aL c6 c7 c7 c7 c7)))) fun c7 h=>xS h hE (o1++[.r [(27,wF),(28,wF),(29,wF),(30,yF)]]) (t4 (aO c5 c5 c5 c5 c6 c6 c6 (aL c6 c7 c7 c7 c7)))) fun c6 h=>xS h hE (o1++[.r [(22,wF),(23,wF),(24,wF),(25,yF),(27,wF),(28,wF),(29,wF),(30,yF)]]) (t4 (aO c5 c5 c5 c5 c6 c6 c6 (aL c6 eF eF eF eF)))) fun c5 h=>xS h hE (o1++[.r [(17,wF),(18,wF),(19,wF),(20,yF),(22,wF),(23,wF),(24,wF),(25,yF),(27,wF),(28,wF),(29,wF),(30,yF)]]) (t4 (aO c5 c5 c5 c5 eF eF eF (aL eF eF eF eF eF)))
    exact xS h hE (o1++[.r [(12,wF),(13,wF),(14,wF),(15,yF),(17,wF),(18,wF),(19,wF),(20,yF),(22,wF),(23,wF),(24,wF),(25,yF),(27,wF),(28,wF),(29,wF),(30,yF)]]) (t3 (aO c4 c4 c4 c4 eF eF eF (aO eF eF eF eF eF eF eF (aI eF eF))))
   exact xS h hE (o1++[.r [(7,wF),(8,wF),(9,wF),(10,yF),(12,wF),(13,wF),(14,wF),(15,yF),(17,wF),(18,wF),(19,wF),(20,yF),(22,wF),(23,wF),(24,wF),(25,yF),(27,wF),(28,wF),(29,wF),(30,yF)]]) (t2 (aO c3 c3 c3 c3 eF eF eF (aO eF eF eF eF eF eF eF (aM eF eF eF eF eF eF))))
  exact xS h hE (o1++[.r [(2,wF),(3,wF),(4,wF),(5,yF),(7,wF),(8,wF),(9,wF),(10,yF),(12,wF),(13,wF),(14,wF),(15,yF),(17,wF),(18,wF),(19,wF),(20,yF),(22,wF),(23,wF),(24,wF),(25,yF),(27,wF),(28,wF),(29,wF),(30,yF)]]) (t1 (aO c2 c2 c2 c2 eF eF eF (aO eF eF eF eF eF eF eF (aO eF eF eF eF eF eF eF (aJ eF eF eF)))))
def Zcb.B:Code:=Tryz.f104.body.getD .skip
def Zcb.rs (r:Bool):List CV:=[oB r]
def Zcb.p2 (N:Nat) (A0:Zae) (c2_:Int->Option Bool):Int->Option Bool:=fun v6=> if (decide (v6<(len A0.Checks)))=true then chk (0<=v6)<| ZcO (A0.Checks[zD v6]?) ZeV fun x7=> if (decide (x7.Height<1))=true then some false else if (decide (v6>0))=true then chk (0<=(w64 (v6-1)))<| chk ((w64 (v6-1))<(len A0.Checks))<| ZcO (A0.Checks[zD (w64 (v6-1))]?) ZeV fun x8=> if (decide (x7.Height<=x8.Height))=true then some false else c2_ (w64 (v6+1)) else c2_ (w64 (v6+1)) else some true
def Zcb.p1 (N:Nat) (A0:Zae) (c1_:Int->Option Bool):Int->Option Bool:=fun v3=> if (decide (v3<(len A0.Gates)))=true then chk (0<=v3)<| ZcO (A0.Gates[zD v3]?) Zfi fun x4=> if (decide (x4.Height<0))=true then some false else if (decide (v3>0))=true then chk (0<=(w64 (v3-1)))<| chk ((w64 (v3-1))<(len A0.Gates))<| ZcO (A0.Gates[zD (w64 (v3-1))]?) Zfi fun x5=> if (decide (x4.Height<=x5.Height))=true then some false else c1_ (w64 (v3+1)) else c1_ (w64 (v3+1)) else loopN (Zcb.p2 N A0) N 0
def Zcb (N:Nat) (A0:Zae):Option Bool:= Zbb (ZeY N A0) fun x1=> if (!x1)=true then some false else Zbb (ZcW N A0.Genesis) fun x2=> if (!x2)=true then some false else loopN (Zcb.p1 N A0) N 0
def Zcb.S2 (A0:Zae) (v6:Int) (st:LL):S:=mkS 72 [(1,sA 1),(45,sV 33 A0.Checks),(46,sI (len A0.Checks)),(47,sI v6)] [(1,.cells A0.ls)] st
def Zcb.S1 (A0:Zae) (v3:Int) (st:LL):S:=mkS 72 [(1,sA 1),(17,sV 2 A0.Gates),(18,sI (len A0.Gates)),(19,sI v3)] [(1,.cells A0.ls)] st
def Zcb.k2 {A0 v6 st r c2_ J2} (h:Zcb.p2 N A0 c2_ v6=some r) (hE:En Tryz.f104 g0 w0 (Zcb.rs r) st R) (hc2 : ∀v6,c2_ v6=some r->At g0 w0 (Zcb.S2 A0 v6 st) J2):At g0 w0 (Zcb.S2 A0 v6 st) (XK zC R (cK Zcb.B [1,1,1,0,1,0,0] :: .h J2 :: [.b 2,cK Zcb.B [1,1,1,1]])):=by
 unfold Zcb.p2 at h;refine Zbd h (fun c14 h=>?_) (fun c14 h=>?_)
 ·obtain ⟨c15,h⟩:=Zba h;obtain ⟨x7,c16,h⟩:=Zfd h;let o1:List PS:=[rZ,cT,.r [(2,{oe:=x7.ls})]]
  have t1 {Q:Prop} (q:Q):=aL c14 c15 (oD c14) c16 q;refine Zbd h (fun c17 h=>xSd h hE (o1++[.d {ds:=[(4,wF),(5,wF),(6,wF),(17,wF)],hv:=0,Hs:=[]},cT,rZ]) (t1 (aM c17 c17 c17 c17 c17 eT))) fun c17 h=>?_;refine Zbd h (fun c18 h=>?_) (fun c18 h=>?_)
  ·obtain ⟨c19,c20,h⟩:=ck2 h;obtain ⟨x8,c21,h⟩:=Zfd h;let o2:List PS:=o1++[.d {ds:=[(15,{oe:=x8.ls}),(18,yF)],hv:=0,Hs:=[]}]
   have t2 {Q:Prop} (q:Q):=t1 (aO c17 c17 c17 c18 c18 c18 c18 (aO c18 c18 c18 c19 c20 c18 c18 (aM c21 c18 c17 c18 c17 q)));exact Zbd h (fun c22 h=>xSd h hE (o2++[cT,rZ]) (t2 c22)) fun c22 h=>Zlu fol (o2++[cF,rZ]) [1,45,46,47] [1] (t2 c22) (hc2 (w64 (v6+1)) h)
  exact Zlu fol (o1++[.d {ds:=[(7,wF),(8,wF),(9,wF),(10,wF),(11,wF),(12,wF),(13,wF),(14,wF),(15,wF),(16,wF),(17,yF),(18,yF)],hv:=0,Hs:=[]},cF,rZ]) [1,45,46,47] [1] (t1 (aO c17 c17 c17 c18 c18 c18 c18 (aO c18 c18 c18 c18 c18 c18 c17 (aJ c18 c17 eF)))) (hc2 (w64 (v6+1)) h)
 exact xS h hE [rZ,cF,rZ] c14
def Zcb.k1 {A0 v3 st r c1_ J1} (h:Zcb.p1 N A0 c1_ v3=some r) (hE:En Tryz.f104 g0 w0 (Zcb.rs r) st R) (hc1 : ∀v3,c1_ v3=some r->At g0 w0 (Zcb.S1 A0 v3 st) J1):At g0 w0 (Zcb.S1 A0 v3 st) (XK zC R (cK Zcb.B [1,1,0,1,0,0] :: .h J1 :: [.b 0,cK Zcb.B [1,1,1]])):=by
 unfold Zcb.p1 at h;refine Zbd h (fun c5 h=>?_) (fun c5 h=>?_)
 ·obtain ⟨c6,h⟩:=Zba h;obtain ⟨x4,c7,h⟩:=Zfn h;let o3:List PS:=[rZ,cT,.r [(2,{oe:=x4.ls})]]
  have t3 {Q:Prop} (q:Q):=aL c5 c6 (oD c5) c7 q;refine Zbd h (fun c8 h=>xSd h hE (o3++[.d {ds:=[(4,wF),(5,wF),(6,wF),(17,wF)],hv:=0,Hs:=[]},cT,rZ]) (t3 (aM c8 c8 c8 c8 c8 eT))) fun c8 h=>?_;refine Zbd h (fun c9 h=>?_) (fun c9 h=>?_)
  ·obtain ⟨c10,c11,h⟩:=ck2 h;obtain ⟨x5,c12,h⟩:=Zfn h;let o4:List PS:=o3++[.d {ds:=[(15,{oe:=x5.ls}),(18,yF)],hv:=0,Hs:=[]}]
   have t4 {Q:Prop} (q:Q):=t3 (aO c8 c8 c8 c9 c9 c9 c9 (aO c9 c9 c9 c10 c11 c9 c9 (aM c12 c9 c8 c9 c8 q)));exact Zbd h (fun c13 h=>xSd h hE (o4++[cT,rZ]) (t4 c13)) fun c13 h=>Zlu fol (o4++[cF,rZ]) [1,17,18,19] [1] (t4 c13) (hc1 (w64 (v3+1)) h)
  exact Zlu fol (o3++[.d {ds:=[(7,wF),(8,wF),(9,wF),(10,wF),(11,wF),(12,wF),(13,wF),(14,wF),(15,wF),(16,wF),(17,yF),(18,yF)],hv:=0,Hs:=[]},cF,rZ]) [1,17,18,19] [1] (t3 (aO c8 c8 c8 c9 c9 c9 c9 (aO c9 c9 c9 c9 c9 c9 c8 (aJ c9 c8 eF)))) (hc1 (w64 (v3+1)) h)
 exact aq [rZ,cF,rZ] c5 (At.loop N (At.loopN (fun y:Int=>Zcb.S2 A0 y st) (fun c J hc y h=>Zcb.k2 h hE (fun v6=>hc v6)) N 0 h))
def Zcb.s {A0:Zae} {r:Bool} (h:Zcb N A0=some r):ZdW zC 104 [.agg A0.ls] (Zcb.rs r):=fun st=>
 sO Zcb.B Tryz.func104 fun g0 w0 R hE=>by
  unfold Zcb at h;obtain ⟨x1,c1,h⟩:=Zab h;have t5 {Q:Prop} (q:Q):=aI (ZeY.s c1) q;refine Zbd h (fun c2 h=>xS h hE [rZ,.r [(1,q1 [oB x1]),(4,wF),(5,wF),(6,wF),(7,wF)],cT,rZ] (t5 (aM (not_false (Zcu c2)) (not_false (Zcu c2)) (not_false (Zcu c2)) (not_false (Zcu c2)) (not_false (Zcu c2)) eT))) fun c2 h=>?_;obtain ⟨x2,c3,h⟩:=Zab h;let o5:List PS:=[rZ,.r [(1,q1 [oB x1]),(6,q1 [oB x2]),(8,yF)]]
  have t6 {Q:Prop} (q:Q):=t5 (aN (not_true (Zcv c2)) (not_true (Zcv c2)) (not_true (Zcv c2)) (ZcW.s c3) (not_true (Zcv c2)) (not_true (Zcv c2)) q);exact Zbd h (fun c4 h=>xS h hE (o5++[cT,rZ]) (t6 c4)) fun c4 h=>aq (o5++[cF,rZ]) (t6 c4) (At.loop N (At.loopN (fun y:Int=>Zcb.S1 A0 y st) (fun c J hc y h=>Zcb.k1 h hE (fun v3=>hc v3)) N 0 h))
def Zci.B:Code:=Tryz.f170.body.getD .skip
def Zci.rs (r:(List Int)×Bool):List CV:=[.agg [zL .u64 4 r.1],oB r.2]
def Zci.p1 (N:Nat) (A1_0:List Int) (c1_:(Int×Int×(List Int))->Option ((List Int)×Bool)):(Int×Int×(List Int))->Option ((List Int)×Bool):=fun (A1,v2,A5)=> if (decide (v2<4))=true then chk (0<=v2)<| Zbb (ZeH N (zF A5 (zD v2) 0) (zF A1_0 (zD v2) 0) A1) fun (x6,x7)=> c1_ (x7,w64 (v2+1),zR A5 (zD v2) x6) else some (A5,A1 != 0)
def Zci (N:Nat) (A0_0 A1_0:List Int):Option ((List Int)×Bool):= loopN (Zci.p1 N A1_0) N (0,0,A0_0)
def Zci.S1 (A1 v2:Int) (A5 A1_0:List Int) (st:LL):S:=mkS 28 [(2,sA 2),(3,sA 3),(4,sA 4),(6,.one (.l (zK .u64 A1))),(8,sI v2)] [(2,.cells [zL .u64 4 A5]),(3,.cells [zL .u64 4 A1_0]),(4,.cells [zL .u64 4 (zB 4 0)])] st
def Zci.k1 {A1 v2 A5 A1_0 st r c1_ J1} (h:Zci.p1 N A1_0 c1_ (A1,v2,A5)=some r) (hE:En Tryz.f170 g0 w0 (Zci.rs r) st R) (hc1 : ∀A1 v2 A5,c1_ (A1,v2,A5)=some r->At g0 w0 (Zci.S1 A1 v2 A5 A1_0 st) J1):At g0 w0 (Zci.S1 A1 v2 A5 A1_0 st) (XK zC R (cK Zci.B [1,1,0,1,0,0] :: .h J1 :: [.b 0,cK Zci.B [1,1,1]])):=by
 unfold Zci.p1 at h;refine Zbd h (fun c4 h=>?_) (fun c4 h=>?_)
 ·obtain ⟨c5,h⟩:=Zba h;obtain ⟨⟨x6,x7⟩,c6,h⟩:=Zab h;exact Zlu fol [rZ,cT,rZ,.d {ds:=[(8,{rs:=[.one (zK .u64 x6),.one (zK .u64 x7)],m:=4})],hv:=8192,Hs:=[8192]},rZ] [2,3,4,6,8] [2,3,4] (aO c4 c5 (oD c4) c5 (oD c4) (ZeH.s c6) c5 (oD c4)) (hc1 x7 (w64 (v2+1)) (zR A5 (zD v2) x6) h)
 exact xS h hE [rZ,cF,rZ] c4
def Zci.s {A0_0 A1_0:List Int} {r:(List Int)×Bool} (h:Zci N A0_0 A1_0=some r):ZdW zC 170 [.agg [zL .u64 4 A0_0],.agg [zL .u64 4 A1_0]] (Zci.rs r):=fun st=>
 sO Zci.B Tryz.func170 fun g0 w0 R hE=>by
  unfold Zci at h;exact aq [rZ,rZ,rZ] trivial (At.loop N (At.loopN (fun y:Int×Int×(List Int)=>Zci.S1 y.1 y.2.1 y.2.2 A1_0 st) (fun c J hc y h=>Zci.k1 (A1:=y.1) (v2:=y.2.1) (A5:=y.2.2) h hE (fun A1 v2 A5=>hc (A1,v2,A5))) N (0,0,A0_0) h))
def ZcL.B:Code:=Tryz.f172.body.getD .skip
def ZcL.rs (r:(List Int)):List CV:=[.agg [zL .u64 4 r]]
def ZcL.p1 (N:Nat) (c1_:(Int×(List Int))->Option (List Int)):(Int×(List Int))->Option (List Int):=fun (v1,A2)=> if (decide (v1<4))=true then chk (0<=v1)<| c1_ (w64 (v1+1),zR A2 (zD v1) (ZaI .xor .u64 (IntKind.max IntKind.u64) (zF A2 (zD v1) 0))) else some A2
def ZcL (N:Nat) (A0_0:List Int):Option (List Int):= loopN (ZcL.p1 N) N (0,A0_0)
def ZcL.S1 (v1:Int) (A2:List Int) (st:LL):S:=mkS 15 [(1,sA 1),(2,sA 2),(4,sI v1)] [(1,.cells [zL .u64 4 A2]),(2,.cells [zL .u64 4 (zB 4 0)])] st
def ZcL.k1 {v1 A2 st r c1_ J1} (h:ZcL.p1 N c1_ (v1,A2)=some r) (hE:En Tryz.f172 g0 w0 (ZcL.rs r) st R) (hc1 : ∀v1 A2,c1_ (v1,A2)=some r->At g0 w0 (ZcL.S1 v1 A2 st) J1):At g0 w0 (ZcL.S1 v1 A2 st) (XK zC R (cK ZcL.B [1,0,1,0,0] :: .h J1 :: [.b 0,cK ZcL.B [1,1]])):=by
 unfold ZcL.p1 at h;refine Zbd h (fun c3 h=>?_) (fun c3 h=>?_)
 ·obtain ⟨c4,h⟩:=Zba h;exact an [rZ,cT,rZ,rZ,rZ] (aL c3 c4 (oD c3) c4 (oD c3)) (hc1 (w64 (v1+1)) (zR A2 (zD v1) (ZaI .xor .u64 (IntKind.max IntKind.u64) (zF A2 (zD v1) 0))) h)
 exact xS h hE [rZ,cF,rZ] c3
def ZcL.s {A0_0:List Int} {r:(List Int)} (h:ZcL N A0_0=some r):ZdW zC 172 [.agg [zL .u64 4 A0_0]] (ZcL.rs r):=fun st=>
 sO ZcL.B Tryz.func172 fun g0 w0 R hE=>by
  unfold ZcL at h;exact aq [rZ,rZ] trivial (At.loop N (At.loopN (fun y:Int×(List Int)=>ZcL.S1 y.1 y.2 st) (fun c J hc y h=>ZcL.k1 (v1:=y.1) (A2:=y.2) h hE (fun v1 A2=>hc (v1,A2))) N (0,A0_0) h))
def ZaC.B:Code:=Tryz.f192.body.getD .skip
def ZaC.rs (r:Int):List CV:=[oI r]
def ZaC.p3 (N:Nat) (A5 A6:Int):Option Int:= chk (0<=(v8 (A5)))<| chk ((v8 (A5))<((yC (wL #[0,1,2,2,3,3,3,3,4,4,4,4,4,4,4,4,5,5,5,5,5,5,5,5,5,5,5,5,5,5,5,5,6,6,6,6,6,6,6,6,6,6,6,6,6,6,6,6,6,6,6,6,6,6,6,6,6,6,6,6,6,6,6,6,7,7,7,7,7,7,7,7,7,7,7,7,7,7,7,7,7,7,7,7,7,7,7,7,7,7,7,7,7,7,7,7,7,7,7,7,7,7,7,7,7,7,7,7,7,7,7,7,7,7,7,7,7,7,7,7,7,7,7,7,7,7,7,7,8,8,8,8,8,8,8,8,8,8,8,8,8,8,8,8,8,8,8,8,8,8,8,8,8,8,8,8,8,8,8,8,8,8,8,8,8,8,8,8,8,8,8,8,8,8,8,8,8,8,8,8,8,8,8,8,8,8,8,8,8,8,8,8,8,8,8,8,8,8,8,8,8,8,8,8,8,8,8,8,8,8,8,8,8,8,8,8,8,8,8,8,8,8,8,8,8,8,8,8,8,8,8,8,8,8,8,8,8,8,8,8,8,8,8,8,8,8,8,8,8,8,8,8,8,8,8,8]):Nat):Int))<| some (w64 (A6+(w64 (((UInt8.toNat (zF (qK (rQ (wL #[0,1,2,2,3,3,3,3,4,4,4,4,4,4,4,4,5,5,5,5,5,5,5,5,5,5,5,5,5,5,5,5,6,6,6,6,6,6,6,6,6,6,6,6,6,6,6,6,6,6,6,6,6,6,6,6,6,6,6,6,6,6,6,6,7,7,7,7,7,7,7,7,7,7,7,7,7,7,7,7,7,7,7,7,7,7,7,7,7,7,7,7,7,7,7,7,7,7,7,7,7,7,7,7,7,7,7,7,7,7,7,7,7,7,7,7,7,7,7,7,7,7,7,7,7,7,7,7,8,8,8,8,8,8,8,8,8,8,8,8,8,8,8,8,8,8,8,8,8,8,8,8,8,8,8,8,8,8,8,8,8,8,8,8,8,8,8,8,8,8,8,8,8,8,8,8,8,8,8,8,8,8,8,8,8,8,8,8,8,8,8,8,8,8,8,8,8,8,8,8,8,8,8,8,8,8,8,8,8,8,8,8,8,8,8,8,8,8,8,8,8,8,8,8,8,8,8,8,8,8,8,8,8,8,8,8,8,8,8,8,8,8,8,8,8,8,8,8,8,8,8,8,8,8,8,8]))) (zD (v8 (A5))) 0):Nat):Int)))))
def ZaC.p2 (N:Nat) (A3 A4:Int):Option Int:= if (decide (A3>=256))=true then ZaC.p3 N (Zbx .u64 A3 8) (w64 (A4+8)) else ZaC.p3 N A3 A4
def ZaC.p1 (N:Nat) (A1 A2:Int):Option Int:= if (decide (A1>=65536))=true then ZaC.p2 N (Zbx .u64 A1 16) (w64 (A2+16)) else ZaC.p2 N A1 A2
def ZaC (N:Nat) (A0:Int):Option Int:= if (decide (A0>=4294967296))=true then ZaC.p1 N (Zbx .u64 A0 32) 32 else ZaC.p1 N A0 0
def ZaC.S3 (A5 A6:Int) (st:LL):S:=mkS 25 [(0,.one (.l (zK .u64 A5))),(2,sI A6)] [] st
def ZaC.S2 (A3 A4:Int) (st:LL):S:=mkS 25 [(0,.one (.l (zK .u64 A3))),(2,sI A4)] [] st
def ZaC.S1 (A1 A2:Int) (st:LL):S:=mkS 25 [(0,.one (.l (zK .u64 A1))),(2,sI A2)] [] st
def ZaC.k3 {A5 A6 st r} (h:ZaC.p3 N A5 A6=some r) (hE:En Tryz.f192 g0 w0 (ZaC.rs r) st R):At g0 w0 (ZaC.S3 A5 A6 st) (XK zC R [cK ZaC.B [1,1,1,1]]):=by
 unfold ZaC.p3 at h;obtain ⟨c4,c5,h⟩:=ck2 h;exact xS h hE [rZ] (aI c4 c5)
def ZaC.k2 {A3 A4 st r} (h:ZaC.p2 N A3 A4=some r) (hE:En Tryz.f192 g0 w0 (ZaC.rs r) st R):At g0 w0 (ZaC.S2 A3 A4 st) (XK zC R [cK ZaC.B [1,1,1]]):=by
 unfold ZaC.p2 at h;exact Zbd h (fun c3 h=>aq [rZ,cT,rZ,rZ,.s 1] (aI c3 (leI 0 8)) (ZaC.k3 h hE)) fun c3 h=>aq [rZ,cF,.s 1] c3 (ZaC.k3 h hE)
def ZaC.k1 {A1 A2 st r} (h:ZaC.p1 N A1 A2=some r) (hE:En Tryz.f192 g0 w0 (ZaC.rs r) st R):At g0 w0 (ZaC.S1 A1 A2 st) (XK zC R [cK ZaC.B [1,1]]):=by
 unfold ZaC.p1 at h;exact Zbd h (fun c2 h=>aq [rZ,cT,rZ,rZ,.s 1] (aI c2 (leI 0 16)) (ZaC.k2 h hE)) fun c2 h=>aq [rZ,cF,.s 1] c2 (ZaC.k2 h hE)
def ZaC.s {A0:Int} {r:Int} (h:ZaC N A0=some r):ZdW zC 192 [.one (zK .u64 A0)] (ZaC.rs r):=fun st=>
 sO ZaC.B Tryz.func192 fun g0 w0 R hE=>by
  unfold ZaC at h;exact Zbd h (fun c1 h=>aq [rZ,rZ,cT,rZ,rZ,.s 1] (aI c1 (leI 0 32)) (ZaC.k1 h hE)) fun c1 h=>aq [rZ,rZ,cF,.s 1] c1 (ZaC.k1 h hE)
def ZcV.B:Code:=Tryz.f185.body.getD .skip
def ZcV.rs (r:Int):List CV:=[oI r]
def ZcV.p1 (N:Nat) (A0_0:List Int) (c1_:Int->Option Int):Int->Option Int:=fun A1=> if (decide (A1>=0))=true then chk (0<=A1)<| chk (A1<4)<| if ((zF A0_0 (zD A1) 0) != 0)=true then Zbb (ZaC N (zF A0_0 (zD A1) 0)) fun x2=> some (w64 ((w64 (64*A1))+x2)) else c1_ (w64 (A1-1)) else some 0
def ZcV (N:Nat) (A0_0:List Int):Option Int:= loopN (ZcV.p1 N A0_0) N 3
def ZcV.S1 (A1:Int) (A0_0:List Int) (st:LL):S:=mkS 19 [(1,sA 1),(3,sI A1)] [(1,.cells [zL .u64 4 A0_0])] st
def ZcV.k1 {A1 A0_0 st r c1_ J1} (h:ZcV.p1 N A0_0 c1_ A1=some r) (hE:En Tryz.f185 g0 w0 (ZcV.rs r) st R) (hc1 : ∀A1,c1_ A1=some r->At g0 w0 (ZcV.S1 A1 A0_0 st) J1):At g0 w0 (ZcV.S1 A1 A0_0 st) (XK zC R (cK ZcV.B [1,0,1,0,0] :: .h J1 :: [.b 0,cK ZcV.B [1,1]])):=by
 unfold ZcV.p1 at h;refine Zbd h (fun c1 h=>?_) (fun c1 h=>?_)
 ·obtain ⟨c2,c3,h⟩:=ck2 h;refine Zbd h (fun c4 h=>?_) (fun c4 h=>?_)
  ·obtain ⟨x2,c5,h⟩:=Zab h;exact xS h hE [rZ,cT,rZ,cT,.r [(5,q1 [oI x2])]] (aN c1 c2 c3 c4 c2 c3 (ZaC.s c5))
  exact an [rZ,cT,rZ,cF,rZ] (aK c1 c2 c3 c4) (hc1 (w64 (A1-1)) h)
 exact xS h hE [rZ,cF,rZ] c1
def ZcV.s {A0_0:List Int} {r:Int} (h:ZcV N A0_0=some r):ZdW zC 185 [.agg [zL .u64 4 A0_0]] (ZcV.rs r):=fun st=>
 sO ZcV.B Tryz.func185 fun g0 w0 R hE=>by
  unfold ZcV at h;exact aq [rZ,rZ] trivial (At.loop N (At.loopN (fun y:Int=>ZcV.S1 y A0_0 st) (fun c J hc y h=>ZcV.k1 h hE (fun A1=>hc A1)) N 3 h))
def ZcY.B:Code:=Tryz.f186.body.getD .skip
def ZcY.rs (r:(List Int)×Bool):List CV:=[.agg [zL .u64 4 r.1],oB r.2]
def ZcY.p1 (N:Nat) (A1_0:List Int) (c1_:(Int×Int×(List Int))->Option ((List Int)×Bool)):(Int×Int×(List Int))->Option ((List Int)×Bool):=fun (A1,v2,A5)=> if (decide (v2<4))=true then chk (0<=v2)<| Zbb (ZfQ N (zF A5 (zD v2) 0) (zF A1_0 (zD v2) 0) A1) fun (x6,x7)=> c1_ (x7,w64 (v2+1),zR A5 (zD v2) x6) else some (A5,A1 != 0)
def ZcY (N:Nat) (A0_0 A1_0:List Int):Option ((List Int)×Bool):= loopN (ZcY.p1 N A1_0) N (0,0,A0_0)
def ZcY.S1 (A1 v2:Int) (A5 A1_0:List Int) (st:LL):S:=mkS 28 [(2,sA 2),(3,sA 3),(4,sA 4),(6,.one (.l (zK .u64 A1))),(8,sI v2)] [(2,.cells [zL .u64 4 A5]),(3,.cells [zL .u64 4 A1_0]),(4,.cells [zL .u64 4 (zB 4 0)])] st
def ZcY.k1 {A1 v2 A5 A1_0 st r c1_ J1} (h:ZcY.p1 N A1_0 c1_ (A1,v2,A5)=some r) (hE:En Tryz.f186 g0 w0 (ZcY.rs r) st R) (hc1 : ∀A1 v2 A5,c1_ (A1,v2,A5)=some r->At g0 w0 (ZcY.S1 A1 v2 A5 A1_0 st) J1):At g0 w0 (ZcY.S1 A1 v2 A5 A1_0 st) (XK zC R (cK ZcY.B [1,1,0,1,0,0] :: .h J1 :: [.b 0,cK ZcY.B [1,1,1]])):=by
 unfold ZcY.p1 at h;refine Zbd h (fun c4 h=>?_) (fun c4 h=>?_)
 ·obtain ⟨c5,h⟩:=Zba h;obtain ⟨⟨x6,x7⟩,c6,h⟩:=Zab h;exact Zlu fol [rZ,cT,rZ,.d {ds:=[(8,{rs:=[.one (zK .u64 x6),.one (zK .u64 x7)],m:=4})],hv:=8192,Hs:=[8192]},rZ] [2,3,4,6,8] [2,3,4] (aO c4 c5 (oD c4) c5 (oD c4) (ZfQ.s c6) c5 (oD c4)) (hc1 x7 (w64 (v2+1)) (zR A5 (zD v2) x6) h)
 exact xS h hE [rZ,cF,rZ] c4
def ZcY.s {A0_0 A1_0:List Int} {r:(List Int)×Bool} (h:ZcY N A0_0 A1_0=some r):ZdW zC 186 [.agg [zL .u64 4 A0_0],.agg [zL .u64 4 A1_0]] (ZcY.rs r):=fun st=>
 sO ZcY.B Tryz.func186 fun g0 w0 R hE=>by
  unfold ZcY at h;exact aq [rZ,rZ,rZ] trivial (At.loop N (At.loopN (fun y:Int×Int×(List Int)=>ZcY.S1 y.1 y.2.1 y.2.2 A1_0 st) (fun c J hc y h=>ZcY.k1 (A1:=y.1) (v2:=y.2.1) (A5:=y.2.2) h hE (fun A1 v2 A5=>hc (A1,v2,A5))) N (0,0,A0_0) h))
def ZbR.B:Code:=Tryz.f171.body.getD .skip
def ZbR.rs (r:(List Int)×(List Int)):List CV:=[.agg [zL .u64 4 r.1],.agg [zL .u64 4 r.2]]
def ZbR.p2 (N:Nat) (c1_:(Int×(List Int)×(List Int))->Option ((List Int)×(List Int))) (A3:Int) (A0_0 A1_0 A21 A20:List Int):Option ((List Int)×(List Int)):= c1_ (w64 (A3-1),A21,A20)
def ZbR.p1 (N:Nat) (A0_0 A1_0:List Int) (c1_:(Int×(List Int)×(List Int))->Option ((List Int)×(List Int))):(Int×(List Int)×(List Int))->Option ((List Int)×(List Int)):=fun (A3,A12,A13)=> if (decide (A3>=0))=true then Zbb (ZbY N A13 1) fun x14=> chk (0<=(w64 (zT A3 64)))<| chk ((w64 (zT A3 64))<4)<| chk (0<=(yB A3 64))<| if ((Zbx .u64 (zF A13 3 0) 63)==1)=true then Zbb (ZcY N (zR x14 0 (ZaI .or .u64 (zF x14 0 0) (ZaI .and .u64 (Zbx .u64 (zF A0_0 (zD (w64 (zT A3 64))) 0) (yB A3 64)) 1))) A1_0) fun (x15,x16)=> ZbR.p2 N c1_ A3 A0_0 A1_0 (zR A12 (zD (w64 (zT A3 64))) (ZaI .or .u64 (zF A12 (zD (w64 (zT A3 64))) 0) (ZbP .u64 1 (yB A3 64)))) x15 else Zbb (ZdN N (zR x14 0 (ZaI .or .u64 (zF x14 0 0) (ZaI .and .u64 (Zbx .u64 (zF A0_0 (zD (w64 (zT A3 64))) 0) (yB A3 64)) 1))) A1_0) fun x17=> if (!x17)=true then Zbb (ZcY N (zR x14 0 (ZaI .or .u64 (zF x14 0 0) (ZaI .and .u64 (Zbx .u64 (zF A0_0 (zD (w64 (zT A3 64))) 0) (yB A3 64)) 1))) A1_0) fun (x18,x19)=> ZbR.p2 N c1_ A3 A0_0 A1_0 (zR A12 (zD (w64 (zT A3 64))) (ZaI .or .u64 (zF A12 (zD (w64 (zT A3 64))) 0) (ZbP .u64 1 (yB A3 64)))) x18 else ZbR.p2 N c1_ A3 A0_0 A1_0 A12 (zR x14 0 (ZaI .or .u64 (zF x14 0 0) (ZaI .and .u64 (Zbx .u64 (zF A0_0 (zD (w64 (zT A3 64))) 0) (yB A3 64)) 1))) else some (A12,A13)
def ZbR (N:Nat) (A0_0 A1_0:List Int):Option ((List Int)×(List Int)):= Zbb (Zdy N A1_0) fun x1=> if x1=true then some (zB 4 0,zB 4 0) else Zbb (ZcV N A0_0) fun x2=> loopN (ZbR.p1 N A0_0 A1_0) N (w64 (x2-1),zB 4 0,zB 4 0)
def ZbR.S2 (A3:Int) (A0_0 A1_0 A21 A20:List Int) (st:LL):S:=mkS 63 [(2,sA 2),(3,sA 3),(4,sA 4),(5,sA 5),(6,sA 6),(7,sA 7),(8,sI A3)] [(2,.cells [zL .u64 4 A0_0]),(3,.cells [zL .u64 4 A1_0]),(4,.cells [zL .u64 4 (zB 4 0)]),(5,.cells [zL .u64 4 (zB 4 0)]),(6,.cells [zL .u64 4 A21]),(7,.cells [zL .u64 4 A20])] st
def ZbR.S1 (A3:Int) (A0_0 A1_0 A12 A13:List Int) (st:LL):S:=mkS 63 [(2,sA 2),(3,sA 3),(4,sA 4),(5,sA 5),(6,sA 6),(7,sA 7),(8,sI A3)] [(2,.cells [zL .u64 4 A0_0]),(3,.cells [zL .u64 4 A1_0]),(4,.cells [zL .u64 4 (zB 4 0)]),(5,.cells [zL .u64 4 (zB 4 0)]),(6,.cells [zL .u64 4 A12]),(7,.cells [zL .u64 4 A13])] st
def ZbR.k2 {A3 A0_0 A1_0 A21 A20 st r c1_ J1} (h:ZbR.p2 N c1_ A3 A0_0 A1_0 A21 A20=some r) (hE:En Tryz.f171 g0 w0 (ZbR.rs r) st R) (hc1 : ∀A3 A12 A13,c1_ (A3,A12,A13)=some r->At g0 w0 (ZbR.S1 A3 A0_0 A1_0 A12 A13 st) J1):At g0 w0 (ZbR.S2 A3 A0_0 A1_0 A21 A20 st) (XK zC R [cK ZbR.B [1,1,1,0,1,0,0,1,1],.h J1,.b 0,cK ZbR.B [1,1,1,1]]):=by
 unfold ZbR.p2 at h;exact an [rZ] trivial (hc1 (w64 (A3-1)) A21 A20 h)
def ZbR.k1 {A3 A0_0 A1_0 A12 A13 st r c1_ J1} (h:ZbR.p1 N A0_0 A1_0 c1_ (A3,A12,A13)=some r) (hE:En Tryz.f171 g0 w0 (ZbR.rs r) st R) (hc1 : ∀A3 A12 A13,c1_ (A3,A12,A13)=some r->At g0 w0 (ZbR.S1 A3 A0_0 A1_0 A12 A13 st) J1):At g0 w0 (ZbR.S1 A3 A0_0 A1_0 A12 A13 st) (XK zC R (cK ZbR.B [1,1,1,0,1,0,0] :: .h J1 :: [.b 0,cK ZbR.B [1,1,1,1]])):=by
 unfold ZbR.p1 at h;refine Zbd h (fun c14 h=>?_) (fun c14 h=>?_)
 ·obtain ⟨x14,c15,h⟩:=Zab h;obtain ⟨c16,c17,c18,h⟩:=ck3 h;let o1:List PS:=[rZ,cT,rZ,.r [(1,q1 [.agg [zL .u64 4 x14]])],.d {ds:=[],hv:=4096,Hs:=[4096]}]
  have t1 {Q:Prop} (q:Q):=aI c14 (ix 3 4 (aJ (leI 0 63) (ZbY.s c15) (ix 0 4 (aM (neI 64) c16 c17 (neI 64) c18 (ix 0 4 q)))));refine Zbd h (fun c19 h=>?_) (fun c19 h=>?_)
  ·obtain ⟨⟨x15,x16⟩,c20,h⟩:=Zab h;exact aqd (o1++[.r [(2,wF),(3,wF),(4,wF),(5,wF)],cT,.r [(2,q1 [.agg [zL .u64 4 x15],oB x16])],.d {ds:=[],hv:=512,Hs:=[512]},.s 4]) (t1 (aO c19 c19 c19 c19 c19 eT (ZcY.s c20) (aN (neI 64) c16 c17 (neI 64) c18 c16 c17))) (ZbR.k2 h hE hc1)
  obtain ⟨x17,c21,h⟩:=Zab h;let o2:List PS:=o1++[.r [(4,q1 [oB x17]),(6,yF)]]
  have t2 {Q:Prop} (q:Q):=t1 (aN c19 c19 c19 (ZdN.s c21) c19 c19 q);refine Zbd h (fun c22 h=>?_) (fun c22 h=>?_)
  ·obtain ⟨⟨x18,x19⟩,c23,h⟩:=Zab h;exact aqd (o2++[cT,.r [(2,q1 [.agg [zL .u64 4 x18],oB x19])],.d {ds:=[],hv:=512,Hs:=[512]},.s 4]) (t2 (aO c22 (ZcY.s c23) (neI 64) c16 c17 (neI 64) c18 (aI c16 c17))) (ZbR.k2 h hE hc1)
  exact aqd (o2++[cF,.s 4]) (t2 c22) (ZbR.k2 h hE hc1)
 exact xSd h hE [rZ,cF,.d {ds:=[],hv:=12,Hs:=[4,12]}] c14
def ZbR.s {A0_0 A1_0:List Int} {r:(List Int)×(List Int)} (h:ZbR N A0_0 A1_0=some r):ZdW zC 171 [.agg [zL .u64 4 A0_0],.agg [zL .u64 4 A1_0]] (ZbR.rs r):=fun st=>
 sO ZbR.B Tryz.func171 fun g0 w0 R hE=>by
  unfold ZbR at h;obtain ⟨x1,c1,h⟩:=Zab h;let o3:List PS:=[rZ,rZ,.r [(1,q1 [oB x1])]]
  refine Zbd h (fun c2 h=>xSd h hE (o3++[cT,.d {ds:=[],hv:=12,Hs:=[4,12]}]) (aI (Zdy.s c1) c2)) fun c2 h=>?_;obtain ⟨x2,c3,h⟩:=Zab h;exact aq (o3++[cF,.r [(1,q1 [oI x2])]]) (aJ (Zdy.s c1) c2 (ZcV.s c3)) (At.loop N (At.loopN (fun y:Int×(List Int)×(List Int)=>ZbR.S1 y.1 A0_0 A1_0 y.2.1 y.2.2 st) (fun c J hc y h=>ZbR.k1 (A3:=y.1) (A12:=y.2.1) (A13:=y.2.2) h hE (fun A3 A12 A13=>hc (A3,A12,A13))) N (w64 (x2-1),zB 4 0,zB 4 0) h))
def ZeD.B:Code:=Tryz.f156.body.getD .skip
def ZeD.rs (r:(List Int)):List CV:=[.agg [zL .u64 4 r]]
def ZeD (N:Nat):Option (List Int):= Zbb (ZcL N (zB 4 0)) fun x1=> some x1
def ZeD.s {r:(List Int)} (h:ZeD N=some r):ZdW zC 156 [] (ZeD.rs r):=fun st=>
 sO ZeD.B Tryz.func156 fun g0 w0 R hE=>by
  unfold ZeD at h;obtain ⟨x1,c1,h⟩:=Zab h;exact xS h hE [rZ,.r [(1,q1 [.agg [zL .u64 4 x1]])]] (ZcL.s c1)
def Zhl.B:Code:=Tryz.f154.body.getD .skip
def Zhl.rs (r:(List Int)):List CV:=[.agg [zL .u64 4 r]]
def Zhl (N:Nat) (A0_0:List Int):Option (List Int):= Zbb (ZdX N 1) fun x1=> Zbb (Zci N A0_0 x1) fun (x2,x3)=> if x3=true then some x1 else Zbb (ZcL N A0_0) fun x4=> Zbb (ZbR N x4 x2) fun (x5,x6)=> Zbb (Zci N x5 x1) fun (x7,x8)=> if x8=true then Zbb (ZeD N ) fun x9=> some x9 else some x7
def Zhl.s {A0_0:List Int} {r:(List Int)} (h:Zhl N A0_0=some r):ZdW zC 154 [.agg [zL .u64 4 A0_0]] (Zhl.rs r):=fun st=>
 sO Zhl.B Tryz.func154 fun g0 w0 R hE=>by
  unfold Zhl at h;obtain ⟨x1,c1,h⟩:=Zab h;obtain ⟨⟨x2,x3⟩,c2,h⟩:=Zab h;let o1:List PS:=[rZ,.d {ds:=[(1,q1 [.agg [zL .u64 4 x1]]),(2,q1 [.agg [zL .u64 4 x2],oB x3])],hv:=192,Hs:=[64,192]},rZ]
  have t1 {Q:Prop} (q:Q):=aL (ZdX.s c1) (ZdX.s c1) (Zci.s c2) (Zci.s c2) q;refine Zbd h (fun c3 h=>xSd h hE (o1++[cT,.r [(0,q1 [.agg [zL .u64 4 x1]])]]) (t1 (aI c3 (ZdX.s c1)))) fun c3 h=>?_;obtain ⟨x4,c4,h⟩:=Zab h;obtain ⟨⟨x5,x6⟩,c5,h⟩:=Zab h;obtain ⟨⟨x7,x8⟩,c6,h⟩:=Zab h;let o2:List PS:=o1++[cF,.d {ds:=[(1,q1 [.agg [zL .u64 4 x4]]),(3,q1 [.agg [zL .u64 4 x5],.agg [zL .u64 4 x6]])],hv:=1920,Hs:=[128,256,384,896,1920]},.d {ds:=[(1,q1 [.agg [zL .u64 4 x1]]),(2,q1 [.agg [zL .u64 4 x7],oB x8])],hv:=192,Hs:=[64,192]},rZ]
  have t2 {Q:Prop} (q:Q):=t1 (aO c3 (ZcL.s c4) (ZcL.s c4) (ZcL.s c4) (ZcL.s c4) (ZbR.s c5) (ZbR.s c5) (aN (ZbR.s c5) (ZbR.s c5) (ZdX.s c1) (ZdX.s c1) (Zci.s c6) (Zci.s c6) q));refine Zbd h (fun c7 h=>?_) (fun c7 h=>?_)
  ·obtain ⟨x9,c8,h⟩:=Zab h;exact xSd h hE (o2++[cT,.r [(0,q1 [.agg [zL .u64 4 x9]])]]) (t2 (aI c7 (ZeD.s c8)))
  exact xSd h hE (o2++[cF,rZ]) (t2 c7)
def Zew.B:Code:=Tryz.f132.body.getD .skip
def Zew.rs (r:(List Int)):List CV:=[.agg [zL .u64 4 r]]
def Zew (N:Nat) (A0:Int):Option (List Int):= Zbb (ZaR N A0) fun (x1,x2,x3)=> if x2=true then some (zB 4 0) else if x3=true then some (zB 4 0) else Zbb (Zdy N x1) fun x4=> if x4=true then some (zB 4 0) else Zbb (Zhl N x1) fun x5=> some x5
def Zew.s {A0:Int} {r:(List Int)} (h:Zew N A0=some r):ZdW zC 132 [oI A0] (Zew.rs r):=fun st=>
 sO Zew.B Tryz.func132 fun g0 w0 R hE=>by
  unfold Zew at h;obtain ⟨⟨x1,x2,x3⟩,c1,h⟩:=Zab h;let o1:List PS:=[rZ,.r [(1,q1 [.agg [zL .u64 4 x1],oB x2,oB x3])]]
  have t1 {Q:Prop} (q:Q):=aI (ZaR.s c1) q;refine Zbd h (fun c2 h=>xS h hE (o1++[.r [(2,wF),(5,wF),(6,wF)],cT,rZ]) (t1 (aM c2 c2 eT eT eT eT))) fun c2 h=>?_;refine Zbd h (fun c3 h=>xS h hE (o1++[.r [(3,yF),(5,wF),(6,wF)],cT,rZ]) (t1 (aM c2 c2 c3 c3 c3 eT))) fun c3 h=>?_;obtain ⟨x4,c4,h⟩:=Zab h;let o2:List PS:=o1++[.r [(3,yF),(6,q1 [oB x4]),(7,yF)]]
  refine Zbd h (fun c5 h=>xS h hE (o2++[cT,rZ]) (t1 (aN c2 c2 c3 c3 (Zdy.s c4) c3 c5))) fun c5 h=>?_;obtain ⟨x5,c6,h⟩:=Zab h;exact xS h hE (o2++[cF,.r [(1,q1 [.agg [zL .u64 4 x5]])]]) (t1 (aO c2 c2 c3 c3 (Zdy.s c4) c3 c5 (Zhl.s c6)))
def ZcU.B:Code:=Tryz.f155.body.getD .skip
def ZcU.rs (r:(List Int)×Bool):List CV:=[.agg [zL .u64 4 r.1],oB r.2]
def ZcU.p1 (N:Nat) (A0:LL) (c1_:(Bool×Int×(List Int))->Option ((List Int)×Bool)):(Bool×Int×(List Int))->Option ((List Int)×Bool):=fun (A1,v2,A6)=> if (decide (v2<(len A0)))=true then chk (0<=v2)<| ZcO (A0[zD v2]?) ZgN fun x7=> Zbb (Zci N A6 x7) fun (x8,x9)=> if A1=true then c1_ (true,w64 (v2+1),x8) else c1_ (x9,w64 (v2+1),x8) else some (A6,A1)
def ZcU (N:Nat) (A0:LL):Option ((List Int)×Bool):= loopN (ZcU.p1 N A0) N (false,0,zB 4 0)
def ZcU.S1 (A1:Bool) (A0:LL) (v2:Int) (A6:List Int) (st:LL):S:=mkS 28 [(2,sA 2),(4,sA 4),(5,.one (.l (wD A1))),(9,sV 4 A0),(10,sI (len A0)),(11,sI v2)] [(2,.cells [zL .u64 4 (zB 4 0)]),(4,.cells [zL .u64 4 A6])] st
def ZcU.k1 {A1 A0 v2 A6 st r c1_ J1} (h:ZcU.p1 N A0 c1_ (A1,v2,A6)=some r) (hE:En Tryz.f155 g0 w0 (ZcU.rs r) st R) (hc1 : ∀A1 v2 A6,c1_ (A1,v2,A6)=some r->At g0 w0 (ZcU.S1 A1 A0 v2 A6 st) J1):At g0 w0 (ZcU.S1 A1 A0 v2 A6 st) (XK zC R (cK ZcU.B [1,1,1,0,1,0,0] :: .h J1 :: [.b 0,cK ZcU.B [1,1,1,1]])):=by
 unfold ZcU.p1 at h;refine Zbd h (fun c6 h=>?_) (fun c6 h=>?_)
 ·obtain ⟨c7,h⟩:=Zba h;obtain ⟨x7,c8,h⟩:=Zin h;obtain ⟨⟨x8,x9⟩,c9,h⟩:=Zab h;let o1:List PS:=[rZ,cT,.r [(1,{oe:=[zL .u64 4 x7]})],rZ,.r [(2,q1 [.agg [zL .u64 4 x8],oB x9])]]
  exact Zbd h (fun c10 h=>an (o1++[.r [(2,wF)],rZ]) (aN c6 c7 (oD c6) c8 (Zci.s c9) c10 c10) (hc1 true (w64 (v2+1)) x8 h)) fun c10 h=>an (o1++[.r [(3,yF)],rZ]) (aN c6 c7 (oD c6) c8 (Zci.s c9) c10 c10) (hc1 x9 (w64 (v2+1)) x8 h)
 exact xS h hE [rZ,cF,rZ] c6
def ZcU.s {A0:LL} {r:(List Int)×Bool} (h:ZcU N A0=some r):ZdW zC 155 [.one (vQ 4 A0)] (ZcU.rs r):=fun st=>
 sO ZcU.B Tryz.func155 fun g0 w0 R hE=>by
  unfold ZcU at h;exact aq [rZ,rZ,rZ,rZ] trivial (At.loop N (At.loopN (fun y:Bool×Int×(List Int)=>ZcU.S1 y.1 A0 y.2.1 y.2.2 st) (fun c J hc y h=>ZcU.k1 (A1:=y.1) (v2:=y.2.1) (A6:=y.2.2) h hE (fun A1 v2 A6=>hc (A1,v2,A6))) N (false,0,zB 4 0) h))
def Zgi.B:Code:=Tryz.f133.body.getD .skip
def Zgi.rs (r:(List Int)):List CV:=[.agg [zL .u64 4 r]]
def Zgi (N:Nat) (A0:LL):Option (List Int):= Zbb (ZcU N A0) fun (x1,x2)=> if x2=true then Zbb (ZeD N ) fun x3=> some x3 else some x1
def Zgi.s {A0:LL} {r:(List Int)} (h:Zgi N A0=some r):ZdW zC 133 [.one (vQ 4 A0)] (Zgi.rs r):=fun st=>
 sO Zgi.B Tryz.func133 fun g0 w0 R hE=>by
  unfold Zgi at h;obtain ⟨⟨x1,x2⟩,c1,h⟩:=Zab h;let o1:List PS:=[rZ,.r [(1,q1 [.agg [zL .u64 4 x1],oB x2])],rZ]
  refine Zbd h (fun c2 h=>?_) (fun c2 h=>?_)
  ·obtain ⟨x3,c3,h⟩:=Zab h;exact xS h hE (o1++[cT,.r [(0,q1 [.agg [zL .u64 4 x3]])]]) (aJ (ZcU.s c1) c2 (ZeD.s c3))
  exact xS h hE (o1++[cF,rZ]) (aI (ZcU.s c1) c2)
def Zbg.B:Code:=Tryz.f105.body.getD .skip
def Zbg.rs (r:Int×LL):List CV:=[oI r.1]
def Zbg.p1 (N:Nat) (A7:Option Nat) (A3:ZaW) (A6:Zcr) (st:LL):Option (Int×LL):= Zbb A7 fun i8=> ZcO (st[i8]?) Zbt fun x9=> chk (zG (x9.list++[A6.ls])*176<=140737488355328)<| chk (zG (x9.spots++[A3.ls])*96<=140737488355328)<| optM (ZiT x9.places (zL .u8 32 A6.Id)) (fun j10 e=>Zdv [e] fun x11=> some (w64 ((len (x9.list++[A6.ls]))-1),zR (zR (zR (zR (zR st i8 (gs x9.lo 15)) i8 (gs (gs x9.lo 15) 16)) i8 (gs (ZaG.lo {x9 with list:=x9.list++[A6.ls]}) 16)) i8 (ZaG.lo {x9 with list:=x9.list++[A6.ls],spots:=x9.spots++[A3.ls]})) i8 (ZaG.lo (ZaG.mk x9.rules (x9.list++[A6.ls]) (x9.spots++[A3.ls]) (zR x9.places j10 (zL .u8 32 A6.Id,zK .i64 (w64 ((len (x9.list++[A6.ls]))-1)))) x9.room)))) ( some (w64 ((len (x9.list++[A6.ls]))-1),zR (zR (zR (zR (zR st i8 (gs x9.lo 15)) i8 (gs (gs x9.lo 15) 16)) i8 (gs (ZaG.lo {x9 with list:=x9.list++[A6.ls]}) 16)) i8 (ZaG.lo {x9 with list:=x9.list++[A6.ls],spots:=x9.spots++[A3.ls]})) i8 (ZaG.lo (ZaG.mk x9.rules (x9.list++[A6.ls]) (x9.spots++[A3.ls]) (x9.places++[(zL .u8 32 A6.Id,zK .i64 (w64 ((len (x9.list++[A6.ls]))-1)))]) x9.room))))
def Zbg (N:Nat) (A0:Option Nat) (A1:Zal) (A2:Int) (A3:ZaW) (st:LL):Option (Int×LL):= Zbb (Zew N A1.Bits) fun x1=> if (A2 != (-1))=true then Zbb A0 fun i2=> ZcO (st[i2]?) Zbt fun x3=> chk (0<=A2)<| chk (A2<(len x3.list))<| ZcO (x3.list[0+(zD A2)]?) ZeN fun x4=> Zbb (Zgi N [[zL .u64 4 x4.Work],[zL .u64 4 x1]]) fun x5=> Zbg.p1 N (some i2) A3 (Zcr.mk A1 A3.Prev A2 (w64 (x4.Height+1)) x5) st else Zbg.p1 N A0 A3 (Zcr.mk A1 A3.Prev A2 0 x1) st
def Zbg.S1 (A7:Option Nat) (A3:ZaW) (A6:Zcr) (st:LL):S:=mkS 81 [(0,sP A7),(7,sA 7),(9,sA 9)] [(7,.cells A3.ls),(9,.cells A6.ls)] st
def Zbg.k1 {A7 A3 A6 st r} (h:Zbg.p1 N A7 A3 A6 st=some r) (hE:En Tryz.f105 g0 w0 (Zbg.rs r) r.2 R):At g0 w0 (Zbg.S1 A7 A3 A6 st) (XK zC R [cK Zbg.B [1,1,1]]):=by
 unfold Zbg.p1 at h;obtain ⟨i8,rfl,h1⟩:=Zab h;obtain ⟨x9,c10,h2⟩:=Zbi h1;obtain ⟨c11,c12,h3⟩:=ck2 h2;let o1:List PS:=[.d {ds:=[(5,{oc:=x9.lo}),(8,{oe:=x9.lo}),(12,{oc:=gs x9.lo 15}),(15,{oe:=gs x9.lo 15}),(18,{oc:=gs (gs x9.lo 15) 16,mv:=[51]}),(21,{oc:=gs (ZaG.lo {x9 with list:=x9.list++[A6.ls]}) 16,mv:=[58]})],hv:=2408832,Hs:=[128,384,16384,16512,16768,49536,311680,2408832],dh:=[(12,0,{oc:=x9.lo}),(12,128,{oc:=x9.lo}),(12,16384,{oc:=x9.lo}),(12,16512,{oc:=x9.lo})]}]
 have t1 {Q:Prop} (q:Q):=aO c10 c10 c10 c10 z0 (eN (zG x9.list)) c10 (aO z0 (eN (1)) c11 z0 (eN (zG x9.list)) c10 z0 (aO (eN (1)) c11 c10 c10 (Zaq c10 (gs x9.lo 15)) c10 c10 (aO (Zaq c10 (gs x9.lo 15)) z0 (eN (zG x9.spots)) (Zaq c10 (gs x9.lo 15)) z0 (eN (1)) c12 (aO (Zaq (Zaq c10 (gs x9.lo 15)) (gs (gs x9.lo 15) 16)) z0 (eN (zG (x9.list++[A6.ls]))) (Zaq (Zaq (Zaq c10 (gs x9.lo 15)) (gs (gs x9.lo 15) 16)) (gs (ZaG.lo {x9 with list:=x9.list++[A6.ls]}) 16)) z0 (eN (zG (x9.spots++[A3.ls]))) (Zaq (Zaq (Zaq (Zaq c10 (gs x9.lo 15)) (gs (gs x9.lo 15) 16)) (gs (ZaG.lo {x9 with list:=x9.list++[A6.ls]}) 16)) (ZaG.lo {x9 with list:=x9.list++[A6.ls],spots:=x9.spots++[A3.ls]})) (aI (Zaq (Zaq (Zaq (Zaq c10 (gs x9.lo 15)) (gs (gs x9.lo 15) 16)) (gs (ZaG.lo {x9 with list:=x9.list++[A6.ls]}) 16)) (ZaG.lo {x9 with list:=x9.list++[A6.ls],spots:=x9.spots++[A3.ls]})) q)))));rcases Zov h3 with ⟨j10,h7,c13,h4⟩ | ⟨c13,h5⟩
 ·obtain ⟨x11,h8,h6⟩:=ZjI h4;obtain rfl:=ZkH h8;let u6:=Zaq (Zaq (Zaq (Zaq c10 (gs x9.lo 15)) (gs (gs x9.lo 15) 16)) (gs (ZaG.lo {x9 with list:=x9.list++[A6.ls]}) 16)) (ZaG.lo {x9 with list:=x9.list++[A6.ls],spots:=x9.spots++[A3.ls]});let u7:=ZaG.mk x9.rules (x9.list++[A6.ls]) (x9.spots++[A3.ls]) (zR x9.places j10 (zL .u8 32 A6.Id,zK .i64 (w64 ((len (x9.list++[A6.ls]))-1)))) x9.room;exact xTd h6 hE (o1++[.d {ds:=[(3,{oc:=ZaG.lo {x9 with list:=x9.list++[A6.ls],spots:=x9.spots++[A3.ls]}}),(9,{oc:=ZaG.lo {x9 with list:=x9.list++[A6.ls],spots:=x9.spots++[A3.ls]}}),(12,{oc:=ZaG.lo {x9 with list:=x9.list++[A6.ls],spots:=x9.spots++[A3.ls]},m:=j10})],hv:=4096,Hs:=[4096]},.r [(3,{oc:=ZaG.lo u7})]]) (t1 (aJ (ex_at c13) u6 (Zaq u6 (ZaG.lo u7))))
 let u6:=Zaq (Zaq (Zaq (Zaq c10 (gs x9.lo 15)) (gs (gs x9.lo 15) 16)) (gs (ZaG.lo {x9 with list:=x9.list++[A6.ls]}) 16)) (ZaG.lo {x9 with list:=x9.list++[A6.ls],spots:=x9.spots++[A3.ls]});let u7:=ZaG.mk x9.rules (x9.list++[A6.ls]) (x9.spots++[A3.ls]) (x9.places++[(zL .u8 32 A6.Id,zK .i64 (w64 ((len (x9.list++[A6.ls]))-1)))]) x9.room;exact xTd h5 hE (o1++[.d {ds:=[(3,{oc:=ZaG.lo {x9 with list:=x9.list++[A6.ls],spots:=x9.spots++[A3.ls]}}),(9,{oc:=ZaG.lo {x9 with list:=x9.list++[A6.ls],spots:=x9.spots++[A3.ls]}}),(12,{oc:=ZaG.lo {x9 with list:=x9.list++[A6.ls],spots:=x9.spots++[A3.ls]},yes:=false})],hv:=4096,Hs:=[4096]},.r [(3,{oc:=ZaG.lo u7})]]) (t1 (aJ c13 u6 (Zaq u6 (ZaG.lo u7))))
def Zbg.s {A0:Option Nat} {A1:Zal} {A2:Int} {A3:ZaW} {st:LL} {r:Int×LL} (h:Zbg N A0 A1 A2 A3 st=some r):Snd zC 105 [.one (zN A0),.agg A1.ls,oI A2,.agg A3.ls] st (Zbg.rs r) r.2:=
 sO Zbg.B Tryz.func105 fun g0 w0 R hE=>by
  unfold Zbg at h;obtain ⟨x1,c1,h⟩:=Zab h;let o2:List PS:=[rZ,.d {ds:=[(6,q1 [.agg [zL .u64 4 x1]])],hv:=768,Hs:=[256,768]},rZ]
  have t2 {Q:Prop} (q:Q):=aJ (Zew.s c1) (Zew.s c1) q;refine Zbd h (fun c2 h=>?_) (fun c2 h=>?_)
  ·obtain ⟨i2,rfl,h⟩:=Zab h;obtain ⟨x3,c4,h⟩:=Zbi h;obtain ⟨c5,c6,h⟩:=ck2 h;obtain ⟨x4,c7,h⟩:=Zfm h;obtain ⟨x5,c8,h⟩:=Zab h;exact aqd (o2++[cT,.r [(3,{oc:=x3.lo}),(7,{oc:=x3.lo,oe:=x4.ls})],.d {ds:=[(3,{oc:=x3.lo}),(7,{oc:=x3.lo,oe:=x4.ls}),(11,{rs:=[.agg [zL .u64 4 x5]],m:=2})],hv:=9216,Hs:=[1024,9216]},.s 1]) (t2 (aO c2 c4 c5 c6 c7 c4 c4 (aN c5 c6 c7 c4 z0 (eN (2)) (Zgi.s c8)))) (Zbg.k1 h hE)
  exact aqd (o2++[cF,.s 1]) (t2 c2) (Zbg.k1 h hE)
def Zfp.B:Code:=Tryz.f73.body.getD .skip
def Zfp.rs (r:(Option Nat)×Int×LL):List CV:=[.one (zN r.1),oI r.2.1]
def Zfp (N:Nat) (A0:Zae) (A1:Int) (st:LL):Option ((Option Nat)×Int×LL):= Zbb (Zcb N A0) fun x1=> if (!x1)=true then some (none,1,st) else chk (zG ([]++A0.Gates)*16<=140737488355328)<| chk (zG ([]++A0.Checks)*40<=140737488355328)<| Zbb (Zgy N {A0 with Gates:=[]++A0.Gates,Checks:=[]++A0.Checks}) fun x2=> Zbb (Zbg N (some (zG st)) A0.Genesis (-1) x2 (st++[ZaG.lo (ZaG.mk {A0 with Gates:=[]++A0.Gates,Checks:=[]++A0.Checks} [] [] [] (if (512:Int)<(if (1:Int)>A1 then 1 else A1) then 512 else (if (1:Int)>A1 then 1 else A1)))])) fun (x3,st4)=> some ((some (zG st)),0,st4)
def Zfp.s {A0:Zae} {A1:Int} {st:LL} {r:(Option Nat)×Int×LL} (h:Zfp N A0 A1 st=some r):Snd zC 73 [.agg A0.ls,oI A1] st (Zfp.rs r) r.2.2:=
 sO Zfp.B Tryz.func73 fun g0 w0 R hE=>by
  unfold Zfp at h;obtain ⟨x1,c1,h⟩:=Zab h;let o1:List PS:=[rZ,.r [(1,q1 [oB x1])]]
  refine Zbd h (fun c2 h=>xU h hE (o1++[cT,rZ]) (aI (Zcb.s c1) c2)) fun c2 h=>?_;obtain ⟨c3,c4,h⟩:=ck2 h;obtain ⟨x2,c5,h⟩:=Zab h;obtain ⟨⟨x3,st4⟩,c6,h⟩:=Zab h;exact xUd h hE (o1++[cF,.d {ds:=[(7,{fz:=[12]}),(9,{fz:=[15]})],hv:=676,Hs:=[4,36,164,676]},.r [(5,{ns:=[15,16]}),(6,{m:=1})],.d {ds:=[(4,q1 [.agg x2.ls]),(5,{rs:=[oI x3],st:=st4})],hv:=32,Hs:=[32]},rZ]) (aO (Zcb.s c1) c2 c3 c4 z0 (eN (zG ([]++A0.Gates))) z0 (aJ (eN (zG ([]++A0.Checks))) (Zgy.s c5) (Zbg.s c6)))
def ZfX.B:Code:=Tryz.f36.body.getD .skip
def ZfX.rs (r:(Option Nat)×Int×LL):List CV:=[.one (zN r.1),oI r.2.1]
def ZfX (N:Nat) (A0:Zae) (A1:Int) (st:LL):Option ((Option Nat)×Int×LL):= Zbb (Zfp N A0 A1 st) fun (x1,x2,st3)=> if (x2 != 0)=true then some (none,x2,st3) else some ((some (zG st3)),0,st3++[[zN x1,yI true 1 [[zK .i64 (-1)]]]])
def ZfX.s {A0:Zae} {A1:Int} {st:LL} {r:(Option Nat)×Int×LL} (h:ZfX N A0 A1 st=some r):Snd zC 36 [.agg A0.ls,oI A1] st (ZfX.rs r) r.2.2:=
 sO ZfX.B Tryz.func36 fun g0 w0 R hE=>by
  unfold ZfX at h;obtain ⟨⟨x1,x2,st3⟩,c1,h⟩:=Zab h;let o1:List PS:=[rZ,.r [(2,{rs:=[.one (zN x1),oI x2],st:=st3})],rZ]
  exact Zbd h (fun c2 h=>xU h hE (o1++[cT,rZ]) (aI (Zfp.s c1) c2)) fun c2 h=>xU h hE (o1++[cF,.r [(2,{ns:=[1]}),(3,{m:=1,mv:=[18]})]]) (aK (Zfp.s c1) c2 z0 (eN (1)))
def ZgG.B:Code:=Tryz.f37.body.getD .skip
def ZgG.rs (r:(Option Nat)×LL):List CV:=[.one (zN r.1)]
def ZgG (N:Nat) (A0:Option Nat) (st:LL):Option ((Option Nat)×LL):= some ((some (zG st)),st++[[zN A0,yI true 3 []]])
def ZgG.s {A0:Option Nat} {st:LL} {r:(Option Nat)×LL} (h:ZgG N A0 st=some r):Snd zC 37 [.one (zN A0)] st (ZgG.rs r) r.2:=
 sO ZgG.B Tryz.func37 fun g0 w0 R hE=>by
  unfold ZgG at h;exact xT h hE [rZ,.r [(1,{ns:=[1]}),(2,{m:=1})]] trivial
def ZgE.B:Code:=Tryz.f38.body.getD .skip
def ZgE.rs (r:(Option Nat)×LL):List CV:=[.one (zN r.1)]
def ZgE (N:Nat) (A0:Option Nat) (st:LL):Option ((Option Nat)×LL):= some ((some (zG st)),st++[[zN A0,yI true 1 []]])
def ZgE.s {A0:Option Nat} {st:LL} {r:(Option Nat)×LL} (h:ZgE N A0 st=some r):Snd zC 38 [.one (zN A0)] st (ZgE.rs r) r.2:=
 sO ZgE.B Tryz.func38 fun g0 w0 R hE=>by
  unfold ZgE at h;exact xT h hE [rZ,.r [(1,{ns:=[1]}),(2,{m:=1})]] trivial
def Zdp.B:Code:=Tryz.f74.body.getD .skip
def Zdp.rs (r:Bool×LL):List CV:=[oB r.1]
def Zdp (N:Nat) (A0:Option Nat) (at_1:Int) (st:LL):Option (Bool×LL):= if (!(xX A0))=true then if (decide (at_1>=0))=true then Zbb A0 fun i1=> ZcO (st[i1]?) ZbO fun x2 x3=> Zbb (Zdc N x2 st) fun (x4,st5)=> some (decide (at_1<x4),st5) else some (false,st) else some (false,st)
def Zdp.s {A0:Option Nat} {at_1:Int} {st:LL} {r:Bool×LL} (h:Zdp N A0 at_1 st=some r):Snd zC 74 [.one (zN A0),oI at_1] st (Zdp.rs r) r.2:=
 sO Zdp.B Tryz.func74 fun g0 w0 R hE=>by
  unfold Zdp at h;refine Zbd h (fun c1 h=>?_) (fun c1 h=>?_)
  ·refine Zbd h (fun c2 h=>?_) (fun c2 h=>?_)
   ·obtain ⟨i1,rfl,h⟩:=Zab h;obtain ⟨x2,x3,c4,h⟩:=Zbs h;obtain ⟨⟨x4,st5⟩,c5,h⟩:=Zab h;exact xT h hE [rZ,.r [(11,{oc:=[zN x2,yI true 1 x3]}),(12,{rs:=[oI x4],st:=st5})]] (aO eT eT eT c2 c2 c2 c2 (aM c2 c4 c2 (Zdc.s c5) c2 c2))
   exact xT h hE [rZ,.r [(7,wF),(8,wF),(9,wF),(10,wF),(11,wF),(12,wF),(13,wF),(14,yF)]] (aO c1 c1 c1 c2 c2 c2 c2 (aK c2 c2 c2 c2))
  exact xT h hE [rZ,.r [(3,wF),(4,wF),(5,yF),(7,wF),(8,wF),(9,wF),(10,wF),(11,wF),(12,wF),(13,wF),(14,yF)]] (aO c1 c1 c1 eF eF eF eF (aK eF eF eF eF))
def Zcd.B:Code:=Tryz.f32.body.getD .skip
def Zcd.rs (r:Bool):List CV:=[oB r]
def Zcd (N:Nat) (A0:ZaG) (A1 A2:Int):Option Bool:= Zbb (ZbT N A0 A1) fun x1=> if (!x1)=true then some x1 else Zbb (ZbT N A0 A2) fun x2=> if (!x2)=true then some x1 else chk (0<=A1)<| chk (A1<(len A0.list))<| ZcO (A0.list[zD A1]?) ZeN fun x3=> chk (0<=A2)<| chk (A2<(len A0.list))<| ZcO (A0.list[zD A2]?) ZeN fun x4=> Zbb (ZbJ N x3.Work x4.Work) fun x5=> if (decide (x5>0))=true then some true else if (x5==0)=true then some (decide (A1<A2)) else some false
def Zcd.s {A0:ZaG} {A1 A2:Int} {r:Bool} (h:Zcd N A0 A1 A2=some r):ZdW zC 32 [.one (wE 87 A0.ls),oI A1,oI A2] (Zcd.rs r):=fun st=>
 sO Zcd.B Tryz.func32 fun g0 w0 R hE=>by
  unfold Zcd at h;obtain ⟨x1,c1,h⟩:=Zab h;have t1 {Q:Prop} (q:Q):=aI (ZbT.s c1) q;refine Zbd h (fun c2 h=>xS h hE [rZ,.r [(2,q0 [oB x1]),(5,wF),(6,wF),(7,wF),(8,wF)],cT,.r [(2,q0 [oB x1])]] (t1 (aN (not_false (Zcu c2)) (not_false (Zcu c2)) (not_false (Zcu c2)) (not_false (Zcu c2)) (not_false (Zcu c2)) eT (ZbT.s c1)))) fun c2 h=>?_;obtain ⟨x2,c3,h⟩:=Zab h;let o1:List PS:=[rZ,.r [(2,q0 [oB x1]),(7,q0 [oB x2]),(9,yF)]]
  have t2 {Q:Prop} (q:Q):=t1 (aN (not_true (Zcv c2)) (not_true (Zcv c2)) (not_true (Zcv c2)) (ZbT.s c3) (not_true (Zcv c2)) (not_true (Zcv c2)) q);refine Zbd h (fun c4 h=>xS h hE (o1++[cT,.r [(2,q0 [oB x1])]]) (t2 (aI c4 (ZbT.s c1)))) fun c4 h=>?_;obtain ⟨c5,c6,h⟩:=ck2 h;obtain ⟨x3,c7,h⟩:=Zfm h;obtain ⟨c8,c9,h⟩:=ck2 h;obtain ⟨x4,c10,h⟩:=Zfm h;obtain ⟨x5,c11,h⟩:=Zab h;let o2:List PS:=o1++[cF,.d {ds:=[(3,{oe:=A0.ls}),(7,{oe:=x3.ls}),(11,{oe:=A0.ls}),(15,{oe:=x4.ls}),(16,q1 [oI x5])],hv:=0,Hs:=[]}]
  have t3 {Q:Prop} (q:Q):=t2 (aO c4 (eO A0.ls) c5 c6 c7 (eO A0.ls) c8 (aK c9 c10 (ZbJ.s c11) q));exact Zbd h (fun c12 h=>xSd h hE (o2++[.r [(3,wF),(4,wF),(5,wF),(9,wF)]]) (t3 (aL c12 c12 c12 c12 c12))) fun c12 h=>Zbd h (fun c13 h=>xSd h hE (o2++[.r [(10,yF)]]) (t3 (aO c12 c12 c12 c13 c13 c13 c12 (aI c13 c12)))) fun c13 h=>xSd h hE (o2++[.r [(6,wF),(7,wF),(8,wF),(9,yF),(10,yF)]]) (t3 (aO c12 c12 c12 c13 c13 c13 c12 (aI c13 c12)))
def ZbE.B:Code:=Tryz.f10.body.getD .skip
def ZbE.rs (r:Bool):List CV:=[oB r]
def ZbE (N:Nat) (A0:Zat) (A1 A2:Int):Option Bool:= Zbb (Zcd N A0.store A1 A2) fun x1=> some x1
def ZbE.s {A0:Zat} {A1 A2:Int} {r:Bool} (h:ZbE N A0 A1 A2=some r):ZdW zC 10 [.one (wE 2 A0.ls),oI A1,oI A2] (ZbE.rs r):=fun st=>
 sO ZbE.B Tryz.func10 fun g0 w0 R hE=>by
  unfold ZbE at h;obtain ⟨x1,c1,h⟩:=Zab h;exact xS h hE [rZ,.r [(6,{oe:=A0.ls}),(9,q0 [oB x1])]] (aO eT eT eT eT (eO A0.ls) eT eT (aJ eT (Zcd.s c1) eT))
def Zdf.B:Code:=Tryz.f108.body.getD .skip
def Zdf.rs (r:Int):List CV:=[oI r]
def Zdf (N:Nat) (A0 at_1:Int) (A2_0:ZbM):Option Int:= if (A0==at_1)=true then some 0 else Zbb (ZbE N A2_0.tree A0 at_1) fun x1=> if x1=true then some (-1) else some 1
def Zdf.s {A0 at_1:Int} {A2_0:ZbM} {r:Int} (h:Zdf N A0 at_1 A2_0=some r):ZdW zC 108 [oI A0,oI at_1,.one (wE 1 [wE 2 A2_0.ls])] (Zdf.rs r):=fun st=>
 sO Zdf.B Tryz.func108 fun g0 w0 R hE=>by
  unfold Zdf at h;refine Zbd h (fun c1 h=>xS h hE [rZ,rZ,cT,rZ] c1) fun c1 h=>?_;obtain ⟨x1,c2,h⟩:=Zab h;let o1:List PS:=[rZ,rZ,cF,.r [(0,{m:=2}),(3,{oe:=A2_0.ls}),(6,q0 [oB x1])]]
  have t1 {Q:Prop} (q:Q):=aK c1 (eO A2_0.ls) (ZbE.s c2) q;exact Zbd h (fun c3 h=>xS h hE (o1++[cT,rZ]) (t1 c3)) fun c3 h=>xS h hE (o1++[cF,rZ]) (t1 c3)
def Zai.B:Code:=Tryz.f107.body.getD .skip
def Zai.rs (r:Int×Bool):List CV:=[oI r.1,oB r.2]
def Zai.p1 (N:Nat) (A0:LL) (F1:Int) (A2_0_0:ZbM) (c1_:(Int×Int)->Option (Int×Bool)):(Int×Int)->Option (Int×Bool):=fun (A1,A2)=> if (decide (A1<A2))=true then chk (0<=(w64 (Zbx .u64 (v64 (w64 (A1+A2))) 1)))<| chk ((w64 (Zbx .u64 (v64 (w64 (A1+A2))) 1))<(len A0))<| ZcO (A0[zD (w64 (Zbx .u64 (v64 (w64 (A1+A2))) 1))]?) Zdv fun x3=> Zbb (Zdf N x3 F1 A2_0_0) fun x4=> if (decide (x4<0))=true then c1_ (w64 ((w64 (Zbx .u64 (v64 (w64 (A1+A2))) 1))+1),A2) else c1_ (A1,w64 (Zbx .u64 (v64 (w64 (A1+A2))) 1)) else if (decide (A1<(len A0)))=true then chk (0<=A1)<| ZcO (A0[zD A1]?) Zdv fun x5=> Zbb (Zdf N x5 F1 A2_0_0) fun x6=> some (A1,x6==0) else some (A1,false)
def Zai (N:Nat) (A0:LL) (F1:Int) (A2_0_0:ZbM):Option (Int×Bool):= loopN (Zai.p1 N A0 F1 A2_0_0) N (0,(len A0))
def Zai.S1 (A0:LL) (F1:Int) (A2_0_0:ZbM) (A1 A2:Int) (st:LL):S:=mkS 49 [(0,sV 1 A0),(1,sI F1),(2,.one (.l (L.fn 108 0 [wE 1 [wE 2 A2_0_0.ls]]))),(8,sI (len A0)),(9,sI A1),(10,sI A2)] [] st
def Zai.k1 {A0 F1 A2_0_0 A1 A2 st r c1_ J1} (h:Zai.p1 N A0 F1 A2_0_0 c1_ (A1,A2)=some r) (hE:En Tryz.f107 g0 w0 (Zai.rs r) st R) (hc1 : ∀A1 A2,c1_ (A1,A2)=some r->At g0 w0 (Zai.S1 A0 F1 A2_0_0 A1 A2 st) J1):At g0 w0 (Zai.S1 A0 F1 A2_0_0 A1 A2 st) (XK zC R (cK Zai.B [1,1,1,0,0,0] :: .h J1 :: [.b 0,cK Zai.B [1,1,1,1]])):=by
 unfold Zai.p1 at h;refine Zbd h (fun c1 h=>?_) (fun c1 h=>?_)
 ·obtain ⟨c2,c3,h⟩:=ck2 h;obtain ⟨x3,c4,h⟩:=Zcq h;obtain ⟨x4,c5,h⟩:=Zab h;let o1:List PS:=[rZ,cT,rZ,.r [(4,{oe:=[zK .i64 x3]}),(6,{rs:=[oI x4],st:=st,m:=5})]]
  have t1 {Q:Prop} (q:Q):=aN c1 (leI 0 1) c2 c3 c4 (Zdf.s c5 st) q;exact Zbd h (fun c6 h=>an (o1++[cT,rZ]) (t1 c6) (hc1 (w64 ((w64 (Zbx .u64 (v64 (w64 (A1+A2))) 1))+1)) A2 h)) fun c6 h=>an (o1++[cF,rZ]) (t1 c6) (hc1 A1 (w64 (Zbx .u64 (v64 (w64 (A1+A2))) 1)) h)
 refine Zbd h (fun c7 h=>?_) (fun c7 h=>?_)
 ·obtain ⟨c8,h⟩:=Zba h;obtain ⟨x5,c9,h⟩:=Zcq h;obtain ⟨x6,c10,h⟩:=Zab h;exact xS h hE [rZ,cF,.r [(9,{oe:=[zK .i64 x5]}),(11,{rs:=[oI x6],st:=st,m:=5})]] (aO c1 c7 c7 c7 c7 c8 (oD c7) (aN c7 c9 c7 c7 (Zdf.s c10 st) c7 c7))
 exact xS h hE [rZ,cF,.r [(5,wF),(6,wF),(7,wF),(8,wF),(9,wF),(10,wF),(11,wF),(12,wF),(13,yF)]] (aO c1 c7 c7 c7 c7 c7 c7 (aJ c7 c7 c7))
def Zai.s {A0:LL} {F1:Int} {A2_0_0:ZbM} {r:Int×Bool} (h:Zai N A0 F1 A2_0_0=some r):ZdW zC 107 [.one (vQ 1 A0),oI F1,.one (L.fn 108 0 [wE 1 [wE 2 A2_0_0.ls]])] (Zai.rs r):=fun st=>
 sO Zai.B Tryz.func107 fun g0 w0 R hE=>by
  unfold Zai at h;exact aq [rZ,rZ,rZ] trivial (At.loop N (At.loopN (fun y:Int×Int=>Zai.S1 A0 F1 A2_0_0 y.1 y.2 st) (fun c J hc y h=>Zai.k1 (A1:=y.1) (A2:=y.2) h hE (fun A1 A2=>hc (A1,A2))) N (0,(len A0)) h))
def ZcM.B:Code:=Tryz.f75.body.getD .skip
def ZcM.rs (r:Int×Bool):List CV:=[oI r.1,oB r.2]
def ZcM (N:Nat) (A0:ZbM) (at_1:Int):Option (Int×Bool):= Zbb (Zai N A0.list at_1 A0) fun (x1,x2)=> some (x1,x2)
def ZcM.s {A0:ZbM} {at_1:Int} {r:Int×Bool} (h:ZcM N A0 at_1=some r):ZdW zC 75 [.one (wE 2 A0.ls),oI at_1] (ZcM.rs r):=fun st=>
 sO ZcM.B Tryz.func75 fun g0 w0 R hE=>by
  unfold ZcM at h;obtain ⟨⟨x1,x2⟩,c1,h⟩:=Zab h;exact xS h hE [.r [(0,{m:=2})],.r [(0,{m:=2}),(3,{oe:=A0.ls}),(6,q1 [oI x1,oB x2])]] (aI (eO A0.ls) (Zai.s c1))
def ZaY.B:Code:=Tryz.f39.body.getD .skip
def ZaY.rs (r:Int×LL):List CV:=[oI r.1]
def ZaY.p2 (N:Nat) (c1_:((Option Nat)×Int×Int×LL)->Option (Int×LL)) (A34:Option Nat) (A35:Int) (A1:LL) (v2:Int) (st36:LL):Option (Int×LL):= c1_ (A34,A35,w64 (v2+1),st36)
def ZaY.p1 (N:Nat) (A1:LL) (c1_:((Option Nat)×Int×Int×LL)->Option (Int×LL)):((Option Nat)×Int×Int×LL)->Option (Int×LL):=fun (A19,F1,v2,st20)=> if (decide (v2<(len A1)))=true then chk (0<=v2)<| ZcO (A1[zD v2]?) Zdv fun x21=> Zbb (Zdp N A19 x21 st20) fun (x22,st23)=> if (!x22)=true then ZaY.p2 N c1_ A19 F1 A1 v2 st23 else Zbb A19 fun i24=> ZcO (st23[i24]?) ZbO fun x25 x26=> Zbb x25 fun i27=> ZcO (st23[i27]?) ZbO fun x28 x29=> Zbb x28 fun i30=> ZcO (st23[i30]?) Zbt fun x31=> Zbb (ZcM N (ZbM.mk (Zat.mk x31 x29) x26) x21) fun (x32,x33)=> if (!x33)=true then chk (0<=x32)<| chk (x32<=len x26)<| chk (isI x26=true)<| chk ((zG x26+1)*8<=140737488355328)<| ZaY.p2 N c1_ (some i24) (w64 (F1+1)) A1 v2 (zR (zR st23 i24 [zN (some i27),L.gone]) i24 [zN (some i27),yI true 1 (xY (zD x32) x26++[zK .i64 x21]::wY (zD x32) x26)]) else ZaY.p2 N c1_ (some i24) F1 A1 v2 st23 else some (F1,st20)
def ZaY (N:Nat) (A0:Option Nat) (A1 st:LL):Option (Int×LL):= loopN (ZaY.p1 N A1) N (A0,0,0,st)
def ZaY.S2 (A34:Option Nat) (A35:Int) (A1:LL) (v2:Int) (st36:LL):S:=mkS 43 [(0,sP A34),(5,sI A35),(10,sV 1 A1),(11,sI (len A1)),(12,sI v2)] [] st36
def ZaY.S1 (A19:Option Nat) (F1:Int) (A1:LL) (v2:Int) (st20:LL):S:=mkS 43 [(0,sP A19),(5,sI F1),(10,sV 1 A1),(11,sI (len A1)),(12,sI v2)] [] st20
def ZaY.k2 {A34 A35 A1 v2 st36 r c1_ J1} (h:ZaY.p2 N c1_ A34 A35 A1 v2 st36=some r) (hE:En Tryz.f39 g0 w0 (ZaY.rs r) r.2 R) (hc1 : ∀A19 F1 v2 st20,c1_ (A19,F1,v2,st20)=some r->At g0 w0 (ZaY.S1 A19 F1 A1 v2 st20) J1):At g0 w0 (ZaY.S2 A34 A35 A1 v2 st36) (XK zC R [cK ZaY.B [1,1,0,1,0,0,1,1,1],.h J1,.b 0,cK ZaY.B [1,1,1]]):=by
 unfold ZaY.p2 at h;exact an [rZ] trivial (hc1 A34 A35 (w64 (v2+1)) st36 h)
def ZaY.k1 {A19 F1 A1 v2 st20 r c1_ J1} (h:ZaY.p1 N A1 c1_ (A19,F1,v2,st20)=some r) (hE:En Tryz.f39 g0 w0 (ZaY.rs r) r.2 R) (hc1 : ∀A19 F1 v2 st20,c1_ (A19,F1,v2,st20)=some r->At g0 w0 (ZaY.S1 A19 F1 A1 v2 st20) J1):At g0 w0 (ZaY.S1 A19 F1 A1 v2 st20) (XK zC R (cK ZaY.B [1,1,0,1,0,0] :: .h J1 :: [.b 0,cK ZaY.B [1,1,1]])):=by
 unfold ZaY.p1 at h;refine Zbd h (fun c18 h=>?_) (fun c18 h=>?_)
 ·obtain ⟨c19,h⟩:=Zba h;obtain ⟨x21,c20,h⟩:=Zcq h;obtain ⟨⟨x22,st23⟩,c21,h⟩:=Zab h;let o1:List PS:=[rZ,cT,.r [(1,{oe:=[zK .i64 x21]})],.r [(2,{rs:=[oB x22],st:=st23})]]
  have t1 {Q:Prop} (q:Q):=aM c18 c19 (oD c18) c20 (Zdp.s c21) q;refine Zbd h (fun c22 h=>aq (o1++[cT,.s 4]) (t1 c22) (ZaY.k2 h hE hc1)) fun c22 h=>?_;obtain ⟨i24,rfl,h⟩:=Zab h;obtain ⟨x25,x26,c24,h⟩:=Zbs h;obtain ⟨i27,rfl,h⟩:=Zab h;obtain ⟨x28,x29,c26,h⟩:=Zbs h;obtain ⟨i30,rfl,h⟩:=Zab h;obtain ⟨x31,c28,h⟩:=Zbi h;obtain ⟨⟨x32,x33⟩,c29,h⟩:=Zab h;let o2:List PS:=o1++[cF,.r [(2,{rs:=[oI x32,oB x33],m:=10,cv:=[.one (wE 2 (ZbM.ls (ZbM.mk (Zat.mk x31 x29) x26)))]})],rZ]
  have t2 {Q:Prop} (q:Q):=t1 (aK c22 (bO 2 c24 ((bC 2 c26 ((bC 87 c28 (ZaG.bv x31) (bW bN)):BVs st23 [zN (some i30),yI true 1 x29] (Zat.ls (Zat.mk x31 x29))) (bW bN)):BVs st23 [zN (some i27),yI true 1 x26] (ZbM.ls (ZbM.mk (Zat.mk x31 x29) x26)))) (ZcM.s c29) q);refine Zbd h (fun c30 h=>?_) (fun c30 h=>?_)
  ·obtain ⟨c31,c32,c33,c34,h⟩:=ck4 h;exact aq (o2++[cT,.r [(4,{oc:=[zN (some i27),yI true 1 x26]}),(8,{oe:=[zN (some i27),yI true 1 x26],m:=15}),(11,{oc:=[zN (some i27),L.gone],mv:=[36]})],rZ,.s 4]) (t2 (aO c30 c24 z0 (eN (zG x26)) c24 c31 c32 (aM c33 c34 slices_Insert_int.snd (Zaq c24 [zN (some i27),L.gone]) z0 (eN (zG (xY (zD x32) x26++[zK .i64 x21]::wY (zD x32) x26)))))) (ZaY.k2 h hE hc1)
  exact aq (o2++[cF,.s 4]) (t2 c30) (ZaY.k2 h hE hc1)
 exact xT h hE [rZ,cF,rZ] c18
def ZaY.s {A0:Option Nat} {A1:LL} {st:LL} {r:Int×LL} (h:ZaY N A0 A1 st=some r):Snd zC 39 [.one (zN A0),.one (vQ 1 A1)] st (ZaY.rs r) r.2:=
 sO ZaY.B Tryz.func39 fun g0 w0 R hE=>by
  unfold ZaY at h;exact aq [rZ,rZ,rZ] trivial (At.loop N (At.loopN (fun y:(Option Nat)×Int×Int×LL=>ZaY.S1 y.1 y.2.1 A1 y.2.2.1 y.2.2.2) (fun c J hc y h=>ZaY.k1 (A19:=y.1) (F1:=y.2.1) (v2:=y.2.2.1) (st20:=y.2.2.2) h hE (fun A19 F1 v2 st20=>hc (A19,F1,v2,st20))) N (A0,0,0,st) h))
def Zfe.B:Code:=Tryz.f16.body.getD .skip
def Zfe.rs (r:(Option Nat)×Int×LL):List CV:=[.one (zN r.1),oI r.2.1]
def Zfe (N:Nat) (A0:Zae) (A1:Int) (st:LL):Option ((Option Nat)×Int×LL):= Zbb (ZfX N A0 A1 st) fun (x1,x2,st3)=> if (x2 != 0)=true then some (none,x2,st3) else Zbb (ZgG N x1 st3) fun (x4,st5)=> Zbb (ZgE N x1 st5) fun (x6,st7)=> Zbb (ZaY N x6 [[zK .i64 0]] (st7++[[zN x1,zN x4,zN x6,yI true 1 [[zK .i64 0]]]])) fun (x8,st9)=> some ((some (zG st7)),0,st9)
def Zfe.s {A0:Zae} {A1:Int} {st:LL} {r:(Option Nat)×Int×LL} (h:Zfe N A0 A1 st=some r):Snd zC 16 [.agg A0.ls,oI A1] st (Zfe.rs r) r.2.2:=
 sO Zfe.B Tryz.func16 fun g0 w0 R hE=>by
  unfold Zfe at h;obtain ⟨⟨x1,x2,st3⟩,c1,h⟩:=Zab h;let o1:List PS:=[rZ,.r [(2,{rs:=[.one (zN x1),oI x2],st:=st3})],rZ]
  refine Zbd h (fun c2 h=>xU h hE (o1++[cT,rZ]) (aI (ZfX.s c1) c2)) fun c2 h=>?_;obtain ⟨⟨x4,st5⟩,c3,h⟩:=Zab h;obtain ⟨⟨x6,st7⟩,c4,h⟩:=Zab h;obtain ⟨⟨x8,st9⟩,c5,h⟩:=Zab h;let u6:=qla x1 x4 x6 [[zK .i64 0]];exact xU h hE (o1++[cF,.r [(2,{rs:=[.one (zN x4)],st:=st5}),(4,{rs:=[.one (zN x6)],st:=st7}),(6,{ns:=[3]}),(7,{m:=1,mv:=[23]})],.r [(3,{oc:=u6}),(5,{rs:=[oI x8],st:=st9,fz:=[30]})],rZ]) (aO (ZfX.s c1) c2 (ZgG.s c3) (ZgE.s c4) z0 (eN (1)) (st_new st7 u6) (aJ z0 (eN (1)) (ZaY.s c5)))
def Zcx.B:Code:=Tryz.f12.body.getD .skip
def Zcx.rs (r:Int×LL):List CV:=[oI r.1]
def Zcx (N:Nat) (A0:Option Nat) (st:LL):Option (Int×LL):= if (xX A0)=true then some ((-1),st) else Zbb A0 fun i1=> ZcO (st[i1]?) Zct fun x2 x3 x4 x5=> chk (0<=(w64 ((len x5)-1)))<| chk ((w64 ((len x5)-1))<(len x5))<| ZcO (x5[0+(zD (w64 ((len x5)-1)))]?) Zdv fun x6=> some (x6,st)
def Zcx.s {A0:Option Nat} {st:LL} {r:Int×LL} (h:Zcx N A0 st=some r):Snd zC 12 [.one (zN A0)] st (Zcx.rs r) r.2:=
 sO Zcx.B Tryz.func12 fun g0 w0 R hE=>by
  unfold Zcx at h;refine Zbd h (fun c1 h=>xT h hE [rZ,rZ,cT,rZ] c1) fun c1 h=>?_;obtain ⟨i1,rfl,h⟩:=Zab h;obtain ⟨x2,x3,x4,x5,c3,h⟩:=Zcj h;obtain ⟨c4,c5,h⟩:=ck2 h;obtain ⟨x6,c6,h⟩:=Zcq h;let u6:=qla x2 x3 x4 x5;exact xTd h hE [rZ,rZ,cF,.d {ds:=[(3,{oc:=u6}),(7,{oc:=u6}),(11,{oc:=u6,oe:=[zK .i64 x6]})],hv:=0,Hs:=[]}] (aN c1 c3 c3 c4 c5 c6 c3)
def ZdH.B:Code:=Tryz.f71.body.getD .skip
def ZdH.rs (r:Int):List CV:=[oI r]
def ZdH (N:Nat) (A0:ZbM):Option Int:= some (len A0.list)
def ZdH.s {A0:ZbM} {r:Int} (h:ZdH N A0=some r):ZdW zC 71 [.one (wE 2 A0.ls)] (ZdH.rs r):=fun st=>
 sO ZdH.B Tryz.func71 fun g0 w0 R hE=>by
  unfold ZdH at h;exact xS h hE [rZ,rZ,cF,.r [(3,{oe:=A0.ls})]] (aI eF (eO A0.ls))
def ZdC.B:Code:=Tryz.f34.body.getD .skip
def ZdC.rs (r:Int):List CV:=[oI r]
def ZdC (N:Nat) (A0:ZbM):Option Int:= Zbb (ZdH N A0) fun x1=> if (x1==0)=true then some (-1) else chk (0<(len A0.list))<| ZcO (A0.list[0]?) Zdv fun x2=> some x2
def ZdC.s {A0:ZbM} {r:Int} (h:ZdC N A0=some r):ZdW zC 34 [.one (wE 2 A0.ls)] (ZdC.rs r):=fun st=>
 sO ZdC.B Tryz.func34 fun g0 w0 R hE=>by
  unfold ZdC at h;obtain ⟨x1,c1,h⟩:=Zab h;let o1:List PS:=[rZ,.r [(1,q0 [oI x1])]]
  refine Zbd h (fun c2 h=>xS h hE (o1++[cT,rZ]) (aI (ZdH.s c1) c2)) fun c2 h=>?_;obtain ⟨c3,h⟩:=Zba h;obtain ⟨x2,c4,h⟩:=Zcq h;exact xS h hE (o1++[cF,.r [(3,{oe:=A0.ls}),(5,{oe:=[zK .i64 x2]})]]) (aM (ZdH.s c1) c2 (eO A0.ls) (leI 0 0) c3 c4)
def Zca.B:Code:=Tryz.f13.body.getD .skip
def Zca.rs (r:Int×LL):List CV:=[oI r.1]
def Zca (N:Nat) (A0:Option Nat) (st:LL):Option (Int×LL):= if (xX A0)=true then some ((-1),st) else Zbb A0 fun i1=> ZcO (st[i1]?) Zct fun x2 x3 x4 x5=> Zbb x4 fun i6=> ZcO (st[i6]?) ZbO fun x7 x8=> Zbb x7 fun i9=> ZcO (st[i9]?) ZbO fun x10 x11=> Zbb x10 fun i12=> ZcO (st[i12]?) Zbt fun x13=> Zbb (ZdC N (ZbM.mk (Zat.mk x13 x11) x8)) fun x14=> some (x14,st)
def Zca.s {A0:Option Nat} {st:LL} {r:Int×LL} (h:Zca N A0 st=some r):Snd zC 13 [.one (zN A0)] st (Zca.rs r) r.2:=
 sO Zca.B Tryz.func13 fun g0 w0 R hE=>by
  unfold Zca at h;refine Zbd h (fun c1 h=>xT h hE [rZ,rZ,cT,rZ] c1) fun c1 h=>?_;obtain ⟨i1,rfl,h⟩:=Zab h;obtain ⟨x2,x3,x4,x5,c3,h⟩:=Zcj h;obtain ⟨i6,rfl,h⟩:=Zab h;obtain ⟨x7,x8,c5,h⟩:=Zbs h;obtain ⟨i9,rfl,h⟩:=Zab h;obtain ⟨x10,x11,c7,h⟩:=Zbs h;obtain ⟨i12,rfl,h⟩:=Zab h;obtain ⟨x13,c9,h⟩:=Zbi h;obtain ⟨x14,c10,h⟩:=Zab h;let u6:=ZbM.ls (ZbM.mk (Zat.mk x13 x11) x8);exact xT h hE [rZ,rZ,cF,.r [(3,{oc:=(qla x2 x3 (some i6) x5)}),(4,{rs:=[oI x14],m:=10,cv:=[.one (wE 2 u6)]})]] (aK c1 c3 (bO 2 c5 ((bC 2 c7 ((bC 87 c9 (ZaG.bv x13) (bW bN)):BVs st [zN (some i12),yI true 1 x11] (Zat.ls (Zat.mk x13 x11))) (bW bN)):BVs st [zN (some i9),yI true 1 x8] u6)) (ZdC.s c10))
def Zda.B:Code:=Tryz.f28.body.getD .skip
def Zda.rs (r:Bool×LL):List CV:=[oB r.1]
def Zda (N:Nat) (A0:Option Nat) (st:LL):Option (Bool×LL):= if (xX A0)=true then some (false,st) else Zbb (Zcx N A0 st) fun (x1,st2)=> Zbb (Zca N A0 st2) fun (x3,st4)=> if (x1==x3)=true then some (false,st4) else Zbb A0 fun i5=> ZcO (st4[i5]?) Zct fun x6 x7 x8 x9=> Zbb (Zcx N (some i5) st4) fun (x10,st11)=> Zbb (Zca N (some i5) st11) fun (x12,st13)=> none
def Zda.s {A0:Option Nat} {st:LL} {r:Bool×LL} (h:Zda N A0 st=some r):Snd zC 28 [.one (zN A0)] st (Zda.rs r) r.2:=
 sO Zda.B Tryz.func28 fun g0 w0 R hE=>by
  unfold Zda at h;refine Zbd h (fun c1 h=>xT h hE [rZ,.r [(3,wF),(4,wF),(5,wF),(6,wF),(7,wF)],cT,rZ] (aN c1 c1 c1 c1 c1 c1 eT)) fun c1 h=>?_;obtain ⟨⟨x1,st2⟩,c2,h⟩:=Zab h;obtain ⟨⟨x3,st4⟩,c3,h⟩:=Zab h;refine Zbd h (fun c4 h=>xT h hE [rZ,.r [(4,{rs:=[oI x1],st:=st2}),(6,{rs:=[oI x3],st:=st4}),(8,yF)],cT,rZ] (aO c1 c1 (Zcx.s c2) c1 c1 (Zca.s c3) c1 (aI c1 c4))) fun c4 h=>?_;obtain ⟨i5,rfl,h⟩:=Zab h;obtain ⟨x6,x7,x8,x9,c6,h⟩:=Zcj h;obtain ⟨⟨x10,st11⟩,c7,h⟩:=Zab h;obtain ⟨⟨x12,st13⟩,c8,h⟩:=Zab h;cases h
def Zdh.B:Code:=Tryz.f101.body.getD .skip
def Zdh.rs (r:LL):List CV:=[.row true 1 r]
def Zdh (N:Nat) (A0:LL) (A1 A2:Int):Option LL:= chk (0<=A1)<| chk (0<=A2)<| chk ((zD A1)<=(zD A2))<| chk ((zD A2)<=(zD (len A0)))<| chk ((zD (len A0))<=(zG A0))<| if (A1==A2)=true then some A0 else chk ((zD A1)<=(zG A0))<| chk ((zD A2)<=(zG A0))<| chk (((zD A1)+((zG A0)-(zD A2)))<=(zG A0))<| chk (((0+(zD A2))+((zG A0)-(zD A2)))<=(zG A0))<| chk ((zD (((zD A1)+((zG A0)-(zD A2)):Nat):Int))<=(zD (len A0)))<| chk ((0+(zD (len A0)))<=(zG ((xY (zD A1) A0++xY ((zG A0)-(zD A2)) (wY (0+(zD A2)) A0))++wY ((zD A1)+((zG A0)-(zD A2))) A0)))<| chk ((0+(zD (((zD A1)+((zG A0)-(zD A2)):Nat):Int)))+((zD (len A0))-(zD (((zD A1)+((zG A0)-(zD A2)):Nat):Int)))=zG ((xY (zD A1) A0++xY ((zG A0)-(zD A2)) (wY (0+(zD A2)) A0))++wY ((zD A1)+((zG A0)-(zD A2))) A0))<| chk (((zD A1)+((zG A0)-(zD A2)))<=(zG (xY (0+(zD (((zD A1)+((zG A0)-(zD A2)):Nat):Int))) ((xY (zD A1) A0++xY ((zG A0)-(zD A2)) (wY (0+(zD A2)) A0))++wY ((zD A1)+((zG A0)-(zD A2))) A0)++zB ((zD (len A0))-(zD (((zD A1)+((zG A0)-(zD A2)):Nat):Int))) [zK .i64 0])))<| some (xY ((zD A1)+((zG A0)-(zD A2))) (xY (0+(zD (((zD A1)+((zG A0)-(zD A2)):Nat):Int))) ((xY (zD A1) A0++xY ((zG A0)-(zD A2)) (wY (0+(zD A2)) A0))++wY ((zD A1)+((zG A0)-(zD A2))) A0)++zB ((zD (len A0))-(zD (((zD A1)+((zG A0)-(zD A2)):Nat):Int))) [zK .i64 0]))
def Zdh.s {A0:LL} {A1 A2:Int} {r:LL} (h:Zdh N A0 A1 A2=some r):ZdW zC 101 [.row true 1 A0,oI A1,oI A2] (Zdh.rs r):=fun st=>
 sO Zdh.B Tryz.func101 fun g0 w0 R hE=>by
  unfold Zdh at h;obtain ⟨c1,c2,c3,c4,c5,h⟩:=ck5 h;have t1 {Q:Prop} (q:Q):=aN c1 c2 (vP (zG A0)) c3 c4 c5 q;refine Zbd h (fun c6 h=>?_) (fun c6 h=>?_)
  ·obtain rfl:=Zac h;exact af hE [.r [(0,{m:=2})],rZ,rZ,cT,rZ] [] 0 [0] (t1 (aJ c6 z0 (eN (zG A0))))
  obtain ⟨c7,c8,c9,c10,c11,c12,c13,c14,h⟩:=ck8 h;obtain rfl:=Zac h;exact afd hE [.r [(0,{m:=2})],rZ,rZ,cF,rZ,.d {ds:=[(6,{m:=9})],hv:=64,Hs:=[64]},.r [(4,{m:=9})],rZ] [] 2 [0] (t1 (aO c6 c1 (Nat.zero_le (zD A1)) c7 c2 c8 (Nat.le_refl (zG A0)) (aO z0 c9 c10 (vP ((zD A1)+((zG A0)-(zD A2)))) (vP (zG A0)) c11 c12 (aJ c13 z0 c14))))
def ZaV.B:Code:=Tryz.f68.body.getD .skip
def ZaV.rs (r:Int×LL):List CV:=[oI r.1]
def ZaV.p2 (N:Nat) (c1_:((Option Nat)×Int×Int×LL)->Option (Int×LL)) (A36:Option Nat) (A37:Int) (A1:LL) (v2:Int) (st38:LL):Option (Int×LL):= c1_ (A36,A37,w64 (v2+1),st38)
def ZaV.p1 (N:Nat) (A1:LL) (c1_:((Option Nat)×Int×Int×LL)->Option (Int×LL)):((Option Nat)×Int×Int×LL)->Option (Int×LL):=fun (A20,F1,v2,st21)=> if (decide (v2<(len A1)))=true then chk (0<=v2)<| ZcO (A1[zD v2]?) Zdv fun x22=> Zbb (Zdp N A20 x22 st21) fun (x23,st24)=> if (!x23)=true then ZaV.p2 N c1_ A20 F1 A1 v2 st24 else Zbb A20 fun i25=> ZcO (st24[i25]?) ZbO fun x26 x27=> Zbb x26 fun i28=> ZcO (st24[i28]?) ZbO fun x29 x30=> Zbb x29 fun i31=> ZcO (st24[i31]?) Zbt fun x32=> Zbb (ZcM N (ZbM.mk (Zat.mk x32 x30) x27) x22) fun (x33,x34)=> if x34=true then chk ((0+(zG x27))<=(zG x27))<| Zbb (Zdh N (xY (zG x27) (wY 0 x27)) x33 (w64 (x33+1))) fun x35=> ZaV.p2 N c1_ (some i25) (w64 (F1+1)) A1 v2 (zR (zR st24 i25 [zN (some i28),L.gone]) i25 [zN (some i28),yI true 1 x35]) else ZaV.p2 N c1_ (some i25) F1 A1 v2 st24 else some (F1,st21)
def ZaV (N:Nat) (A0:Option Nat) (A1 st:LL):Option (Int×LL):= loopN (ZaV.p1 N A1) N (A0,0,0,st)
def ZaV.S2 (A36:Option Nat) (A37:Int) (A1:LL) (v2:Int) (st38:LL):S:=mkS 42 [(0,sP A36),(5,sI A37),(10,sV 1 A1),(11,sI (len A1)),(12,sI v2)] [] st38
def ZaV.S1 (A20:Option Nat) (F1:Int) (A1:LL) (v2:Int) (st21:LL):S:=mkS 42 [(0,sP A20),(5,sI F1),(10,sV 1 A1),(11,sI (len A1)),(12,sI v2)] [] st21
def ZaV.k2 {A36 A37 A1 v2 st38 r c1_ J1} (h:ZaV.p2 N c1_ A36 A37 A1 v2 st38=some r) (hE:En Tryz.f68 g0 w0 (ZaV.rs r) r.2 R) (hc1 : ∀A20 F1 v2 st21,c1_ (A20,F1,v2,st21)=some r->At g0 w0 (ZaV.S1 A20 F1 A1 v2 st21) J1):At g0 w0 (ZaV.S2 A36 A37 A1 v2 st38) (XK zC R [cK ZaV.B [1,1,0,1,0,0,1,1,1],.h J1,.b 0,cK ZaV.B [1,1,1]]):=by
 unfold ZaV.p2 at h;exact an [rZ] trivial (hc1 A36 A37 (w64 (v2+1)) st38 h)
def ZaV.k1 {A20 F1 A1 v2 st21 r c1_ J1} (h:ZaV.p1 N A1 c1_ (A20,F1,v2,st21)=some r) (hE:En Tryz.f68 g0 w0 (ZaV.rs r) r.2 R) (hc1 : ∀A20 F1 v2 st21,c1_ (A20,F1,v2,st21)=some r->At g0 w0 (ZaV.S1 A20 F1 A1 v2 st21) J1):At g0 w0 (ZaV.S1 A20 F1 A1 v2 st21) (XK zC R (cK ZaV.B [1,1,0,1,0,0] :: .h J1 :: [.b 0,cK ZaV.B [1,1,1]])):=by
 unfold ZaV.p1 at h;refine Zbd h (fun c16 h=>?_) (fun c16 h=>?_)
 ·obtain ⟨c17,h⟩:=Zba h;obtain ⟨x22,c18,h⟩:=Zcq h;obtain ⟨⟨x23,st24⟩,c19,h⟩:=Zab h;let o1:List PS:=[rZ,cT,.r [(1,{oe:=[zK .i64 x22]})],.r [(2,{rs:=[oB x23],st:=st24})]]
  have t1 {Q:Prop} (q:Q):=aM c16 c17 (oD c16) c18 (Zdp.s c19) q;refine Zbd h (fun c20 h=>aq (o1++[cT,.s 4]) (t1 c20) (ZaV.k2 h hE hc1)) fun c20 h=>?_;obtain ⟨i25,rfl,h⟩:=Zab h;obtain ⟨x26,x27,c22,h⟩:=Zbs h;obtain ⟨i28,rfl,h⟩:=Zab h;obtain ⟨x29,x30,c24,h⟩:=Zbs h;obtain ⟨i31,rfl,h⟩:=Zab h;obtain ⟨x32,c26,h⟩:=Zbi h;obtain ⟨⟨x33,x34⟩,c27,h⟩:=Zab h;let o2:List PS:=o1++[cF,.r [(2,{rs:=[oI x33,oB x34],m:=10,cv:=[.one (wE 2 (ZbM.ls (ZbM.mk (Zat.mk x32 x30) x27)))]})],rZ]
  have t2 {Q:Prop} (q:Q):=t1 (aK c20 (bO 2 c22 ((bC 2 c24 ((bC 87 c26 (ZaG.bv x32) (bW bN)):BVs st24 [zN (some i31),yI true 1 x30] (Zat.ls (Zat.mk x32 x30))) (bW bN)):BVs st24 [zN (some i28),yI true 1 x27] (ZbM.ls (ZbM.mk (Zat.mk x32 x30) x27)))) (ZcM.s c27) q);refine Zbd h (fun c28 h=>?_) (fun c28 h=>?_)
  ·obtain ⟨c29,h⟩:=Zba h;obtain ⟨x35,c30,h⟩:=Zab h;exact aq (o2++[cT,.r [(4,{oc:=[zN (some i28),yI true 1 x27]}),(8,{oe:=[zN (some i28),yI true 1 x27],rs:=[.row true 1 x35],st:=zR st24 i25 [zN (some i28),L.gone],m:=6,vm:=1}),(11,{oc:=[zN (some i28),L.gone],mv:=[35]})],rZ,.s 4]) (t2 (aO c28 c22 c29 c22 (Zdh.s c30 (zR st24 i25 [zN (some i28),L.gone])) (Zaq c22 [zN (some i28),L.gone]) z0 (eN (zG x35)))) (ZaV.k2 h hE hc1)
  exact aq (o2++[cF,.s 4]) (t2 c28) (ZaV.k2 h hE hc1)
 exact xT h hE [rZ,cF,rZ] c16
def ZaV.s {A0:Option Nat} {A1:LL} {st:LL} {r:Int×LL} (h:ZaV N A0 A1 st=some r):Snd zC 68 [.one (zN A0),.one (vQ 1 A1)] st (ZaV.rs r) r.2:=
 sO ZaV.B Tryz.func68 fun g0 w0 R hE=>by
  unfold ZaV at h;exact aq [rZ,rZ,rZ] trivial (At.loop N (At.loopN (fun y:(Option Nat)×Int×Int×LL=>ZaV.S1 y.1 y.2.1 A1 y.2.2.1 y.2.2.2) (fun c J hc y h=>ZaV.k1 (A20:=y.1) (F1:=y.2.1) (v2:=y.2.2.1) (st21:=y.2.2.2) h hE (fun A20 F1 v2 st21=>hc (A20,F1,v2,st21))) N (A0,0,0,st) h))
def Zek.B:Code:=Tryz.f69.body.getD .skip
def Zek.rs (r:Bool×LL):List CV:=[oB r.1]
def Zek (N:Nat) (A0:Option Nat) (at_1:Int) (st:LL):Option (Bool×LL):= Zbb (Zdp N A0 at_1 st) fun (x1,st2)=> if (!x1)=true then some (false,st2) else Zbb A0 fun i3=> ZcO (st2[i3]?) ZbO fun x4 x5=> Zbb x4 fun i6=> ZcO (st2[i6]?) ZbO fun x7 x8=> Zbb x7 fun i9=> ZcO (st2[i9]?) Zbt fun x10=> Zbb (ZcM N (ZbM.mk (Zat.mk x10 x8) x5) at_1) fun (x11,x12)=> some (x12,st2)
def Zek.s {A0:Option Nat} {at_1:Int} {st:LL} {r:Bool×LL} (h:Zek N A0 at_1 st=some r):Snd zC 69 [.one (zN A0),oI at_1] st (Zek.rs r) r.2:=
 sO Zek.B Tryz.func69 fun g0 w0 R hE=>by
  unfold Zek at h;obtain ⟨⟨x1,st2⟩,c1,h⟩:=Zab h;let o1:List PS:=[rZ,.r [(2,{rs:=[oB x1],st:=st2})]]
  refine Zbd h (fun c2 h=>xT h hE (o1++[cT,rZ]) (aI (Zdp.s c1) c2)) fun c2 h=>?_;obtain ⟨i3,rfl,h⟩:=Zab h;obtain ⟨x4,x5,c4,h⟩:=Zbs h;obtain ⟨i6,rfl,h⟩:=Zab h;obtain ⟨x7,x8,c6,h⟩:=Zbs h;obtain ⟨i9,rfl,h⟩:=Zab h;obtain ⟨x10,c8,h⟩:=Zbi h;obtain ⟨⟨x11,x12⟩,c9,h⟩:=Zab h;let u6:=ZbM.ls (ZbM.mk (Zat.mk x10 x8) x5);exact xT h hE (o1++[cF,.r [(2,{rs:=[oI x11,oB x12],m:=10,cv:=[.one (wE 2 u6)]})],rZ]) (aK (Zdp.s c1) c2 (bO 2 c4 ((bC 2 c6 ((bC 87 c8 (ZaG.bv x10) (bW bN)):BVs st2 [zN (some i9),yI true 1 x8] (Zat.ls (Zat.mk x10 x8))) (bW bN)):BVs st2 [zN (some i6),yI true 1 x5] u6)) (ZcM.s c9))
def Zee.B:Code:=Tryz.f10.body.getD .skip
def Zee.rs (r:Bool×LL):List CV:=[oB r.1]
def Zee (N:Nat) (A0:Option Nat) (A1 A2:Int) (st:LL):Option (Bool×LL):= if (!(xX A0))=true then Zbb A0 fun i1=> ZcO (st[i1]?) ZbO fun x2 x3=> Zbb x2 fun i4=> ZcO (st[i4]?) Zbt fun x5=> Zbb (Zcd N x5 A1 A2) fun x6=> some (x6,st) else some (false,st)
def Zee.s {A0:Option Nat} {A1 A2:Int} {st:LL} {r:Bool×LL} (h:Zee N A0 A1 A2 st=some r):Snd zC 10 [.one (zN A0),oI A1,oI A2] st (Zee.rs r) r.2:=
 sO Zee.B Tryz.func10 fun g0 w0 R hE=>by
  unfold Zee at h;refine Zbd h (fun c1 h=>?_) (fun c1 h=>?_)
  ·obtain ⟨i1,rfl,h⟩:=Zab h;obtain ⟨x2,x3,c3,h⟩:=Zbs h;obtain ⟨i4,rfl,h⟩:=Zab h;obtain ⟨x5,c5,h⟩:=Zbi h;obtain ⟨x6,c6,h⟩:=Zab h;exact xT h hE [rZ,.r [(6,{oc:=[zN (some i4),yI true 1 x3]}),(9,{rs:=[oB x6],m:=10,cv:=[.one (wE 87 x5.ls)]})]] (aO eT eT eT eT c3 eT eT (aK eT (bO 87 c5 (ZaG.bv x5)) (Zcd.s c6) eT))
  exact xT h hE [rZ,.r [(3,wF),(4,wF),(5,wF),(6,wF),(7,wF),(8,wF),(9,wF),(10,yF)]] (aO c1 c1 c1 c1 c1 c1 c1 c1)
def Zdg.B:Code:=Tryz.f103.body.getD .skip
def Zdg.rs (r:Bool):List CV:=[oB r]
def Zdg (N:Nat) (A0:Int) (A1_0:Zat) (A2_0:Int):Option Bool:= Zbb (ZbE N A1_0 A2_0 A0) fun x1=> some x1
def Zdg.s {A0:Int} {A1_0:Zat} {A2_0:Int} {r:Bool} (h:Zdg N A0 A1_0 A2_0=some r):ZdW zC 103 [oI A0,.one (wE 1 [wE 2 [wE 2 A1_0.ls,L.gone]]),.one (wE 1 [zK .i64 A2_0])] (Zdg.rs r):=fun st=>
 sO Zdg.B Tryz.func103 fun g0 w0 R hE=>by
  unfold Zdg at h;obtain ⟨x1,c1,h⟩:=Zab h;exact xSd h hE [rZ,.d {ds:=[(0,{m:=2}),(3,{oe:=[wE 2 A1_0.ls,L.gone]}),(4,{m:=2}),(6,q0 [oB x1])],hv:=64,Hs:=[64]}] (aI (eO [wE 2 A1_0.ls,L.gone]) (ZbE.s c1))
def Zau.B:Code:=Tryz.f130.body.getD .skip
def Zau.rs (r:Int):List CV:=[oI r]
def Zau.p1 (N:Nat) (A0:LL) (A1_0_0:Zat) (A1_1_0:Int) (c1_:Int->Option Int):Int->Option Int:=fun v1=> if (decide (v1<(len A0)))=true then chk (0<=v1)<| ZcO (A0[zD v1]?) Zdv fun x2=> Zbb (Zdg N x2 A1_0_0 A1_1_0) fun x3=> if x3=true then some v1 else c1_ (w64 (v1+1)) else some (-1)
def Zau (N:Nat) (A0:LL) (A1_0_0:Zat) (A1_1_0:Int):Option Int:= loopN (Zau.p1 N A0 A1_0_0 A1_1_0) N 0
def Zau.S1 (A0:LL) (A1_0_0:Zat) (A1_1_0 v1:Int) (st:LL):S:=mkS 19 [(0,sV 1 A0),(1,.one (.l (L.fn 103 0 [wE 1 [wE 2 [wE 2 A1_0_0.ls,L.gone]],wE 1 [zK .i64 A1_1_0]]))),(7,sI (len A0)),(8,sI v1)] [] st
def Zau.k1 {A0 A1_0_0 A1_1_0 v1 st r c1_ J1} (h:Zau.p1 N A0 A1_0_0 A1_1_0 c1_ v1=some r) (hE:En Tryz.f130 g0 w0 (Zau.rs r) st R) (hc1 : ∀v1,c1_ v1=some r->At g0 w0 (Zau.S1 A0 A1_0_0 A1_1_0 v1 st) J1):At g0 w0 (Zau.S1 A0 A1_0_0 A1_1_0 v1 st) (XK zC R (cK Zau.B [1,0,1,0,0] :: .h J1 :: [.b 0,cK Zau.B [1,1]])):=by
 unfold Zau.p1 at h;refine Zbd h (fun c1 h=>?_) (fun c1 h=>?_)
 ·obtain ⟨c2,h⟩:=Zba h;obtain ⟨x2,c3,h⟩:=Zcq h;obtain ⟨x3,c4,h⟩:=Zab h;let o1:List PS:=[rZ,cT,rZ,.r [(4,{oe:=[zK .i64 x2]}),(5,{rs:=[oB x3],st:=st,m:=5})]]
  have t1 {Q:Prop} (q:Q):=aM c1 c2 (oD c1) c3 (Zdg.s c4 st) q;exact Zbd h (fun c5 h=>xS h hE (o1++[cT,rZ]) (t1 c5)) fun c5 h=>an (o1++[cF,rZ]) (t1 c5) (hc1 (w64 (v1+1)) h)
 exact xS h hE [rZ,cF,rZ] c1
def Zau.s {A0:LL} {A1_0_0:Zat} {A1_1_0:Int} {r:Int} (h:Zau N A0 A1_0_0 A1_1_0=some r):ZdW zC 130 [.one (vQ 1 A0),.one (L.fn 103 0 [wE 1 [wE 2 [wE 2 A1_0_0.ls,L.gone]],wE 1 [zK .i64 A1_1_0]])] (Zau.rs r):=fun st=>
 sO Zau.B Tryz.func130 fun g0 w0 R hE=>by
  unfold Zau at h;exact aq [rZ,rZ] trivial (At.loop N (At.loopN (fun y:Int=>Zau.S1 A0 A1_0_0 A1_1_0 y st) (fun c J hc y h=>Zau.k1 h hE (fun v1=>hc v1)) N 0 h))
def Zaf.B:Code:=Tryz.f102.body.getD .skip
def Zaf.rs (r:LL):List CV:=[.row true 1 r]
def Zaf.p2 (N:Nat) (c1_:(Int×Int×LL)->Option LL) (A0:LL) (A1_0_0:Zat) (A1_1_0 A12 A3:Int) (A11:LL):Option LL:= c1_ (A12,w64 (A3+1),A11)
def Zaf.p1 (N:Nat) (A0:LL) (A1_0_0:Zat) (A1_1_0:Int) (c1_:(Int×Int×LL)->Option LL):(Int×Int×LL)->Option LL:=fun (A2,A3,A8)=> if (decide (A3<(len A0)))=true then chk (0<=A3)<| ZcO (A8[0+(zD A3)]?) Zdv fun x9=> Zbb (Zdg N x9 A1_0_0 A1_1_0) fun x10=> if (!x10)=true then chk (0<=A2)<| chk (A2<(len A0))<| Zaf.p2 N c1_ A0 A1_0_0 A1_1_0 (w64 (A2+1)) A3 (zR A8 (0+(zD A2)) [zK .i64 x9]) else Zaf.p2 N c1_ A0 A1_0_0 A1_1_0 A2 A3 A8 else chk (0<=A2)<| chk ((zD A2)<=(zG A0))<| chk ((0+(zD A2))+((zG A0)-(zD A2))=zG A8)<| chk ((0+(zD A2))<=(zG (xY (0+(zD A2)) A8++zB ((zG A0)-(zD A2)) [zK .i64 0])))<| chk ((zD A2)<=(zG (xY (0+(zD A2)) A8++zB ((zG A0)-(zD A2)) [zK .i64 0])))<| some (xY (zD A2) (xY (0+(zD A2)) A8++zB ((zG A0)-(zD A2)) [zK .i64 0]))
def Zaf (N:Nat) (A0:LL) (A1_0_0:Zat) (A1_1_0:Int):Option LL:= Zbb (Zau N A0 A1_0_0 A1_1_0) fun x1=> if (x1==(-1))=true then some A0 else loopN (Zaf.p1 N A0 A1_0_0 A1_1_0) N (x1,w64 (x1+1),A0)
def Zaf.S2 (A0:LL) (A1_0_0:Zat) (A1_1_0 A12 A3:Int) (A11 st:LL):S:=mkS 42 [(0,.one (.h (.row 0 0) 1 0 (zG A0))),(1,.one (.l (L.fn 103 0 [wE 1 [wE 2 [wE 2 A1_0_0.ls,L.gone]],wE 1 [zK .i64 A1_1_0]]))),(5,sI A12),(6,sI A3)] [(0,.row 0 true 1 A11)] st
def Zaf.S1 (A0:LL) (A1_0_0:Zat) (A1_1_0 A2 A3:Int) (A8 st:LL):S:=mkS 42 [(0,.one (.h (.row 0 0) 1 0 (zG A0))),(1,.one (.l (L.fn 103 0 [wE 1 [wE 2 [wE 2 A1_0_0.ls,L.gone]],wE 1 [zK .i64 A1_1_0]]))),(5,sI A2),(6,sI A3)] [(0,.row 0 true 1 A8)] st
def Zaf.k2 {A0 A1_0_0 A1_1_0 A12 A3 A11 st r c1_ J1} (h:Zaf.p2 N c1_ A0 A1_0_0 A1_1_0 A12 A3 A11=some r) (hE:En Tryz.f102 g0 w0 (Zaf.rs r) st R) (hc1 : ∀A2 A3 A8,c1_ (A2,A3,A8)=some r->At g0 w0 (Zaf.S1 A0 A1_0_0 A1_1_0 A2 A3 A8 st) J1):At g0 w0 (Zaf.S2 A0 A1_0_0 A1_1_0 A12 A3 A11 st) (XK zC R [cK Zaf.B [1,1,1,0,1,0,0,1,1],.h J1,.b 0,cK Zaf.B [1,1,1,1]]):=by
 unfold Zaf.p2 at h;exact an [rZ] trivial (hc1 A12 (w64 (A3+1)) A11 h)
def Zaf.k1 {A0 A1_0_0 A1_1_0 A2 A3 A8 st r c1_ J1} (h:Zaf.p1 N A0 A1_0_0 A1_1_0 c1_ (A2,A3,A8)=some r) (hE:En Tryz.f102 g0 w0 (Zaf.rs r) st R) (hc1 : ∀A2 A3 A8,c1_ (A2,A3,A8)=some r->At g0 w0 (Zaf.S1 A0 A1_0_0 A1_1_0 A2 A3 A8 st) J1):At g0 w0 (Zaf.S1 A0 A1_0_0 A1_1_0 A2 A3 A8 st) (XK zC R (cK Zaf.B [1,1,1,0,1,0,0] :: .h J1 :: [.b 0,cK Zaf.B [1,1,1,1]])):=by
 unfold Zaf.p1 at h;refine Zbd h (fun c15 h=>?_) (fun c15 h=>?_)
 ·obtain ⟨c16,h⟩:=Zba h;obtain ⟨x9,c17,h⟩:=Zcq h;obtain ⟨x10,c18,h⟩:=Zab h;let o1:List PS:=[rZ,cT,.r [(3,{oe:=[zK .i64 x9]})],.r [(2,{rs:=[oB x10],st:=st,m:=5})]]
  have t1 {Q:Prop} (q:Q):=aM c15 c16 (oD c15) c17 (Zdg.s c18 st) q;refine Zbd h (fun c19 h=>?_) (fun c19 h=>?_)
  ·obtain ⟨c20,c21,h⟩:=ck2 h;exact aq (o1++[cT,rZ,rZ,.s 4]) (t1 (aJ c19 c20 c21)) (Zaf.k2 h hE hc1)
  exact aq (o1++[cF,.s 4]) (t1 c19) (Zaf.k2 h hE hc1)
 obtain ⟨c22,c23,c24,c25,c26,h⟩:=ck5 h;obtain rfl:=Zac h;exact af hE [rZ,cF,rZ,.r [(2,{m:=9})]] [] 2 [0] (aO c15 c22 c23 (Nat.le_refl (zG A0)) c24 c22 (Nat.zero_le (zD A2)) (aJ c25 z0 c26))
def Zaf.s {A0:LL} {A1_0_0:Zat} {A1_1_0:Int} {r:LL} (h:Zaf N A0 A1_0_0 A1_1_0=some r):ZdW zC 102 [.row true 1 A0,.one (L.fn 103 0 [wE 1 [wE 2 [wE 2 A1_0_0.ls,L.gone]],wE 1 [zK .i64 A1_1_0]])] (Zaf.rs r):=fun st=>
 sO Zaf.B Tryz.func102 fun g0 w0 R hE=>by
  unfold Zaf at h;obtain ⟨x1,c1,h⟩:=Zab h;let o2:List PS:=[.r [(0,{m:=2})],.r [(2,{rs:=[oI x1],m:=2})],rZ]
  have t2 {Q:Prop} (q:Q):=aK z0 (eN (zG A0)) (Zau.s c1) q;refine Zbd h (fun c2 h=>?_) (fun c2 h=>?_)
  ·obtain rfl:=Zac h;exact af hE (o2++[cT,rZ]) [] 0 [0] (t2 (aJ c2 z0 (eN (zG A0))))
  exact aq (o2++[cF,rZ]) (t2 c2) (At.loop N (At.loopN (fun y:Int×Int×LL=>Zaf.S1 A0 A1_0_0 A1_1_0 y.1 y.2.1 y.2.2 st) (fun c J hc y h=>Zaf.k1 (A2:=y.1) (A3:=y.2.1) (A8:=y.2.2) h hE (fun A2 A3 A8=>hc (A2,A3,A8))) N (x1,w64 (x1+1),A0) h))
def ZdY.B:Code:=Tryz.f70.body.getD .skip
def ZdY.rs (r:Int×LL):List CV:=[oI r.1]
def ZdY (N:Nat) (A0:Option Nat) (at_1:Int) (st:LL):Option (Int×LL):= Zbb (Zdp N A0 at_1 st) fun (x1,st2)=> if (!x1)=true then some (0,st2) else Zbb A0 fun i3=> ZcO (st2[i3]?) ZbO fun x4 x5=> Zbb x4 fun i6=> ZcO ((zR st2 i3 [zN (some i6),L.gone])[i6]?) ZbO fun x7 x8=> Zbb x7 fun i9=> ZcO ((zR st2 i3 [zN (some i6),L.gone])[i9]?) Zbt fun x10=> Zbb (Zaf N x5 (Zat.mk x10 x8) at_1) fun x11=> chk (isI x11=true)<| some (w64 ((len x5)-(len x11)),zR (zR st2 i3 [zN (some i6),L.gone]) i3 [zN (some i6),yI true 1 x11])
def ZdY.s {A0:Option Nat} {at_1:Int} {st:LL} {r:Int×LL} (h:ZdY N A0 at_1 st=some r):Snd zC 70 [.one (zN A0),oI at_1] st (ZdY.rs r) r.2:=
 sO ZdY.B Tryz.func70 fun g0 w0 R hE=>by
  unfold ZdY at h;obtain ⟨⟨x1,st2⟩,c1,h⟩:=Zab h;let o1:List PS:=[.r [(0,{m:=2}),(1,{m:=2})],.r [(0,{m:=2}),(1,{m:=2}),(2,{rs:=[oB x1],st:=st2})]]
  refine Zbd h (fun c2 h=>xT h hE (o1++[cT,rZ]) (aI (Zdp.s c1) c2)) fun c2 h=>?_;obtain ⟨i3,rfl,h⟩:=Zab h;obtain ⟨x4,x5,c4,h⟩:=Zbs h;obtain ⟨i6,rfl,h⟩:=Zab h;obtain ⟨x7,x8,c6,h⟩:=Zbs h;obtain ⟨i9,rfl,h⟩:=Zab h;obtain ⟨x10,c8,h⟩:=Zbi h;obtain ⟨x11,c9,h⟩:=Zab h;obtain ⟨c10,h⟩:=Zba h;let u6:=Zaq c4 [zN (some i6),L.gone];let u7:=Zat.ls (Zat.mk x10 x8);let u9:=zR st2 i3 [zN (some i6),L.gone];exact xTd h hE (o1++[cF,.r [(0,{m:=2}),(3,{oc:=[zN (some i6),yI true 1 x5]})],.d {ds:=[(0,{m:=2}),(1,{m:=2}),(4,{oc:=[zN (some i6),yI true 1 x5]}),(6,{oe:=[zN (some i6),yI true 1 x5],rs:=[.row true 1 x11],m:=16,cv:=[.one (L.fn 103 0 [wE 1 [wE 2 [wE 2 u7,L.gone]],wE 1 [zK .i64 at_1]])]}),(9,{oc:=[zN (some i6),L.gone],mv:=[21]})],hv:=576,Hs:=[64,576]},.r [(1,{m:=2}),(4,{oc:=[zN (some i6),yI true 1 x11]})]]) (aO (Zdp.s c1) c2 c4 c4 z0 (eN (zG x5)) c4 (aN ((BVx.bx _ _ _ _ _ (BVx.obj _ _ _ _ _ _ u6 (BVx.obj _ _ _ _ _ _ c6 (BVx.of _ _ ((bC 87 c8 (ZaG.bv x10) (bW bN)):BVs u9 [zN (some i9),yI true 1 x8] u7)) rfl rfl (BVx.gone _ _ (BVx.of [] [] BVs.nil))) rfl rfl (BVx.of [] [] BVs.nil)) (BVx.bx _ _ _ _ _ (BVx.pl _ _ _ rfl (BVx.of [] [] BVs.nil)) (BVx.of [] [] BVs.nil))):BVx u9 [wE 1 [zN (some i3)],wE 1 [zK .i64 at_1]] [wE 1 [wE 2 [wE 2 u7,L.gone]],wE 1 [zK .i64 at_1]]) c10 (Zaf.s c9) u6 z0 (eN (zG x11)) (Zaq u6 [zN (some i6),yI true 1 x11])))
def ZaN.B:Code:=Tryz.f33.body.getD .skip
def ZaN.rs (r:LL):List CV:=[]
def ZaN.p2 (N:Nat) (c1_:(Int×LL)->Option LL) (i1:Nat) (x6 v8:Int) (st61:LL):Option LL:= c1_ (w64 (v8+1),st61)
def ZaN.p1 (N:Nat) (i1:Nat) (x6:Int) (c1_:(Int×LL)->Option LL):(Int×LL)->Option LL:=fun (v8,st42)=> if (decide (v8<x6))=true then ZcO (st42[i1]?) Zct fun x43 x44 x45 x46=> Zbb (Zbw N x44 v8 st42) fun (x47,st48)=> if x47=true then ZcO (st48[i1]?) Zct fun x49 x50 x51 x52=> Zbb (ZaY N x51 [[zK .i64 v8]] st48) fun (x53,st54)=> ZaN.p2 N c1_ i1 x6 v8 st54 else ZcO (st48[i1]?) Zct fun x55 x56 x57 x58=> Zbb (ZaV N x57 [[zK .i64 v8]] st48) fun (x59,st60)=> ZaN.p2 N c1_ i1 x6 v8 st60 else Zbb (Zcx N (some i1) st42) fun (x62,st63)=> ZcO (st63[i1]?) Zct fun x64 x65 x66 x67=> Zbb (Zek N x66 x62 st63) fun (x68,st69)=> if x68=true then ZcO (st69[i1]?) Zct fun x70 x71 x72 x73=> Zbb (ZdY N x72 x62 st69) fun (x74,st75)=> some st75 else some st69
def ZaN (N:Nat) (A0:Option Nat) (st:LL):Option LL:= Zbb A0 fun i1=> ZcO (st[i1]?) Zct fun x2 x3 x4 x5=> Zbb (Zdc N x2 st) fun (x6,st7)=> loopN (ZaN.p1 N i1 x6) N (0,st7)
def ZaN.S2 (i1:Nat) (x6 v8:Int) (st61:LL):S:=mkS 47 [(0,sP (some i1)),(8,sI x6),(9,sI v8)] [] st61
def ZaN.S1 (i1:Nat) (x6 v8:Int) (st42:LL):S:=mkS 47 [(0,sP (some i1)),(8,sI x6),(9,sI v8)] [] st42
def ZaN.k2 {i1 x6 v8 st61 r c1_ J1} (h:ZaN.p2 N c1_ i1 x6 v8 st61=some r) (hE:En Tryz.f33 g0 w0 (ZaN.rs r) r R) (hc1 : ∀v8 st42,c1_ (v8,st42)=some r->At g0 w0 (ZaN.S1 i1 x6 v8 st42) J1):At g0 w0 (ZaN.S2 i1 x6 v8 st61) (XK zC R [cK ZaN.B [0,1,0,0,1,1,1],.h J1,.b 0,cK ZaN.B [1]]):=by
 unfold ZaN.p2 at h;exact an [rZ] trivial (hc1 (w64 (v8+1)) st61 h)
def ZaN.k1 {i1 x6 v8 st42 r c1_ J1} (h:ZaN.p1 N i1 x6 c1_ (v8,st42)=some r) (hE:En Tryz.f33 g0 w0 (ZaN.rs r) r R) (hc1 : ∀v8 st42,c1_ (v8,st42)=some r->At g0 w0 (ZaN.S1 i1 x6 v8 st42) J1):At g0 w0 (ZaN.S1 i1 x6 v8 st42) (XK zC R (cK ZaN.B [0,1,0,0] :: .h J1 :: [.b 0,cK ZaN.B [1]])):=by
 unfold ZaN.p1 at h;refine Zbd h (fun c18 h=>?_) (fun c18 h=>?_)
 ·obtain ⟨x43,x44,x45,x46,c19,h⟩:=Zcj h;obtain ⟨⟨x47,st48⟩,c20,h⟩:=Zab h;let o1:List PS:=[rZ,cT,rZ,.r [(3,{oc:=(qla x43 x44 x45 x46)}),(5,{rs:=[oB x47],st:=st48})]]
  refine Zbd h (fun c21 h=>?_) (fun c21 h=>?_)
  ·obtain ⟨x49,x50,x51,x52,c22,h⟩:=Zcj h;obtain ⟨⟨x53,st54⟩,c23,h⟩:=Zab h;exact aq (o1++[cT,.r [(3,{oc:=(qla x49 x50 x51 x52)}),(6,{rs:=[oI x53],st:=st54,fz:=[23]})],.s 4]) (aO c18 c19 (Zbw.s c20) c21 c22 z0 (eN (1)) (ZaY.s c23)) (ZaN.k2 h hE hc1)
  obtain ⟨x55,x56,x57,x58,c24,h⟩:=Zcj h;obtain ⟨⟨x59,st60⟩,c25,h⟩:=Zab h;exact aq (o1++[cF,.r [(3,{oc:=(qla x55 x56 x57 x58)}),(6,{rs:=[oI x59],st:=st60,fz:=[30]})],.s 4]) (aO c18 c19 (Zbw.s c20) c21 c24 z0 (eN (1)) (ZaV.s c25)) (ZaN.k2 h hE hc1)
 obtain ⟨⟨x62,st63⟩,c26,h⟩:=Zab h;obtain ⟨x64,x65,x66,x67,c27,h⟩:=Zcj h;obtain ⟨⟨x68,st69⟩,c28,h⟩:=Zab h;let o2:List PS:=[rZ,cF,.r [(1,{rs:=[oI x62],st:=st63})],.r [(3,{oc:=(qla x64 x65 x66 x67)}),(5,{rs:=[oB x68],st:=st69})]]
 have t1 {Q:Prop} (q:Q):=aL c18 (Zcx.s c26) c27 (Zek.s c28) q;refine Zbd h (fun c29 h=>?_) (fun c29 h=>?_)
 ·obtain ⟨x70,x71,x72,x73,c30,h⟩:=Zcj h;obtain ⟨⟨x74,st75⟩,c31,h⟩:=Zab h;exact xR h hE (o2++[cT,.r [(3,{oc:=(qla x70 x71 x72 x73)}),(5,{rs:=[oI x74],st:=st75})]]) (t1 (aJ c29 c30 (ZdY.s c31)))
 exact xR h hE (o2++[cF]) (t1 c29)
def ZaN.s {A0:Option Nat} {st:LL} {r:LL} (h:ZaN N A0 st=some r):Snd zC 33 [.one (zN A0)] st (ZaN.rs r) r:=
 sO ZaN.B Tryz.func33 fun g0 w0 R hE=>by
  unfold ZaN at h;obtain ⟨i1,rfl,h⟩:=Zab h;obtain ⟨x2,x3,x4,x5,c2,h⟩:=Zcj h;obtain ⟨⟨x6,st7⟩,c3,h⟩:=Zab h;exact aq [.r [(3,{oc:=(qla x2 x3 x4 x5)}),(4,{rs:=[oI x6],st:=st7})]] (aI c2 (Zdc.s c3)) (At.loop N (At.loopN (fun y:Int×LL=>ZaN.S1 i1 x6 y.1 y.2) (fun c J hc y h=>ZaN.k1 (v8:=y.1) (st42:=y.2) h hE (fun v8 st42=>hc (v8,st42))) N (0,st7) h))
def ZaF.B:Code:=Tryz.f11.body.getD .skip
def ZaF.rs (r:Int×LL):List CV:=[oI r.1]
def ZaF.p2 (N:Nat) (F1:Int) (st10:LL):Option (Int×LL):= some (F1,st10)
def ZaF.p1 (N:Nat) (A0:Option Nat) (c1_:(Int×LL)->Option (Int×LL)):(Int×LL)->Option (Int×LL):=fun (F1,st6)=> Zbb (Zda N A0 st6) fun (x7,st8)=> if x7=true then c1_ (w64 (F1+1),st8) else if (!(xX A0))=true then Zbb (ZaN N A0 st8) fun st9=> ZaF.p2 N F1 st9 else ZaF.p2 N F1 st8
def ZaF (N:Nat) (A0:Option Nat) (st:LL):Option (Int×LL):= loopN (ZaF.p1 N A0) N (0,st)
def ZaF.S2 (F1:Int) (st10:LL):S:=mkS 13 [(3,sI F1)] [] st10
def ZaF.S1 (A0:Option Nat) (F1:Int) (st6:LL):S:=mkS 13 [(0,sP A0),(3,sI F1)] [] st6
def ZaF.k2 {F1 st10 r} (h:ZaF.p2 N F1 st10=some r) (hE:En Tryz.f11 g0 w0 (ZaF.rs r) r.2 R):At g0 w0 (ZaF.S2 F1 st10) (XK zC R [cK ZaF.B [1,1,1,1]]):=by
 unfold ZaF.p2 at h;exact xT h hE [rZ] trivial
def ZaF.k1 {A0 F1 st6 r c1_ J1} (h:ZaF.p1 N A0 c1_ (F1,st6)=some r) (hE:En Tryz.f11 g0 w0 (ZaF.rs r) r.2 R) (hc1 : ∀F1 st6,c1_ (F1,st6)=some r->At g0 w0 (ZaF.S1 A0 F1 st6) J1):At g0 w0 (ZaF.S1 A0 F1 st6) (XK zC R (cK ZaF.B [1,1,0,0,0] :: .h J1 :: [.b 0,cK ZaF.B [1,1,1]])):=by
 unfold ZaF.p1 at h;obtain ⟨⟨x7,st8⟩,c5,h⟩:=Zab h;let o1:List PS:=[.r [(1,{rs:=[oB x7],st:=st8})]]
 have t1 {Q:Prop} (q:Q):=aI (Zda.s c5) q;refine Zbd h (fun c6 h=>an (o1++[cT,rZ]) (t1 c6) (hc1 (w64 (F1+1)) st8 h)) fun c6 h=>?_;refine Zbd h (fun c7 h=>?_) (fun c7 h=>?_)
 ·obtain ⟨st9,c8,h⟩:=Zab h;exact aq (o1++[cF,rZ,cT,.r [(1,{st:=st9})],.s 1]) (t1 (aJ c6 c7 (ZaN.s c8))) (ZaF.k2 h hE)
 exact aq (o1++[cF,rZ,cF,.s 1]) (t1 (aI c6 c7)) (ZaF.k2 h hE)
def ZaF.s {A0:Option Nat} {st:LL} {r:Int×LL} (h:ZaF N A0 st=some r):Snd zC 11 [.one (zN A0)] st (ZaF.rs r) r.2:=
 sO ZaF.B Tryz.func11 fun g0 w0 R hE=>by
  unfold ZaF at h;exact aq [rZ,rZ] trivial (At.loop N (At.loopN (fun y:Int×LL=>ZaF.S1 A0 y.1 y.2) (fun c J hc y h=>ZaF.k1 (F1:=y.1) (st6:=y.2) h hE (fun F1 st6=>hc (F1,st6))) N (0,st) h))
def ZcF.B:Code:=Tryz.f14.body.getD .skip
def ZcF.rs (r:LL×LL):List CV:=[.row true 1 r.1]
def ZcF (N:Nat) (A0:Option Nat) (st:LL):Option (LL×LL):= if (xX A0)=true then some ([],st) else Zbb A0 fun i1=> ZcO (st[i1]?) Zct fun x2 x3 x4 x5=> chk (zG ([]++x5)*8<=140737488355328)<| some ([]++x5,st)
def ZcF.s {A0:Option Nat} {st:LL} {r:LL×LL} (h:ZcF N A0 st=some r):Snd zC 14 [.one (zN A0)] st (ZcF.rs r) r.2:=
 sO ZcF.B Tryz.func14 fun g0 w0 R hE=>by
  unfold ZcF at h;refine Zbd h (fun c1 h=>?_) (fun c1 h=>?_)
  ·obtain rfl:=Zac h;exact af hE [.r [(0,{m:=2})],rZ,cT,.r [(0,{m:=2})]] [] 0 [0] c1
  obtain ⟨i1,rfl,h⟩:=Zab h;obtain ⟨x2,x3,x4,x5,c3,h⟩:=Zcj h;obtain ⟨c4,h⟩:=Zba h;obtain rfl:=Zac h;exact af hE [.r [(0,{m:=2})],rZ,cF,.r [(3,{oc:=(qla x2 x3 x4 x5)}),(4,{oc:=(qla x2 x3 x4 x5)})]] [] 0 [0] (aO c1 c3 z0 (eN (zG x5)) c3 c4 z0 (eN (zG ([]++x5))))
def Zeq.B:Code:=Tryz.f4.body.getD .skip
def Zeq.rs (r:Bool×LL):List CV:=[oB r.1]
def Zeq (N:Nat) (st:LL):Option (Bool×LL):= Zbb (Zfe N (Zae.mk 545259519 4 10 0 false [] [] (zB 4 0) (zB 4 0) (Zal.mk 0 (zB 32 0) (zB 32 0) 0 0 0)) 5 st) fun (x1,x2,st3)=> if (x2==0)=true then Zbb (Zcx N x1 st3) fun (x4,st5)=> if (x4==0)=true then Zbb (Zca N x1 st5) fun (x6,st7)=> if (x6==0)=true then Zbb (ZaF N x1 st7) fun (x8,st9)=> if (x8==0)=true then Zbb (ZcF N x1 st9) fun (x10,st11)=> some ((len x10)==1,st11) else some (false,st9) else some (false,st7) else some (false,st5) else some (false,st3)
def Zeq.s {st:LL} {r:Bool×LL} (h:Zeq N st=some r):Snd zC 4 [] st (Zeq.rs r) r.2:=
 sO Zeq.B Tryz.func4 fun g0 w0 R hE=>by
  unfold Zeq at h;obtain ⟨⟨x1,x2,st3⟩,c1,h⟩:=Zab h;let o1:List PS:=[rZ,.r [(1,{rs:=[.one (zN x1),oI x2],st:=st3})]]
  have t1 {Q:Prop} (q:Q):=aI (Zfe.s c1) q;refine Zbd h (fun c2 h=>?_) (fun c2 h=>?_)
  ·obtain ⟨⟨x4,st5⟩,c3,h⟩:=Zab h;have t2 {Q:Prop} (q:Q):=t1 (aM c2 c2 (Zcx.s c3) c2 c2 q);refine Zbd h (fun c4 h=>?_) (fun c4 h=>?_)
   ·obtain ⟨⟨x6,st7⟩,c5,h⟩:=Zab h;have t3 {Q:Prop} (q:Q):=t2 (aM c4 c4 (Zca.s c5) c4 c4 q);refine Zbd h (fun c6 h=>?_) (fun c6 h=>?_)
    ·obtain ⟨⟨x8,st9⟩,c7,h⟩:=Zab h;have t4 {Q:Prop} (q:Q):=t3 (aM c6 c6 (ZaF.s c7) c6 c6 q);refine Zbd h (fun c8 h=>?_) (fun c8 h=>?_)
     ·obtain ⟨⟨x10,st11⟩,c9,h⟩:=Zab h;exact xT h hE (o1++[.r [(4,{rs:=[oI x4],st:=st5}),(9,{rs:=[oI x6],st:=st7}),(14,{rs:=[oI x8],st:=st9}),(19,{rs:=[.row true 1 x10],st:=st11,ns:=[27]})]]) (t4 (aM c8 c8 (ZcF.s c9) c8 c8 c8))
     exact xT h hE (o1++[.r [(4,{rs:=[oI x4],st:=st5}),(9,{rs:=[oI x6],st:=st7}),(14,{rs:=[oI x8],st:=st9}),(18,wF),(19,wF),(20,wF),(21,wF),(22,yF)]]) (t4 (aL c8 c8 c8 c8 c8))
    exact xT h hE (o1++[.r [(4,{rs:=[oI x4],st:=st5}),(9,{rs:=[oI x6],st:=st7}),(13,wF),(14,wF),(15,wF),(16,yF),(18,wF),(19,wF),(20,wF),(21,wF),(22,yF)]]) (t3 (aO c6 c6 c6 c6 eF eF eF (aI eF eF)))
   exact xT h hE (o1++[.r [(4,{rs:=[oI x4],st:=st5}),(8,wF),(9,wF),(10,wF),(11,yF),(13,wF),(14,wF),(15,wF),(16,yF),(18,wF),(19,wF),(20,wF),(21,wF),(22,yF)]]) (t2 (aO c4 c4 c4 c4 eF eF eF (aM eF eF eF eF eF eF)))
  exact xT h hE (o1++[.r [(3,wF),(4,wF),(5,wF),(6,yF),(8,wF),(9,wF),(10,wF),(11,yF),(13,wF),(14,wF),(15,wF),(16,yF),(18,wF),(19,wF),(20,wF),(21,wF),(22,yF)]]) (t1 (aO c2 c2 c2 c2 eF eF eF (aO eF eF eF eF eF eF eF (aJ eF eF eF))))
def Zap.B:Code:=Tryz.f115.body.getD .skip
def Zap.rs (r:(List Int)):List CV:=[.agg [zL .u64 4 r]]
def Zap.p4 (N:Nat) (c3_:(Int×(List Int))->Option (List Int)) (A13 A19:Int) (A18 A22:List Int):Option (List Int):= c3_ (w64 (A19+1),A22)
def Zap.p3 (N:Nat) (A13:Int) (A18:List Int) (c3_:(Int×(List Int))->Option (List Int)):(Int×(List Int))->Option (List Int):=fun (A19,A21)=> if (decide (A19<4))=true then if (decide (A13>0))=true then chk (0<=A19)<| chk (0<=(v64 (A13)))<| if (decide (A19>0))=true then chk (0<=(w64 (A19-1)))<| chk ((w64 (A19-1))<4)<| chk (0<=(v64 (w64 (64-A13))))<| Zap.p4 N c3_ A13 A19 A18 (zR (zR A21 (zD A19) (ZbP .u64 (zF A18 (zD A19) 0) (v64 (A13)))) (zD A19) (v64 ((zF (zR A21 (zD A19) (ZbP .u64 (zF A18 (zD A19) 0) (v64 (A13)))) (zD A19) 0)+(Zbx .u64 (zF A18 (zD (w64 (A19-1))) 0) (v64 (w64 (64-A13))))))) else Zap.p4 N c3_ A13 A19 A18 (zR A21 (zD A19) (ZbP .u64 (zF A18 (zD A19) 0) (v64 (A13)))) else chk (0<=A19)<| chk (0<=(v64 (w64 (0-A13))))<| if (decide (A19<3))=true then chk (0<=(w64 (A19+1)))<| chk ((w64 (A19+1))<4)<| chk (0<=(v64 (w64 (64+A13))))<| Zap.p4 N c3_ A13 A19 A18 (zR (zR A21 (zD A19) (Zbx .u64 (zF A18 (zD A19) 0) (v64 (w64 (0-A13))))) (zD A19) (v64 ((zF (zR A21 (zD A19) (Zbx .u64 (zF A18 (zD A19) 0) (v64 (w64 (0-A13))))) (zD A19) 0)+(ZbP .u64 (zF A18 (zD (w64 (A19+1))) 0) (v64 (w64 (64+A13))))))) else Zap.p4 N c3_ A13 A19 A18 (zR A21 (zD A19) (Zbx .u64 (zF A18 (zD A19) 0) (v64 (w64 (0-A13))))) else some A21
def Zap.p2 (N:Nat) (c2_:(Int×(List Int))->Option (List Int)):(Int×(List Int))->Option (List Int):=fun (A13,A18)=> if (decide (A13<=(-64)))=true then c2_ (w64 (A13+64),[zF A18 1 0,zF A18 2 0,zF A18 3 0,0]) else if (A13==0)=true then some A18 else loopN (Zap.p3 N A13 A18) N (0,zB 4 0)
def Zap.p1 (N:Nat) (c1_:(Int×(List Int))->Option (List Int)):(Int×(List Int))->Option (List Int):=fun (F1,A12)=> if (decide (F1>=64))=true then c1_ (w64 (F1-64),[0,zF A12 0 0,zF A12 1 0,zF A12 2 0]) else loopN (Zap.p2 N) N (F1,A12)
def Zap (N:Nat) (A0_0:List Int) (F1:Int):Option (List Int):= if (decide (F1<=(-256)))=true then some (zB 4 0) else if (decide (F1>=256))=true then some (zB 4 0) else loopN (Zap.p1 N) N (F1,A0_0)
def Zap.S4 (A13 A19:Int) (A18 A22:List Int) (st:LL):S:=mkS 96 [(1,sI A13),(2,sA 2),(4,sA 4),(5,sA 5),(6,sI A19)] [(2,.cells [zL .u64 4 A18]),(4,.cells [zL .u64 4 (zB 4 0)]),(5,.cells [zL .u64 4 A22])] st
def Zap.S3 (A13 A19:Int) (A18 A21:List Int) (st:LL):S:=mkS 96 [(1,sI A13),(2,sA 2),(4,sA 4),(5,sA 5),(6,sI A19)] [(2,.cells [zL .u64 4 A18]),(4,.cells [zL .u64 4 (zB 4 0)]),(5,.cells [zL .u64 4 A21])] st
def Zap.S2 (A13:Int) (A18:List Int) (st:LL):S:=mkS 96 [(1,sI A13),(2,sA 2),(4,sA 4),(5,sA 5)] [(2,.cells [zL .u64 4 A18]),(4,.cells [zL .u64 4 (zB 4 0)]),(5,.cells [zL .u64 4 (zB 4 0)])] st
def Zap.S1 (F1:Int) (A12:List Int) (st:LL):S:=mkS 96 [(1,sI F1),(2,sA 2),(4,sA 4),(5,sA 5)] [(2,.cells [zL .u64 4 A12]),(4,.cells [zL .u64 4 (zB 4 0)]),(5,.cells [zL .u64 4 (zB 4 0)])] st
def Zap.k4 {A13 A19 A18 A22 st r c3_ J3} (h:Zap.p4 N c3_ A13 A19 A18 A22=some r) (hE:En Tryz.f115 g0 w0 (Zap.rs r) st R) (hc3 : ∀A19 A21,c3_ (A19,A21)=some r->At g0 w0 (Zap.S3 A13 A19 A18 A21 st) J3):At g0 w0 (Zap.S4 A13 A19 A18 A22 st) (XK zC R [cK Zap.B [1,1,1,1,1,1,0,1,0,0,1,1],.h J3,.b 4,cK Zap.B [1,1,1,1,1,1,1]]):=by
 unfold Zap.p4 at h;exact an [rZ] trivial (hc3 (w64 (A19+1)) A22 h)
def Zap.k3 {A13 A19 A18 A21 st r c3_ J3} (h:Zap.p3 N A13 A18 c3_ (A19,A21)=some r) (hE:En Tryz.f115 g0 w0 (Zap.rs r) st R) (hc3 : ∀A19 A21,c3_ (A19,A21)=some r->At g0 w0 (Zap.S3 A13 A19 A18 A21 st) J3):At g0 w0 (Zap.S3 A13 A19 A18 A21 st) (XK zC R (cK Zap.B [1,1,1,1,1,1,0,1,0,0] :: .h J3 :: [.b 4,cK Zap.B [1,1,1,1,1,1,1]])):=by
 unfold Zap.p3 at h;refine Zbd h (fun c111 h=>?_) (fun c111 h=>?_)
 ·let o1:List PS:=[rZ,cT,rZ]
  refine Zbd h (fun c112 h=>?_) (fun c112 h=>?_)
  ·obtain ⟨c113,c114,h⟩:=ck2 h;have t1 {Q:Prop} (q:Q):=aO c111 c112 c113 (oD c111) c114 c113 (oD c111) q;refine Zbd h (fun c115 h=>?_) (fun c115 h=>?_)
   ·obtain ⟨c116,c117,c118,h⟩:=ck3 h;exact aqd (o1++[cT,rZ,rZ,cT,.d {ds:=[],hv:=16384,Hs:=[16384]},.s 4]) (t1 (aO c115 c113 (oD c111) c116 c117 c118 c113 (oD c111))) (Zap.k4 h hE hc3)
   exact aq (o1++[cT,rZ,rZ,cF,.s 4]) (t1 c115) (Zap.k4 h hE hc3)
  obtain ⟨c119,c120,h⟩:=ck2 h;have t2 {Q:Prop} (q:Q):=aO c111 c112 c119 (oD c111) c120 c119 (oD c111) q;refine Zbd h (fun c121 h=>?_) (fun c121 h=>?_)
  ·obtain ⟨c122,c123,c124,h⟩:=ck3 h;exact aqd (o1++[cF,rZ,rZ,cT,.d {ds:=[],hv:=16384,Hs:=[16384]},.s 4]) (t2 (aO c121 c119 (oD c111) c122 c123 c124 c119 (oD c111))) (Zap.k4 h hE hc3)
  exact aq (o1++[cF,rZ,rZ,cF,.s 4]) (t2 c121) (Zap.k4 h hE hc3)
 exact xS h hE [rZ,cF,rZ] c111
def Zap.k2 {A13 A18 st r c2_ J2} (h:Zap.p2 N c2_ (A13,A18)=some r) (hE:En Tryz.f115 g0 w0 (Zap.rs r) st R) (hc2 : ∀A13 A18,c2_ (A13,A18)=some r->At g0 w0 (Zap.S2 A13 A18 st) J2):At g0 w0 (Zap.S2 A13 A18 st) (XK zC R (cK Zap.B [1,1,1,1,0,0,0] :: .h J2 :: [.b 2,cK Zap.B [1,1,1,1,1]])):=by
 unfold Zap.p2 at h;exact Zbd h (fun c95 h=>an [rZ,cT,.r [(6,{m:=3})],rZ] (aI c95 (ix 1 4 (ix 2 4 (aI (leI 0 3) (ltI 3 4))))) (hc2 (w64 (A13+64)) [zF A18 1 0,zF A18 2 0,zF A18 3 0,0] h)) fun c95 h=>Zbd h (fun c96 h=>xS h hE [rZ,cF,rZ,cT,rZ] (aI c95 c96)) fun c96 h=>aq [rZ,cF,rZ,cF,rZ] (aI c95 c96) (At.loop N (At.loopN (fun y:Int×(List Int)=>Zap.S3 A13 y.1 A18 y.2 st) (fun c J hc y h=>Zap.k3 (A19:=y.1) (A21:=y.2) h hE (fun A19 A21=>hc (A19,A21))) N (0,zB 4 0) h))
def Zap.k1 {F1 A12 st r c1_ J1} (h:Zap.p1 N c1_ (F1,A12)=some r) (hE:En Tryz.f115 g0 w0 (Zap.rs r) st R) (hc1 : ∀F1 A12,c1_ (F1,A12)=some r->At g0 w0 (Zap.S1 F1 A12 st) J1):At g0 w0 (Zap.S1 F1 A12 st) (XK zC R (cK Zap.B [1,1,1,0,0,0] :: .h J1 :: [.b 0,cK Zap.B [1,1,1,1]])):=by
 unfold Zap.p1 at h;exact Zbd h (fun c64 h=>an [rZ,cT,.r [(6,{m:=3})],rZ] (aI c64 (ix 0 4 (ix 1 4 (aI (leI 0 2) (ltI 2 4))))) (hc1 (w64 (F1-64)) [0,zF A12 0 0,zF A12 1 0,zF A12 2 0] h)) fun c64 h=>aq [rZ,cF] c64 (At.loop N (At.loopN (fun y:Int×(List Int)=>Zap.S2 y.1 y.2 st) (fun c J hc y h=>Zap.k2 (A13:=y.1) (A18:=y.2) h hE (fun A13 A18=>hc (A13,A18))) N (F1,A12) h))
def Zap.s {A0_0:List Int} {F1:Int} {r:(List Int)} (h:Zap N A0_0 F1=some r):ZdW zC 115 [.agg [zL .u64 4 A0_0],oI F1] (Zap.rs r):=fun st=>
 sO Zap.B Tryz.func115 fun g0 w0 R hE=>by
  unfold Zap at h;refine Zbd h (fun c1 h=>xS h hE [rZ,rZ,.r [(3,wF),(4,wF)],cT,rZ] (aK c1 c1 c1 eT)) fun c1 h=>?_;let o2:List PS:=[rZ,rZ,.r [(5,yF)]]
  exact Zbd h (fun c2 h=>xS h hE (o2++[cT,rZ]) (aK c1 c1 c1 c2)) fun c2 h=>aq (o2++[cF]) (aK c1 c1 c1 c2) (At.loop N (At.loopN (fun y:Int×(List Int)=>Zap.S1 y.1 y.2 st) (fun c J hc y h=>Zap.k1 (F1:=y.1) (A12:=y.2) h hE (fun F1 A12=>hc (F1,A12))) N (F1,A0_0) h))
def ZaT.B:Code:=Tryz.f80.body.getD .skip
def ZaT.rs (r:(List Int)×Bool×Bool):List CV:=[.agg [zL .u64 4 r.1],oB r.2.1,oB r.2.2]
def ZaT.p1 (N:Nat) (A0:Int) (F2:Bool) (x1:List Int):Option ((List Int)×Bool×Bool):= if (decide ((yB A0 8388608)>0))=true then some (x1,(yB (w64 (zT A0 8388608)) 2)==1,F2) else some (x1,false,F2)
def ZaT (N:Nat) (A0:Int):Option ((List Int)×Bool×Bool):= if (decide (A0<0))=true then some (zB 4 0,false,false) else if (decide (A0>4294967295))=true then some (zB 4 0,false,false) else Zbb (Zap N [v64 (yB A0 8388608),0,0,0] (w64 (8*(w64 ((w64 (zT A0 16777216))-3))))) fun x1=> if (decide ((yB A0 8388608)>0))=true then if (decide ((w64 (zT A0 16777216))>34))=true then ZaT.p1 N A0 true x1 else if (decide ((yB A0 8388608)>255))=true then if (decide ((w64 (zT A0 16777216))>33))=true then ZaT.p1 N A0 true x1 else if (decide ((yB A0 8388608)>65535))=true then ZaT.p1 N A0 (decide ((w64 (zT A0 16777216))>32)) x1 else ZaT.p1 N A0 false x1 else if (decide ((yB A0 8388608)>65535))=true then ZaT.p1 N A0 (decide ((w64 (zT A0 16777216))>32)) x1 else ZaT.p1 N A0 false x1 else if (decide ((yB A0 8388608)>255))=true then if (decide ((w64 (zT A0 16777216))>33))=true then ZaT.p1 N A0 true x1 else if (decide ((yB A0 8388608)>65535))=true then ZaT.p1 N A0 (decide ((w64 (zT A0 16777216))>32)) x1 else ZaT.p1 N A0 false x1 else if (decide ((yB A0 8388608)>65535))=true then ZaT.p1 N A0 (decide ((w64 (zT A0 16777216))>32)) x1 else ZaT.p1 N A0 false x1
def ZaT.S1 (A0:Int) (F2:Bool) (x1:List Int) (st:LL):S:=mkS 61 [(2,sA 2),(6,sI (yB A0 8388608)),(7,.one (.l (wD ((yB (w64 (zT A0 8388608)) 2)==1)))),(8,sA 8),(9,.one (.l (wD F2)))] [(2,.cells [zL .u64 4 (zB 4 0)]),(8,.cells [zL .u64 4 x1])] st
def ZaT.k1 {A0 F2 x1 st r} (h:ZaT.p1 N A0 F2 x1=some r) (hE:En Tryz.f80 g0 w0 (ZaT.rs r) st R):At g0 w0 (ZaT.S1 A0 F2 x1 st) (XK zC R [cK ZaT.B [1,1,1,1,1,1,1]]):=by
 unfold ZaT.p1 at h;exact Zbd h (fun c14 h=>xS h hE [rZ] (aI c14 c14)) fun c14 h=>xS h hE [.r [(4,wF),(5,yF)]] (aI c14 c14)
def ZaT.s {A0:Int} {r:(List Int)×Bool×Bool} (h:ZaT N A0=some r):ZdW zC 80 [oI A0] (ZaT.rs r):=fun st=>
 sO ZaT.B Tryz.func80 fun g0 w0 R hE=>by
  unfold ZaT at h;refine Zbd h (fun c1 h=>xS h hE [rZ,.r [(3,wF),(4,wF)],cT,rZ] (aK c1 c1 c1 eT)) fun c1 h=>?_;let o1:List PS:=[rZ,.r [(5,yF)]]
  have t1 {Q:Prop} (q:Q):=aK c1 c1 c1 q;refine Zbd h (fun c2 h=>xS h hE (o1++[cT,rZ]) (t1 c2)) fun c2 h=>?_;obtain ⟨x1,c3,h⟩:=Zab h;let o2:List PS:=o1++[cF,rZ,rZ,rZ,.r [(2,{m:=3}),(6,q1 [.agg [zL .u64 4 x1]])]]
  have t2 {Q:Prop} (q:Q):=t1 (aN c2 (neI 16777216) (neI 8388608) (neI 8388608) (neI 2) (Zap.s c3) q);refine Zbd h (fun c4 h=>?_) (fun c4 h=>?_)
  ·have t3 {Q:Prop} (q:Q):=t2 (aK c4 c4 c4 q);refine Zbd h (fun c5 h=>aq (o2++[.r [(7,wF),(8,wF),(9,wF),(12,wF),(15,wF),(16,wF),(17,wF),(20,wF)],.s 1]) (t3 (aO c5 c5 c5 c5 c5 eT eT (aJ eT eT eT))) (ZaT.k1 h hE)) fun c5 h=>?_;have t4 {Q:Prop} (q:Q):=t3 (aK c5 c5 c5 q);refine Zbd h (fun c6 h=>Zbd h (fun c7 h=>aq (o2++[.r [(13,yF),(15,wF),(16,wF),(17,wF),(20,wF)],.s 1]) (t4 (aO c6 c6 c5 c6 c5 c7 c7 (aJ c7 c7 c7))) (ZaT.k1 h hE)) fun c7 h=>Zbd h (fun c8 h=>aq (o2++[.r [(13,yF),(21,yF)],.s 1]) (t4 (aO c6 c6 c5 c6 c5 c7 c7 (aM c7 c8 c8 c7 c8 c7))) (ZaT.k1 h hE)) fun c8 h=>aq (o2++[.r [(13,yF),(18,wF),(19,wF),(20,yF),(21,yF)],.s 1]) (t4 (aO c6 c6 c5 c6 c5 c7 c7 (aM c7 c8 c8 c7 c8 c7))) (ZaT.k1 h hE)) fun c6 h=>?_;have t5 {Q:Prop} (q:Q):=t4 (aO c6 c6 c5 c6 c5 eF eF (aI eF q));exact Zbd h (fun c9 h=>aq (o2++[.r [(10,wF),(11,wF),(12,yF),(13,yF),(21,yF)],.s 1]) (t5 (aL c9 c9 eF c9 eF)) (ZaT.k1 h hE)) fun c9 h=>aq (o2++[.r [(10,wF),(11,wF),(12,yF),(13,yF),(18,wF),(19,wF),(20,yF),(21,yF)],.s 1]) (t5 (aL c9 c9 eF c9 eF)) (ZaT.k1 h hE)
  have t6 {Q:Prop} (q:Q):=t2 (aN c4 c4 c4 eF eF eF q);refine Zbd h (fun c10 h=>?_) (fun c10 h=>?_)
  ·have t7 {Q:Prop} (q:Q):=t6 (aM c10 c10 eF c10 eF q);exact Zbd h (fun c11 h=>aq (o2++[.r [(3,wF),(4,wF),(5,yF),(13,yF),(15,wF),(16,wF),(17,wF),(20,wF)],.s 1]) (t7 (aL c11 c11 c11 c11 c11)) (ZaT.k1 h hE)) fun c11 h=>Zbd h (fun c12 h=>aq (o2++[.r [(3,wF),(4,wF),(5,yF),(13,yF),(21,yF)],.s 1]) (t7 (aO c11 c11 c11 c12 c12 c11 c12 c11)) (ZaT.k1 h hE)) fun c12 h=>aq (o2++[.r [(3,wF),(4,wF),(5,yF),(13,yF),(18,wF),(19,wF),(20,yF),(21,yF)],.s 1]) (t7 (aO c11 c11 c11 c12 c12 c11 c12 c11)) (ZaT.k1 h hE)
  have t8 {Q:Prop} (q:Q):=t6 (aO c10 c10 eF c10 eF eF eF (aI eF q));exact Zbd h (fun c13 h=>aq (o2++[.r [(3,wF),(4,wF),(5,yF),(10,wF),(11,wF),(12,yF),(13,yF),(21,yF)],.s 1]) (t8 (aL c13 c13 eF c13 eF)) (ZaT.k1 h hE)) fun c13 h=>aq (o2++[.r [(3,wF),(4,wF),(5,yF),(10,wF),(11,wF),(12,yF),(13,yF),(18,wF),(19,wF),(20,yF),(21,yF)],.s 1]) (t8 (aL c13 c13 eF c13 eF)) (ZaT.k1 h hE)
def Zdo.B:Code:=Tryz.f124.body.getD .skip
def Zdo.rs (r:Int):List CV:=[oI r]
def Zdo (N:Nat) (A0_0:List Int) (A1:Int):Option Int:= if (decide (A1<0))=true then some 0 else if (decide (A1>255))=true then some 0 else chk (0<=(w64 (zT A1 64)))<| chk ((w64 (zT A1 64))<4)<| chk (0<=(v64 (yB A1 64)))<| some (w64 (yB (Zbx .u64 (zF A0_0 (zD (w64 (zT A1 64))) 0) (v64 (yB A1 64))) 2))
def Zdo.s {A0_0:List Int} {A1:Int} {r:Int} (h:Zdo N A0_0 A1=some r):ZdW zC 124 [.agg [zL .u64 4 A0_0],oI A1] (Zdo.rs r):=fun st=>
 sO Zdo.B Tryz.func124 fun g0 w0 R hE=>by
  unfold Zdo at h;refine Zbd h (fun c1 h=>xS h hE [rZ,.r [(3,wF),(4,wF)],cT,rZ] (aK c1 c1 c1 eT)) fun c1 h=>?_;refine Zbd h (fun c2 h=>xS h hE [rZ,.r [(5,yF)],cT,rZ] (aK c1 c1 c1 c2)) fun c2 h=>?_;obtain ⟨c3,c4,c5,h⟩:=ck3 h;exact xS h hE [rZ,.r [(5,yF)],cF,rZ] (aO c1 c1 c1 c2 (neI 64) c3 c4 (aJ (neI 64) c5 (neI 2)))
def ZbG.B:Code:=Tryz.f111.body.getD .skip
def ZbG.rs (r:Bool):List CV:=[oB r]
def ZbG.p1 (N:Nat) (A0_0 A1_0:List Int) (c1_:Int->Option Bool):Int->Option Bool:=fun A1=> if (decide (A1>=0))=true then Zbb (Zdo N A0_0 A1) fun x2=> Zbb (Zdo N A1_0 A1) fun x3=> if (x2 != x3)=true then some (decide (x2<x3)) else c1_ (w64 (A1-1)) else some false
def ZbG (N:Nat) (A0_0 A1_0:List Int):Option Bool:= loopN (ZbG.p1 N A0_0 A1_0) N 255
def ZbG.S1 (A1:Int) (A0_0 A1_0:List Int) (st:LL):S:=mkS 24 [(2,sA 2),(3,sA 3),(5,sI A1)] [(2,.cells [zL .u64 4 A0_0]),(3,.cells [zL .u64 4 A1_0])] st
def ZbG.k1 {A1 A0_0 A1_0 st r c1_ J1} (h:ZbG.p1 N A0_0 A1_0 c1_ A1=some r) (hE:En Tryz.f111 g0 w0 (ZbG.rs r) st R) (hc1 : ∀A1,c1_ A1=some r->At g0 w0 (ZbG.S1 A1 A0_0 A1_0 st) J1):At g0 w0 (ZbG.S1 A1 A0_0 A1_0 st) (XK zC R (cK ZbG.B [1,0,1,0,0] :: .h J1 :: [.b 0,cK ZbG.B [1,1]])):=by
 unfold ZbG.p1 at h;refine Zbd h (fun c1 h=>?_) (fun c1 h=>?_)
 ·obtain ⟨x2,c2,h⟩:=Zab h;obtain ⟨x3,c3,h⟩:=Zab h;let o1:List PS:=[rZ,cT,.d {ds:=[(2,q1 [oI x2]),(5,q1 [oI x3])],hv:=0,Hs:=[]}]
  have t1 {Q:Prop} (q:Q):=aK c1 (Zdo.s c2) (Zdo.s c3) q;exact Zbd h (fun c4 h=>xSd h hE (o1++[cT,.d {ds:=[(2,q1 [oI x2]),(5,q1 [oI x3])],hv:=0,Hs:=[]}]) (t1 (aJ c4 (Zdo.s c2) (Zdo.s c3)))) fun c4 h=>Zlu fol (o1++[cF,rZ]) [2,3,5] [2,3] (t1 c4) (hc1 (w64 (A1-1)) h)
 exact xS h hE [rZ,cF,rZ] c1
def ZbG.s {A0_0 A1_0:List Int} {r:Bool} (h:ZbG N A0_0 A1_0=some r):ZdW zC 111 [.agg [zL .u64 4 A0_0],.agg [zL .u64 4 A1_0]] (ZbG.rs r):=fun st=>
 sO ZbG.B Tryz.func111 fun g0 w0 R hE=>by
  unfold ZbG at h;exact aq [rZ,rZ] trivial (At.loop N (At.loopN (fun y:Int=>ZbG.S1 y A0_0 A1_0 st) (fun c J hc y h=>ZbG.k1 h hE (fun A1=>hc A1)) N 255 h))
def ZcX.B:Code:=Tryz.f77.body.getD .skip
def ZcX.rs (r:(List Int)×Bool):List CV:=[.agg [zL .u64 4 r.1],oB r.2]
def ZcX (N:Nat) (A0 A1:Int):Option ((List Int)×Bool):= Zbb (ZaT N A0) fun (x1,x2,x3)=> Zbb (ZaT N A1) fun (x4,x5,x6)=> if x2=true then some (zB 4 0,false) else if x3=true then some (zB 4 0,false) else if x5=true then some (zB 4 0,false) else if x6=true then some (zB 4 0,false) else if (x1==(zB 4 0))=true then some (zB 4 0,false) else Zbb (ZbG N x4 x1) fun x7=> if x7=true then some (zB 4 0,false) else some (x1,true)
def ZcX.s {A0 A1:Int} {r:(List Int)×Bool} (h:ZcX N A0 A1=some r):ZdW zC 77 [oI A0,oI A1] (ZcX.rs r):=fun st=>
 sO ZcX.B Tryz.func77 fun g0 w0 R hE=>by
  unfold ZcX at h;obtain ⟨⟨x1,x2,x3⟩,c1,h⟩:=Zab h;obtain ⟨⟨x4,x5,x6⟩,c2,h⟩:=Zab h;let o1:List PS:=[rZ,.r [(1,q1 [.agg [zL .u64 4 x1],oB x2,oB x3])],.r [(1,q1 [.agg [zL .u64 4 x4],oB x5,oB x6])]]
  have t1 {Q:Prop} (q:Q):=aJ (ZaT.s c1) (ZaT.s c2) q;refine Zbd h (fun c3 h=>xS h hE (o1++[.r [(2,wF),(5,wF),(8,wF),(11,wF),(12,wF),(13,wF),(16,wF),(17,wF),(18,wF)],cT,rZ]) (t1 (aO c3 c3 eT eT eT eT eT (aO eT eT eT eT eT eT eT eT)))) fun c3 h=>?_;refine Zbd h (fun c4 h=>xS h hE (o1++[.r [(3,yF),(5,wF),(8,wF),(11,wF),(12,wF),(13,wF),(16,wF),(17,wF),(18,wF)],cT,rZ]) (t1 (aO c3 c3 c4 c4 eT eT eT (aO eT eT eT eT eT eT eT eT)))) fun c4 h=>?_;have t2 {Q:Prop} (q:Q):=t1 (aL c3 c3 c4 c4 q);refine Zbd h (fun c5 h=>xS h hE (o1++[.r [(3,yF),(6,yF),(8,wF),(11,wF),(12,wF),(13,wF),(16,wF),(17,wF),(18,wF)],cT,rZ]) (t2 (aO c5 c5 eT eT eT eT eT (aK eT eT eT eT)))) fun c5 h=>?_;refine Zbd h (fun c6 h=>xS h hE (o1++[.r [(3,yF),(6,yF),(9,yF),(11,wF),(12,wF),(13,wF),(16,wF),(17,wF),(18,wF)],cT,rZ]) (t2 (aO c5 c5 c6 c6 c6 c6 eT (aK eT eT eT eT)))) fun c6 h=>?_;have t3 {Q:Prop} (q:Q):=t2 (aN c5 c5 c6 c6 c6 c6 q);refine Zbd h (fun c7 h=>xS h hE (o1++[.r [(3,yF),(6,yF),(9,yF),(14,yF),(16,wF),(17,wF),(18,wF)],cT,rZ]) (t3 (aL c7 c7 c7 c7 eT))) fun c7 h=>?_;obtain ⟨x7,c8,h⟩:=Zab h;let o2:List PS:=o1++[.r [(3,yF),(6,yF),(9,yF),(14,yF),(18,q1 [oB x7]),(19,yF)]]
  exact Zbd h (fun c9 h=>xS h hE (o2++[cT,rZ]) (t3 (aM c7 c7 c7 (ZbG.s c8) c7 c9))) fun c9 h=>xS h hE (o2++[cF,rZ]) (t3 (aM c7 c7 c7 (ZbG.s c8) c7 c9))
def Zej.B:Code:=Tryz.f40.body.getD .skip
def Zej.rs (r:Bool):List CV:=[oB r]
def Zej (N:Nat) (A0:Zae):Option Bool:= Zbb (ZcX N A0.Limit A0.Limit) fun (x1,x2)=> if x2=true then if (decide (A0.Interval>=2))=true then if (decide (A0.Interval<=64))=true then if (decide (A0.Spacing>=1))=true then if (decide (A0.Spacing<=10000))=true then if (decide (A0.Future>=0))=true then some (decide (A0.Future<4294967296)) else some false else some false else some false else some false else some false else some false
def Zej.s {A0:Zae} {r:Bool} (h:Zej N A0=some r):ZdW zC 40 [.agg A0.ls] (Zej.rs r):=fun st=>
 sO Zej.B Tryz.func40 fun g0 w0 R hE=>by
  unfold Zej at h;obtain ⟨⟨x1,x2⟩,c1,h⟩:=Zab h;let o1:List PS:=[rZ,.r [(4,q1 [.agg [zL .u64 4 x1],oB x2])]]
  have t1 {Q:Prop} (q:Q):=aI (ZcX.s c1) q;refine Zbd h (fun c2 h=>?_) (fun c2 h=>?_)
  ·have t2 {Q:Prop} (q:Q):=t1 (aL c2 c2 c2 c2 q);refine Zbd h (fun c3 h=>?_) (fun c3 h=>?_)
   ·have t3 {Q:Prop} (q:Q):=t2 (aL c3 c3 c3 c3 q);refine Zbd h (fun c4 h=>?_) (fun c4 h=>?_)
    ·have t4 {Q:Prop} (q:Q):=t3 (aL c4 c4 c4 c4 q);exact Zbd h (fun c5 h=>Zbd h (fun c6 h=>Zbd h (fun c7 h=>xS h hE (o1++[rZ]) (t4 (aO c5 c5 c5 c5 c6 c6 c6 (aL c6 c7 c7 c7 c7)))) fun c7 h=>xS h hE (o1++[.r [(27,wF),(28,wF),(29,wF),(30,yF)]]) (t4 (aO c5 c5 c5 c5 c6 c6 c6 (aL c6 c7 c7 c7 c7)))) fun c6 h=>xS h hE (o1++[.r [(22,wF),(23,wF),(24,wF),(25,yF),(27,wF),(28,wF),(29,wF),(30,yF)]]) (t4 (aO c5 c5 c5 c5 c6 c6 c6 (aL c6 eF eF eF eF)))) fun c5 h=>xS h hE (o1++[.r [(17,wF),(18,wF),(19,wF),(20,yF),(22,wF),(23,wF),(24,wF),(25,yF),(27,wF),(28,wF),(29,wF),(30,yF)]]) (t4 (aO c5 c5 c5 c5 eF eF eF (aL eF eF eF eF eF)))
    exact xS h hE (o1++[.r [(12,wF),(13,wF),(14,wF),(15,yF),(17,wF),(18,wF),(19,wF),(20,yF),(22,wF),(23,wF),(24,wF),(25,yF),(27,wF),(28,wF),(29,wF),(30,yF)]]) (t3 (aO c4 c4 c4 c4 eF eF eF (aO eF eF eF eF eF eF eF (aI eF eF))))
   exact xS h hE (o1++[.r [(7,wF),(8,wF),(9,wF),(10,yF),(12,wF),(13,wF),(14,wF),(15,yF),(17,wF),(18,wF),(19,wF),(20,yF),(22,wF),(23,wF),(24,wF),(25,yF),(27,wF),(28,wF),(29,wF),(30,yF)]]) (t2 (aO c3 c3 c3 c3 eF eF eF (aO eF eF eF eF eF eF eF (aM eF eF eF eF eF eF))))
  exact xS h hE (o1++[.r [(2,wF),(3,wF),(4,wF),(5,yF),(7,wF),(8,wF),(9,wF),(10,yF),(12,wF),(13,wF),(14,wF),(15,yF),(17,wF),(18,wF),(19,wF),(20,yF),(22,wF),(23,wF),(24,wF),(25,yF),(27,wF),(28,wF),(29,wF),(30,yF)]]) (t1 (aO c2 c2 c2 c2 eF eF eF (aO eF eF eF eF eF eF eF (aO eF eF eF eF eF eF eF (aJ eF eF eF)))))
def Zdw.B:Code:=Tryz.f41.body.getD .skip
def Zdw.rs (r:Bool):List CV:=[oB r]
def Zdw (N:Nat) (h_0:Zal):Option Bool:= if (decide (h_0.Version>=(-2147483648)))=true then if (decide (h_0.Version<=2147483647))=true then if (decide (h_0.Time>=0))=true then if (decide (h_0.Time<4294967296))=true then if (decide (h_0.Bits>=0))=true then if (decide (h_0.Bits<4294967296))=true then if (decide (h_0.Nonce>=0))=true then some (decide (h_0.Nonce<4294967296)) else some false else some false else some false else some false else some false else some false else some false
def Zdw.s {h_0:Zal} {r:Bool} (h:Zdw N h_0=some r):ZdW zC 41 [.agg h_0.ls] (Zdw.rs r):=fun st=>
 sO Zdw.B Tryz.func41 fun g0 w0 R hE=>by
  unfold Zdw at h;let o1:List PS:=[rZ,rZ]
  refine Zbd h (fun c1 h=>?_) (fun c1 h=>?_)
  ·have t1 {Q:Prop} (q:Q):=aL c1 c1 c1 c1 q;refine Zbd h (fun c2 h=>?_) (fun c2 h=>?_)
   ·have t2 {Q:Prop} (q:Q):=t1 (aL c2 c2 c2 c2 q);refine Zbd h (fun c3 h=>?_) (fun c3 h=>?_)
    ·have t3 {Q:Prop} (q:Q):=t2 (aM c3 c3 c3 c3 c3 q);refine Zbd h (fun c4 h=>?_) (fun c4 h=>?_)
     ·have t4 {Q:Prop} (q:Q):=t3 (aL c4 c4 c4 c4 q);exact Zbd h (fun c5 h=>Zbd h (fun c6 h=>Zbd h (fun c7 h=>xS h hE (o1++[rZ]) (t4 (aO c5 c5 c5 c5 c5 c6 c6 (aN c6 c6 c7 c7 c7 c7 c7)))) fun c7 h=>xS h hE (o1++[.r [(36,wF),(37,wF),(38,wF),(39,wF),(40,yF)]]) (t4 (aO c5 c5 c5 c5 c5 c6 c6 (aN c6 c6 c7 c7 c7 c7 c7)))) fun c6 h=>xS h hE (o1++[.r [(31,wF),(32,wF),(33,wF),(34,yF),(36,wF),(37,wF),(38,wF),(39,wF),(40,yF)]]) (t4 (aO c5 c5 c5 c5 c5 c6 c6 (aN c6 c6 eF eF eF eF eF)))) fun c5 h=>xS h hE (o1++[.r [(25,wF),(26,wF),(27,wF),(28,wF),(29,yF),(31,wF),(32,wF),(33,wF),(34,yF),(36,wF),(37,wF),(38,wF),(39,wF),(40,yF)]]) (t4 (aO c5 c5 c5 c5 c5 eF eF (aN eF eF eF eF eF eF eF)))
     exact xS h hE (o1++[.r [(20,wF),(21,wF),(22,wF),(23,yF),(25,wF),(26,wF),(27,wF),(28,wF),(29,yF),(31,wF),(32,wF),(33,wF),(34,yF),(36,wF),(37,wF),(38,wF),(39,wF),(40,yF)]]) (t3 (aO c4 c4 c4 c4 eF eF eF (aO eF eF eF eF eF eF eF (aK eF eF eF eF))))
    exact xS h hE (o1++[.r [(14,wF),(15,wF),(16,wF),(17,wF),(18,yF),(20,wF),(21,wF),(22,wF),(23,yF),(25,wF),(26,wF),(27,wF),(28,wF),(29,yF),(31,wF),(32,wF),(33,wF),(34,yF),(36,wF),(37,wF),(38,wF),(39,wF),(40,yF)]]) (t2 (aO c3 c3 c3 c3 c3 eF eF (aO eF eF eF eF eF eF eF (aO eF eF eF eF eF eF eF (aI eF eF)))))
   exact xS h hE (o1++[.r [(9,wF),(10,wF),(11,wF),(12,yF),(14,wF),(15,wF),(16,wF),(17,wF),(18,yF),(20,wF),(21,wF),(22,wF),(23,yF),(25,wF),(26,wF),(27,wF),(28,wF),(29,yF),(31,wF),(32,wF),(33,wF),(34,yF),(36,wF),(37,wF),(38,wF),(39,wF),(40,yF)]]) (t1 (aO c2 c2 c2 c2 eF eF eF (aO eF eF eF eF eF eF eF (aO eF eF eF eF eF eF eF (aM eF eF eF eF eF eF)))))
  exact xS h hE (o1++[.r [(4,wF),(5,wF),(6,wF),(7,yF),(9,wF),(10,wF),(11,wF),(12,yF),(14,wF),(15,wF),(16,wF),(17,wF),(18,yF),(20,wF),(21,wF),(22,wF),(23,yF),(25,wF),(26,wF),(27,wF),(28,wF),(29,yF),(31,wF),(32,wF),(33,wF),(34,yF),(36,wF),(37,wF),(38,wF),(39,wF),(40,yF)]]) (aO c1 c1 c1 c1 eF eF eF (aO eF eF eF eF eF eF eF (aO eF eF eF eF eF eF eF (aO eF eF eF eF eF eF eF (aJ eF eF eF)))))
def ZbB.B:Code:=Tryz.f17.body.getD .skip
def ZbB.rs (r:Bool):List CV:=[oB r]
def ZbB.p2 (N:Nat) (A0:Zae) (c2_:(Int×Int)->Option Bool):(Int×Int)->Option Bool:=fun (A6,v7)=> if (decide (v7<(len A0.Checks)))=true then chk (0<=v7)<| ZcO (A0.Checks[zD v7]?) ZeV fun x8=> if (decide (x8.Height<=A6))=true then some false else c2_ (x8.Height,w64 (v7+1)) else some true
def ZbB.p1 (N:Nat) (A0:Zae) (c1_:(Int×Int)->Option Bool):(Int×Int)->Option Bool:=fun (A3,v4)=> if (decide (v4<(len A0.Gates)))=true then chk (0<=v4)<| ZcO (A0.Gates[zD v4]?) Zfi fun x5=> if (decide (x5.Height<=A3))=true then some false else c1_ (x5.Height,w64 (v4+1)) else loopN (ZbB.p2 N A0) N (0,0)
def ZbB (N:Nat) (A0:Zae):Option Bool:= Zbb (Zej N A0) fun x1=> if (!x1)=true then some false else Zbb (Zdw N A0.Genesis) fun x2=> if (!x2)=true then some false else loopN (ZbB.p1 N A0) N ((-1),0)
def ZbB.S2 (A6:Int) (A0:Zae) (v7:Int) (st:LL):S:=mkS 45 [(3,sI A6),(32,sV 33 A0.Checks),(33,sI (len A0.Checks)),(34,sI v7)] [] st
def ZbB.S1 (A3:Int) (A0:Zae) (v4:Int) (st:LL):S:=mkS 45 [(1,sA 1),(3,sI A3),(18,sV 2 A0.Gates),(19,sI (len A0.Gates)),(20,sI v4)] [(1,.cells A0.ls)] st
def ZbB.k2 {A6 A0 v7 st r c2_ J2} (h:ZbB.p2 N A0 c2_ (A6,v7)=some r) (hE:En Tryz.f17 g0 w0 (ZbB.rs r) st R) (hc2 : ∀A6 v7,c2_ (A6,v7)=some r->At g0 w0 (ZbB.S2 A6 A0 v7 st) J2):At g0 w0 (ZbB.S2 A6 A0 v7 st) (XK zC R (cK ZbB.B [1,1,1,1,1,0,1,0,0] :: .h J2 :: [.b 2,cK ZbB.B [1,1,1,1,1,1]])):=by
 unfold ZbB.p2 at h;refine Zbd h (fun c9 h=>?_) (fun c9 h=>?_)
 ·obtain ⟨c10,h⟩:=Zba h;obtain ⟨x8,c11,h⟩:=Zfd h;let o1:List PS:=[rZ,cT,.r [(1,{oe:=x8.ls})],rZ]
  exact Zbd h (fun c12 h=>xS h hE (o1++[cT,rZ]) (aL c9 c10 (oD c9) c11 c12)) fun c12 h=>an (o1++[cF,rZ,rZ]) (aL c9 c10 (oD c9) c11 c12) (hc2 x8.Height (w64 (v7+1)) h)
 exact xS h hE [rZ,cF,rZ] c9
def ZbB.k1 {A3 A0 v4 st r c1_ J1} (h:ZbB.p1 N A0 c1_ (A3,v4)=some r) (hE:En Tryz.f17 g0 w0 (ZbB.rs r) st R) (hc1 : ∀A3 v4,c1_ (A3,v4)=some r->At g0 w0 (ZbB.S1 A3 A0 v4 st) J1):At g0 w0 (ZbB.S1 A3 A0 v4 st) (XK zC R (cK ZbB.B [1,1,1,0,1,0,0] :: .h J1 :: [.b 0,cK ZbB.B [1,1,1,1]])):=by
 unfold ZbB.p1 at h;refine Zbd h (fun c5 h=>?_) (fun c5 h=>?_)
 ·obtain ⟨c6,h⟩:=Zba h;obtain ⟨x5,c7,h⟩:=Zfn h;let o2:List PS:=[rZ,cT,.r [(1,{oe:=x5.ls})],rZ]
  exact Zbd h (fun c8 h=>xS h hE (o2++[cT,rZ]) (aL c5 c6 (oD c5) c7 c8)) fun c8 h=>an (o2++[cF,rZ,rZ]) (aL c5 c6 (oD c5) c7 c8) (hc1 x5.Height (w64 (v4+1)) h)
 exact aq [rZ,cF,rZ,rZ] c5 (At.loop N (At.loopN (fun y:Int×Int=>ZbB.S2 y.1 A0 y.2 st) (fun c J hc y h=>ZbB.k2 (A6:=y.1) (v7:=y.2) h hE (fun A6 v7=>hc (A6,v7))) N (0,0) h))
def ZbB.s {A0:Zae} {r:Bool} (h:ZbB N A0=some r):ZdW zC 17 [.agg A0.ls] (ZbB.rs r):=fun st=>
 sO ZbB.B Tryz.func17 fun g0 w0 R hE=>by
  unfold ZbB at h;obtain ⟨x1,c1,h⟩:=Zab h;have t1 {Q:Prop} (q:Q):=aI (Zej.s c1) q;refine Zbd h (fun c2 h=>xS h hE [rZ,.r [(1,q1 [oB x1]),(4,wF),(5,wF),(6,wF),(7,wF)],cT,rZ] (t1 (aM (not_false (Zcu c2)) (not_false (Zcu c2)) (not_false (Zcu c2)) (not_false (Zcu c2)) (not_false (Zcu c2)) eT))) fun c2 h=>?_;obtain ⟨x2,c3,h⟩:=Zab h;let o3:List PS:=[rZ,.r [(1,q1 [oB x1]),(6,q1 [oB x2]),(8,yF)]]
  have t2 {Q:Prop} (q:Q):=t1 (aN (not_true (Zcv c2)) (not_true (Zcv c2)) (not_true (Zcv c2)) (Zdw.s c3) (not_true (Zcv c2)) (not_true (Zcv c2)) q);exact Zbd h (fun c4 h=>xS h hE (o3++[cT,rZ]) (t2 c4)) fun c4 h=>aq (o3++[cF,rZ,rZ]) (t2 c4) (At.loop N (At.loopN (fun y:Int×Int=>ZbB.S1 y.1 A0 y.2 st) (fun c J hc y h=>ZbB.k1 (A3:=y.1) (v4:=y.2) h hE (fun A3 v4=>hc (A3,v4))) N ((-1),0) h))
def Zch.B:Code:=Tryz.f5.body.getD .skip
def Zch.rs (r:Bool):List CV:=[oB r]
def Zch.p1 (N:Nat) (A1:LL) (A0:Zae) (c1_:Int->Option Bool):Int->Option Bool:=fun v1=> if (decide (v1<(len A1)))=true then chk (0<=v1)<| ZcO (A1[zD v1]?) Zed fun x2=> if (decide (x2.Now<0))=true then some true else c1_ (w64 (v1+1)) else if (decide ((len A0.Gates)>20))=true then some true else if (decide ((len A0.Checks)>20))=true then some true else if (decide ((len A1)>50))=true then some true else Zbb (ZbB N A0) fun x3=> some (!x3)
def Zch (N:Nat) (A0:Zae) (A1:LL):Option Bool:= loopN (Zch.p1 N A1 A0) N 0
def Zch.S1 (A1:LL) (v1:Int) (A0:Zae) (st:LL):S:=mkS 37 [(1,sV 72 A1),(2,sA 2),(7,sV 72 A1),(8,sI (len A1)),(9,sI v1)] [(2,.cells A0.ls)] st
def Zch.k1 {A1 v1 A0 st r c1_ J1} (h:Zch.p1 N A1 A0 c1_ v1=some r) (hE:En Tryz.f5 g0 w0 (Zch.rs r) st R) (hc1 : ∀v1,c1_ v1=some r->At g0 w0 (Zch.S1 A1 v1 A0 st) J1):At g0 w0 (Zch.S1 A1 v1 A0 st) (XK zC R (cK Zch.B [1,0,1,0,0] :: .h J1 :: [.b 0,cK Zch.B [1,1]])):=by
 unfold Zch.p1 at h;refine Zbd h (fun c1 h=>?_) (fun c1 h=>?_)
 ·obtain ⟨c2,h⟩:=Zba h;obtain ⟨x2,c3,h⟩:=ZfS h;let o1:List PS:=[rZ,cT,.r [(1,{oe:=x2.ls})],rZ]
  exact Zbd h (fun c4 h=>xS h hE (o1++[cT,rZ]) (aL c1 c2 (oD c1) c3 c4)) fun c4 h=>an (o1++[cF,rZ]) (aL c1 c2 (oD c1) c3 c4) (hc1 (w64 (v1+1)) h)
 let o2:List PS:=[rZ,cF]
 refine Zbd h (fun c5 h=>xS h hE (o2++[.r [(5,wF),(6,wF),(7,wF),(8,wF),(11,wF),(12,wF),(13,wF),(16,wF),(17,wF),(18,wF)]]) (aO c1 c5 c5 c5 c5 c5 eT (aN eT eT eT eT eT eT eT))) fun c5 h=>?_;have t1 {Q:Prop} (q:Q):=aN c1 c5 c5 c5 c5 c5 q;refine Zbd h (fun c6 h=>xS h hE (o2++[.r [(9,yF),(11,wF),(12,wF),(13,wF),(16,wF),(17,wF),(18,wF)]]) (t1 (aO c6 c6 c6 c6 eT eT eT eT))) fun c6 h=>?_;refine Zbd h (fun c7 h=>xS h hE (o2++[.r [(9,yF),(14,yF),(16,wF),(17,wF),(18,wF)]]) (t1 (aO c6 c6 c6 c6 c7 c7 c7 c7))) fun c7 h=>?_;obtain ⟨x3,c8,h⟩:=Zab h;exact xS h hE (o2++[.r [(9,yF),(14,yF),(17,q1 [oB x3]),(19,yF)]]) (t1 (aO c6 c6 c6 c6 c7 c7 (ZbB.s c8) (aI c7 c7)))
def Zch.s {A0:Zae} {A1:LL} {r:Bool} (h:Zch N A0 A1=some r):ZdW zC 5 [.agg A0.ls,.one (vQ 72 A1)] (Zch.rs r):=fun st=>
 sO Zch.B Tryz.func5 fun g0 w0 R hE=>by
  unfold Zch at h;exact aq [rZ,rZ] trivial (At.loop N (At.loopN (fun y:Int=>Zch.S1 A1 y A0 st) (fun c J hc y h=>Zch.k1 h hE (fun v1=>hc v1)) N 0 h))
def ZbF.B:Code:=Tryz.f113.body.getD .skip
def ZbF.rs (r:ByteArray):List CV:=[.one (vO r)]
def ZbF.p1 (N:Nat) (A0:Int) (c1_:(Int×ByteArray×Int)->Option ByteArray):(Int×ByteArray×Int)->Option ByteArray:=fun (A1,A3,A2)=> if (decide (A2<(if (8:Int)<(if (1:Int)>A0 then 1 else A0) then 8 else (if (1:Int)>A0 then 1 else A0))))=true then chk (isB [[zK .u8 (v8 (yB A1 256))]]=true)<| chk (yC A3+yC (Zlz (vN Zge [[zK .u8 (v8 (yB A1 256))]]))<=9223372036854775807)<| c1_ (v64 (zT A1 256),A3++(Zlz (vN Zge [[zK .u8 (v8 (yB A1 256))]])),w64 (A2+1)) else some A3
def ZbF (N:Nat) (A0 F1:Int):Option ByteArray:= loopN (ZbF.p1 N A0) N (v64 (F1),(wL #[]),0)
def ZbF.S1 (A0 A1:Int) (A3:ByteArray) (A2:Int) (st:LL):S:=mkS 27 [(0,sI A0),(5,.one (.l (zK .u64 A1))),(6,.one (.l (vO A3))),(7,sI A2)] [] st
def ZbF.k1 {A0 A1 A3 A2 st r c1_ J1} (h:ZbF.p1 N A0 c1_ (A1,A3,A2)=some r) (hE:En Tryz.f113 g0 w0 (ZbF.rs r) st R) (hc1 : ∀A1 A3 A2,c1_ (A1,A3,A2)=some r->At g0 w0 (ZbF.S1 A0 A1 A3 A2 st) J1):At g0 w0 (ZbF.S1 A0 A1 A3 A2 st) (XK zC R (cK ZbF.B [1,1,1,0,1,0,0] :: .h J1 :: [.b 0,cK ZbF.B [1,1,1,1]])):=by
 unfold ZbF.p1 at h;refine Zbd h (fun c4 h=>?_) (fun c4 h=>?_)
 ·obtain ⟨c5,c6,h⟩:=ck2 h;exact an [rZ,cT,rZ,rZ,rZ] (aN c4 (neI 256) z0 (eN (1)) c5 c6 (neI 256)) (hc1 (v64 (zT A1 256)) (A3++(Zlz (vN Zge [[zK .u8 (v8 (yB A1 256))]]))) (w64 (A2+1)) h)
 exact xS h hE [rZ,cF,rZ] c4
def ZbF.s {A0 F1:Int} {r:ByteArray} (h:ZbF N A0 F1=some r):ZdW zC 113 [oI A0,oI F1] (ZbF.rs r):=fun st=>
 sO ZbF.B Tryz.func113 fun g0 w0 R hE=>by
  unfold ZbF at h;exact aq [rZ,rZ,rZ,rZ] trivial (At.loop N (At.loopN (fun y:Int×ByteArray×Int=>ZbF.S1 A0 y.1 y.2.1 y.2.2 st) (fun c J hc y h=>ZbF.k1 (A1:=y.1) (A3:=y.2.1) (A2:=y.2.2) h hE (fun A1 A3 A2=>hc (A1,A3,A2))) N (v64 (F1),(wL #[]),0) h))
def Zcz.B:Code:=Tryz.f114.body.getD .skip
def Zcz.rs (r:ByteArray):List CV:=[.one (vO r)]
def Zcz.p1 (N:Nat) (A0_0:List Int) (c1_:(ByteArray×Int)->Option ByteArray):(ByteArray×Int)->Option ByteArray:=fun (A2,A1)=> if (decide (A1<32))=true then chk (0<=A1)<| chk (isB [[zK .u8 (zF A0_0 (zD A1) 0)]]=true)<| chk (yC A2+yC (Zlz (vN Zge [[zK .u8 (zF A0_0 (zD A1) 0)]]))<=9223372036854775807)<| c1_ (A2++(Zlz (vN Zge [[zK .u8 (zF A0_0 (zD A1) 0)]])),w64 (A1+1)) else some A2
def Zcz (N:Nat) (A0_0:List Int):Option ByteArray:= loopN (Zcz.p1 N A0_0) N ((wL #[]),0)
def Zcz.S1 (A2:ByteArray) (A1:Int) (A0_0:List Int) (st:LL):S:=mkS 17 [(1,sA 1),(3,.one (.l (vO A2))),(4,sI A1)] [(1,.cells [zL .u8 32 A0_0])] st
def Zcz.k1 {A2 A1 A0_0 st r c1_ J1} (h:Zcz.p1 N A0_0 c1_ (A2,A1)=some r) (hE:En Tryz.f114 g0 w0 (Zcz.rs r) st R) (hc1 : ∀A2 A1,c1_ (A2,A1)=some r->At g0 w0 (Zcz.S1 A2 A1 A0_0 st) J1):At g0 w0 (Zcz.S1 A2 A1 A0_0 st) (XK zC R (cK Zcz.B [1,1,0,1,0,0] :: .h J1 :: [.b 0,cK Zcz.B [1,1,1]])):=by
 unfold Zcz.p1 at h;refine Zbd h (fun c5 h=>?_) (fun c5 h=>?_)
 ·obtain ⟨c6,c7,c8,h⟩:=ck3 h;exact an [rZ,cT,rZ,rZ] (aN c5 c6 (oD c5) z0 (eN (1)) c7 c8) (hc1 (A2++(Zlz (vN Zge [[zK .u8 (zF A0_0 (zD A1) 0)]]))) (w64 (A1+1)) h)
 exact xS h hE [rZ,cF,rZ] c5
def Zcz.s {A0_0:List Int} {r:ByteArray} (h:Zcz N A0_0=some r):ZdW zC 114 [.agg [zL .u8 32 A0_0]] (Zcz.rs r):=fun st=>
 sO Zcz.B Tryz.func114 fun g0 w0 R hE=>by
  unfold Zcz at h;exact aq [rZ,rZ,rZ] trivial (At.loop N (At.loopN (fun y:ByteArray×Int=>Zcz.S1 y.1 y.2 A0_0 st) (fun c J hc y h=>Zcz.k1 (A2:=y.1) (A1:=y.2) h hE (fun A2 A1=>hc (A2,A1))) N ((wL #[]),0) h))
def Zeo.B:Code:=Tryz.f79.body.getD .skip
def Zeo.rs (r:ByteArray):List CV:=[.one (vO r)]
def Zeo (N:Nat) (h_0:Zal):Option ByteArray:= Zbb (ZbF N 4 h_0.Version) fun x1=> Zbb (Zcz N h_0.Prev) fun x2=> chk (yC x1+yC x2<=9223372036854775807)<| Zbb (Zcz N h_0.Root) fun x3=> chk (yC (x1++x2)+yC x3<=9223372036854775807)<| Zbb (ZbF N 4 h_0.Time) fun x4=> chk (yC ((x1++x2)++x3)+yC x4<=9223372036854775807)<| Zbb (ZbF N 4 h_0.Bits) fun x5=> chk (yC (((x1++x2)++x3)++x4)+yC x5<=9223372036854775807)<| Zbb (ZbF N 4 h_0.Nonce) fun x6=> chk (yC ((((x1++x2)++x3)++x4)++x5)+yC x6<=9223372036854775807)<| some (((((x1++x2)++x3)++x4)++x5)++x6)
def Zeo.s {h_0:Zal} {r:ByteArray} (h:Zeo N h_0=some r):ZdW zC 79 [.agg h_0.ls] (Zeo.rs r):=fun st=>
 sO Zeo.B Tryz.func79 fun g0 w0 R hE=>by
  unfold Zeo at h;obtain ⟨x1,c1,h⟩:=Zab h;obtain ⟨x2,c2,h⟩:=Zab h;obtain ⟨c3,h⟩:=Zba h;obtain ⟨x3,c4,h⟩:=Zab h;obtain ⟨c5,h⟩:=Zba h;obtain ⟨x4,c6,h⟩:=Zab h;obtain ⟨c7,h⟩:=Zba h;obtain ⟨x5,c8,h⟩:=Zab h;obtain ⟨c9,h⟩:=Zba h;obtain ⟨x6,c10,h⟩:=Zab h;obtain ⟨c11,h⟩:=Zba h;exact xSd h hE [rZ,.d {ds:=[(2,q1 [.one (vO x1)]),(5,q1 [.one (vO x2)]),(9,q1 [.one (vO x3)])],hv:=0,Hs:=[]},.d {ds:=[(3,q1 [.one (vO x4)]),(7,q1 [.one (vO x5)]),(11,q1 [.one (vO x6)])],hv:=0,Hs:=[]}] (aO (ZbF.s c1) (Zcz.s c2) c3 (Zcz.s c4) c5 (ZbF.s c6) c7 (aK (ZbF.s c8) c9 (ZbF.s c10) c11))
def Zbf.B:Code:=Tryz.f135.body.getD .skip
def Zbf.rs (r:ByteArray):List CV:=[.one (vO r)]
def Zbf.p2 (N:Nat) (A4:ByteArray) (c2_:(Int×ByteArray×Int)->Option ByteArray):(Int×ByteArray×Int)->Option ByteArray:=fun (A5,A7,A6)=> if (decide (A6<8))=true then chk (isB [[zK .u8 (v8 (yB A5 256))]]=true)<| chk (yC (Zlz (vN Zge [[zK .u8 (v8 (yB A5 256))]]))+yC A7<=9223372036854775807)<| c2_ (w64 (zT A5 256),(Zlz (vN Zge [[zK .u8 (v8 (yB A5 256))]]))++A7,w64 (A6+1)) else chk (yC A4+yC A7<=9223372036854775807)<| some (A4++A7)
def Zbf.p1 (N:Nat) (A0:ByteArray) (c1_:ByteArray->Option ByteArray):ByteArray->Option ByteArray:=fun A4=> if ((yB ((yC A4:Nat):Int) 64) != 56)=true then chk (yC A4+yC (wL #[0])<=9223372036854775807)<| c1_ (A4++(wL #[0])) else loopN (Zbf.p2 N A4) N (w64 (8*((yC A0:Nat):Int)),(wL #[]),0)
def Zbf (N:Nat) (A0:ByteArray):Option ByteArray:= chk (yC A0+yC (wL #[128])<=9223372036854775807)<| loopN (Zbf.p1 N A0) N (A0++(wL #[128]))
def Zbf.S2 (A4:ByteArray) (A5:Int) (A7:ByteArray) (A6:Int) (st:LL):S:=mkS 34 [(0,.one (.l (vO A4))),(3,sI A5),(4,.one (.l (vO A7))),(5,sI A6)] [] st
def Zbf.S1 (A4 A0:ByteArray) (st:LL):S:=mkS 34 [(0,.one (.l (vO A4))),(3,sI ((yC A0:Nat):Int))] [] st
def Zbf.k2 {A4 A5 A7 A6 st r c2_ J2} (h:Zbf.p2 N A4 c2_ (A5,A7,A6)=some r) (hE:En Tryz.f135 g0 w0 (Zbf.rs r) st R) (hc2 : ∀A5 A7 A6,c2_ (A5,A7,A6)=some r->At g0 w0 (Zbf.S2 A4 A5 A7 A6 st) J2):At g0 w0 (Zbf.S2 A4 A5 A7 A6 st) (XK zC R (cK Zbf.B [1,1,1,1,1,1,0,1,0,0] :: .h J2 :: [.b 2,cK Zbf.B [1,1,1,1,1,1,1]])):=by
 unfold Zbf.p2 at h;refine Zbd h (fun c18 h=>?_) (fun c18 h=>?_)
 ·obtain ⟨c19,c20,h⟩:=ck2 h;exact an [rZ,cT,rZ,rZ,rZ] (aN c18 (neI 256) z0 (eN (1)) c19 c20 (neI 256)) (hc2 (w64 (zT A5 256)) ((Zlz (vN Zge [[zK .u8 (v8 (yB A5 256))]]))++A7) (w64 (A6+1)) h)
 obtain ⟨c21,h⟩:=Zba h;exact xS h hE [rZ,cF,rZ] (aI c18 c21)
def Zbf.k1 {A4 A0 st r c1_ J1} (h:Zbf.p1 N A0 c1_ A4=some r) (hE:En Tryz.f135 g0 w0 (Zbf.rs r) st R) (hc1 : ∀A4,c1_ A4=some r->At g0 w0 (Zbf.S1 A4 A0 st) J1):At g0 w0 (Zbf.S1 A4 A0 st) (XK zC R (cK Zbf.B [1,1,1,0,0,0] :: .h J1 :: [.b 0,cK Zbf.B [1,1,1,1]])):=by
 unfold Zbf.p1 at h;refine Zbd h (fun c12 h=>?_) (fun c12 h=>?_)
 ·obtain ⟨c13,h⟩:=Zba h;exact an [rZ,cT,rZ] (aJ (neI 64) c12 c13) (hc1 (A4++(wL #[0])) h)
 exact aq [rZ,cF,rZ,rZ,rZ] (aI (neI 64) c12) (At.loop N (At.loopN (fun y:Int×ByteArray×Int=>Zbf.S2 A4 y.1 y.2.1 y.2.2 st) (fun c J hc y h=>Zbf.k2 (A5:=y.1) (A7:=y.2.1) (A6:=y.2.2) h hE (fun A5 A7 A6=>hc (A5,A7,A6))) N (w64 (8*((yC A0:Nat):Int)),(wL #[]),0) h))
def Zbf.s {A0:ByteArray} {r:ByteArray} (h:Zbf N A0=some r):ZdW zC 135 [.one (vO A0)] (Zbf.rs r):=fun st=>
 sO Zbf.B Tryz.func135 fun g0 w0 R hE=>by
  unfold Zbf at h;obtain ⟨c1,h⟩:=Zba h;exact aq [rZ,rZ,rZ] c1 (At.loop N (At.loopN (fun y:ByteArray=>Zbf.S1 y A0 st) (fun c J hc y h=>Zbf.k1 h hE (fun A4=>hc A4)) N (A0++(wL #[128])) h))
def Zbp.B:Code:=Tryz.f136.body.getD .skip
def Zbp.rs (r:Int):List CV:=[.one (zK .u32 r)]
def Zbp (N:Nat) (A0 F1:Int):Option Int:= chk (0<=F1)<| chk (0<=(v64 (32-F1)))<| some (v32 ((Zbx .u32 A0 F1)+(ZbP .u32 A0 (v64 (32-F1)))))
def Zbp.s {A0 F1:Int} {r:Int} (h:Zbp N A0 F1=some r):ZdW zC 136 [.one (zK .u32 A0),.one (zK .u64 F1)] (Zbp.rs r):=fun st=>
 sO Zbp.B Tryz.func136 fun g0 w0 R hE=>by
  unfold Zbp at h;obtain ⟨c1,c2,h⟩:=ck2 h;exact xS h hE [rZ,rZ] (aI c1 c2)
def Zgq.B:Code:=Tryz.f137.body.getD .skip
def Zgq.rs (r:Int):List CV:=[.one (zK .u32 r)]
def Zgq (N:Nat) (A0:Int):Option Int:= chk (0<=A0)<| chk (A0<64)<| some (zF [1116352408,1899447441,3049323471,3921009573,961987163,1508970993,2453635748,2870763221,3624381080,310598401,607225278,1426881987,1925078388,2162078206,2614888103,3248222580,3835390401,4022224774,264347078,604807628,770255983,1249150122,1555081692,1996064986,2554220882,2821834349,2952996808,3210313671,3336571891,3584528711,113926993,338241895,666307205,773529912,1294757372,1396182291,1695183700,1986661051,2177026350,2456956037,2730485921,2820302411,3259730800,3345764771,3516065817,3600352804,4094571909,275423344,430227734,506948616,659060556,883997877,958139571,1322822218,1537002063,1747873779,1955562222,2024104815,2227730452,2361852424,2428436474,2756734187,3204031479,3329325298] (zD A0) 0)
def Zgq.s {A0:Int} {r:Int} (h:Zgq N A0=some r):ZdW zC 137 [oI A0] (Zgq.rs r):=fun st=>
 sO Zgq.B Tryz.func137 fun g0 w0 R hE=>by
  unfold Zgq at h;obtain ⟨c1,c2,h⟩:=ck2 h;exact xS h hE [rZ,.r [(0,{m:=3})]] (aI c1 c2)
def Zas.B:Code:=Tryz.f112.body.getD .skip
def Zas.rs (r:(List Int)):List CV:=[.agg [zL .u8 32 r]]
def Zas.p3 (N:Nat) (c2_:(Int×(List Int))->Option (List Int)) (c1_:(Int×(List Int))->Option (List Int)) (x1:ByteArray) (A2 A112:Int) (A111:List Int) (c3_:(Int×(List Int))->Option (List Int)):(Int×(List Int))->Option (List Int):=fun (A166,A167)=> if (decide (A166<4))=true then chk (0<=A112)<| chk (A112<64)<| chk (0<=(w64 ((w64 (A2+(w64 (4*A112))))+A166)))<| chk ((w64 ((w64 (A2+(w64 (4*A112))))+A166))<((yC x1:Nat):Int))<| c3_ (w64 (A166+1),zR A167 (zD A112) (v32 ((v32 ((zF A167 (zD A112) 0)*256))+(v32 (((UInt8.toNat (zF (qK (rQ x1)) (zD (w64 ((w64 (A2+(w64 (4*A112))))+A166))) 0):Nat):Int)))))) else c2_ (w64 (A112+1),A167)
def Zas.p6 (N:Nat) (c1_:(Int×(List Int))->Option (List Int)) (x1:ByteArray) (A2:Int) (A208:List Int) (c6_:(Int×(List Int))->Option (List Int)):(Int×(List Int))->Option (List Int):=fun (A216,A217)=> if (decide (A216<8))=true then chk (0<=A216)<| c6_ (w64 (A216+1),zR A217 (zD A216) (v32 ((zF A217 (zD A216) 0)+(zF A208 (zD A216) 0)))) else c1_ (w64 (A2+64),A217)
def Zas.p5 (N:Nat) (c1_:(Int×(List Int))->Option (List Int)) (x1:ByteArray) (A2:Int) (A111 A193:List Int) (c5_:(Int×(List Int))->Option (List Int)):(Int×(List Int))->Option (List Int):=fun (A198,A208)=> if (decide (A198<64))=true then Zbb (Zbp N (zF A208 4 0) 6) fun x209=> Zbb (Zbp N (zF A208 4 0) 11) fun x210=> Zbb (Zbp N (zF A208 4 0) 25) fun x211=> Zbb (Zgq N A198) fun x212=> chk (0<=A198)<| Zbb (Zbp N (zF A208 0 0) 2) fun x213=> Zbb (Zbp N (zF A208 0 0) 13) fun x214=> Zbb (Zbp N (zF A208 0 0) 22) fun x215=> c5_ (w64 (A198+1),[v32 ((v32 ((v32 ((v32 ((v32 ((zF A208 7 0)+(ZaI .xor .u32 (ZaI .xor .u32 x209 x210) x211)))+(ZaI .or .u32 (ZaI .and .u32 (zF A208 4 0) (zF A208 5 0)) (ZaI .and .u32 (v32 (4294967295-(zF A208 4 0))) (zF A208 6 0)))))+x212))+(zF A193 (zD A198) 0)))+(v32 ((ZaI .xor .u32 (ZaI .xor .u32 x213 x214) x215)+(ZaI .or .u32 (ZaI .or .u32 (ZaI .and .u32 (zF A208 0 0) (zF A208 1 0)) (ZaI .and .u32 (zF A208 0 0) (zF A208 2 0))) (ZaI .and .u32 (zF A208 1 0) (zF A208 2 0)))))),zF A208 0 0,zF A208 1 0,zF A208 2 0,v32 ((zF A208 3 0)+(v32 ((v32 ((v32 ((v32 ((zF A208 7 0)+(ZaI .xor .u32 (ZaI .xor .u32 x209 x210) x211)))+(ZaI .or .u32 (ZaI .and .u32 (zF A208 4 0) (zF A208 5 0)) (ZaI .and .u32 (v32 (4294967295-(zF A208 4 0))) (zF A208 6 0)))))+x212))+(zF A193 (zD A198) 0)))),zF A208 4 0,zF A208 5 0,zF A208 6 0]) else loopN (Zas.p6 N c1_ x1 A2 A208) N (0,A111)
def Zas.p4 (N:Nat) (c1_:(Int×(List Int))->Option (List Int)) (x1:ByteArray) (A2:Int) (A111:List Int) (c4_:(Int×(List Int))->Option (List Int)):(Int×(List Int))->Option (List Int):=fun (A168,A193)=> if (decide (A168<64))=true then chk (0<=(w64 (A168-15)))<| chk ((w64 (A168-15))<64)<| Zbb (Zbp N (zF A193 (zD (w64 (A168-15))) 0) 7) fun x194=> Zbb (Zbp N (zF A193 (zD (w64 (A168-15))) 0) 18) fun x195=> chk (0<=(w64 (A168-2)))<| chk ((w64 (A168-2))<64)<| Zbb (Zbp N (zF A193 (zD (w64 (A168-2))) 0) 17) fun x196=> Zbb (Zbp N (zF A193 (zD (w64 (A168-2))) 0) 19) fun x197=> chk (0<=(w64 (A168-16)))<| chk ((w64 (A168-16))<64)<| chk (0<=(w64 (A168-7)))<| chk ((w64 (A168-7))<64)<| chk (0<=A168)<| c4_ (w64 (A168+1),zR A193 (zD A168) (v32 ((v32 ((v32 ((zF A193 (zD (w64 (A168-16))) 0)+(ZaI .xor .u32 (ZaI .xor .u32 x194 x195) (v32 (zT (zF A193 (zD (w64 (A168-15))) 0) 8)))))+(zF A193 (zD (w64 (A168-7))) 0)))+(ZaI .xor .u32 (ZaI .xor .u32 x196 x197) (v32 (zT (zF A193 (zD (w64 (A168-2))) 0) 1024)))))) else loopN (Zas.p5 N c1_ x1 A2 A111 A193) N (0,A111)
def Zas.p2 (N:Nat) (c1_:(Int×(List Int))->Option (List Int)) (x1:ByteArray) (A2:Int) (A111:List Int) (c2_:(Int×(List Int))->Option (List Int)):(Int×(List Int))->Option (List Int):=fun (A112,A165)=> if (decide (A112<16))=true then loopN (Zas.p3 N c2_ c1_ x1 A2 A112 A111) N (0,A165) else loopN (Zas.p4 N c1_ x1 A2 A111) N (16,A165)
def Zas.p7 (N:Nat) (A111:List Int) (c7_:(Int×(List Int))->Option (List Int)):(Int×(List Int))->Option (List Int):=fun (A218,A219)=> if (decide (A218<32))=true then chk (0<=(w64 (zT A218 4)))<| chk ((w64 (zT A218 4))<8)<| chk (0<=(v64 (w64 (24-(w64 (8*(yB A218 4)))))))<| chk (0<=A218)<| c7_ (w64 (A218+1),zR A219 (zD A218) (v8 (yB (Zbx .u32 (zF A111 (zD (w64 (zT A218 4))) 0) (v64 (w64 (24-(w64 (8*(yB A218 4))))))) 256))) else some A219
def Zas.p1 (N:Nat) (x1:ByteArray) (c1_:(Int×(List Int))->Option (List Int)):(Int×(List Int))->Option (List Int):=fun (A2,A111)=> if (decide (A2<((yC x1:Nat):Int)))=true then loopN (Zas.p2 N c1_ x1 A2 A111) N (0,zB 64 0) else loopN (Zas.p7 N A111) N (0,zB 32 0)
def Zas (N:Nat) (A0:ByteArray):Option (List Int):= Zbb (Zbf N A0) fun x1=> loopN (Zas.p1 N x1) N (0,[1779033703,3144134277,1013904242,2773480762,1359893119,2600822924,528734635,1541459225])
def Zas.S3 (x1:ByteArray) (A2 A112 A166:Int) (A111 A167:List Int) (st:LL):S:=mkS 225 [(2,sA 2),(3,sA 3),(4,.one (.l (vO x1))),(5,sI A2),(6,sA 6),(7,sI A112),(8,sI A166)] [(2,.cells [zL .u8 32 (zB 32 0)]),(3,.cells [zL .u32 8 A111]),(6,.cells [zL .u32 64 A167])] st
def Zas.S6 (x1:ByteArray) (A2 A216:Int) (A217 A208:List Int) (st:LL):S:=mkS 225 [(2,sA 2),(3,sA 3),(4,.one (.l (vO x1))),(5,sI A2),(12,sA 12),(16,sI A216)] [(2,.cells [zL .u8 32 (zB 32 0)]),(3,.cells [zL .u32 8 A217]),(12,.cells [zL .u32 8 A208])] st
def Zas.S5 (x1:ByteArray) (A2 A198:Int) (A111 A193 A208:List Int) (st:LL):S:=mkS 225 [(2,sA 2),(3,sA 3),(4,.one (.l (vO x1))),(5,sI A2),(6,sA 6),(12,sA 12),(13,sI A198)] [(2,.cells [zL .u8 32 (zB 32 0)]),(3,.cells [zL .u32 8 A111]),(6,.cells [zL .u32 64 A193]),(12,.cells [zL .u32 8 A208])] st
def Zas.S4 (x1:ByteArray) (A2 A168:Int) (A111 A193:List Int) (st:LL):S:=mkS 225 [(2,sA 2),(3,sA 3),(4,.one (.l (vO x1))),(5,sI A2),(6,sA 6),(9,sI A168)] [(2,.cells [zL .u8 32 (zB 32 0)]),(3,.cells [zL .u32 8 A111]),(6,.cells [zL .u32 64 A193])] st
def Zas.S2 (x1:ByteArray) (A2 A112:Int) (A111 A165:List Int) (st:LL):S:=mkS 225 [(2,sA 2),(3,sA 3),(4,.one (.l (vO x1))),(5,sI A2),(6,sA 6),(7,sI A112)] [(2,.cells [zL .u8 32 (zB 32 0)]),(3,.cells [zL .u32 8 A111]),(6,.cells [zL .u32 64 A165])] st
def Zas.S7 (A218:Int) (A111 A219:List Int) (st:LL):S:=mkS 225 [(2,sA 2),(3,sA 3),(17,sA 17),(18,sI A218)] [(2,.cells [zL .u8 32 (zB 32 0)]),(3,.cells [zL .u32 8 A111]),(17,.cells [zL .u8 32 A219])] st
def Zas.S1 (x1:ByteArray) (A2:Int) (A111:List Int) (st:LL):S:=mkS 225 [(2,sA 2),(3,sA 3),(4,.one (.l (vO x1))),(5,sI A2)] [(2,.cells [zL .u8 32 (zB 32 0)]),(3,.cells [zL .u32 8 A111])] st
def Zas.k3 {x1 A2 A112 A166 A111 A167 st r c2_ c1_ c3_ J2 J1 J3} (h:Zas.p3 N c2_ c1_ x1 A2 A112 A111 c3_ (A166,A167)=some r) (hE:En Tryz.f112 g0 w0 (Zas.rs r) st R) (hc2 : ∀A112 A165,c2_ (A112,A165)=some r->At g0 w0 (Zas.S2 x1 A2 A112 A111 A165 st) J2) (hc1 : ∀A2 A111,c1_ (A2,A111)=some r->At g0 w0 (Zas.S1 x1 A2 A111 st) J1) (hc3 : ∀A166 A167,c3_ (A166,A167)=some r->At g0 w0 (Zas.S3 x1 A2 A112 A166 A111 A167 st) J3):At g0 w0 (Zas.S3 x1 A2 A112 A166 A111 A167 st) (XK zC R (cK Zas.B [1,1,1,0,1,0,0,1,0,0,1,0,1,0,0,1,0,0,1,0,0] :: .h J3 :: [.b 4,.b 3,cK Zas.B [1,1,1,0,1,0,0,1,0,0,1,0,1,0,0,1,1],.h J2,.b 2,cK Zas.B [1,1,1,0,1,0,0,1,0,0,1,1],.b 1,cK Zas.B [1,1,1,0,1,0,0,1,1],.h J1,.b 0,cK Zas.B [1,1,1,1]])):=by
 unfold Zas.p3 at h;refine Zbd h (fun c293 h=>?_) (fun c293 h=>?_)
 ·obtain ⟨c294,c295,c296,c297,h⟩:=ck4 h;exact Zlu fol [rZ,cT,.d {ds:=[],hv:=65536,Hs:=[65536]},rZ] [2,3,4,5,6,7,8] [2,3,6] (aN c293 c294 c295 c296 c297 c294 c295) (hc3 (w64 (A166+1)) (zR A167 (zD A112) (v32 ((v32 ((zF A167 (zD A112) 0)*256))+(v32 (((UInt8.toNat (zF (qK (rQ x1)) (zD (w64 ((w64 (A2+(w64 (4*A112))))+A166))) 0):Nat):Int)))))) h)
 exact an [rZ,cF,rZ] c293 (hc2 (w64 (A112+1)) A167 h)
def Zas.k6 {x1 A2 A216 A217 A208 st r c1_ c6_ J1 J6} (h:Zas.p6 N c1_ x1 A2 A208 c6_ (A216,A217)=some r) (hE:En Tryz.f112 g0 w0 (Zas.rs r) st R) (hc1 : ∀A2 A111,c1_ (A2,A111)=some r->At g0 w0 (Zas.S1 x1 A2 A111 st) J1) (hc6 : ∀A216 A217,c6_ (A216,A217)=some r->At g0 w0 (Zas.S6 x1 A2 A216 A217 A208 st) J6):At g0 w0 (Zas.S6 x1 A2 A216 A217 A208 st) (XK zC R (cK Zas.B [1,1,1,0,1,0,0,1,0,0,1,1,1,1,1,1,0,0] :: .h J6 :: [.b 10,.b 1,cK Zas.B [1,1,1,0,1,0,0,1,1],.h J1,.b 0,cK Zas.B [1,1,1,1]])):=by
 unfold Zas.p6 at h;refine Zbd h (fun c376 h=>?_) (fun c376 h=>?_)
 ·obtain ⟨c377,h⟩:=Zba h;exact Zlu fol [rZ,cT,.d {ds:=[],hv:=512,Hs:=[512]},rZ] [2,3,4,5,12,16] [2,3,12] (aN c376 c377 (oD c376) c377 (oD c376) c377 (oD c376)) (hc6 (w64 (A216+1)) (zR A217 (zD A216) (v32 ((zF A217 (zD A216) 0)+(zF A208 (zD A216) 0)))) h)
 exact an [rZ,cF,rZ] c376 (hc1 (w64 (A2+64)) A217 h)
def Zas.k5 {x1 A2 A198 A111 A193 A208 st r c1_ c5_ J1 J5} (h:Zas.p5 N c1_ x1 A2 A111 A193 c5_ (A198,A208)=some r) (hE:En Tryz.f112 g0 w0 (Zas.rs r) st R) (hc1 : ∀A2 A111,c1_ (A2,A111)=some r->At g0 w0 (Zas.S1 x1 A2 A111 st) J1) (hc5 : ∀A198 A208,c5_ (A198,A208)=some r->At g0 w0 (Zas.S5 x1 A2 A198 A111 A193 A208 st) J5):At g0 w0 (Zas.S5 x1 A2 A198 A111 A193 A208 st) (XK zC R (cK Zas.B [1,1,1,0,1,0,0,1,0,0,1,1,1,1,0,1,0,0] :: .h J5 :: [.b 8,cK Zas.B [1,1,1,0,1,0,0,1,0,0,1,1,1,1,1],.b 1,cK Zas.B [1,1,1,0,1,0,0,1,1],.h J1,.b 0,cK Zas.B [1,1,1,1]])):=by
 unfold Zas.p5 at h;refine Zbd h (fun c365 h=>?_) (fun c365 h=>?_)
 ·obtain ⟨x209,c366,h⟩:=Zab h;obtain ⟨x210,c367,h⟩:=Zab h;obtain ⟨x211,c368,h⟩:=Zab h;obtain ⟨x212,c369,h⟩:=Zab h;obtain ⟨c370,h⟩:=Zba h;obtain ⟨x213,c371,h⟩:=Zab h;obtain ⟨x214,c372,h⟩:=Zab h;obtain ⟨x215,c373,h⟩:=Zab h;exact Zlu fol [rZ,cT,.d {ds:=[(4,q1 [.one (zK .u32 x209)]),(7,q1 [.one (zK .u32 x210)]),(11,q1 [.one (zK .u32 x211)]),(28,q1 [.one (zK .u32 x212)])],hv:=0,Hs:=[]},.d {ds:=[(2,q1 [.one (zK .u32 x213)]),(5,q1 [.one (zK .u32 x214)]),(9,q1 [.one (zK .u32 x215)])],hv:=0,Hs:=[]},.r [(19,{m:=3})],rZ] [2,3,4,5,6,12,13] [2,3,6,12] (aI c365 (ix 7 8 (ix 4 8 (aI (Zbp.s c366) (ix 4 8 (aI (Zbp.s c367) (ix 4 8 (aI (Zbp.s c368) (ix 4 8 (ix 5 8 (ix 4 8 (ix 6 8 (aK (Zgq.s c369) c370 (oD c365) (ix 0 8 (aI (Zbp.s c371) (ix 0 8 (aI (Zbp.s c372) (ix 0 8 (aI (Zbp.s c373) (ix 0 8 (ix 1 8 (ix 0 8 (ix 2 8 (ix 1 8 (ix 2 8 (ix 0 8 (ix 1 8 (ix 2 8 (ix 3 8 (ix 4 8 (ix 5 8 (aI (leI 0 6) (ltI 6 8))))))))))))))))))))))))))))))))) (hc5 (w64 (A198+1)) [v32 ((v32 ((v32 ((v32 ((v32 ((zF A208 7 0)+(ZaI .xor .u32 (ZaI .xor .u32 x209 x210) x211)))+(ZaI .or .u32 (ZaI .and .u32 (zF A208 4 0) (zF A208 5 0)) (ZaI .and .u32 (v32 (4294967295-(zF A208 4 0))) (zF A208 6 0)))))+x212))+(zF A193 (zD A198) 0)))+(v32 ((ZaI .xor .u32 (ZaI .xor .u32 x213 x214) x215)+(ZaI .or .u32 (ZaI .or .u32 (ZaI .and .u32 (zF A208 0 0) (zF A208 1 0)) (ZaI .and .u32 (zF A208 0 0) (zF A208 2 0))) (ZaI .and .u32 (zF A208 1 0) (zF A208 2 0)))))),zF A208 0 0,zF A208 1 0,zF A208 2 0,v32 ((zF A208 3 0)+(v32 ((v32 ((v32 ((v32 ((zF A208 7 0)+(ZaI .xor .u32 (ZaI .xor .u32 x209 x210) x211)))+(ZaI .or .u32 (ZaI .and .u32 (zF A208 4 0) (zF A208 5 0)) (ZaI .and .u32 (v32 (4294967295-(zF A208 4 0))) (zF A208 6 0)))))+x212))+(zF A193 (zD A198) 0)))),zF A208 4 0,zF A208 5 0,zF A208 6 0] h)
 exact aq [rZ,cF,rZ] c365 (At.loop N (At.loopN (fun y:Int×(List Int)=>Zas.S6 x1 A2 y.1 y.2 A208 st) (fun c J hc y h=>Zas.k6 (A216:=y.1) (A217:=y.2) h hE hc1 (fun A216 A217=>hc (A216,A217))) N (0,A111) h))
def Zas.k4 {x1 A2 A168 A111 A193 st r c1_ c4_ J1 J4} (h:Zas.p4 N c1_ x1 A2 A111 c4_ (A168,A193)=some r) (hE:En Tryz.f112 g0 w0 (Zas.rs r) st R) (hc1 : ∀A2 A111,c1_ (A2,A111)=some r->At g0 w0 (Zas.S1 x1 A2 A111 st) J1) (hc4 : ∀A168 A193,c4_ (A168,A193)=some r->At g0 w0 (Zas.S4 x1 A2 A168 A111 A193 st) J4):At g0 w0 (Zas.S4 x1 A2 A168 A111 A193 st) (XK zC R (cK Zas.B [1,1,1,0,1,0,0,1,0,0,1,1,0,1,0,0] :: .h J4 :: [.b 6,cK Zas.B [1,1,1,0,1,0,0,1,0,0,1,1,1],.b 1,cK Zas.B [1,1,1,0,1,0,0,1,1],.h J1,.b 0,cK Zas.B [1,1,1,1]])):=by
 unfold Zas.p4 at h;refine Zbd h (fun c338 h=>?_) (fun c338 h=>?_)
 ·obtain ⟨c339,c340,h⟩:=ck2 h;obtain ⟨x194,c341,h⟩:=Zab h;obtain ⟨x195,c342,h⟩:=Zab h;obtain ⟨c343,c344,h⟩:=ck2 h;obtain ⟨x196,c345,h⟩:=Zab h;obtain ⟨x197,c346,h⟩:=Zab h;obtain ⟨c347,c348,c349,c350,c351,h⟩:=ck5 h;exact Zlu fol [rZ,cT,.d {ds:=[(4,q1 [.one (zK .u32 x194)]),(9,q1 [.one (zK .u32 x195)])],hv:=0,Hs:=[]},.d {ds:=[(4,q1 [.one (zK .u32 x196)]),(9,q1 [.one (zK .u32 x197)])],hv:=0,Hs:=[]},.d {ds:=[],hv:=32768,Hs:=[32768]},rZ] [2,3,4,5,6,9] [2,3,6] (aO c338 c339 c340 (Zbp.s c341) c339 c340 (Zbp.s c342) (aO c339 c340 (neI 8) c343 c344 (Zbp.s c345) c343 (aO c344 (Zbp.s c346) c343 c344 (neI 1024) c347 c348 (aK c349 c350 c351 (oD c338))))) (hc4 (w64 (A168+1)) (zR A193 (zD A168) (v32 ((v32 ((v32 ((zF A193 (zD (w64 (A168-16))) 0)+(ZaI .xor .u32 (ZaI .xor .u32 x194 x195) (v32 (zT (zF A193 (zD (w64 (A168-15))) 0) 8)))))+(zF A193 (zD (w64 (A168-7))) 0)))+(ZaI .xor .u32 (ZaI .xor .u32 x196 x197) (v32 (zT (zF A193 (zD (w64 (A168-2))) 0) 1024)))))) h)
 exact aq [rZ,cF,rZ,rZ] c338 (At.loop N (At.loopN (fun y:Int×(List Int)=>Zas.S5 x1 A2 y.1 A111 A193 y.2 st) (fun c J hc y h=>Zas.k5 (A198:=y.1) (A208:=y.2) h hE hc1 (fun A198 A208=>hc (A198,A208))) N (0,A111) h))
def Zas.k2 {x1 A2 A112 A111 A165 st r c1_ c2_ J1 J2} (h:Zas.p2 N c1_ x1 A2 A111 c2_ (A112,A165)=some r) (hE:En Tryz.f112 g0 w0 (Zas.rs r) st R) (hc1 : ∀A2 A111,c1_ (A2,A111)=some r->At g0 w0 (Zas.S1 x1 A2 A111 st) J1) (hc2 : ∀A112 A165,c2_ (A112,A165)=some r->At g0 w0 (Zas.S2 x1 A2 A112 A111 A165 st) J2):At g0 w0 (Zas.S2 x1 A2 A112 A111 A165 st) (XK zC R (cK Zas.B [1,1,1,0,1,0,0,1,0,0,1,0,1,0,0] :: .h J2 :: [.b 2,cK Zas.B [1,1,1,0,1,0,0,1,0,0,1,1],.b 1,cK Zas.B [1,1,1,0,1,0,0,1,1],.h J1,.b 0,cK Zas.B [1,1,1,1]])):=by
 unfold Zas.p2 at h;exact Zbd h (fun c287 h=>aq [rZ,cT,rZ] c287 (At.loop N (At.loopN (fun y:Int×(List Int)=>Zas.S3 x1 A2 A112 y.1 A111 y.2 st) (fun c J hc y h=>Zas.k3 (A166:=y.1) (A167:=y.2) h hE hc2 hc1 (fun A166 A167=>hc (A166,A167))) N (0,A165) h))) fun c287 h=>aq [rZ,cF,rZ] c287 (At.loop N (At.loopN (fun y:Int×(List Int)=>Zas.S4 x1 A2 y.1 A111 y.2 st) (fun c J hc y h=>Zas.k4 (A168:=y.1) (A193:=y.2) h hE hc1 (fun A168 A193=>hc (A168,A193))) N (16,A165) h))
def Zas.k7 {A218 A111 A219 st r c7_ J7} (h:Zas.p7 N A111 c7_ (A218,A219)=some r) (hE:En Tryz.f112 g0 w0 (Zas.rs r) st R) (hc7 : ∀A218 A219,c7_ (A218,A219)=some r->At g0 w0 (Zas.S7 A218 A111 A219 st) J7):At g0 w0 (Zas.S7 A218 A111 A219 st) (XK zC R (cK Zas.B [1,1,1,1,1,0,1,0,0] :: .h J7 :: [.b 12,cK Zas.B [1,1,1,1,1,1]])):=by
 unfold Zas.p7 at h;refine Zbd h (fun c383 h=>?_) (fun c383 h=>?_)
 ·obtain ⟨c384,c385,c386,c387,h⟩:=ck4 h;exact an [rZ,cT,rZ,rZ] (aO c383 (neI 4) c384 c385 (neI 4) c386 (neI 256) (aI c387 (oD c383))) (hc7 (w64 (A218+1)) (zR A219 (zD A218) (v8 (yB (Zbx .u32 (zF A111 (zD (w64 (zT A218 4))) 0) (v64 (w64 (24-(w64 (8*(yB A218 4))))))) 256))) h)
 exact xS h hE [rZ,cF,rZ] c383
def Zas.k1 {x1 A2 A111 st r c1_ J1} (h:Zas.p1 N x1 c1_ (A2,A111)=some r) (hE:En Tryz.f112 g0 w0 (Zas.rs r) st R) (hc1 : ∀A2 A111,c1_ (A2,A111)=some r->At g0 w0 (Zas.S1 x1 A2 A111 st) J1):At g0 w0 (Zas.S1 x1 A2 A111 st) (XK zC R (cK Zas.B [1,1,1,0,1,0,0] :: .h J1 :: [.b 0,cK Zas.B [1,1,1,1]])):=by
 unfold Zas.p1 at h;exact Zbd h (fun c195 h=>aq [rZ,cT,rZ,rZ] c195 (At.loop N (At.loopN (fun y:Int×(List Int)=>Zas.S2 x1 A2 y.1 A111 y.2 st) (fun c J hc y h=>Zas.k2 (A112:=y.1) (A165:=y.2) h hE hc1 (fun A112 A165=>hc (A112,A165))) N (0,zB 64 0) h))) fun c195 h=>aq [rZ,cF,rZ,rZ] c195 (At.loop N (At.loopN (fun y:Int×(List Int)=>Zas.S7 y.1 A111 y.2 st) (fun c J hc y h=>Zas.k7 (A218:=y.1) (A219:=y.2) h hE (fun A218 A219=>hc (A218,A219))) N (0,zB 32 0) h))
def Zas.s {A0:ByteArray} {r:(List Int)} (h:Zas N A0=some r):ZdW zC 112 [.one (vO A0)] (Zas.rs r):=fun st=>
 sO Zas.B Tryz.func112 fun g0 w0 R hE=>by
  unfold Zas at h;obtain ⟨x1,c1,h⟩:=Zab h;exact aq [rZ,.r [(0,{m:=3})],.r [(1,q1 [.one (vO x1)])],rZ] (Zbf.s c1) (At.loop N (At.loopN (fun y:Int×(List Int)=>Zas.S1 x1 y.1 y.2 st) (fun c J hc y h=>Zas.k1 (A2:=y.1) (A111:=y.2) h hE (fun A2 A111=>hc (A2,A111))) N (0,[1779033703,3144134277,1013904242,2773480762,1359893119,2600822924,528734635,1541459225]) h))
end Go.Dn.F
end
