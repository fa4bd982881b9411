import Derived.Test.YtlofpeadcmldhaaGreatDoorFa
import Derived.Test.YtlofpeadcmldhaaGreatDoorFaP
import Derived.Test.YtlofpeadcmldhaaGreatDoorIns
set_option linter.all false
open Go.Dn.L renaming int→zJ,arr→zL,bool→wX,sl→vG,own→yP,bx→vI,ptr→yO
open Go.Proofs.Tryz renaming prog→zE
open Int renaming tdiv→zU,tmod→yH,toNat→zD
open List renaming set→zS,getD→zF,replicate→zC,length→zH
open Option renaming isNone→wE
noncomputable section
set_option maxRecDepth 100000
namespace Go.Dn.F
open Go.Proofs
variable {N:Nat} {g0:G} {w0:World} {R:Exit→Act→World→Prop}
structure ZbW where
  Height:Int
  Version:Int
def ZbW.ls (x:ZbW):List L:=[zJ .i64 x.Height,zJ .i64 x.Version]
def ZdF {α:Type} (l:List L) (k:ZbW→Option α):Option α:=match l with
  | [zJ .i64 x0,zJ .i64 x1]=>k ⟨x0,x1⟩
  | _=>none
theorem ZdS {α:Type} {o:Option (List L)} {k:ZbW→Option α} {r:α} (h:ZcJ o ZdF k=some r) : ∃x:ZbW,o=some x.ls∧k x=some r:=by
  obtain ⟨l,e,k1⟩:=Zae h;subst e;unfold ZdF at k1;split at k1
  · exact ⟨_,rfl,k1⟩
  · cases k1
@[simp] theorem Zeg {α:Type} (x:ZbW) (k:ZbW→Option α):ZdF x.ls k=k x:=rfl
theorem ZbW.bv {st:LL} (x:ZbW):BVs st x.ls x.ls:=(bP (bP bN))
structure ZbM where
  Height:Int
  Id:List Int
def ZbM.ls (x:ZbM):List L:=[zJ .i64 x.Height,zL .u8 32 x.Id]
def Zdo {α:Type} (l:List L) (k:ZbM→Option α):Option α:=match l with
  | [zJ .i64 x0,zL .u8 32 x1]=>k ⟨x0,x1⟩
  | _=>none
theorem ZdM {α:Type} {o:Option (List L)} {k:ZbM→Option α} {r:α} (h:ZcJ o Zdo k=some r) : ∃x:ZbM,o=some x.ls∧k x=some r:=by
  obtain ⟨l,e,k1⟩:=Zae h;subst e;unfold Zdo at k1;split at k1
  · exact ⟨_,rfl,k1⟩
  · cases k1
@[simp] theorem ZdT {α:Type} (x:ZbM) (k:ZbM→Option α):Zdo x.ls k=k x:=rfl
theorem ZbM.bv {st:LL} (x:ZbM):BVs st x.ls x.ls:=(bP (bP bN))
structure Zas where
  rules:Zaj
  list:LL
  spots:LL
  places:LM
  room:Int
def Zas.lo (x:Zas):List L:=[zJ .i64 x.rules.Limit,zJ .i64 x.rules.Interval,zJ .i64 x.rules.Spacing,zJ .i64 x.rules.Future,wX x.rules.Easy,vG 2 x.rules.Gates,vG 33 x.rules.Checks,zL .u64 4 x.rules.MinWork,zL .u64 4 x.rules.Margin,zJ .i64 x.rules.Genesis.Version,zL .u8 32 x.rules.Genesis.Prev,zL .u8 32 x.rules.Genesis.Root,zJ .i64 x.rules.Genesis.Time,zJ .i64 x.rules.Genesis.Bits,zJ .i64 x.rules.Genesis.Nonce,yP true 106 x.list,yP true 38 x.spots,L.mp x.places,zJ .i64 x.room]
def Zbc {α:Type} (l:List L) (k:Zas→Option α):Option α:=match l with
  | [zJ .i64 x0,zJ .i64 x1,zJ .i64 x2,zJ .i64 x3,wX x4,vG 2 x5,vG 33 x6,zL .u64 4 x7,zL .u64 4 x8,zJ .i64 x9,zL .u8 32 x10,zL .u8 32 x11,zJ .i64 x12,zJ .i64 x13,zJ .i64 x14,yP true 106 x15,yP true 38 x16,L.mp x17,zJ .i64 x18]=>k ⟨⟨x0,x1,x2,x3,x4,x5,x6,x7,x8,⟨x9,x10,x11,x12,x13,x14⟩⟩,x15,x16,x17,x18⟩
  | _=>none
theorem ZaX {α:Type} {o:Option (List L)} {k:Zas→Option α} {r:α} (h:ZcJ o Zbc k=some r) : ∃x:Zas,o=some x.lo∧k x=some r:=by
  obtain ⟨l,e,k1⟩:=Zae h;subst e;unfold Zbc at k1;split at k1
  · exact ⟨_,rfl,k1⟩
  · cases k1
@[simp] theorem Zbo {α:Type} (x:Zas) (k:Zas→Option α):Zbc x.lo k=k x:=rfl
def Zas.ls (x:Zas):List L:=[zJ .i64 x.rules.Limit,zJ .i64 x.rules.Interval,zJ .i64 x.rules.Spacing,zJ .i64 x.rules.Future,wX x.rules.Easy,vG 2 x.rules.Gates,vG 33 x.rules.Checks,zL .u64 4 x.rules.MinWork,zL .u64 4 x.rules.Margin,zJ .i64 x.rules.Genesis.Version,zL .u8 32 x.rules.Genesis.Prev,zL .u8 32 x.rules.Genesis.Root,zJ .i64 x.rules.Genesis.Time,zJ .i64 x.rules.Genesis.Bits,zJ .i64 x.rules.Genesis.Nonce,vG 106 x.list,vG 38 x.spots,L.mz x.places,zJ .i64 x.room]
theorem Zas.bv {st:LL} (x:Zas):BVs st x.lo x.ls:=(bP (bP (bP (bP (bP (bS (bS (bP (bP (bP (bP (bP (bP (bP (bP (bW (bW (bM (bP bN)))))))))))))))))))
structure Zbu where
  Header:Zan
  Id:List Int
  Ahead:Int
  Height:Int
  Work:List Int
def Zbu.ls (x:Zbu):List L:=[zJ .i64 x.Header.Version,zL .u8 32 x.Header.Prev,zL .u8 32 x.Header.Root,zJ .i64 x.Header.Time,zJ .i64 x.Header.Bits,zJ .i64 x.Header.Nonce,zL .u8 32 x.Id,zJ .i64 x.Ahead,zJ .i64 x.Height,zL .u64 4 x.Work]
def ZcX {α:Type} (l:List L) (k:Zbu→Option α):Option α:=match l with
  | [zJ .i64 x0,zL .u8 32 x1,zL .u8 32 x2,zJ .i64 x3,zJ .i64 x4,zJ .i64 x5,zL .u8 32 x6,zJ .i64 x7,zJ .i64 x8,zL .u64 4 x9]=>k ⟨⟨x0,x1,x2,x3,x4,x5⟩,x6,x7,x8,x9⟩
  | _=>none
theorem Zdn {α:Type} {o:Option (List L)} {k:Zbu→Option α} {r:α} (h:ZcJ o ZcX k=some r) : ∃x:Zbu,o=some x.ls∧k x=some r:=by
  obtain ⟨l,e,k1⟩:=Zae h;subst e;unfold ZcX at k1;split at k1
  · exact ⟨_,rfl,k1⟩
  · cases k1
@[simp] theorem Zdz {α:Type} (x:Zbu) (k:Zbu→Option α):ZcX x.ls k=k x:=rfl
theorem Zbu.bv {st:LL} (x:Zbu):BVs st x.ls x.ls:=(bP (bP (bP (bP (bP (bP (bP (bP (bP (bP bN))))))))))
structure Zat where
  store:Zas
  leaps:LL
def Zat.ls (x:Zat):List L:=[vI 87 x.store.ls,vG 1 x.leaps]
structure ZaK where
  tree:Zat
  list:LL
def ZaK.ls (x:ZaK):List L:=[vI 2 x.tree.ls,vG 1 x.list]
structure Zbf where
  Kind:Int
  Header:Zan
  Now:Int
  N:Int
def Zbf.ls (x:Zbf):List L:=[zJ .i64 x.Kind,zJ .i64 x.Header.Version,zL .u8 32 x.Header.Prev,zL .u8 32 x.Header.Root,zJ .i64 x.Header.Time,zJ .i64 x.Header.Bits,zJ .i64 x.Header.Nonce,zJ .i64 x.Now,zJ .i64 x.N]
def Zcx {α:Type} (l:List L) (k:Zbf→Option α):Option α:=match l with
  | [zJ .i64 x0,zJ .i64 x1,zL .u8 32 x2,zL .u8 32 x3,zJ .i64 x4,zJ .i64 x5,zJ .i64 x6,zJ .i64 x7,zJ .i64 x8]=>k ⟨x0,⟨x1,x2,x3,x4,x5,x6⟩,x7,x8⟩
  | _=>none
theorem ZdP {α:Type} {o:Option (List L)} {k:Zbf→Option α} {r:α} (h:ZcJ o Zcx k=some r) : ∃x:Zbf,o=some x.ls∧k x=some r:=by
  obtain ⟨l,e,k1⟩:=Zae h;subst e;unfold Zcx at k1;split at k1
  · exact ⟨_,rfl,k1⟩
  · cases k1
@[simp] theorem ZdR {α:Type} (x:Zbf) (k:Zbf→Option α):Zcx x.ls k=k x:=rfl
theorem Zbf.bv {st:LL} (x:Zbf):BVs st x.ls x.ls:=(bP (bP (bP (bP (bP (bP (bP (bP (bP bN)))))))))
def Zhw {α:Type} (l:List L) (k:(List Int)→Option α):Option α:=match l with
  | [zL .u64 4 x0]=>k x0
  | _=>none
theorem ZkH {α:Type} {o:Option (List L)} {k:(List Int)→Option α} {r:α} (h:ZcJ o Zhw k=some r) : ∃x0,o=some [zL .u64 4 x0]∧k x0=some r:=by
  obtain ⟨l,e,k1⟩:=Zae h;subst e;unfold Zhw at k1;split at k1
  · exact ⟨_,rfl,k1⟩
  · cases k1
@[simp] theorem dec_u64x4_ls {α:Type} (x0:List Int) (k:(List Int)→Option α):Zhw [zL .u64 4 x0] k=k x0:=rfl
def Zbn {α:Type} (l:List L) (k:(Option Nat)→LL→Option α):Option α:=match l with
  | [yO x0,yP true 1 x1]=>k x0 x1
  | _=>none
theorem Zba {α:Type} {o:Option (List L)} {k:(Option Nat)→LL→Option α} {r:α} (h:ZcJ o Zbn k=some r) : ∃x0 x1,o=some [yO x0,yP true 1 x1]∧k x0 x1=some r:=by
  obtain ⟨l,e,k1⟩:=Zae h;subst e;unfold Zbn at k1;split at k1
  · exact ⟨_,_,rfl,k1⟩
  · cases k1
@[simp] theorem Zce {α:Type} (x0:Option Nat) (x1:LL) (k:(Option Nat)→LL→Option α):Zbn [yO x0,yP true 1 x1] k=k x0 x1:=rfl
def ZpO {α:Type} (l:List L) (k:Bool→Option α):Option α:=match l with
  | [wX x0]=>k x0
  | _=>none
theorem ZlV {α:Type} {l:List L} {k:Bool→Option α} {r:α} (h:ZpO l k=some r) : ∃x0,l = [wX x0]∧k x0=some r:=by
  unfold ZpO at h;split at h
  · exact ⟨_,rfl,h⟩
  · cases h
@[simp] theorem dec_b_ls {α:Type} (x0:Bool) (k:Bool→Option α):ZpO [wX x0] k=k x0:=rfl
theorem slices_Insert_int.snd:InsC zE 32:=slices_Insert_int.holds
theorem slices_Sort_int.snd:SortC zE 137:=slices_Sort_int.holds
theorem ZcS.snd {x y z:Int} {r:Int×Int} (h:ZcS N x y z=some r):ExtI zE 140 [(.u64,x),(.u64,y),(.u64,z)] [(.u64,r.1),(.u64,r.2)]:=ZjE Tryz.func140 (by kernel_rfl) (by kernel_rfl) (by kernel_rfl) (by kernel_rfl) h
theorem ZdO.snd {x y z:Int} {r:Int×Int} (h:ZdO N x y z=some r):ExtI zE 149 [(.u64,x),(.u64,y),(.u64,z)] [(.u64,r.1),(.u64,r.2)]:=ZjD Tryz.func149 (by kernel_rfl) (by kernel_rfl) (by kernel_rfl) (by kernel_rfl) h
def Zcs.B:Code:=Tryz.f121.body.getD .skip
def Zcs.rs (r:(List Int)):List CV:=[.agg [zL .u64 4 r]]
def Zcs (N:Nat) (n_0:Int):Option (List Int):=
 some [n_0,0,0,0]
theorem Zcs.snd {n_0:Int} {r:(List Int)} (h:Zcs N n_0=some r):Zde zE 121 [.one (zJ .u64 n_0)] (Zcs.rs r):=fun st=>
 sO Zcs.B Tryz.func121 fun g0 w0 R hE=>by
  unfold Zcs at h
  obtain rfl:=Zaa h
  exact af fol hE [.r [],.r [(1,{m:=3})]] [] 0 [] trivial
def ZaO.B:Code:=Tryz.f122.body.getD .skip
def ZaO.rs (r:(List Int)):List CV:=[.agg [zL .u64 4 r]]
def ZaO.p2 (N:Nat) (c1_:(Int×(List Int))→Option (List Int)) (n_1 v1:Int) (a_0_0 out_4:List Int):Option (List Int):=
 c1_ (w64 (v1+1),out_4)
def ZaO.p1 (N:Nat) (n_1:Int) (a_0_0:List Int) (c1_:(Int×(List Int))→Option (List Int)):(Int×(List Int))→Option (List Int):=fun (v1,out_3)=>
 if (decide (v1<(w64 (4-(w64 (zU (if (0:Int)>n_1 then 0 else n_1) 64))))))=true then
  chk (0≤(w64 (v1+(w64 (zU (if (0:Int)>n_1 then 0 else n_1) 64)))))<|
  chk ((w64 (v1+(w64 (zU (if (0:Int)>n_1 then 0 else n_1) 64))))<4)<|
  chk (0≤(yH (if (0:Int)>n_1 then 0 else n_1) 64))<|
  chk (0≤v1)<|
  chk (v1<4)<|
  if (decide ((w64 ((w64 (v1+(w64 (zU (if (0:Int)>n_1 then 0 else n_1) 64))))+1))<4))=true then
   chk (0≤(w64 ((w64 (v1+(w64 (zU (if (0:Int)>n_1 then 0 else n_1) 64))))+1)))<|
   chk (0≤(w64 (64-(yH (if (0:Int)>n_1 then 0 else n_1) 64))))<|
   ZaO.p2 N c1_ n_1 v1 a_0_0 (zS (zS out_3 (zD v1) (ZaQ .u64 (zF a_0_0 (zD (w64 (v1+(w64 (zU (if (0:Int)>n_1 then 0 else n_1) 64))))) 0) (yH (if (0:Int)>n_1 then 0 else n_1) 64))) (zD v1) (Zaz .or .u64 (zF (zS out_3 (zD v1) (ZaQ .u64 (zF a_0_0 (zD (w64 (v1+(w64 (zU (if (0:Int)>n_1 then 0 else n_1) 64))))) 0) (yH (if (0:Int)>n_1 then 0 else n_1) 64))) (zD v1) 0) (Zbd .u64 (zF a_0_0 (zD (w64 ((w64 (v1+(w64 (zU (if (0:Int)>n_1 then 0 else n_1) 64))))+1))) 0) (w64 (64-(yH (if (0:Int)>n_1 then 0 else n_1) 64))))))
  else
  ZaO.p2 N c1_ n_1 v1 a_0_0 (zS out_3 (zD v1) (ZaQ .u64 (zF a_0_0 (zD (w64 (v1+(w64 (zU (if (0:Int)>n_1 then 0 else n_1) 64))))) 0) (yH (if (0:Int)>n_1 then 0 else n_1) 64)))
 else
 some out_3
def ZaO (N:Nat) (a_0_0:List Int) (n_1:Int):Option (List Int):=
 if (decide (n_1≥256))=true then
  some (zC 4 0)
 else
 loopN (ZaO.p1 N n_1 a_0_0) N (0,zC 4 0)
def ZaO.p2.S (n_1 v1:Int) (a_0_0 out_4:List Int) (st:LL):S:=mkS 53 [(2,sA 2),(4,sA 4),(5,sA 5),(6,sI (w64 (zU (if (0:Int)>n_1 then 0 else n_1) 64))),(7,sI (yH (if (0:Int)>n_1 then 0 else n_1) 64)),(19,sI (w64 (4-(w64 (zU (if (0:Int)>n_1 then 0 else n_1) 64))))),(20,sI v1)] [(2,.cells [zL .u64 4 a_0_0]),(4,.cells [zL .u64 4 (zC 4 0)]),(5,.cells [zL .u64 4 out_4])] st
def ZaO.p1.S (n_1 v1:Int) (a_0_0 out_3:List Int) (st:LL):S:=mkS 53 [(2,sA 2),(4,sA 4),(5,sA 5),(6,sI (w64 (zU (if (0:Int)>n_1 then 0 else n_1) 64))),(7,sI (yH (if (0:Int)>n_1 then 0 else n_1) 64)),(19,sI (w64 (4-(w64 (zU (if (0:Int)>n_1 then 0 else n_1) 64))))),(20,sI v1)] [(2,.cells [zL .u64 4 a_0_0]),(4,.cells [zL .u64 4 (zC 4 0)]),(5,.cells [zL .u64 4 out_3])] st
theorem ZaO.p2_ok {n_1 v1 a_0_0 out_4 st r c1_ J1} (h:ZaO.p2 N c1_ n_1 v1 a_0_0 out_4=some r) (hE:En Tryz.f122 g0 w0 (ZaO.rs r) st R) (hc1 : ∀v1 out_3,c1_ (v1,out_3)=some r→At g0 w0 (ZaO.p1.S n_1 v1 a_0_0 out_3 st) J1):At g0 w0 (ZaO.p2.S n_1 v1 a_0_0 out_4 st) (XK zE R [.c (ZbX ZaO.B [1,1,1,1,0,1,0,0,1,1,1]),.h J1,.b 0,.c (ZbX ZaO.B [1,1,1,1,1])]):=by
 unfold ZaO.p2 at h
 exact an fol [.r []] [2,4,5,6,7,19,20] [2,4,5] trivial (hc1 (w64 (v1+1)) out_4 h)
theorem ZaO.p1_ok {n_1 v1 a_0_0 out_3 st r c1_ J1} (h:ZaO.p1 N n_1 a_0_0 c1_ (v1,out_3)=some r) (hE:En Tryz.f122 g0 w0 (ZaO.rs r) st R) (hc1 : ∀v1 out_3,c1_ (v1,out_3)=some r→At g0 w0 (ZaO.p1.S n_1 v1 a_0_0 out_3 st) J1):At g0 w0 (ZaO.p1.S n_1 v1 a_0_0 out_3 st) (XK zE R (.c (ZbX ZaO.B [1,1,1,1,0,1,0,0]) :: .h J1 :: [.b 0,.c (ZbX ZaO.B [1,1,1,1,1])])):=by
 unfold ZaO.p1 at h
 refine Zbg h (fun c11 h1=>?_) (fun c11 h2=>?_)
 ·obtain ⟨c12,c13,c14,c15,c16,h3⟩:=ck5 h1
  let o1:List PS:=[.r [],.c true,.r [],.r [],.r []]
  refine Zbg h3 (fun c17 h4=>?_) (fun c17 h5=>?_)
  ·obtain ⟨c18,c19,h6⟩:=ck2 h4
   exact aqd fol (o1 ++ [.c true,.d {ds:=[],hv:=16384,Hs:=[16384]},.s 4]) [2,4,5,6,7,19,20] [2,4,5] (aO c11 c12 c13 c14 c15 c16 c17 (aN c15 c16 c18 (oD c17) c19 c15 c16)) (ZaO.p2_ok h6 hE hc1)
  ·exact aq fol (o1 ++ [.c false,.s 4]) [2,4,5,6,7,19,20] [2,4,5] (aN c11 c12 c13 c14 c15 c16 c17) (ZaO.p2_ok h5 hE hc1)
 ·obtain rfl:=Zaa h2
  exact af fol hE [.r [],.c false,.r []] [] 0 [] c11
theorem ZaO.snd {a_0_0:List Int} {n_1:Int} {r:(List Int)} (h:ZaO N a_0_0 n_1=some r):Zde zE 122 [.agg [zL .u64 4 a_0_0],oI n_1] (ZaO.rs r):=fun st=>
 sO ZaO.B Tryz.func122 fun g0 w0 R hE=>by
  unfold ZaO at h
  refine Zbg h (fun c1 h7=>?_) (fun c1 h8=>?_)
  ·obtain rfl:=Zaa h7
   exact af fol hE [.r [],.r [],.c true,.r []] [] 0 [] c1
  ·exact aq fol [.r [],.r [],.c false,.r [],.r [],.r []] [2,4,5,6,7,19,20] [2,4,5] (aJ c1 (neI 64) (neI 64)) (At.loop N (At.loopN (fun y:Int×(List Int)=>ZaO.p1.S n_1 y.1 a_0_0 y.2 st) (fun c J hc y h=>ZaO.p1_ok (v1:=y.1) (out_3:=y.2) h hE (fun v1 out_3=>hc (v1,out_3))) N (0,zC 4 0) h8))
def Zbi.B:Code:=Tryz.f123.body.getD .skip
def Zbi.rs (r:(List Int)):List CV:=[.agg [zL .u64 4 r]]
def Zbi.p2 (N:Nat) (c1_:(Int×(List Int))→Option (List Int)) (n_1 i_1:Int) (a_0_0 out_4:List Int):Option (List Int):=
 c1_ (w64 (i_1+1),out_4)
def Zbi.p1 (N:Nat) (n_1:Int) (a_0_0:List Int) (c1_:(Int×(List Int))→Option (List Int)):(Int×(List Int))→Option (List Int):=fun (i_1,out_3)=>
 if (decide (i_1<4))=true then
  chk (0≤(w64 (i_1-(w64 (zU (if (0:Int)>n_1 then 0 else n_1) 64)))))<|
  chk ((w64 (i_1-(w64 (zU (if (0:Int)>n_1 then 0 else n_1) 64))))<4)<|
  chk (0≤(yH (if (0:Int)>n_1 then 0 else n_1) 64))<|
  chk (0≤i_1)<|
  if (decide (i_1>(w64 (zU (if (0:Int)>n_1 then 0 else n_1) 64))))=true then
   chk (0≤(w64 ((w64 (i_1-(w64 (zU (if (0:Int)>n_1 then 0 else n_1) 64))))-1)))<|
   chk ((w64 ((w64 (i_1-(w64 (zU (if (0:Int)>n_1 then 0 else n_1) 64))))-1))<4)<|
   chk (0≤(w64 (64-(yH (if (0:Int)>n_1 then 0 else n_1) 64))))<|
   Zbi.p2 N c1_ n_1 i_1 a_0_0 (zS (zS out_3 (zD i_1) (Zbd .u64 (zF a_0_0 (zD (w64 (i_1-(w64 (zU (if (0:Int)>n_1 then 0 else n_1) 64))))) 0) (yH (if (0:Int)>n_1 then 0 else n_1) 64))) (zD i_1) (Zaz .or .u64 (zF (zS out_3 (zD i_1) (Zbd .u64 (zF a_0_0 (zD (w64 (i_1-(w64 (zU (if (0:Int)>n_1 then 0 else n_1) 64))))) 0) (yH (if (0:Int)>n_1 then 0 else n_1) 64))) (zD i_1) 0) (ZaQ .u64 (zF a_0_0 (zD (w64 ((w64 (i_1-(w64 (zU (if (0:Int)>n_1 then 0 else n_1) 64))))-1))) 0) (w64 (64-(yH (if (0:Int)>n_1 then 0 else n_1) 64))))))
  else
  Zbi.p2 N c1_ n_1 i_1 a_0_0 (zS out_3 (zD i_1) (Zbd .u64 (zF a_0_0 (zD (w64 (i_1-(w64 (zU (if (0:Int)>n_1 then 0 else n_1) 64))))) 0) (yH (if (0:Int)>n_1 then 0 else n_1) 64)))
 else
 some out_3
def Zbi (N:Nat) (a_0_0:List Int) (n_1:Int):Option (List Int):=
 if (decide (n_1≥256))=true then
  some (zC 4 0)
 else
 loopN (Zbi.p1 N n_1 a_0_0) N (w64 (zU (if (0:Int)>n_1 then 0 else n_1) 64),zC 4 0)
def Zbi.p2.S (n_1 i_1:Int) (a_0_0 out_4:List Int) (st:LL):S:=mkS 50 [(2,sA 2),(4,sA 4),(5,sA 5),(6,sI (w64 (zU (if (0:Int)>n_1 then 0 else n_1) 64))),(7,sI (yH (if (0:Int)>n_1 then 0 else n_1) 64)),(8,sI i_1)] [(2,.cells [zL .u64 4 a_0_0]),(4,.cells [zL .u64 4 (zC 4 0)]),(5,.cells [zL .u64 4 out_4])] st
def Zbi.p1.S (n_1 i_1:Int) (a_0_0 out_3:List Int) (st:LL):S:=mkS 50 [(2,sA 2),(4,sA 4),(5,sA 5),(6,sI (w64 (zU (if (0:Int)>n_1 then 0 else n_1) 64))),(7,sI (yH (if (0:Int)>n_1 then 0 else n_1) 64)),(8,sI i_1)] [(2,.cells [zL .u64 4 a_0_0]),(4,.cells [zL .u64 4 (zC 4 0)]),(5,.cells [zL .u64 4 out_3])] st
theorem Zbi.p2_ok {n_1 i_1 a_0_0 out_4 st r c1_ J1} (h:Zbi.p2 N c1_ n_1 i_1 a_0_0 out_4=some r) (hE:En Tryz.f123 g0 w0 (Zbi.rs r) st R) (hc1 : ∀i_1 out_3,c1_ (i_1,out_3)=some r→At g0 w0 (Zbi.p1.S n_1 i_1 a_0_0 out_3 st) J1):At g0 w0 (Zbi.p2.S n_1 i_1 a_0_0 out_4 st) (XK zE R [.c (ZbX Zbi.B [1,1,1,1,0,1,0,0,1,1]),.h J1,.b 0,.c (ZbX Zbi.B [1,1,1,1,1])]):=by
 unfold Zbi.p2 at h
 exact an fol [.r []] [2,4,5,6,7,8] [2,4,5] trivial (hc1 (w64 (i_1+1)) out_4 h)
theorem Zbi.p1_ok {n_1 i_1 a_0_0 out_3 st r c1_ J1} (h:Zbi.p1 N n_1 a_0_0 c1_ (i_1,out_3)=some r) (hE:En Tryz.f123 g0 w0 (Zbi.rs r) st R) (hc1 : ∀i_1 out_3,c1_ (i_1,out_3)=some r→At g0 w0 (Zbi.p1.S n_1 i_1 a_0_0 out_3 st) J1):At g0 w0 (Zbi.p1.S n_1 i_1 a_0_0 out_3 st) (XK zE R (.c (ZbX Zbi.B [1,1,1,1,0,1,0,0]) :: .h J1 :: [.b 0,.c (ZbX Zbi.B [1,1,1,1,1])])):=by
 unfold Zbi.p1 at h
 refine Zbg h (fun c11 h1=>?_) (fun c11 h2=>?_)
 ·obtain ⟨c12,c13,c14,c15,h3⟩:=ck4 h1
  refine Zbg h3 (fun c16 h4=>?_) (fun c16 h5=>?_)
  ·obtain ⟨c17,c18,c19,h6⟩:=ck3 h4
   exact aqd fol [.r [],.c true,.r [],.r [],.c true,.d {ds:=[],hv:=16384,Hs:=[16384]},.s 4] [2,4,5,6,7,8] [2,4,5] (aO c11 c12 c13 c14 c15 (oD c11) c16 (aN c15 (oD c11) c17 c18 c19 c15 (oD c11))) (Zbi.p2_ok h6 hE hc1)
  ·exact aq fol [.r [],.c true,.r [],.r [],.c false,.s 4] [2,4,5,6,7,8] [2,4,5] (aN c11 c12 c13 c14 c15 (oD c11) c16) (Zbi.p2_ok h5 hE hc1)
 ·obtain rfl:=Zaa h2
  exact af fol hE [.r [],.c false,.r []] [] 0 [] c11
theorem Zbi.snd {a_0_0:List Int} {n_1:Int} {r:(List Int)} (h:Zbi N a_0_0 n_1=some r):Zde zE 123 [.agg [zL .u64 4 a_0_0],oI n_1] (Zbi.rs r):=fun st=>
 sO Zbi.B Tryz.func123 fun g0 w0 R hE=>by
  unfold Zbi at h
  refine Zbg h (fun c1 h7=>?_) (fun c1 h8=>?_)
  ·obtain rfl:=Zaa h7
   exact af fol hE [.r [],.r [],.c true,.r []] [] 0 [] c1
  ·exact aq fol [.r [],.r [],.c false,.r [],.r [],.r []] [2,4,5,6,7,8] [2,4,5] (aJ c1 (neI 64) (neI 64)) (At.loop N (At.loopN (fun y:Int×(List Int)=>Zbi.p1.S n_1 y.1 a_0_0 y.2 st) (fun c J hc y h=>Zbi.p1_ok (i_1:=y.1) (out_3:=y.2) h hE (fun i_1 out_3=>hc (i_1,out_3))) N (w64 (zU (if (0:Int)>n_1 then 0 else n_1) 64),zC 4 0) h8))
def Zax.B:Code:=Tryz.f104.body.getD .skip
def Zax.rs (r:(List Int)×Bool×Bool):List CV:=[.agg [zL .u64 4 r.1],oB r.2.1,oB r.2.2]
def Zax.p2 (N:Nat) (bits_0:Int) (below_6:Bool) (n_5:List Int):Option ((List Int)×Bool×Bool):=
 if ((Zaz .and .i64 bits_0 8388607) != 0)=true then
  if (decide ((ZaQ .i64 bits_0 24)>34))=true then
   some (n_5,below_6,true)
  else
  if (decide ((Zaz .and .i64 bits_0 8388607)>255))=true then
   if (decide ((ZaQ .i64 bits_0 24)>33))=true then
    some (n_5,below_6,true)
   else
   if (decide ((Zaz .and .i64 bits_0 8388607)>65535))=true then
    some (n_5,below_6,decide ((ZaQ .i64 bits_0 24)>32))
   else
   some (n_5,below_6,false)
  else
  if (decide ((Zaz .and .i64 bits_0 8388607)>65535))=true then
   some (n_5,below_6,decide ((ZaQ .i64 bits_0 24)>32))
  else
  some (n_5,below_6,false)
 else
 some (n_5,below_6,false)
def Zax.p1 (N:Nat) (bits_0:Int) (n_5:List Int):Option ((List Int)×Bool×Bool):=
 if ((Zaz .and .i64 bits_0 8388607) != 0)=true then
  Zax.p2 N bits_0 ((Zaz .and .i64 bits_0 8388608) != 0) n_5
 else
 Zax.p2 N bits_0 false n_5
def Zax (N:Nat) (bits_0:Int):Option ((List Int)×Bool×Bool):=
 Zbv (Zcq N bits_0) fun x1=>
 if (!x1)=true then
  some (zC 4 0,false,false)
 else
 Zbv (Zcs N (v64 (Zaz .and .i64 bits_0 8388607))) fun x2=>
 if (decide ((ZaQ .i64 bits_0 24)≤3))=true then
  Zbv (ZaO N x2 (w64 (8*(w64 (3-(ZaQ .i64 bits_0 24)))))) fun x3=>
  Zax.p1 N bits_0 x3
 else
 Zbv (Zbi N x2 (w64 (8*(w64 ((ZaQ .i64 bits_0 24)-3))))) fun x4=>
 Zax.p1 N bits_0 x4
def Zax.p2.S (bits_0:Int) (below_6:Bool) (n_5:List Int) (st:LL):S:=mkS 65 [(2,sA 2),(5,sI (ZaQ .i64 bits_0 24)),(6,sI (Zaz .and .i64 bits_0 8388607)),(7,sA 7),(8,.one (.l (wX below_6)))] [(2,.cells [zL .u64 4 (zC 4 0)]),(7,.cells [zL .u64 4 n_5])] st
def Zax.p1.S (bits_0:Int) (n_5:List Int) (st:LL):S:=mkS 65 [(0,sI bits_0),(2,sA 2),(5,sI (ZaQ .i64 bits_0 24)),(6,sI (Zaz .and .i64 bits_0 8388607)),(7,sA 7)] [(2,.cells [zL .u64 4 (zC 4 0)]),(7,.cells [zL .u64 4 n_5])] st
theorem Zax.p2_ok {bits_0 below_6 n_5 st r} (h:Zax.p2 N bits_0 below_6 n_5=some r) (hE:En Tryz.f104 g0 w0 (Zax.rs r) st R):At g0 w0 (Zax.p2.S bits_0 below_6 n_5 st) (XK zE R [.c (ZbX Zax.B [1,1,1,1,1,1])]):=by
 unfold Zax.p2 at h
 refine Zbg h (fun c8 h1=>?_) (fun c8 h2=>?_)
 ·have t1 {Q:Prop} (q:Q):=aK c8 c8 c8 q
  refine Zbg h1 (fun c9 h3=>?_) (fun c9 h4=>?_)
  ·obtain rfl:=Zaa h3
   exact af fol hE [.r [(6,wF),(7,wF),(8,wF),(11,wF),(14,wF),(15,wF),(16,wF),(19,wF)],.r []] [] 0 [] (t1 (aO c9 c9 c9 c9 c8 c9 c8 (aN eT eT eT eT c8 eT c8)))
  ·have t2 {Q:Prop} (q:Q):=t1 (aK c9 c9 c9 q)
   refine Zbg h4 (fun c10 h5=>?_) (fun c10 h6=>?_)
   ·have t3 {Q:Prop} (q:Q):=t2 (aO c10 c10 c9 c10 c8 c9 c8 q)
    refine Zbg h5 (fun c11 h7=>?_) (fun c11 h8=>?_)
    ·obtain rfl:=Zaa h7
     exact af fol hE [.r [(12,yF),(14,wF),(15,wF),(16,wF),(19,wF)],.r []] [] 0 [] (t3 (aN c11 c11 c11 c11 c8 c11 c8))
    ·refine Zbg h8 (fun c12 h9=>?_) (fun c12 h10=>?_)
     ·obtain rfl:=Zaa h9
      exact af fol hE [.r [(12,yF),(20,yF)],.r []] [] 0 [] (t3 (aO c11 c11 c11 c12 c12 c11 c12 (aJ c8 c11 c8)))
     ·obtain rfl:=Zaa h10
      exact af fol hE [.r [(12,yF),(17,wF),(18,wF),(19,yF),(20,yF)],.r []] [] 0 [] (t3 (aO c11 c11 c11 c12 c12 c11 c12 (aJ c8 c11 c8)))
   ·have t4 {Q:Prop} (q:Q):=t2 (aO c10 c10 c9 c10 c8 c9 c8 (aK eF eF eF q))
    refine Zbg h6 (fun c13 h11=>?_) (fun c13 h12=>?_)
    ·obtain rfl:=Zaa h11
     exact af fol hE [.r [(9,wF),(10,wF),(11,yF),(12,yF),(20,yF)],.r []] [] 0 [] (t4 (aN c13 c13 eF c13 c8 eF c8))
    ·obtain rfl:=Zaa h12
     exact af fol hE [.r [(9,wF),(10,wF),(11,yF),(12,yF),(17,wF),(18,wF),(19,yF),(20,yF)],.r []] [] 0 [] (t4 (aN c13 c13 eF c13 c8 eF c8))
 ·obtain rfl:=Zaa h2
  exact af fol hE [.r [(3,wF),(4,wF),(5,wF),(12,wF),(13,wF),(20,wF),(21,yF)],.r []] [] 0 [] (aN c8 c8 c8 c8 c8 c8 c8)
theorem Zax.p1_ok {bits_0 n_5 st r} (h:Zax.p1 N bits_0 n_5=some r) (hE:En Tryz.f104 g0 w0 (Zax.rs r) st R):At g0 w0 (Zax.p1.S bits_0 n_5 st) (XK zE R [.c (ZbX Zax.B [1,1,1,1,1])]):=by
 unfold Zax.p1 at h
 refine Zbg h (fun c7 h13=>?_) (fun c7 h14=>?_)
 ·exact aq fol [.r [],.s 1] [2,5,6,7,8] [2,7] (aK c7 c7 c7 c7) (Zax.p2_ok h13 hE)
 ·exact aq fol [.r [(3,wF),(4,wF),(5,wF),(6,yF)],.s 1] [2,5,6,7,8] [2,7] (aK c7 c7 c7 c7) (Zax.p2_ok h14 hE)
theorem Zax.snd {bits_0:Int} {r:(List Int)×Bool×Bool} (h:Zax N bits_0=some r):Zde zE 104 [oI bits_0] (Zax.rs r):=fun st=>
 sO Zax.B Tryz.func104 fun g0 w0 R hE=>by
  unfold Zax at h
  obtain ⟨x1,c1,h15⟩:=Zae h
  let o1:List PS:=[.r [],.r [(1,q1 [oB x1])]]
  have t5 {Q:Prop} (q:Q):=aI (Zcq.snd c1) q
  refine Zbg h15 (fun c2 h16=>?_) (fun c2 h17=>?_)
  ·obtain rfl:=Zaa h16
   exact af fol hE (o1 ++ [.c true,.r []]) [] 0 [] (t5 c2)
  ·obtain ⟨x2,c3,h18⟩:=Zae h17
   let o2:List PS:=o1 ++ [.c false,.r [],.r [(2,q1 [.agg [zL .u64 4 x2]])],.r []]
   refine Zbg h18 (fun c4 h19=>?_) (fun c4 h20=>?_)
   ·obtain ⟨x3,c5,h21⟩:=Zae h19
    exact aq fol (o2 ++ [.c true,.r [(4,q1 [.agg [zL .u64 4 x3]])],.s 1]) [0,2,5,6,7] [2,7] (t5 (aL c2 (leI 0 24) (Zcs.snd c3) c4 (ZaO.snd c5))) (Zax.p1_ok h21 hE)
   ·obtain ⟨x4,c6,h22⟩:=Zae h20
    exact aq fol (o2 ++ [.c false,.r [(4,q1 [.agg [zL .u64 4 x4]])],.s 1]) [0,2,5,6,7] [2,7] (t5 (aL c2 (leI 0 24) (Zcs.snd c3) c4 (Zbi.snd c6))) (Zax.p1_ok h22 hE)
def Zcc.B:Code:=Tryz.f105.body.getD .skip
def Zcc.rs (r:Bool):List CV:=[oB r]
def Zcc (N:Nat) (a_0_0:List Int):Option Bool:=
 some (a_0_0==(zC 4 0))
theorem Zcc.snd {a_0_0:List Int} {r:Bool} (h:Zcc N a_0_0=some r):Zde zE 105 [.agg [zL .u64 4 a_0_0]] (Zcc.rs r):=fun st=>
 sO Zcc.B Tryz.func105 fun g0 w0 R hE=>by
  unfold Zcc at h
  obtain rfl:=Zaa h
  exact af fol hE [.r [],.r []] [] 0 [] trivial
def ZaV.B:Code:=Tryz.f65.body.getD .skip
def ZaV.rs (r:Int):List CV:=[oI r]
def ZaV.p1 (N:Nat) (a_0_0 b_1_0:List Int) (c1_:Int→Option Int):Int→Option Int:=fun i_1=>
 if (decide (i_1≥0))=true then
  chk (0≤i_1)<|
  chk (i_1<4)<|
  if (decide ((zF a_0_0 (zD i_1) 0)<(zF b_1_0 (zD i_1) 0)))=true then
   some (-1)
  else
  if (decide ((zF a_0_0 (zD i_1) 0)>(zF b_1_0 (zD i_1) 0)))=true then
   some 1
  else
  c1_ (w64 (i_1-1))
 else
 some 0
def ZaV (N:Nat) (a_0_0 b_1_0:List Int):Option Int:=
 loopN (ZaV.p1 N a_0_0 b_1_0) N 3
def ZaV.p1.S (i_1:Int) (a_0_0 b_1_0:List Int) (st:LL):S:=mkS 26 [(2,sA 2),(3,sA 3),(5,sI i_1)] [(2,.cells [zL .u64 4 a_0_0]),(3,.cells [zL .u64 4 b_1_0])] st
theorem ZaV.p1_ok {i_1 a_0_0 b_1_0 st r c1_ J1} (h:ZaV.p1 N a_0_0 b_1_0 c1_ i_1=some r) (hE:En Tryz.f65 g0 w0 (ZaV.rs r) st R) (hc1 : ∀i_1,c1_ i_1=some r→At g0 w0 (ZaV.p1.S i_1 a_0_0 b_1_0 st) J1):At g0 w0 (ZaV.p1.S i_1 a_0_0 b_1_0 st) (XK zE R (.c (ZbX ZaV.B [1,0,1,0,0]) :: .h J1 :: [.b 0,.c (ZbX ZaV.B [1,1])])):=by
 unfold ZaV.p1 at h
 refine Zbg h (fun c1 h1=>?_) (fun c1 h2=>?_)
 ·obtain ⟨c2,c3,h3⟩:=ck2 h1
  let o1:List PS:=[.r [],.c true,.d {ds:=[],hv:=0,Hs:=[]}]
  refine Zbg h3 (fun c4 h4=>?_) (fun c4 h5=>?_)
  ·obtain rfl:=Zaa h4
   exact afd fol hE (o1 ++ [.c true,.r []]) [] 0 [] (aM c1 c2 c3 c2 c3 c4)
  ·let o2:List PS:=o1 ++ [.c false,.d {ds:=[],hv:=0,Hs:=[]}]
   refine Zbg h5 (fun c5 h6=>?_) (fun c5 h7=>?_)
   ·obtain rfl:=Zaa h6
    exact afd fol hE (o2 ++ [.c true,.r []]) [] 0 [] (aO c1 c2 c3 c2 c3 c4 c2 (aK c3 c2 c3 c5))
   ·exact Zmb fol (o2 ++ [.c false,.r []]) [2,3,5] [2,3] (aO c1 c2 c3 c2 c3 c4 c2 (aK c3 c2 c3 c5)) (hc1 (w64 (i_1-1)) h7)
 ·obtain rfl:=Zaa h2
  exact af fol hE [.r [],.c false,.r []] [] 0 [] c1
theorem ZaV.snd {a_0_0 b_1_0:List Int} {r:Int} (h:ZaV N a_0_0 b_1_0=some r):Zde zE 65 [.agg [zL .u64 4 a_0_0],.agg [zL .u64 4 b_1_0]] (ZaV.rs r):=fun st=>
 sO ZaV.B Tryz.func65 fun g0 w0 R hE=>by
  unfold ZaV at h
  exact aq fol [.r [],.r []] [2,3,5] [2,3] trivial (At.loop N (At.loopN (fun y:Int=>ZaV.p1.S y a_0_0 b_1_0 st) (fun c J hc y h=>ZaV.p1_ok h hE (fun i_1=>hc i_1)) N 3 h))
def Zck.B:Code:=Tryz.f120.body.getD .skip
def Zck.rs (r:Bool):List CV:=[oB r]
def Zck (N:Nat) (a_0_0 b_1_0:List Int):Option Bool:=
 Zbv (ZaV N a_0_0 b_1_0) fun x1=>
 some (decide (x1<0))
theorem Zck.snd {a_0_0 b_1_0:List Int} {r:Bool} (h:Zck N a_0_0 b_1_0=some r):Zde zE 120 [.agg [zL .u64 4 a_0_0],.agg [zL .u64 4 b_1_0]] (Zck.rs r):=fun st=>
 sO Zck.B Tryz.func120 fun g0 w0 R hE=>by
  unfold Zck at h
  obtain ⟨x1,c1,h1⟩:=Zae h
  obtain rfl:=Zaa h1
  exact af fol hE [.r [],.r [(2,q1 [oI x1])]] [] 0 [] (ZaV.snd c1)
def ZbG.B:Code:=Tryz.f103.body.getD .skip
def ZbG.rs (r:(List Int)×Bool):List CV:=[.agg [zL .u64 4 r.1],oB r.2]
def ZbG (N:Nat) (bits_0 limit_1:Int):Option ((List Int)×Bool):=
 Zbv (Zax N bits_0) fun (x1,x2,x3)=>
 Zbv (Zax N limit_1) fun (x4,x5,x6)=>
 if x2=true then
  some (zC 4 0,false)
 else
 if x3=true then
  some (zC 4 0,false)
 else
 if x5=true then
  some (zC 4 0,false)
 else
 if x6=true then
  some (zC 4 0,false)
 else
 Zbv (Zcc N x1) fun x7=>
 if x7=true then
  some (zC 4 0,false)
 else
 Zbv (Zck N x4 x1) fun x8=>
 if x8=true then
  some (zC 4 0,false)
 else
 some (x1,true)
theorem ZbG.snd {bits_0 limit_1:Int} {r:(List Int)×Bool} (h:ZbG N bits_0 limit_1=some r):Zde zE 103 [oI bits_0,oI limit_1] (ZbG.rs r):=fun st=>
 sO ZbG.B Tryz.func103 fun g0 w0 R hE=>by
  unfold ZbG at h
  obtain ⟨⟨x1,x2,x3⟩,c1,h1⟩:=Zae h
  obtain ⟨⟨x4,x5,x6⟩,c2,h2⟩:=Zae h1
  let o1:List PS:=[.r [],.r [(1,q1 [.agg [zL .u64 4 x1],oB x2,oB x3])],.r [(1,q1 [.agg [zL .u64 4 x4],oB x5,oB x6])]]
  have t1 {Q:Prop} (q:Q):=aJ (Zax.snd c1) (Zax.snd c2) q
  refine Zbg h2 (fun c3 h3=>?_) (fun c3 h4=>?_)
  ·obtain rfl:=Zaa h3
   exact af fol hE (o1 ++ [.r [(2,wF),(5,wF),(8,wF),(11,wF),(12,wF),(15,wF),(16,wF),(17,wF)],.c true,.r []]) [] 0 [] (t1 (aO c3 c3 eT eT eT eT eT (aN eT eT eT eT eT eT eT)))
  ·refine Zbg h4 (fun c4 h5=>?_) (fun c4 h6=>?_)
   ·obtain rfl:=Zaa h5
    exact af fol hE (o1 ++ [.r [(3,yF),(5,wF),(8,wF),(11,wF),(12,wF),(15,wF),(16,wF),(17,wF)],.c true,.r []]) [] 0 [] (t1 (aO c3 c3 c4 c4 eT eT eT (aN eT eT eT eT eT eT eT)))
   ·have t2 {Q:Prop} (q:Q):=t1 (aL c3 c3 c4 c4 q)
    refine Zbg h6 (fun c5 h7=>?_) (fun c5 h8=>?_)
    ·obtain rfl:=Zaa h7
     exact af fol hE (o1 ++ [.r [(3,yF),(6,yF),(8,wF),(11,wF),(12,wF),(15,wF),(16,wF),(17,wF)],.c true,.r []]) [] 0 [] (t2 (aO c5 c5 eT eT eT eT eT (aJ eT eT eT)))
    ·refine Zbg h8 (fun c6 h9=>?_) (fun c6 h10=>?_)
     ·obtain rfl:=Zaa h9
      exact af fol hE (o1 ++ [.r [(3,yF),(6,yF),(9,yF),(11,wF),(12,wF),(15,wF),(16,wF),(17,wF)],.c true,.r []]) [] 0 [] (t2 (aO c5 c5 c6 c6 c6 eT eT (aJ eT eT eT)))
     ·obtain ⟨x7,c7,h11⟩:=Zae h10
      have t3 {Q:Prop} (q:Q):=t2 (aN c5 c5 c6 c6 (Zcc.snd c7) c6 q)
      refine Zbg h11 (fun c8 h12=>?_) (fun c8 h13=>?_)
      ·obtain rfl:=Zaa h12
       exact af fol hE (o1 ++ [.r [(3,yF),(6,yF),(9,yF),(12,q1 [oB x7]),(13,yF),(15,wF),(16,wF),(17,wF)],.c true,.r []]) [] 0 [] (t3 (aL c8 c8 c8 c8 eT))
      ·obtain ⟨x8,c9,h14⟩:=Zae h13
       let o2:List PS:=o1 ++ [.r [(3,yF),(6,yF),(9,yF),(12,q1 [oB x7]),(13,yF),(17,q1 [oB x8]),(18,yF)]]
       refine Zbg h14 (fun c10 h15=>?_) (fun c10 h16=>?_)
       ·obtain rfl:=Zaa h15
        exact af fol hE (o2 ++ [.c true,.r []]) [] 0 [] (t3 (aM c8 c8 c8 (Zck.snd c9) c8 c10))
       ·obtain rfl:=Zaa h16
        exact af fol hE (o2 ++ [.c false,.r []]) [] 0 [] (t3 (aM c8 c8 c8 (Zck.snd c9) c8 c10))
def Zdg.B:Code:=Tryz.f78.body.getD .skip
def Zdg.rs (r:Bool):List CV:=[oB r]
def Zdg (N:Nat) (p_0:Zaj):Option Bool:=
 Zbv (ZbG N p_0.Limit p_0.Limit) fun (x1,x2)=>
 if x2=true then
  if (decide (p_0.Interval≥2))=true then
   if (decide (p_0.Interval≤64))=true then
    if (decide (p_0.Spacing≥1))=true then
     if (decide (p_0.Spacing≤10000))=true then
      if (decide (p_0.Future≥0))=true then
       some (decide (p_0.Future<4294967296))
      else
      some false
     else
     some false
    else
    some false
   else
   some false
  else
  some false
 else
 some false
theorem Zdg.snd {p_0:Zaj} {r:Bool} (h:Zdg N p_0=some r):Zde zE 78 [.agg p_0.ls] (Zdg.rs r):=fun st=>
 sO Zdg.B Tryz.func78 fun g0 w0 R hE=>by
  unfold Zdg at h
  obtain ⟨⟨x1,x2⟩,c1,h1⟩:=Zae h
  let o1:List PS:=[.r [],.r [(4,q1 [.agg [zL .u64 4 x1],oB x2])]]
  have t1 {Q:Prop} (q:Q):=aI (ZbG.snd c1) q
  refine Zbg h1 (fun c2 h2=>?_) (fun c2 h3=>?_)
  ·have t2 {Q:Prop} (q:Q):=t1 (aL c2 c2 c2 c2 q)
   refine Zbg h2 (fun c3 h4=>?_) (fun c3 h5=>?_)
   ·have t3 {Q:Prop} (q:Q):=t2 (aL c3 c3 c3 c3 q)
    refine Zbg h4 (fun c4 h6=>?_) (fun c4 h7=>?_)
    ·have t4 {Q:Prop} (q:Q):=t3 (aL c4 c4 c4 c4 q)
     refine Zbg h6 (fun c5 h8=>?_) (fun c5 h9=>?_)
     ·refine Zbg h8 (fun c6 h10=>?_) (fun c6 h11=>?_)
      ·refine Zbg h10 (fun c7 h12=>?_) (fun c7 h13=>?_)
       ·obtain rfl:=Zaa h12
        exact af fol hE (o1 ++ [.r []]) [] 0 [] (t4 (aO c5 c5 c5 c5 c6 c6 c6 (aL c6 c7 c7 c7 c7)))
       ·obtain rfl:=Zaa h13
        exact af fol hE (o1 ++ [.r [(27,wF),(28,wF),(29,wF),(30,yF)]]) [] 0 [] (t4 (aO c5 c5 c5 c5 c6 c6 c6 (aL c6 c7 c7 c7 c7)))
      ·obtain rfl:=Zaa h11
       exact af fol hE (o1 ++ [.r [(22,wF),(23,wF),(24,wF),(25,yF),(27,wF),(28,wF),(29,wF),(30,yF)]]) [] 0 [] (t4 (aO c5 c5 c5 c5 c6 c6 c6 (aL c6 eF eF eF eF)))
     ·obtain rfl:=Zaa h9
      exact af fol hE (o1 ++ [.r [(17,wF),(18,wF),(19,wF),(20,yF),(22,wF),(23,wF),(24,wF),(25,yF),(27,wF),(28,wF),(29,wF),(30,yF)]]) [] 0 [] (t4 (aO c5 c5 c5 c5 eF eF eF (aL eF eF eF eF eF)))
    ·obtain rfl:=Zaa h7
     exact af fol hE (o1 ++ [.r [(12,wF),(13,wF),(14,wF),(15,yF),(17,wF),(18,wF),(19,wF),(20,yF),(22,wF),(23,wF),(24,wF),(25,yF),(27,wF),(28,wF),(29,wF),(30,yF)]]) [] 0 [] (t3 (aO c4 c4 c4 c4 eF eF eF (aO eF eF eF eF eF eF eF (aI eF eF))))
   ·obtain rfl:=Zaa h5
    exact af fol hE (o1 ++ [.r [(7,wF),(8,wF),(9,wF),(10,yF),(12,wF),(13,wF),(14,wF),(15,yF),(17,wF),(18,wF),(19,wF),(20,yF),(22,wF),(23,wF),(24,wF),(25,yF),(27,wF),(28,wF),(29,wF),(30,yF)]]) [] 0 [] (t2 (aO c3 c3 c3 c3 eF eF eF (aO eF eF eF eF eF eF eF (aM eF eF eF eF eF eF))))
  ·obtain rfl:=Zaa h3
   exact af fol hE (o1 ++ [.r [(2,wF),(3,wF),(4,wF),(5,yF),(7,wF),(8,wF),(9,wF),(10,yF),(12,wF),(13,wF),(14,wF),(15,yF),(17,wF),(18,wF),(19,wF),(20,yF),(22,wF),(23,wF),(24,wF),(25,yF),(27,wF),(28,wF),(29,wF),(30,yF)]]) [] 0 [] (t1 (aO c2 c2 c2 c2 eF eF eF (aO eF eF eF eF eF eF eF (aO eF eF eF eF eF eF eF (aJ eF eF eF)))))
def Zbj.B:Code:=Tryz.f49.body.getD .skip
def Zbj.rs (r:Bool):List CV:=[oB r]
def Zbj.p2 (N:Nat) (p_0:Zaj) (c2_:Int→Option Bool):Int→Option Bool:=fun v6=>
 if (decide (v6<(len p_0.Checks)))=true then
  chk (0≤v6)<|
  ZcJ (p_0.Checks[zD v6]?) Zdo fun x7=>
  if (decide (x7.Height<1))=true then
   some false
  else
  if (decide (v6>0))=true then
   chk (0≤(w64 (v6-1)))<|
   chk ((w64 (v6-1))<(len p_0.Checks))<|
   ZcJ (p_0.Checks[zD (w64 (v6-1))]?) Zdo fun x8=>
   if (decide (x7.Height≤x8.Height))=true then
    some false
   else
   c2_ (w64 (v6+1))
  else
  c2_ (w64 (v6+1))
 else
 some true
def Zbj.p1 (N:Nat) (p_0:Zaj) (c1_:Int→Option Bool):Int→Option Bool:=fun v3=>
 if (decide (v3<(len p_0.Gates)))=true then
  chk (0≤v3)<|
  ZcJ (p_0.Gates[zD v3]?) ZdF fun x4=>
  if (decide (x4.Height<0))=true then
   some false
  else
  if (decide (v3>0))=true then
   chk (0≤(w64 (v3-1)))<|
   chk ((w64 (v3-1))<(len p_0.Gates))<|
   ZcJ (p_0.Gates[zD (w64 (v3-1))]?) ZdF fun x5=>
   if (decide (x4.Height≤x5.Height))=true then
    some false
   else
   c1_ (w64 (v3+1))
  else
  c1_ (w64 (v3+1))
 else
 loopN (Zbj.p2 N p_0) N 0
def Zbj (N:Nat) (p_0:Zaj):Option Bool:=
 Zbv (Zdg N p_0) fun x1=>
 if (!x1)=true then
  some false
 else
 Zbv (ZbL N p_0.Genesis) fun x2=>
 if (!x2)=true then
  some false
 else
 loopN (Zbj.p1 N p_0) N 0
def Zbj.p2.S (p_0:Zaj) (v6:Int) (st:LL):S:=mkS 72 [(1,sA 1),(45,sV 33 p_0.Checks),(46,sI (len p_0.Checks)),(47,sI v6)] [(1,.cells p_0.ls)] st
def Zbj.p1.S (p_0:Zaj) (v3:Int) (st:LL):S:=mkS 72 [(1,sA 1),(17,sV 2 p_0.Gates),(18,sI (len p_0.Gates)),(19,sI v3)] [(1,.cells p_0.ls)] st
theorem Zbj.p2_ok {p_0 v6 st r c2_ J2} (h:Zbj.p2 N p_0 c2_ v6=some r) (hE:En Tryz.f49 g0 w0 (Zbj.rs r) st R) (hc2 : ∀v6,c2_ v6=some r→At g0 w0 (Zbj.p2.S p_0 v6 st) J2):At g0 w0 (Zbj.p2.S p_0 v6 st) (XK zE R (.c (ZbX Zbj.B [1,1,1,0,1,0,0]) :: .h J2 :: [.b 2,.c (ZbX Zbj.B [1,1,1,1])])):=by
 unfold Zbj.p2 at h
 refine Zbg h (fun c14 h1=>?_) (fun c14 h2=>?_)
 ·obtain ⟨c15,h3⟩:=ZaT h1
  obtain ⟨x7,c16,h4⟩:=ZdM h3
  let o1:List PS:=[.r [],.c true,.r [(2,{oe:=x7.ls})]]
  have t1 {Q:Prop} (q:Q):=aL c14 c15 (oD c14) c16 q
  refine Zbg h4 (fun c17 h5=>?_) (fun c17 h6=>?_)
  ·obtain rfl:=Zaa h5
   exact afd fol hE (o1 ++ [.d {ds:=[(4,wF),(5,wF),(6,wF),(17,wF)],hv:=0,Hs:=[]},.c true,.r []]) [] 0 [] (t1 (aM c17 c17 c17 c17 c17 eT))
  ·refine Zbg h6 (fun c18 h7=>?_) (fun c18 h8=>?_)
   ·obtain ⟨c19,c20,h9⟩:=ck2 h7
    obtain ⟨x8,c21,h10⟩:=ZdM h9
    let o2:List PS:=o1 ++ [.d {ds:=[(15,{oe:=x8.ls}),(18,yF)],hv:=0,Hs:=[]}]
    have t2 {Q:Prop} (q:Q):=t1 (aO c17 c17 c17 c18 c18 c18 c18 (aO c18 c18 c18 c19 c20 c18 c18 (aM c21 c18 c17 c18 c17 q)))
    refine Zbg h10 (fun c22 h11=>?_) (fun c22 h12=>?_)
    ·obtain rfl:=Zaa h11
     exact afd fol hE (o2 ++ [.c true,.r []]) [] 0 [] (t2 c22)
    ·exact Zmb fol (o2 ++ [.c false,.r []]) [1,45,46,47] [1] (t2 c22) (hc2 (w64 (v6+1)) h12)
   ·exact Zmb fol (o1 ++ [.d {ds:=[(7,wF),(8,wF),(9,wF),(10,wF),(11,wF),(12,wF),(13,wF),(14,wF),(15,wF),(16,wF),(17,yF),(18,yF)],hv:=0,Hs:=[]},.c false,.r []]) [1,45,46,47] [1] (t1 (aO c17 c17 c17 c18 c18 c18 c18 (aO c18 c18 c18 c18 c18 c18 c17 (aJ c18 c17 eF)))) (hc2 (w64 (v6+1)) h8)
 ·obtain rfl:=Zaa h2
  exact af fol hE [.r [],.c false,.r []] [] 0 [] c14
theorem Zbj.p1_ok {p_0 v3 st r c1_ J1} (h:Zbj.p1 N p_0 c1_ v3=some r) (hE:En Tryz.f49 g0 w0 (Zbj.rs r) st R) (hc1 : ∀v3,c1_ v3=some r→At g0 w0 (Zbj.p1.S p_0 v3 st) J1):At g0 w0 (Zbj.p1.S p_0 v3 st) (XK zE R (.c (ZbX Zbj.B [1,1,0,1,0,0]) :: .h J1 :: [.b 0,.c (ZbX Zbj.B [1,1,1])])):=by
 unfold Zbj.p1 at h
 refine Zbg h (fun c5 h13=>?_) (fun c5 h14=>?_)
 ·obtain ⟨c6,h15⟩:=ZaT h13
  obtain ⟨x4,c7,h16⟩:=ZdS h15
  let o3:List PS:=[.r [],.c true,.r [(2,{oe:=x4.ls})]]
  have t3 {Q:Prop} (q:Q):=aL c5 c6 (oD c5) c7 q
  refine Zbg h16 (fun c8 h17=>?_) (fun c8 h18=>?_)
  ·obtain rfl:=Zaa h17
   exact afd fol hE (o3 ++ [.d {ds:=[(4,wF),(5,wF),(6,wF),(17,wF)],hv:=0,Hs:=[]},.c true,.r []]) [] 0 [] (t3 (aM c8 c8 c8 c8 c8 eT))
  ·refine Zbg h18 (fun c9 h19=>?_) (fun c9 h20=>?_)
   ·obtain ⟨c10,c11,h21⟩:=ck2 h19
    obtain ⟨x5,c12,h22⟩:=ZdS h21
    let o4:List PS:=o3 ++ [.d {ds:=[(15,{oe:=x5.ls}),(18,yF)],hv:=0,Hs:=[]}]
    have t4 {Q:Prop} (q:Q):=t3 (aO c8 c8 c8 c9 c9 c9 c9 (aO c9 c9 c9 c10 c11 c9 c9 (aM c12 c9 c8 c9 c8 q)))
    refine Zbg h22 (fun c13 h23=>?_) (fun c13 h24=>?_)
    ·obtain rfl:=Zaa h23
     exact afd fol hE (o4 ++ [.c true,.r []]) [] 0 [] (t4 c13)
    ·exact Zmb fol (o4 ++ [.c false,.r []]) [1,17,18,19] [1] (t4 c13) (hc1 (w64 (v3+1)) h24)
   ·exact Zmb fol (o3 ++ [.d {ds:=[(7,wF),(8,wF),(9,wF),(10,wF),(11,wF),(12,wF),(13,wF),(14,wF),(15,wF),(16,wF),(17,yF),(18,yF)],hv:=0,Hs:=[]},.c false,.r []]) [1,17,18,19] [1] (t3 (aO c8 c8 c8 c9 c9 c9 c9 (aO c9 c9 c9 c9 c9 c9 c8 (aJ c9 c8 eF)))) (hc1 (w64 (v3+1)) h20)
 ·exact aq fol [.r [],.c false,.r []] [1,45,46,47] [1] c5 (At.loop N (At.loopN (fun y:Int=>Zbj.p2.S p_0 y st) (fun c J hc y h=>Zbj.p2_ok h hE (fun v6=>hc v6)) N 0 h14))
theorem Zbj.snd {p_0:Zaj} {r:Bool} (h:Zbj N p_0=some r):Zde zE 49 [.agg p_0.ls] (Zbj.rs r):=fun st=>
 sO Zbj.B Tryz.func49 fun g0 w0 R hE=>by
  unfold Zbj at h
  obtain ⟨x1,c1,h25⟩:=Zae h
  have t5 {Q:Prop} (q:Q):=aI (Zdg.snd c1) q
  refine Zbg h25 (fun c2 h26=>?_) (fun c2 h27=>?_)
  ·obtain rfl:=Zaa h26
   exact af fol hE [.r [],.r [(1,q1 [oB x1]),(4,wF),(5,wF),(6,wF),(7,wF)],.c true,.r []] [] 0 [] (t5 (aM (not_false (ZbZ c2)) (not_false (ZbZ c2)) (not_false (ZbZ c2)) (not_false (ZbZ c2)) (not_false (ZbZ c2)) eT))
  ·obtain ⟨x2,c3,h28⟩:=Zae h27
   let o5:List PS:=[.r [],.r [(1,q1 [oB x1]),(6,q1 [oB x2]),(8,yF)]]
   have t6 {Q:Prop} (q:Q):=t5 (aN (not_true (Zca c2)) (not_true (Zca c2)) (not_true (Zca c2)) (ZbL.snd c3) (not_true (Zca c2)) (not_true (Zca c2)) q)
   refine Zbg h28 (fun c4 h29=>?_) (fun c4 h30=>?_)
   ·obtain rfl:=Zaa h29
    exact af fol hE (o5 ++ [.c true,.r []]) [] 0 [] (t6 c4)
   ·exact aq fol (o5 ++ [.c false,.r []]) [1,17,18,19] [1] (t6 c4) (At.loop N (At.loopN (fun y:Int=>Zbj.p1.S p_0 y st) (fun c J hc y h=>Zbj.p1_ok h hE (fun v3=>hc v3)) N 0 h30))
def Zbm.B:Code:=Tryz.f124.body.getD .skip
def Zbm.rs (r:(List Int)×Bool):List CV:=[.agg [zL .u64 4 r.1],oB r.2]
def Zbm.p1 (N:Nat) (b_1_0:List Int) (c1_:(Int×Int×(List Int))→Option ((List Int)×Bool)):(Int×Int×(List Int))→Option ((List Int)×Bool):=fun (c_1,v2,a_5)=>
 if (decide (v2<4))=true then
  chk (0≤v2)<|
  Zbv (ZcS N (zF a_5 (zD v2) 0) (zF b_1_0 (zD v2) 0) c_1) fun (x6,x7)=>
  c1_ (x7,w64 (v2+1),zS a_5 (zD v2) x6)
 else
 some (a_5,c_1 != 0)
def Zbm (N:Nat) (a_0_0 b_1_0:List Int):Option ((List Int)×Bool):=
 loopN (Zbm.p1 N b_1_0) N (0,0,a_0_0)
def Zbm.p1.S (c_1 v2:Int) (a_5 b_1_0:List Int) (st:LL):S:=mkS 28 [(2,sA 2),(3,sA 3),(4,sA 4),(6,.one (.l (zJ .u64 c_1))),(8,sI v2)] [(2,.cells [zL .u64 4 a_5]),(3,.cells [zL .u64 4 b_1_0]),(4,.cells [zL .u64 4 (zC 4 0)])] st
theorem Zbm.p1_ok {c_1 v2 a_5 b_1_0 st r c1_ J1} (h:Zbm.p1 N b_1_0 c1_ (c_1,v2,a_5)=some r) (hE:En Tryz.f124 g0 w0 (Zbm.rs r) st R) (hc1 : ∀c_1 v2 a_5,c1_ (c_1,v2,a_5)=some r→At g0 w0 (Zbm.p1.S c_1 v2 a_5 b_1_0 st) J1):At g0 w0 (Zbm.p1.S c_1 v2 a_5 b_1_0 st) (XK zE R (.c (ZbX Zbm.B [1,1,0,1,0,0]) :: .h J1 :: [.b 0,.c (ZbX Zbm.B [1,1,1])])):=by
 unfold Zbm.p1 at h
 refine Zbg h (fun c4 h1=>?_) (fun c4 h2=>?_)
 ·obtain ⟨c5,h3⟩:=ZaT h1
  obtain ⟨⟨x6,x7⟩,c6,h4⟩:=Zae h3
  exact Zmb fol [.r [],.c true,.r [],.d {ds:=[(8,{rs:=[.one (zJ .u64 x6),.one (zJ .u64 x7)],m:=4})],hv:=8192,Hs:=[8192]},.r []] [2,3,4,6,8] [2,3,4] (aO c4 c5 (oD c4) c5 (oD c4) (ZcS.snd c6) c5 (oD c4)) (hc1 x7 (w64 (v2+1)) (zS a_5 (zD v2) x6) h4)
 ·obtain rfl:=Zaa h2
  exact af fol hE [.r [],.c false,.r []] [] 0 [] c4
theorem Zbm.snd {a_0_0 b_1_0:List Int} {r:(List Int)×Bool} (h:Zbm N a_0_0 b_1_0=some r):Zde zE 124 [.agg [zL .u64 4 a_0_0],.agg [zL .u64 4 b_1_0]] (Zbm.rs r):=fun st=>
 sO Zbm.B Tryz.func124 fun g0 w0 R hE=>by
  unfold Zbm at h
  exact aq fol [.r [],.r [],.r []] [2,3,4,6,8] [2,3,4] trivial (At.loop N (At.loopN (fun y:Int×Int×(List Int)=>Zbm.p1.S y.1 y.2.1 y.2.2 b_1_0 st) (fun c J hc y h=>Zbm.p1_ok (c_1:=y.1) (v2:=y.2.1) (a_5:=y.2.2) h hE (fun c_1 v2 a_5=>hc (c_1,v2,a_5))) N (0,0,a_0_0) h))
def ZbC.B:Code:=Tryz.f126.body.getD .skip
def ZbC.rs (r:(List Int)):List CV:=[.agg [zL .u64 4 r]]
def ZbC.p1 (N:Nat) (c1_:(Int×(List Int))→Option (List Int)):(Int×(List Int))→Option (List Int):=fun (v1,a_2)=>
 if (decide (v1<4))=true then
  chk (0≤v1)<|
  c1_ (w64 (v1+1),zS a_2 (zD v1) (Zaz .xor .u64 (IntKind.max IntKind.u64) (zF a_2 (zD v1) 0)))
 else
 some a_2
def ZbC (N:Nat) (a_0_0:List Int):Option (List Int):=
 loopN (ZbC.p1 N) N (0,a_0_0)
def ZbC.p1.S (v1:Int) (a_2:List Int) (st:LL):S:=mkS 15 [(1,sA 1),(2,sA 2),(4,sI v1)] [(1,.cells [zL .u64 4 a_2]),(2,.cells [zL .u64 4 (zC 4 0)])] st
theorem ZbC.p1_ok {v1 a_2 st r c1_ J1} (h:ZbC.p1 N c1_ (v1,a_2)=some r) (hE:En Tryz.f126 g0 w0 (ZbC.rs r) st R) (hc1 : ∀v1 a_2,c1_ (v1,a_2)=some r→At g0 w0 (ZbC.p1.S v1 a_2 st) J1):At g0 w0 (ZbC.p1.S v1 a_2 st) (XK zE R (.c (ZbX ZbC.B [1,0,1,0,0]) :: .h J1 :: [.b 0,.c (ZbX ZbC.B [1,1])])):=by
 unfold ZbC.p1 at h
 refine Zbg h (fun c3 h1=>?_) (fun c3 h2=>?_)
 ·obtain ⟨c4,h3⟩:=ZaT h1
  exact an fol [.r [],.c true,.r [],.r [],.r []] [1,2,4] [1,2] (aL c3 c4 (oD c3) c4 (oD c3)) (hc1 (w64 (v1+1)) (zS a_2 (zD v1) (Zaz .xor .u64 (IntKind.max IntKind.u64) (zF a_2 (zD v1) 0))) h3)
 ·obtain rfl:=Zaa h2
  exact af fol hE [.r [],.c false,.r []] [] 0 [] c3
theorem ZbC.snd {a_0_0:List Int} {r:(List Int)} (h:ZbC N a_0_0=some r):Zde zE 126 [.agg [zL .u64 4 a_0_0]] (ZbC.rs r):=fun st=>
 sO ZbC.B Tryz.func126 fun g0 w0 R hE=>by
  unfold ZbC at h
  exact aq fol [.r [],.r []] [1,2,4] [1,2] trivial (At.loop N (At.loopN (fun y:Int×(List Int)=>ZbC.p1.S y.1 y.2 st) (fun c J hc y h=>ZbC.p1_ok (v1:=y.1) (a_2:=y.2) h hE (fun v1 a_2=>hc (v1,a_2))) N (0,a_0_0) h))
def Zap.B:Code:=Tryz.f148.body.getD .skip
def Zap.rs (r:Int):List CV:=[oI r]
def Zap.p3 (N:Nat) (x_5 n_6:Int):Option Int:=
 chk (0≤(v8 (x_5)))<|
 chk ((v8 (x_5))<((ByteArray.size (ByteArray.mk #[0,1,2,2,3,3,3,3,4,4,4,4,4,4,4,4,5,5,5,5,5,5,5,5,5,5,5,5,5,5,5,5,6,6,6,6,6,6,6,6,6,6,6,6,6,6,6,6,6,6,6,6,6,6,6,6,6,6,6,6,6,6,6,6,7,7,7,7,7,7,7,7,7,7,7,7,7,7,7,7,7,7,7,7,7,7,7,7,7,7,7,7,7,7,7,7,7,7,7,7,7,7,7,7,7,7,7,7,7,7,7,7,7,7,7,7,7,7,7,7,7,7,7,7,7,7,7,7,8,8,8,8,8,8,8,8,8,8,8,8,8,8,8,8,8,8,8,8,8,8,8,8,8,8,8,8,8,8,8,8,8,8,8,8,8,8,8,8,8,8,8,8,8,8,8,8,8,8,8,8,8,8,8,8,8,8,8,8,8,8,8,8,8,8,8,8,8,8,8,8,8,8,8,8,8,8,8,8,8,8,8,8,8,8,8,8,8,8,8,8,8,8,8,8,8,8,8,8,8,8,8,8,8,8,8,8,8,8,8,8,8,8,8,8,8,8,8,8,8,8,8,8,8,8,8,8]):Nat):Int))<|
 some (w64 (n_6+(w64 (((UInt8.toNat (zF (Array.toList (ByteArray.data (ByteArray.mk #[0,1,2,2,3,3,3,3,4,4,4,4,4,4,4,4,5,5,5,5,5,5,5,5,5,5,5,5,5,5,5,5,6,6,6,6,6,6,6,6,6,6,6,6,6,6,6,6,6,6,6,6,6,6,6,6,6,6,6,6,6,6,6,6,7,7,7,7,7,7,7,7,7,7,7,7,7,7,7,7,7,7,7,7,7,7,7,7,7,7,7,7,7,7,7,7,7,7,7,7,7,7,7,7,7,7,7,7,7,7,7,7,7,7,7,7,7,7,7,7,7,7,7,7,7,7,7,7,8,8,8,8,8,8,8,8,8,8,8,8,8,8,8,8,8,8,8,8,8,8,8,8,8,8,8,8,8,8,8,8,8,8,8,8,8,8,8,8,8,8,8,8,8,8,8,8,8,8,8,8,8,8,8,8,8,8,8,8,8,8,8,8,8,8,8,8,8,8,8,8,8,8,8,8,8,8,8,8,8,8,8,8,8,8,8,8,8,8,8,8,8,8,8,8,8,8,8,8,8,8,8,8,8,8,8,8,8,8,8,8,8,8,8,8,8,8,8,8,8,8,8,8,8,8,8,8]))) (zD (v8 (x_5))) 0):Nat):Int)))))
def Zap.p2 (N:Nat) (x_3 n_4:Int):Option Int:=
 if (decide (x_3≥256))=true then
  Zap.p3 N (ZaQ .u64 x_3 8) (w64 (n_4+8))
 else
 Zap.p3 N x_3 n_4
def Zap.p1 (N:Nat) (x_1 n_2:Int):Option Int:=
 if (decide (x_1≥65536))=true then
  Zap.p2 N (ZaQ .u64 x_1 16) (w64 (n_2+16))
 else
 Zap.p2 N x_1 n_2
def Zap (N:Nat) (x_0:Int):Option Int:=
 if (decide (x_0≥4294967296))=true then
  Zap.p1 N (ZaQ .u64 x_0 32) 32
 else
 Zap.p1 N x_0 0
def Zap.p3.S (x_5 n_6:Int) (st:LL):S:=mkS 25 [(0,.one (.l (zJ .u64 x_5))),(2,sI n_6)] [] st
def Zap.p2.S (x_3 n_4:Int) (st:LL):S:=mkS 25 [(0,.one (.l (zJ .u64 x_3))),(2,sI n_4)] [] st
def Zap.p1.S (x_1 n_2:Int) (st:LL):S:=mkS 25 [(0,.one (.l (zJ .u64 x_1))),(2,sI n_2)] [] st
theorem Zap.p3_ok {x_5 n_6 st r} (h:Zap.p3 N x_5 n_6=some r) (hE:En Tryz.f148 g0 w0 (Zap.rs r) st R):At g0 w0 (Zap.p3.S x_5 n_6 st) (XK zE R [.c (ZbX Zap.B [1,1,1,1])]):=by
 unfold Zap.p3 at h
 obtain ⟨c4,c5,h1⟩:=ck2 h
 obtain rfl:=Zaa h1
 exact af fol hE [.r []] [] 0 [] (aI c4 c5)
theorem Zap.p2_ok {x_3 n_4 st r} (h:Zap.p2 N x_3 n_4=some r) (hE:En Tryz.f148 g0 w0 (Zap.rs r) st R):At g0 w0 (Zap.p2.S x_3 n_4 st) (XK zE R [.c (ZbX Zap.B [1,1,1])]):=by
 unfold Zap.p2 at h
 refine Zbg h (fun c3 h2=>?_) (fun c3 h3=>?_)
 ·exact aq fol [.r [],.c true,.r [],.r [],.s 1] [0,2] [] (aI c3 (leI 0 8)) (Zap.p3_ok h2 hE)
 ·exact aq fol [.r [],.c false,.s 1] [0,2] [] c3 (Zap.p3_ok h3 hE)
theorem Zap.p1_ok {x_1 n_2 st r} (h:Zap.p1 N x_1 n_2=some r) (hE:En Tryz.f148 g0 w0 (Zap.rs r) st R):At g0 w0 (Zap.p1.S x_1 n_2 st) (XK zE R [.c (ZbX Zap.B [1,1])]):=by
 unfold Zap.p1 at h
 refine Zbg h (fun c2 h4=>?_) (fun c2 h5=>?_)
 ·exact aq fol [.r [],.c true,.r [],.r [],.s 1] [0,2] [] (aI c2 (leI 0 16)) (Zap.p2_ok h4 hE)
 ·exact aq fol [.r [],.c false,.s 1] [0,2] [] c2 (Zap.p2_ok h5 hE)
theorem Zap.snd {x_0:Int} {r:Int} (h:Zap N x_0=some r):Zde zE 148 [.one (zJ .u64 x_0)] (Zap.rs r):=fun st=>
 sO Zap.B Tryz.func148 fun g0 w0 R hE=>by
  unfold Zap at h
  refine Zbg h (fun c1 h6=>?_) (fun c1 h7=>?_)
  ·exact aq fol [.r [],.r [],.c true,.r [],.r [],.s 1] [0,2] [] (aI c1 (leI 0 32)) (Zap.p1_ok h6 hE)
  ·exact aq fol [.r [],.r [],.c false,.s 1] [0,2] [] c1 (Zap.p1_ok h7 hE)
def ZbJ.B:Code:=Tryz.f141.body.getD .skip
def ZbJ.rs (r:Int):List CV:=[oI r]
def ZbJ.p1 (N:Nat) (a_0_0:List Int) (c1_:Int→Option Int):Int→Option Int:=fun i_1=>
 if (decide (i_1≥0))=true then
  chk (0≤i_1)<|
  chk (i_1<4)<|
  if ((zF a_0_0 (zD i_1) 0) != 0)=true then
   Zbv (Zap N (zF a_0_0 (zD i_1) 0)) fun x2=>
   some (w64 ((w64 (64*i_1))+x2))
  else
  c1_ (w64 (i_1-1))
 else
 some 0
def ZbJ (N:Nat) (a_0_0:List Int):Option Int:=
 loopN (ZbJ.p1 N a_0_0) N 3
def ZbJ.p1.S (i_1:Int) (a_0_0:List Int) (st:LL):S:=mkS 19 [(1,sA 1),(3,sI i_1)] [(1,.cells [zL .u64 4 a_0_0])] st
theorem ZbJ.p1_ok {i_1 a_0_0 st r c1_ J1} (h:ZbJ.p1 N a_0_0 c1_ i_1=some r) (hE:En Tryz.f141 g0 w0 (ZbJ.rs r) st R) (hc1 : ∀i_1,c1_ i_1=some r→At g0 w0 (ZbJ.p1.S i_1 a_0_0 st) J1):At g0 w0 (ZbJ.p1.S i_1 a_0_0 st) (XK zE R (.c (ZbX ZbJ.B [1,0,1,0,0]) :: .h J1 :: [.b 0,.c (ZbX ZbJ.B [1,1])])):=by
 unfold ZbJ.p1 at h
 refine Zbg h (fun c1 h1=>?_) (fun c1 h2=>?_)
 ·obtain ⟨c2,c3,h3⟩:=ck2 h1
  refine Zbg h3 (fun c4 h4=>?_) (fun c4 h5=>?_)
  ·obtain ⟨x2,c5,h6⟩:=Zae h4
   obtain rfl:=Zaa h6
   exact af fol hE [.r [],.c true,.r [],.c true,.r [(5,q1 [oI x2])]] [] 0 [] (aN c1 c2 c3 c4 c2 c3 (Zap.snd c5))
  ·exact an fol [.r [],.c true,.r [],.c false,.r []] [1,3] [1] (aK c1 c2 c3 c4) (hc1 (w64 (i_1-1)) h5)
 ·obtain rfl:=Zaa h2
  exact af fol hE [.r [],.c false,.r []] [] 0 [] c1
theorem ZbJ.snd {a_0_0:List Int} {r:Int} (h:ZbJ N a_0_0=some r):Zde zE 141 [.agg [zL .u64 4 a_0_0]] (ZbJ.rs r):=fun st=>
 sO ZbJ.B Tryz.func141 fun g0 w0 R hE=>by
  unfold ZbJ at h
  exact aq fol [.r [],.r []] [1,3] [1] trivial (At.loop N (At.loopN (fun y:Int=>ZbJ.p1.S y a_0_0 st) (fun c J hc y h=>ZbJ.p1_ok h hE (fun i_1=>hc i_1)) N 3 h))
def ZbN.B:Code:=Tryz.f142.body.getD .skip
def ZbN.rs (r:(List Int)×Bool):List CV:=[.agg [zL .u64 4 r.1],oB r.2]
def ZbN.p1 (N:Nat) (b_1_0:List Int) (c1_:(Int×Int×(List Int))→Option ((List Int)×Bool)):(Int×Int×(List Int))→Option ((List Int)×Bool):=fun (c_1,v2,a_5)=>
 if (decide (v2<4))=true then
  chk (0≤v2)<|
  Zbv (ZdO N (zF a_5 (zD v2) 0) (zF b_1_0 (zD v2) 0) c_1) fun (x6,x7)=>
  c1_ (x7,w64 (v2+1),zS a_5 (zD v2) x6)
 else
 some (a_5,c_1 != 0)
def ZbN (N:Nat) (a_0_0 b_1_0:List Int):Option ((List Int)×Bool):=
 loopN (ZbN.p1 N b_1_0) N (0,0,a_0_0)
def ZbN.p1.S (c_1 v2:Int) (a_5 b_1_0:List Int) (st:LL):S:=mkS 28 [(2,sA 2),(3,sA 3),(4,sA 4),(6,.one (.l (zJ .u64 c_1))),(8,sI v2)] [(2,.cells [zL .u64 4 a_5]),(3,.cells [zL .u64 4 b_1_0]),(4,.cells [zL .u64 4 (zC 4 0)])] st
theorem ZbN.p1_ok {c_1 v2 a_5 b_1_0 st r c1_ J1} (h:ZbN.p1 N b_1_0 c1_ (c_1,v2,a_5)=some r) (hE:En Tryz.f142 g0 w0 (ZbN.rs r) st R) (hc1 : ∀c_1 v2 a_5,c1_ (c_1,v2,a_5)=some r→At g0 w0 (ZbN.p1.S c_1 v2 a_5 b_1_0 st) J1):At g0 w0 (ZbN.p1.S c_1 v2 a_5 b_1_0 st) (XK zE R (.c (ZbX ZbN.B [1,1,0,1,0,0]) :: .h J1 :: [.b 0,.c (ZbX ZbN.B [1,1,1])])):=by
 unfold ZbN.p1 at h
 refine Zbg h (fun c4 h1=>?_) (fun c4 h2=>?_)
 ·obtain ⟨c5,h3⟩:=ZaT h1
  obtain ⟨⟨x6,x7⟩,c6,h4⟩:=Zae h3
  exact Zmb fol [.r [],.c true,.r [],.d {ds:=[(8,{rs:=[.one (zJ .u64 x6),.one (zJ .u64 x7)],m:=4})],hv:=8192,Hs:=[8192]},.r []] [2,3,4,6,8] [2,3,4] (aO c4 c5 (oD c4) c5 (oD c4) (ZdO.snd c6) c5 (oD c4)) (hc1 x7 (w64 (v2+1)) (zS a_5 (zD v2) x6) h4)
 ·obtain rfl:=Zaa h2
  exact af fol hE [.r [],.c false,.r []] [] 0 [] c4
theorem ZbN.snd {a_0_0 b_1_0:List Int} {r:(List Int)×Bool} (h:ZbN N a_0_0 b_1_0=some r):Zde zE 142 [.agg [zL .u64 4 a_0_0],.agg [zL .u64 4 b_1_0]] (ZbN.rs r):=fun st=>
 sO ZbN.B Tryz.func142 fun g0 w0 R hE=>by
  unfold ZbN at h
  exact aq fol [.r [],.r [],.r []] [2,3,4,6,8] [2,3,4] trivial (At.loop N (At.loopN (fun y:Int×Int×(List Int)=>ZbN.p1.S y.1 y.2.1 y.2.2 b_1_0 st) (fun c J hc y h=>ZbN.p1_ok (c_1:=y.1) (v2:=y.2.1) (a_5:=y.2.2) h hE (fun c_1 v2 a_5=>hc (c_1,v2,a_5))) N (0,0,a_0_0) h))
def ZaZ.B:Code:=Tryz.f125.body.getD .skip
def ZaZ.rs (r:(List Int)×(List Int)):List CV:=[.agg [zL .u64 4 r.1],.agg [zL .u64 4 r.2]]
def ZaZ.p2 (N:Nat) (c1_:(Int×(List Int)×(List Int))→Option ((List Int)×(List Int))) (i_3:Int) (a_0_0 by_1_0 out_21 rest_20:List Int):Option ((List Int)×(List Int)):=
 c1_ (w64 (i_3-1),out_21,rest_20)
def ZaZ.p1 (N:Nat) (a_0_0 by_1_0:List Int) (c1_:(Int×(List Int)×(List Int))→Option ((List Int)×(List Int))):(Int×(List Int)×(List Int))→Option ((List Int)×(List Int)):=fun (i_3,out_12,rest_13)=>
 if (decide (i_3≥0))=true then
  Zbv (Zbi N rest_13 1) fun x14=>
  chk (0≤(w64 (zU i_3 64)))<|
  chk ((w64 (zU i_3 64))<4)<|
  chk (0≤(yH i_3 64))<|
  if ((ZaQ .u64 (zF rest_13 3 0) 63)==1)=true then
   Zbv (ZbN N (zS x14 0 (Zaz .or .u64 (zF x14 0 0) (Zaz .and .u64 (ZaQ .u64 (zF a_0_0 (zD (w64 (zU i_3 64))) 0) (yH i_3 64)) 1))) by_1_0) fun (x15,x16)=>
   ZaZ.p2 N c1_ i_3 a_0_0 by_1_0 (zS out_12 (zD (w64 (zU i_3 64))) (Zaz .or .u64 (zF out_12 (zD (w64 (zU i_3 64))) 0) (Zbd .u64 1 (yH i_3 64)))) x15
  else
  Zbv (Zck N (zS x14 0 (Zaz .or .u64 (zF x14 0 0) (Zaz .and .u64 (ZaQ .u64 (zF a_0_0 (zD (w64 (zU i_3 64))) 0) (yH i_3 64)) 1))) by_1_0) fun x17=>
  if (!x17)=true then
   Zbv (ZbN N (zS x14 0 (Zaz .or .u64 (zF x14 0 0) (Zaz .and .u64 (ZaQ .u64 (zF a_0_0 (zD (w64 (zU i_3 64))) 0) (yH i_3 64)) 1))) by_1_0) fun (x18,x19)=>
   ZaZ.p2 N c1_ i_3 a_0_0 by_1_0 (zS out_12 (zD (w64 (zU i_3 64))) (Zaz .or .u64 (zF out_12 (zD (w64 (zU i_3 64))) 0) (Zbd .u64 1 (yH i_3 64)))) x18
  else
  ZaZ.p2 N c1_ i_3 a_0_0 by_1_0 out_12 (zS x14 0 (Zaz .or .u64 (zF x14 0 0) (Zaz .and .u64 (ZaQ .u64 (zF a_0_0 (zD (w64 (zU i_3 64))) 0) (yH i_3 64)) 1)))
 else
 some (out_12,rest_13)
def ZaZ (N:Nat) (a_0_0 by_1_0:List Int):Option ((List Int)×(List Int)):=
 Zbv (Zcc N by_1_0) fun x1=>
 if x1=true then
  some (zC 4 0,zC 4 0)
 else
 Zbv (ZbJ N a_0_0) fun x2=>
 loopN (ZaZ.p1 N a_0_0 by_1_0) N (w64 (x2-1),zC 4 0,zC 4 0)
def ZaZ.p2.S (i_3:Int) (a_0_0 by_1_0 out_21 rest_20:List Int) (st:LL):S:=mkS 63 [(2,sA 2),(3,sA 3),(4,sA 4),(5,sA 5),(6,sA 6),(7,sA 7),(8,sI i_3)] [(2,.cells [zL .u64 4 a_0_0]),(3,.cells [zL .u64 4 by_1_0]),(4,.cells [zL .u64 4 (zC 4 0)]),(5,.cells [zL .u64 4 (zC 4 0)]),(6,.cells [zL .u64 4 out_21]),(7,.cells [zL .u64 4 rest_20])] st
def ZaZ.p1.S (i_3:Int) (a_0_0 by_1_0 out_12 rest_13:List Int) (st:LL):S:=mkS 63 [(2,sA 2),(3,sA 3),(4,sA 4),(5,sA 5),(6,sA 6),(7,sA 7),(8,sI i_3)] [(2,.cells [zL .u64 4 a_0_0]),(3,.cells [zL .u64 4 by_1_0]),(4,.cells [zL .u64 4 (zC 4 0)]),(5,.cells [zL .u64 4 (zC 4 0)]),(6,.cells [zL .u64 4 out_12]),(7,.cells [zL .u64 4 rest_13])] st
theorem ZaZ.p2_ok {i_3 a_0_0 by_1_0 out_21 rest_20 st r c1_ J1} (h:ZaZ.p2 N c1_ i_3 a_0_0 by_1_0 out_21 rest_20=some r) (hE:En Tryz.f125 g0 w0 (ZaZ.rs r) st R) (hc1 : ∀i_3 out_12 rest_13,c1_ (i_3,out_12,rest_13)=some r→At g0 w0 (ZaZ.p1.S i_3 a_0_0 by_1_0 out_12 rest_13 st) J1):At g0 w0 (ZaZ.p2.S i_3 a_0_0 by_1_0 out_21 rest_20 st) (XK zE R [.c (ZbX ZaZ.B [1,1,1,0,1,0,0,1,1]),.h J1,.b 0,.c (ZbX ZaZ.B [1,1,1,1])]):=by
 unfold ZaZ.p2 at h
 exact an fol [.r []] [2,3,4,5,6,7,8] [2,3,4,5,6,7] trivial (hc1 (w64 (i_3-1)) out_21 rest_20 h)
theorem ZaZ.p1_ok {i_3 a_0_0 by_1_0 out_12 rest_13 st r c1_ J1} (h:ZaZ.p1 N a_0_0 by_1_0 c1_ (i_3,out_12,rest_13)=some r) (hE:En Tryz.f125 g0 w0 (ZaZ.rs r) st R) (hc1 : ∀i_3 out_12 rest_13,c1_ (i_3,out_12,rest_13)=some r→At g0 w0 (ZaZ.p1.S i_3 a_0_0 by_1_0 out_12 rest_13 st) J1):At g0 w0 (ZaZ.p1.S i_3 a_0_0 by_1_0 out_12 rest_13 st) (XK zE R (.c (ZbX ZaZ.B [1,1,1,0,1,0,0]) :: .h J1 :: [.b 0,.c (ZbX ZaZ.B [1,1,1,1])])):=by
 unfold ZaZ.p1 at h
 refine Zbg h (fun c14 h1=>?_) (fun c14 h2=>?_)
 ·obtain ⟨x14,c15,h3⟩:=Zae h1
  obtain ⟨c16,c17,c18,h4⟩:=ck3 h3
  let o1:List PS:=[.r [],.c true,.r [],.r [(1,q1 [.agg [zL .u64 4 x14]])],.d {ds:=[],hv:=4096,Hs:=[4096]}]
  have t1 {Q:Prop} (q:Q):=aI c14 (ix 3 4 (aJ (leI 0 63) (Zbi.snd c15) (ix 0 4 (aM (neI 64) c16 c17 (neI 64) c18 (ix 0 4 q)))))
  refine Zbg h4 (fun c19 h5=>?_) (fun c19 h6=>?_)
  ·obtain ⟨⟨x15,x16⟩,c20,h7⟩:=Zae h5
   exact aqd fol (o1 ++ [.r [(2,wF),(3,wF),(4,wF),(5,wF)],.c true,.r [(2,q1 [.agg [zL .u64 4 x15],oB x16])],.d {ds:=[],hv:=512,Hs:=[512]},.s 4]) [2,3,4,5,6,7,8] [2,3,4,5,6,7] (t1 (aO c19 c19 c19 c19 c19 eT (ZbN.snd c20) (aN (neI 64) c16 c17 (neI 64) c18 c16 c17))) (ZaZ.p2_ok h7 hE hc1)
  ·obtain ⟨x17,c21,h8⟩:=Zae h6
   let o2:List PS:=o1 ++ [.r [(4,q1 [oB x17]),(6,yF)]]
   have t2 {Q:Prop} (q:Q):=t1 (aN c19 c19 c19 (Zck.snd c21) c19 c19 q)
   refine Zbg h8 (fun c22 h9=>?_) (fun c22 h10=>?_)
   ·obtain ⟨⟨x18,x19⟩,c23,h11⟩:=Zae h9
    exact aqd fol (o2 ++ [.c true,.r [(2,q1 [.agg [zL .u64 4 x18],oB x19])],.d {ds:=[],hv:=512,Hs:=[512]},.s 4]) [2,3,4,5,6,7,8] [2,3,4,5,6,7] (t2 (aO c22 (ZbN.snd c23) (neI 64) c16 c17 (neI 64) c18 (aI c16 c17))) (ZaZ.p2_ok h11 hE hc1)
   ·exact aqd fol (o2 ++ [.c false,.s 4]) [2,3,4,5,6,7,8] [2,3,4,5,6,7] (t2 c22) (ZaZ.p2_ok h10 hE hc1)
 ·obtain rfl:=Zaa h2
  exact afd fol hE [.r [],.c false,.d {ds:=[],hv:=12,Hs:=[4,12]}] [] 0 [] c14
theorem ZaZ.snd {a_0_0 by_1_0:List Int} {r:(List Int)×(List Int)} (h:ZaZ N a_0_0 by_1_0=some r):Zde zE 125 [.agg [zL .u64 4 a_0_0],.agg [zL .u64 4 by_1_0]] (ZaZ.rs r):=fun st=>
 sO ZaZ.B Tryz.func125 fun g0 w0 R hE=>by
  unfold ZaZ at h
  obtain ⟨x1,c1,h12⟩:=Zae h
  let o3:List PS:=[.r [],.r [],.r [(1,q1 [oB x1])]]
  refine Zbg h12 (fun c2 h13=>?_) (fun c2 h14=>?_)
  ·obtain rfl:=Zaa h13
   exact afd fol hE (o3 ++ [.c true,.d {ds:=[],hv:=12,Hs:=[4,12]}]) [] 0 [] (aI (Zcc.snd c1) c2)
  ·obtain ⟨x2,c3,h15⟩:=Zae h14
   exact aq fol (o3 ++ [.c false,.r [(1,q1 [oI x2])]]) [2,3,4,5,6,7,8] [2,3,4,5,6,7] (aJ (Zcc.snd c1) c2 (ZbJ.snd c3)) (At.loop N (At.loopN (fun y:Int×(List Int)×(List Int)=>ZaZ.p1.S y.1 a_0_0 by_1_0 y.2.1 y.2.2 st) (fun c J hc y h=>ZaZ.p1_ok (i_3:=y.1) (out_12:=y.2.1) (rest_13:=y.2.2) h hE (fun i_3 out_12 rest_13=>hc (i_3,out_12,rest_13))) N (w64 (x2-1),zC 4 0,zC 4 0) h15))
def ZcQ.B:Code:=Tryz.f108.body.getD .skip
def ZcQ.rs (r:(List Int)):List CV:=[.agg [zL .u64 4 r]]
def ZcQ (N:Nat):Option (List Int):=
 Zbv (ZbC N (zC 4 0)) fun x1=>
 some x1
theorem ZcQ.snd {r:(List Int)} (h:ZcQ N=some r):Zde zE 108 [] (ZcQ.rs r):=fun st=>
 sO ZcQ.B Tryz.func108 fun g0 w0 R hE=>by
  unfold ZcQ at h
  obtain ⟨x1,c1,h1⟩:=Zae h
  obtain rfl:=Zaa h1
  exact af fol hE [.r [],.r [(1,q1 [.agg [zL .u64 4 x1]])]] [] 0 [] (ZbC.snd c1)
def ZeM.B:Code:=Tryz.f106.body.getD .skip
def ZeM.rs (r:(List Int)):List CV:=[.agg [zL .u64 4 r]]
def ZeM (N:Nat) (target_0_0:List Int):Option (List Int):=
 Zbv (Zcs N 1) fun x1=>
 Zbv (Zbm N target_0_0 x1) fun (x2,x3)=>
 if x3=true then
  some x1
 else
 Zbv (ZbC N target_0_0) fun x4=>
 Zbv (ZaZ N x4 x2) fun (x5,x6)=>
 Zbv (Zbm N x5 x1) fun (x7,x8)=>
 if x8=true then
  Zbv (ZcQ N ) fun x9=>
  some x9
 else
 some x7
theorem ZeM.snd {target_0_0:List Int} {r:(List Int)} (h:ZeM N target_0_0=some r):Zde zE 106 [.agg [zL .u64 4 target_0_0]] (ZeM.rs r):=fun st=>
 sO ZeM.B Tryz.func106 fun g0 w0 R hE=>by
  unfold ZeM at h
  obtain ⟨x1,c1,h1⟩:=Zae h
  obtain ⟨⟨x2,x3⟩,c2,h2⟩:=Zae h1
  let o1:List PS:=[.r [],.d {ds:=[(1,q1 [.agg [zL .u64 4 x1]]),(2,q1 [.agg [zL .u64 4 x2],oB x3])],hv:=192,Hs:=[64,192]},.r []]
  have t1 {Q:Prop} (q:Q):=aL (Zcs.snd c1) (Zcs.snd c1) (Zbm.snd c2) (Zbm.snd c2) q
  refine Zbg h2 (fun c3 h3=>?_) (fun c3 h4=>?_)
  ·obtain rfl:=Zaa h3
   exact afd fol hE (o1 ++ [.c true,.r [(0,q1 [.agg [zL .u64 4 x1]])]]) [] 0 [] (t1 (aI c3 (Zcs.snd c1)))
  ·obtain ⟨x4,c4,h5⟩:=Zae h4
   obtain ⟨⟨x5,x6⟩,c5,h6⟩:=Zae h5
   obtain ⟨⟨x7,x8⟩,c6,h7⟩:=Zae h6
   let o2:List PS:=o1 ++ [.c false,.d {ds:=[(1,q1 [.agg [zL .u64 4 x4]]),(3,q1 [.agg [zL .u64 4 x5],.agg [zL .u64 4 x6]])],hv:=1920,Hs:=[128,256,384,896,1920]},.d {ds:=[(1,q1 [.agg [zL .u64 4 x1]]),(2,q1 [.agg [zL .u64 4 x7],oB x8])],hv:=192,Hs:=[64,192]},.r []]
   have t2 {Q:Prop} (q:Q):=t1 (aO c3 (ZbC.snd c4) (ZbC.snd c4) (ZbC.snd c4) (ZbC.snd c4) (ZaZ.snd c5) (ZaZ.snd c5) (aN (ZaZ.snd c5) (ZaZ.snd c5) (Zcs.snd c1) (Zcs.snd c1) (Zbm.snd c6) (Zbm.snd c6) q))
   refine Zbg h7 (fun c7 h8=>?_) (fun c7 h9=>?_)
   ·obtain ⟨x9,c8,h10⟩:=Zae h8
    obtain rfl:=Zaa h10
    exact afd fol hE (o2 ++ [.c true,.r [(0,q1 [.agg [zL .u64 4 x9]])]]) [] 0 [] (t2 (aI c7 (ZcQ.snd c8)))
   ·obtain rfl:=Zaa h9
    exact afd fol hE (o2 ++ [.c false,.r []]) [] 0 [] (t2 c7)
def ZcL.B:Code:=Tryz.f79.body.getD .skip
def ZcL.rs (r:(List Int)):List CV:=[.agg [zL .u64 4 r]]
def ZcL (N:Nat) (bits_0:Int):Option (List Int):=
 Zbv (Zax N bits_0) fun (x1,x2,x3)=>
 if x2=true then
  some (zC 4 0)
 else
 if x3=true then
  some (zC 4 0)
 else
 Zbv (Zcc N x1) fun x4=>
 if x4=true then
  some (zC 4 0)
 else
 Zbv (ZeM N x1) fun x5=>
 some x5
theorem ZcL.snd {bits_0:Int} {r:(List Int)} (h:ZcL N bits_0=some r):Zde zE 79 [oI bits_0] (ZcL.rs r):=fun st=>
 sO ZcL.B Tryz.func79 fun g0 w0 R hE=>by
  unfold ZcL at h
  obtain ⟨⟨x1,x2,x3⟩,c1,h1⟩:=Zae h
  let o1:List PS:=[.r [],.r [(1,q1 [.agg [zL .u64 4 x1],oB x2,oB x3])]]
  have t1 {Q:Prop} (q:Q):=aI (Zax.snd c1) q
  refine Zbg h1 (fun c2 h2=>?_) (fun c2 h3=>?_)
  ·obtain rfl:=Zaa h2
   exact af fol hE (o1 ++ [.r [(2,wF),(5,wF),(6,wF)],.c true,.r []]) [] 0 [] (t1 (aM c2 c2 eT eT eT eT))
  ·refine Zbg h3 (fun c3 h4=>?_) (fun c3 h5=>?_)
   ·obtain rfl:=Zaa h4
    exact af fol hE (o1 ++ [.r [(3,yF),(5,wF),(6,wF)],.c true,.r []]) [] 0 [] (t1 (aM c2 c2 c3 c3 c3 eT))
   ·obtain ⟨x4,c4,h6⟩:=Zae h5
    let o2:List PS:=o1 ++ [.r [(3,yF),(6,q1 [oB x4]),(7,yF)]]
    refine Zbg h6 (fun c5 h7=>?_) (fun c5 h8=>?_)
    ·obtain rfl:=Zaa h7
     exact af fol hE (o2 ++ [.c true,.r []]) [] 0 [] (t1 (aN c2 c2 c3 c3 (Zcc.snd c4) c3 c5))
    ·obtain ⟨x5,c6,h9⟩:=Zae h8
     obtain rfl:=Zaa h9
     exact af fol hE (o2 ++ [.c false,.r [(1,q1 [.agg [zL .u64 4 x5]])]]) [] 0 [] (t1 (aO c2 c2 c3 c3 (Zcc.snd c4) c3 c5 (ZeM.snd c6)))
def ZbI.B:Code:=Tryz.f107.body.getD .skip
def ZbI.rs (r:(List Int)×Bool):List CV:=[.agg [zL .u64 4 r.1],oB r.2]
def ZbI.p1 (N:Nat) (list_0:LL) (c1_:(Bool×Int×(List Int))→Option ((List Int)×Bool)):(Bool×Int×(List Int))→Option ((List Int)×Bool):=fun (over_1,v2,out_6)=>
 if (decide (v2<(len list_0)))=true then
  chk (0≤v2)<|
  ZcJ (list_0[zD v2]?) Zhw fun x7=>
  Zbv (Zbm N out_6 x7) fun (x8,x9)=>
  if over_1=true then
   c1_ (true,w64 (v2+1),x8)
  else
  c1_ (x9,w64 (v2+1),x8)
 else
 some (out_6,over_1)
def ZbI (N:Nat) (list_0:LL):Option ((List Int)×Bool):=
 loopN (ZbI.p1 N list_0) N (false,0,zC 4 0)
def ZbI.p1.S (over_1:Bool) (list_0:LL) (v2:Int) (out_6:List Int) (st:LL):S:=mkS 28 [(2,sA 2),(4,sA 4),(5,.one (.l (wX over_1))),(9,sV 4 list_0),(10,sI (len list_0)),(11,sI v2)] [(2,.cells [zL .u64 4 (zC 4 0)]),(4,.cells [zL .u64 4 out_6])] st
theorem ZbI.p1_ok {over_1 list_0 v2 out_6 st r c1_ J1} (h:ZbI.p1 N list_0 c1_ (over_1,v2,out_6)=some r) (hE:En Tryz.f107 g0 w0 (ZbI.rs r) st R) (hc1 : ∀over_1 v2 out_6,c1_ (over_1,v2,out_6)=some r→At g0 w0 (ZbI.p1.S over_1 list_0 v2 out_6 st) J1):At g0 w0 (ZbI.p1.S over_1 list_0 v2 out_6 st) (XK zE R (.c (ZbX ZbI.B [1,1,1,0,1,0,0]) :: .h J1 :: [.b 0,.c (ZbX ZbI.B [1,1,1,1])])):=by
 unfold ZbI.p1 at h
 refine Zbg h (fun c6 h1=>?_) (fun c6 h2=>?_)
 ·obtain ⟨c7,h3⟩:=ZaT h1
  obtain ⟨x7,c8,h4⟩:=ZkH h3
  obtain ⟨⟨x8,x9⟩,c9,h5⟩:=Zae h4
  let o1:List PS:=[.r [],.c true,.r [(1,{oe:=[zL .u64 4 x7]})],.r [],.r [(2,q1 [.agg [zL .u64 4 x8],oB x9])]]
  refine Zbg h5 (fun c10 h6=>?_) (fun c10 h7=>?_)
  ·exact an fol (o1 ++ [.r [(2,wF)],.r []]) [2,4,5,9,10,11] [2,4] (aN c6 c7 (oD c6) c8 (Zbm.snd c9) c10 c10) (hc1 true (w64 (v2+1)) x8 h6)
  ·exact an fol (o1 ++ [.r [(3,yF)],.r []]) [2,4,5,9,10,11] [2,4] (aN c6 c7 (oD c6) c8 (Zbm.snd c9) c10 c10) (hc1 x9 (w64 (v2+1)) x8 h7)
 ·obtain rfl:=Zaa h2
  exact af fol hE [.r [],.c false,.r []] [] 0 [] c6
theorem ZbI.snd {list_0:LL} {r:(List Int)×Bool} (h:ZbI N list_0=some r):Zde zE 107 [.one (vG 4 list_0)] (ZbI.rs r):=fun st=>
 sO ZbI.B Tryz.func107 fun g0 w0 R hE=>by
  unfold ZbI at h
  exact aq fol [.r [],.r [],.r [],.r []] [2,4,5,9,10,11] [2,4] trivial (At.loop N (At.loopN (fun y:Bool×Int×(List Int)=>ZbI.p1.S y.1 list_0 y.2.1 y.2.2 st) (fun c J hc y h=>ZbI.p1_ok (over_1:=y.1) (v2:=y.2.1) (out_6:=y.2.2) h hE (fun over_1 v2 out_6=>hc (over_1,v2,out_6))) N (false,0,zC 4 0) h))
def ZdZ.B:Code:=Tryz.f80.body.getD .skip
def ZdZ.rs (r:(List Int)):List CV:=[.agg [zL .u64 4 r]]
def ZdZ (N:Nat) (list_0:LL):Option (List Int):=
 Zbv (ZbI N list_0) fun (x1,x2)=>
 if x2=true then
  Zbv (ZcQ N ) fun x3=>
  some x3
 else
 some x1
theorem ZdZ.snd {list_0:LL} {r:(List Int)} (h:ZdZ N list_0=some r):Zde zE 80 [.one (vG 4 list_0)] (ZdZ.rs r):=fun st=>
 sO ZdZ.B Tryz.func80 fun g0 w0 R hE=>by
  unfold ZdZ at h
  obtain ⟨⟨x1,x2⟩,c1,h1⟩:=Zae h
  let o1:List PS:=[.r [],.r [(1,q1 [.agg [zL .u64 4 x1],oB x2])],.r []]
  refine Zbg h1 (fun c2 h2=>?_) (fun c2 h3=>?_)
  ·obtain ⟨x3,c3,h4⟩:=Zae h2
   obtain rfl:=Zaa h4
   exact af fol hE (o1 ++ [.c true,.r [(0,q1 [.agg [zL .u64 4 x3]])]]) [] 0 [] (aJ (ZbI.snd c1) c2 (ZcQ.snd c3))
  ·obtain rfl:=Zaa h3
   exact af fol hE (o1 ++ [.c false,.r []]) [] 0 [] (aI (ZbI.snd c1) c2)
def ZaH.B:Code:=Tryz.f50.body.getD .skip
def ZaH.rs (r:Int×LL):List CV:=[oI r.1]
def ZaH.p1 (N:Nat) (a_7:Option Nat) (behind_3:ZaE) (e_6:Zbu) (st:LL):Option (Int×LL):=
 Zbv a_7 fun i8=>
 ZcJ (st[i8]?) Zbc fun x9=>
 chk (zH (x9.list ++ [e_6.ls])*176≤140737488355328)<|
 chk (zH (x9.spots ++ [behind_3.ls])*96≤140737488355328)<|
 optM (ZeW x9.places (zL .u8 32 e_6.Id)) (fun j10 e=>ZcN [e] fun x11=>
  some (w64 ((len (x9.list ++ [e_6.ls]))-1),zS (zS (zS (zS (zS st i8 (gs x9.lo 15)) i8 (gs (gs x9.lo 15) 16)) i8 (gs (Zas.lo {x9 with list:=x9.list ++ [e_6.ls]}) 16)) i8 (Zas.lo {x9 with list:=x9.list ++ [e_6.ls],spots:=x9.spots ++ [behind_3.ls]})) i8 (Zas.lo (Zas.mk x9.rules (x9.list ++ [e_6.ls]) (x9.spots ++ [behind_3.ls]) (zS x9.places j10 (zL .u8 32 e_6.Id,zJ .i64 (w64 ((len (x9.list ++ [e_6.ls]))-1)))) x9.room))))
 (
  some (w64 ((len (x9.list ++ [e_6.ls]))-1),zS (zS (zS (zS (zS st i8 (gs x9.lo 15)) i8 (gs (gs x9.lo 15) 16)) i8 (gs (Zas.lo {x9 with list:=x9.list ++ [e_6.ls]}) 16)) i8 (Zas.lo {x9 with list:=x9.list ++ [e_6.ls],spots:=x9.spots ++ [behind_3.ls]})) i8 (Zas.lo (Zas.mk x9.rules (x9.list ++ [e_6.ls]) (x9.spots ++ [behind_3.ls]) (x9.places ++ [(zL .u8 32 e_6.Id,zJ .i64 (w64 ((len (x9.list ++ [e_6.ls]))-1)))]) x9.room))))
def ZaH (N:Nat) (a_0:Option Nat) (h_1:Zan) (ahead_2:Int) (behind_3:ZaE) (st:LL):Option (Int×LL):=
 Zbv (ZcL N h_1.Bits) fun x1=>
 if (ahead_2 != (-1))=true then
  Zbv a_0 fun i2=>
  ZcJ (st[i2]?) Zbc fun x3=>
  chk (0≤ahead_2)<|
  chk (ahead_2<(len x3.list))<|
  ZcJ (x3.list[0+(zD ahead_2)]?) ZcX fun x4=>
  Zbv (ZdZ N [[zL .u64 4 x4.Work],[zL .u64 4 x1]]) fun x5=>
  ZaH.p1 N (some i2) behind_3 (Zbu.mk h_1 behind_3.Prev ahead_2 (w64 (x4.Height+1)) x5) st
 else
 ZaH.p1 N a_0 behind_3 (Zbu.mk h_1 behind_3.Prev ahead_2 0 x1) st
def ZaH.p1.S (a_7:Option Nat) (behind_3:ZaE) (e_6:Zbu) (st:LL):S:=mkS 81 [(0,sP a_7),(7,sA 7),(9,sA 9)] [(7,.cells behind_3.ls),(9,.cells e_6.ls)] st
theorem ZaH.p1_ok {a_7 behind_3 e_6 st r} (h:ZaH.p1 N a_7 behind_3 e_6 st=some r) (hE:En Tryz.f50 g0 w0 (ZaH.rs r) r.2 R):At g0 w0 (ZaH.p1.S a_7 behind_3 e_6 st) (XK zE R [.c (ZbX ZaH.B [1,1,1])]):=by
 unfold ZaH.p1 at h
 obtain ⟨i8,rfl,h1⟩:=Zae h
 obtain ⟨x9,c10,h2⟩:=ZaX h1
 obtain ⟨c11,c12,h3⟩:=ck2 h2
 let o1:List PS:=[.d {ds:=[(5,{oc:=x9.lo}),(8,{oe:=x9.lo}),(12,{oc:=gs x9.lo 15}),(15,{oe:=gs x9.lo 15}),(18,{oc:=gs (gs x9.lo 15) 16,mv:=[51]}),(21,{oc:=gs (Zas.lo {x9 with list:=x9.list ++ [e_6.ls]}) 16,mv:=[58]})],hv:=2408832,Hs:=[128,384,16384,16512,16768,49536,311680,2408832],dh:=[(12,0,{oc:=x9.lo}),(12,128,{oc:=x9.lo}),(12,16384,{oc:=x9.lo}),(12,16512,{oc:=x9.lo})]}]
 have t1 {Q:Prop} (q:Q):=aO c10 c10 c10 c10 z0 (eN (zH x9.list)) c10 (aO z0 (eN (1)) c11 z0 (eN (zH x9.list)) c10 z0 (aO (eN (1)) c11 c10 c10 (ZaM c10 (gs x9.lo 15)) c10 c10 (aO (ZaM c10 (gs x9.lo 15)) z0 (eN (zH x9.spots)) (ZaM c10 (gs x9.lo 15)) z0 (eN (1)) c12 (aO (ZaM (ZaM c10 (gs x9.lo 15)) (gs (gs x9.lo 15) 16)) z0 (eN (zH (x9.list ++ [e_6.ls]))) (ZaM (ZaM (ZaM c10 (gs x9.lo 15)) (gs (gs x9.lo 15) 16)) (gs (Zas.lo {x9 with list:=x9.list ++ [e_6.ls]}) 16)) z0 (eN (zH (x9.spots ++ [behind_3.ls]))) (ZaM (ZaM (ZaM (ZaM c10 (gs x9.lo 15)) (gs (gs x9.lo 15) 16)) (gs (Zas.lo {x9 with list:=x9.list ++ [e_6.ls]}) 16)) (Zas.lo {x9 with list:=x9.list ++ [e_6.ls],spots:=x9.spots ++ [behind_3.ls]})) (aI (ZaM (ZaM (ZaM (ZaM c10 (gs x9.lo 15)) (gs (gs x9.lo 15) 16)) (gs (Zas.lo {x9 with list:=x9.list ++ [e_6.ls]}) 16)) (Zas.lo {x9 with list:=x9.list ++ [e_6.ls],spots:=x9.spots ++ [behind_3.ls]})) q)))))
 rcases Zhg h3 with ⟨j10,h7,c13,h4⟩ | ⟨c13,h5⟩
 ·obtain ⟨x11,h8,h6⟩:=ZgO h4
  obtain rfl:=Zfk h8
  obtain rfl:=Zaa h6
  exact afd fol hE (o1 ++ [.d {ds:=[(3,{oc:=Zas.lo {x9 with list:=x9.list ++ [e_6.ls],spots:=x9.spots ++ [behind_3.ls]}}),(9,{oc:=Zas.lo {x9 with list:=x9.list ++ [e_6.ls],spots:=x9.spots ++ [behind_3.ls]}}),(12,{oc:=Zas.lo {x9 with list:=x9.list ++ [e_6.ls],spots:=x9.spots ++ [behind_3.ls]},m:=j10})],hv:=4096,Hs:=[4096]},.r [(3,{oc:=Zas.lo (Zas.mk x9.rules (x9.list ++ [e_6.ls]) (x9.spots ++ [behind_3.ls]) (zS x9.places j10 (zL .u8 32 e_6.Id,zJ .i64 (w64 ((len (x9.list ++ [e_6.ls]))-1)))) x9.room)})]]) [] 0 [] (t1 (aJ (ex_at c13) (ZaM (ZaM (ZaM (ZaM c10 (gs x9.lo 15)) (gs (gs x9.lo 15) 16)) (gs (Zas.lo {x9 with list:=x9.list ++ [e_6.ls]}) 16)) (Zas.lo {x9 with list:=x9.list ++ [e_6.ls],spots:=x9.spots ++ [behind_3.ls]})) (ZaM (ZaM (ZaM (ZaM (ZaM c10 (gs x9.lo 15)) (gs (gs x9.lo 15) 16)) (gs (Zas.lo {x9 with list:=x9.list ++ [e_6.ls]}) 16)) (Zas.lo {x9 with list:=x9.list ++ [e_6.ls],spots:=x9.spots ++ [behind_3.ls]})) (Zas.lo (Zas.mk x9.rules (x9.list ++ [e_6.ls]) (x9.spots ++ [behind_3.ls]) (zS x9.places j10 (zL .u8 32 e_6.Id,zJ .i64 (w64 ((len (x9.list ++ [e_6.ls]))-1)))) x9.room)))))
 ·obtain rfl:=Zaa h5
  exact afd fol hE (o1 ++ [.d {ds:=[(3,{oc:=Zas.lo {x9 with list:=x9.list ++ [e_6.ls],spots:=x9.spots ++ [behind_3.ls]}}),(9,{oc:=Zas.lo {x9 with list:=x9.list ++ [e_6.ls],spots:=x9.spots ++ [behind_3.ls]}}),(12,{oc:=Zas.lo {x9 with list:=x9.list ++ [e_6.ls],spots:=x9.spots ++ [behind_3.ls]},yes:=false})],hv:=4096,Hs:=[4096]},.r [(3,{oc:=Zas.lo (Zas.mk x9.rules (x9.list ++ [e_6.ls]) (x9.spots ++ [behind_3.ls]) (x9.places ++ [(zL .u8 32 e_6.Id,zJ .i64 (w64 ((len (x9.list ++ [e_6.ls]))-1)))]) x9.room)})]]) [] 0 [] (t1 (aJ c13 (ZaM (ZaM (ZaM (ZaM c10 (gs x9.lo 15)) (gs (gs x9.lo 15) 16)) (gs (Zas.lo {x9 with list:=x9.list ++ [e_6.ls]}) 16)) (Zas.lo {x9 with list:=x9.list ++ [e_6.ls],spots:=x9.spots ++ [behind_3.ls]})) (ZaM (ZaM (ZaM (ZaM (ZaM c10 (gs x9.lo 15)) (gs (gs x9.lo 15) 16)) (gs (Zas.lo {x9 with list:=x9.list ++ [e_6.ls]}) 16)) (Zas.lo {x9 with list:=x9.list ++ [e_6.ls],spots:=x9.spots ++ [behind_3.ls]})) (Zas.lo (Zas.mk x9.rules (x9.list ++ [e_6.ls]) (x9.spots ++ [behind_3.ls]) (x9.places ++ [(zL .u8 32 e_6.Id,zJ .i64 (w64 ((len (x9.list ++ [e_6.ls]))-1)))]) x9.room)))))
theorem ZaH.snd {a_0:Option Nat} {h_1:Zan} {ahead_2:Int} {behind_3:ZaE} {st:LL} {r:Int×LL} (h:ZaH N a_0 h_1 ahead_2 behind_3 st=some r):Snd zE 50 [.one (yO a_0),.agg h_1.ls,oI ahead_2,.agg behind_3.ls] st (ZaH.rs r) r.2:=
 sO ZaH.B Tryz.func50 fun g0 w0 R hE=>by
  unfold ZaH at h
  obtain ⟨x1,c1,h9⟩:=Zae h
  let o2:List PS:=[.r [],.d {ds:=[(6,q1 [.agg [zL .u64 4 x1]])],hv:=768,Hs:=[256,768]},.r []]
  have t2 {Q:Prop} (q:Q):=aJ (ZcL.snd c1) (ZcL.snd c1) q
  refine Zbg h9 (fun c2 h10=>?_) (fun c2 h11=>?_)
  ·obtain ⟨i2,rfl,h12⟩:=Zae h10
   obtain ⟨x3,c4,h13⟩:=ZaX h12
   obtain ⟨c5,c6,h14⟩:=ck2 h13
   obtain ⟨x4,c7,h15⟩:=Zdn h14
   obtain ⟨x5,c8,h16⟩:=Zae h15
   exact aqd fol (o2 ++ [.c true,.r [(3,{oc:=x3.lo}),(7,{oc:=x3.lo,oe:=x4.ls})],.d {ds:=[(3,{oc:=x3.lo}),(7,{oc:=x3.lo,oe:=x4.ls}),(11,{rs:=[.agg [zL .u64 4 x5]],m:=2})],hv:=9216,Hs:=[1024,9216]},.s 1]) [0,7,9] [7,9] (t2 (aO c2 c4 c5 c6 c7 c4 c4 (aN c5 c6 c7 c4 z0 (eN (2)) (ZdZ.snd c8)))) (ZaH.p1_ok h16 hE)
  ·exact aqd fol (o2 ++ [.c false,.s 1]) [0,7,9] [7,9] (t2 c2) (ZaH.p1_ok h11 hE)
def Zdp.B:Code:=Tryz.f25.body.getD .skip
def Zdp.rs (r:(Option Nat)×Int×LL):List CV:=[.one (yO r.1),oI r.2.1]
def Zdp (N:Nat) (p_0:Zaj) (room_1:Int) (st:LL):Option ((Option Nat)×Int×LL):=
 Zbv (Zbj N p_0) fun x1=>
 if (!x1)=true then
  some (none,1,st)
 else
 chk (zH ([]++p_0.Gates)*16≤140737488355328)<|
 chk (zH ([]++p_0.Checks)*40≤140737488355328)<|
 Zbv (Zej N {p_0 with Gates:=[]++p_0.Gates,Checks:=[]++p_0.Checks}) fun x2=>
 Zbv (ZaH N (some (zH st)) p_0.Genesis (-1) x2 (st ++ [Zas.lo (Zas.mk {p_0 with Gates:=[]++p_0.Gates,Checks:=[]++p_0.Checks} [] [] [] (if (512:Int)<(if (1:Int)>room_1 then 1 else room_1) then 512 else (if (1:Int)>room_1 then 1 else room_1)))])) fun (x3,st4)=>
 some ((some (zH st)),0,st4)
theorem Zdp.snd {p_0:Zaj} {room_1:Int} {st:LL} {r:(Option Nat)×Int×LL} (h:Zdp N p_0 room_1 st=some r):Snd zE 25 [.agg p_0.ls,oI room_1] st (Zdp.rs r) r.2.2:=
 sO Zdp.B Tryz.func25 fun g0 w0 R hE=>by
  unfold Zdp at h
  obtain ⟨x1,c1,h1⟩:=Zae h
  let o1:List PS:=[.r [],.r [(1,q1 [oB x1])]]
  refine Zbg h1 (fun c2 h2=>?_) (fun c2 h3=>?_)
  ·obtain rfl:=Zaa h2
   exact af fol hE (o1 ++ [.c true,.r []]) [] 0 [] (aI (Zbj.snd c1) c2)
  ·obtain ⟨c3,c4,h4⟩:=ck2 h3
   obtain ⟨x2,c5,h5⟩:=Zae h4
   obtain ⟨⟨x3,st4⟩,c6,h6⟩:=Zae h5
   obtain rfl:=Zaa h6
   exact afd fol hE (o1 ++ [.c false,.d {ds:=[(7,{fz:=[12]}),(9,{fz:=[15]})],hv:=676,Hs:=[4,36,164,676]},.r [(5,{ns:=[15,16]}),(6,{m:=1})],.d {ds:=[(4,q1 [.agg x2.ls]),(5,{rs:=[oI x3],st:=st4})],hv:=32,Hs:=[32]},.r []]) [] 0 [] (aO (Zbj.snd c1) c2 c3 c4 z0 (eN (zH ([]++p_0.Gates))) z0 (aJ (eN (zH ([]++p_0.Checks))) (Zej.snd c5) (ZaH.snd c6)))
def ZdJ.B:Code:=Tryz.f8.body.getD .skip
def ZdJ.rs (r:(Option Nat)×Int×LL):List CV:=[.one (yO r.1),oI r.2.1]
def ZdJ (N:Nat) (p_0:Zaj) (room_1:Int) (st:LL):Option ((Option Nat)×Int×LL):=
 Zbv (Zdp N p_0 room_1 st) fun (x1,x2,st3)=>
 if (x2 != 0)=true then
  some (none,x2,st3)
 else
 some ((some (zH st3)),0,st3 ++ [[yO x1,yP true 1 [[zJ .i64 (-1)]]]])
theorem ZdJ.snd {p_0:Zaj} {room_1:Int} {st:LL} {r:(Option Nat)×Int×LL} (h:ZdJ N p_0 room_1 st=some r):Snd zE 8 [.agg p_0.ls,oI room_1] st (ZdJ.rs r) r.2.2:=
 sO ZdJ.B Tryz.func8 fun g0 w0 R hE=>by
  unfold ZdJ at h
  obtain ⟨⟨x1,x2,st3⟩,c1,h1⟩:=Zae h
  let o1:List PS:=[.r [],.r [(2,{rs:=[.one (yO x1),oI x2],st:=st3})],.r []]
  refine Zbg h1 (fun c2 h2=>?_) (fun c2 h3=>?_)
  ·obtain rfl:=Zaa h2
   exact af fol hE (o1 ++ [.c true,.r []]) [] 0 [] (aI (Zdp.snd c1) c2)
  ·obtain rfl:=Zaa h3
   exact af fol hE (o1 ++ [.c false,.r [(2,{ns:=[1]}),(3,{m:=1,mv:=[18]})]]) [] 0 [] (aK (Zdp.snd c1) c2 z0 (eN (1)))
def Zdx.B:Code:=Tryz.f10.body.getD .skip
def Zdx.rs (r:(Option Nat)×LL):List CV:=[.one (yO r.1)]
def Zdx (N:Nat) (t_0:Option Nat) (st:LL):Option ((Option Nat)×LL):=
 some ((some (zH st)),st ++ [[yO t_0,yP true 1 []]])
theorem Zdx.snd {t_0:Option Nat} {st:LL} {r:(Option Nat)×LL} (h:Zdx N t_0 st=some r):Snd zE 10 [.one (yO t_0)] st (Zdx.rs r) r.2:=
 sO Zdx.B Tryz.func10 fun g0 w0 R hE=>by
  unfold Zdx at h
  obtain rfl:=Zaa h
  exact af fol hE [.r [],.r [(1,{ns:=[1]}),(2,{m:=1})]] [] 0 [] trivial
def ZbU.B:Code:=Tryz.f38.body.getD .skip
def ZbU.rs (r:Int):List CV:=[oI r]
def ZbU (N:Nat) (a_0:Zas):Option Int:=
 some (len a_0.list)
theorem ZbU.snd {a_0:Zas} {r:Int} (h:ZbU N a_0=some r):Zde zE 38 [.one (vI 87 a_0.ls)] (ZbU.rs r):=fun st=>
 sO ZbU.B Tryz.func38 fun g0 w0 R hE=>by
  unfold ZbU at h
  obtain rfl:=Zaa h
  exact af fol hE [.r [],.r [],.c false,.r [(3,{oe:=a_0.ls})]] [] 0 [] (aI eF (eO a_0.ls))
def Zct.B:Code:=Tryz.f17.body.getD .skip
def Zct.rs (r:Int×LL):List CV:=[oI r.1]
def Zct (N:Nat) (t_0:Option Nat) (st:LL):Option (Int×LL):=
 if (wE t_0)=true then
  some (0,st)
 else
 Zbv t_0 fun i1=>
 ZcJ (st[i1]?) Zbn fun x2 x3=>
 Zbv x2 fun i4=>
 ZcJ (st[i4]?) Zbc fun x5=>
 Zbv (ZbU N x5) fun x6=>
 some (x6,st)
theorem Zct.snd {t_0:Option Nat} {st:LL} {r:Int×LL} (h:Zct N t_0 st=some r):Snd zE 17 [.one (yO t_0)] st (Zct.rs r) r.2:=
 sO Zct.B Tryz.func17 fun g0 w0 R hE=>by
  unfold Zct at h
  refine Zbg h (fun c1 h1=>?_) (fun c1 h2=>?_)
  ·obtain rfl:=Zaa h1
   exact af fol hE [.r [],.r [],.c true,.r []] [] 0 [] c1
  ·obtain ⟨i1,rfl,h3⟩:=Zae h2
   obtain ⟨x2,x3,c3,h4⟩:=Zba h3
   obtain ⟨i4,rfl,h5⟩:=Zae h4
   obtain ⟨x5,c5,h6⟩:=ZaX h5
   obtain ⟨x6,c6,h7⟩:=Zae h6
   obtain rfl:=Zaa h7
   exact af fol hE [.r [],.r [],.c false,.r [(3,{oc:=[yO (some i4),yP true 1 x3]}),(4,{rs:=[oI x6],m:=10,cv:=[.one (vI 87 x5.ls)]})]] [] 0 [] (aK c1 c3 (bO 87 c5 (Zas.bv x5)) (ZbU.snd c6))
def Zch.B:Code:=Tryz.f30.body.getD .skip
def Zch.rs (r:Bool×LL):List CV:=[oB r.1]
def Zch (N:Nat) (s_0:Option Nat) (at_1:Int) (st:LL):Option (Bool×LL):=
 if (!(wE s_0))=true then
  if (decide (at_1≥0))=true then
   Zbv s_0 fun i1=>
   ZcJ (st[i1]?) Zbn fun x2 x3=>
   Zbv (Zct N x2 st) fun (x4,st5)=>
   some (decide (at_1<x4),st5)
  else
  some (false,st)
 else
 some (false,st)
theorem Zch.snd {s_0:Option Nat} {at_1:Int} {st:LL} {r:Bool×LL} (h:Zch N s_0 at_1 st=some r):Snd zE 30 [.one (yO s_0),oI at_1] st (Zch.rs r) r.2:=
 sO Zch.B Tryz.func30 fun g0 w0 R hE=>by
  unfold Zch at h
  refine Zbg h (fun c1 h1=>?_) (fun c1 h2=>?_)
  ·refine Zbg h1 (fun c2 h3=>?_) (fun c2 h4=>?_)
   ·obtain ⟨i1,rfl,h5⟩:=Zae h3
    obtain ⟨x2,x3,c4,h6⟩:=Zba h5
    obtain ⟨⟨x4,st5⟩,c5,h7⟩:=Zae h6
    obtain rfl:=Zaa h7
    exact af fol hE [.r [],.r [(11,{oc:=[yO x2,yP true 1 x3]}),(12,{rs:=[oI x4],st:=st5})]] [] 0 [] (aO eT eT eT c2 c2 c2 c2 (aM c2 c4 c2 (Zct.snd c5) c2 c2))
   ·obtain rfl:=Zaa h4
    exact af fol hE [.r [],.r [(7,wF),(8,wF),(9,wF),(10,wF),(11,wF),(12,wF),(13,wF),(14,yF)]] [] 0 [] (aO c1 c1 c1 c2 c2 c2 c2 (aK c2 c2 c2 c2))
  ·obtain rfl:=Zaa h2
   exact af fol hE [.r [],.r [(3,wF),(4,wF),(5,yF),(7,wF),(8,wF),(9,wF),(10,wF),(11,wF),(12,wF),(13,wF),(14,yF)]] [] 0 [] (aO c1 c1 c1 eF eF eF eF (aK eF eF eF eF))
def Zbe.B:Code:=Tryz.f56.body.getD .skip
def Zbe.rs (r:Bool):List CV:=[oB r]
def Zbe (N:Nat) (a_0:Zas) (at_1:Int):Option Bool:=
 if (decide (at_1≥0))=true then
  some (decide (at_1<(len a_0.list)))
 else
 some false
theorem Zbe.snd {a_0:Zas} {at_1:Int} {r:Bool} (h:Zbe N a_0 at_1=some r):Zde zE 56 [.one (vI 87 a_0.ls),oI at_1] (Zbe.rs r):=fun st=>
 sO Zbe.B Tryz.func56 fun g0 w0 R hE=>by
  unfold Zbe at h
  refine Zbg h (fun c1 h1=>?_) (fun c1 h2=>?_)
  ·obtain rfl:=Zaa h1
   exact af fol hE [.r [],.r [(11,{oe:=a_0.ls})]] [] 0 [] (aO eT eT eT c1 c1 c1 c1 (aL c1 (eO a_0.ls) c1 c1 c1))
  ·obtain rfl:=Zaa h2
   exact af fol hE [.r [],.r [(7,wF),(8,wF),(9,wF),(10,wF),(11,wF),(12,wF),(13,wF),(14,yF)]] [] 0 [] (aO eT eT eT c1 c1 c1 c1 (aK c1 c1 c1 c1))
def ZbH.B:Code:=Tryz.f37.body.getD .skip
def ZbH.rs (r:Bool):List CV:=[oB r]
def ZbH (N:Nat) (a_0:Zas) (x_1 y_2:Int):Option Bool:=
 Zbv (Zbe N a_0 x_1) fun x1=>
 if (!x1)=true then
  some x1
 else
 Zbv (Zbe N a_0 y_2) fun x2=>
 if (!x2)=true then
  some x1
 else
 chk (0≤x_1)<|
 chk (x_1<(len a_0.list))<|
 ZcJ (a_0.list[zD x_1]?) ZcX fun x3=>
 chk (0≤y_2)<|
 chk (y_2<(len a_0.list))<|
 ZcJ (a_0.list[zD y_2]?) ZcX fun x4=>
 Zbv (ZaV N x3.Work x4.Work) fun x5=>
 if (decide (x5>0))=true then
  some true
 else
 if (x5==0)=true then
  some (decide (x_1<y_2))
 else
 some false
theorem ZbH.snd {a_0:Zas} {x_1 y_2:Int} {r:Bool} (h:ZbH N a_0 x_1 y_2=some r):Zde zE 37 [.one (vI 87 a_0.ls),oI x_1,oI y_2] (ZbH.rs r):=fun st=>
 sO ZbH.B Tryz.func37 fun g0 w0 R hE=>by
  unfold ZbH at h
  obtain ⟨x1,c1,h1⟩:=Zae h
  have t1 {Q:Prop} (q:Q):=aI (Zbe.snd c1) q
  refine Zbg h1 (fun c2 h2=>?_) (fun c2 h3=>?_)
  ·obtain rfl:=Zaa h2
   exact af fol hE [.r [],.r [(2,q0 [oB x1]),(5,wF),(6,wF),(7,wF),(8,wF)],.c true,.r [(2,q0 [oB x1])]] [] 0 [] (t1 (aN (not_false (ZbZ c2)) (not_false (ZbZ c2)) (not_false (ZbZ c2)) (not_false (ZbZ c2)) (not_false (ZbZ c2)) eT (Zbe.snd c1)))
  ·obtain ⟨x2,c3,h4⟩:=Zae h3
   let o1:List PS:=[.r [],.r [(2,q0 [oB x1]),(7,q0 [oB x2]),(9,yF)]]
   have t2 {Q:Prop} (q:Q):=t1 (aN (not_true (Zca c2)) (not_true (Zca c2)) (not_true (Zca c2)) (Zbe.snd c3) (not_true (Zca c2)) (not_true (Zca c2)) q)
   refine Zbg h4 (fun c4 h5=>?_) (fun c4 h6=>?_)
   ·obtain rfl:=Zaa h5
    exact af fol hE (o1 ++ [.c true,.r [(2,q0 [oB x1])]]) [] 0 [] (t2 (aI c4 (Zbe.snd c1)))
   ·obtain ⟨c5,c6,h7⟩:=ck2 h6
    obtain ⟨x3,c7,h8⟩:=Zdn h7
    obtain ⟨c8,c9,h9⟩:=ck2 h8
    obtain ⟨x4,c10,h10⟩:=Zdn h9
    obtain ⟨x5,c11,h11⟩:=Zae h10
    let o2:List PS:=o1 ++ [.c false,.d {ds:=[(3,{oe:=a_0.ls}),(7,{oe:=x3.ls}),(11,{oe:=a_0.ls}),(15,{oe:=x4.ls}),(16,q1 [oI x5])],hv:=0,Hs:=[]}]
    have t3 {Q:Prop} (q:Q):=t2 (aO c4 (eO a_0.ls) c5 c6 c7 (eO a_0.ls) c8 (aK c9 c10 (ZaV.snd c11) q))
    refine Zbg h11 (fun c12 h12=>?_) (fun c12 h13=>?_)
    ·obtain rfl:=Zaa h12
     exact afd fol hE (o2 ++ [.r [(3,wF),(4,wF),(5,wF),(9,wF)]]) [] 0 [] (t3 (aL c12 c12 c12 c12 c12))
    ·refine Zbg h13 (fun c13 h14=>?_) (fun c13 h15=>?_)
     ·obtain rfl:=Zaa h14
      exact afd fol hE (o2 ++ [.r [(10,yF)]]) [] 0 [] (t3 (aO c12 c12 c12 c13 c13 c13 c12 (aI c13 c12)))
     ·obtain rfl:=Zaa h15
      exact afd fol hE (o2 ++ [.r [(6,wF),(7,wF),(8,wF),(9,yF),(10,yF)]]) [] 0 [] (t3 (aO c12 c12 c12 c13 c13 c13 c12 (aI c13 c12)))
def ZbK.B:Code:=Tryz.f16.body.getD .skip
def ZbK.rs (r:Bool):List CV:=[oB r]
def ZbK (N:Nat) (t_0:Zat) (x_1 y_2:Int):Option Bool:=
 Zbv (ZbH N t_0.store x_1 y_2) fun x1=>
 some x1
theorem ZbK.snd {t_0:Zat} {x_1 y_2:Int} {r:Bool} (h:ZbK N t_0 x_1 y_2=some r):Zde zE 16 [.one (vI 2 t_0.ls),oI x_1,oI y_2] (ZbK.rs r):=fun st=>
 sO ZbK.B Tryz.func16 fun g0 w0 R hE=>by
  unfold ZbK at h
  obtain ⟨x1,c1,h1⟩:=Zae h
  obtain rfl:=Zaa h1
  exact af fol hE [.r [],.r [(6,{oe:=t_0.ls}),(9,q0 [oB x1])]] [] 0 [] (aO eT eT eT eT (eO t_0.ls) eT eT (aJ eT (ZbH.snd c1) eT))
def ZbQ.B:Code:=Tryz.f61.body.getD .skip
def ZbQ.rs (r:Int):List CV:=[oI r]
def ZbQ (N:Nat) (x_0 at_1:Int) (a_2_0:ZaK):Option Int:=
 if (x_0==at_1)=true then
  some 0
 else
 Zbv (ZbK N a_2_0.tree x_0 at_1) fun x1=>
 if x1=true then
  some (-1)
 else
 some 1
theorem ZbQ.snd {x_0 at_1:Int} {a_2_0:ZaK} {r:Int} (h:ZbQ N x_0 at_1 a_2_0=some r):Zde zE 61 [oI x_0,oI at_1,.one (vI 1 [vI 2 a_2_0.ls])] (ZbQ.rs r):=fun st=>
 sO ZbQ.B Tryz.func61 fun g0 w0 R hE=>by
  unfold ZbQ at h
  refine Zbg h (fun c1 h1=>?_) (fun c1 h2=>?_)
  ·obtain rfl:=Zaa h1
   exact af fol hE [.r [],.r [],.c true,.r []] [] 0 [] c1
  ·obtain ⟨x1,c2,h3⟩:=Zae h2
   let o1:List PS:=[.r [],.r [],.c false,.r [(0,{m:=2}),(3,{oe:=a_2_0.ls}),(6,q0 [oB x1])]]
   have t1 {Q:Prop} (q:Q):=aK c1 (eO a_2_0.ls) (ZbK.snd c2) q
   refine Zbg h3 (fun c3 h4=>?_) (fun c3 h5=>?_)
   ·obtain rfl:=Zaa h4
    exact af fol hE (o1 ++ [.c true,.r []]) [] 0 [] (t1 c3)
   ·obtain rfl:=Zaa h5
    exact af fol hE (o1 ++ [.c false,.r []]) [] 0 [] (t1 c3)
def Zac.B:Code:=Tryz.f60.body.getD .skip
def Zac.rs (r:Int×Bool):List CV:=[oI r.1,oB r.2]
def Zac.p1 (N:Nat) (x_0:LL) (target_1:Int) (cmp_2_0_0:ZaK) (c1_:(Int×Int)→Option (Int×Bool)):(Int×Int)→Option (Int×Bool):=fun (i_1,j_2)=>
 if (decide (i_1<j_2))=true then
  chk (0≤(w64 (ZaQ .u64 (v64 (w64 (i_1+j_2))) 1)))<|
  chk ((w64 (ZaQ .u64 (v64 (w64 (i_1+j_2))) 1))<(len x_0))<|
  ZcJ (x_0[zD (w64 (ZaQ .u64 (v64 (w64 (i_1+j_2))) 1))]?) ZcN fun x3=>
  Zbv (ZbQ N x3 target_1 cmp_2_0_0) fun x4=>
  if (decide (x4<0))=true then
   c1_ (w64 ((w64 (ZaQ .u64 (v64 (w64 (i_1+j_2))) 1))+1),j_2)
  else
  c1_ (i_1,w64 (ZaQ .u64 (v64 (w64 (i_1+j_2))) 1))
 else
 if (decide (i_1<(len x_0)))=true then
  chk (0≤i_1)<|
  ZcJ (x_0[zD i_1]?) ZcN fun x5=>
  Zbv (ZbQ N x5 target_1 cmp_2_0_0) fun x6=>
  some (i_1,x6==0)
 else
 some (i_1,false)
def Zac (N:Nat) (x_0:LL) (target_1:Int) (cmp_2_0_0:ZaK):Option (Int×Bool):=
 loopN (Zac.p1 N x_0 target_1 cmp_2_0_0) N (0,(len x_0))
def Zac.p1.S (x_0:LL) (target_1:Int) (cmp_2_0_0:ZaK) (i_1 j_2:Int) (st:LL):S:=mkS 49 [(0,sV 1 x_0),(1,sI target_1),(2,.one (.l (L.fn 61 0 [vI 1 [vI 2 cmp_2_0_0.ls]]))),(8,sI (len x_0)),(9,sI i_1),(10,sI j_2)] [] st
theorem Zac.p1_ok {x_0 target_1 cmp_2_0_0 i_1 j_2 st r c1_ J1} (h:Zac.p1 N x_0 target_1 cmp_2_0_0 c1_ (i_1,j_2)=some r) (hE:En Tryz.f60 g0 w0 (Zac.rs r) st R) (hc1 : ∀i_1 j_2,c1_ (i_1,j_2)=some r→At g0 w0 (Zac.p1.S x_0 target_1 cmp_2_0_0 i_1 j_2 st) J1):At g0 w0 (Zac.p1.S x_0 target_1 cmp_2_0_0 i_1 j_2 st) (XK zE R (.c (ZbX Zac.B [1,1,1,0,0,0]) :: .h J1 :: [.b 0,.c (ZbX Zac.B [1,1,1,1])])):=by
 unfold Zac.p1 at h
 refine Zbg h (fun c1 h1=>?_) (fun c1 h2=>?_)
 ·obtain ⟨c2,c3,h3⟩:=ck2 h1
  obtain ⟨x3,c4,h4⟩:=Zci h3
  obtain ⟨x4,c5,h5⟩:=Zae h4
  let o1:List PS:=[.r [],.c true,.r [],.r [(4,{oe:=[zJ .i64 x3]}),(6,{rs:=[oI x4],st:=st,m:=5})]]
  have t1 {Q:Prop} (q:Q):=aN c1 (leI 0 1) c2 c3 c4 (ZbQ.snd c5 st) q
  refine Zbg h5 (fun c6 h6=>?_) (fun c6 h7=>?_)
  ·exact an fol (o1 ++ [.c true,.r []]) [0,1,2,8,9,10] [] (t1 c6) (hc1 (w64 ((w64 (ZaQ .u64 (v64 (w64 (i_1+j_2))) 1))+1)) j_2 h6)
  ·exact an fol (o1 ++ [.c false,.r []]) [0,1,2,8,9,10] [] (t1 c6) (hc1 i_1 (w64 (ZaQ .u64 (v64 (w64 (i_1+j_2))) 1)) h7)
 ·refine Zbg h2 (fun c7 h8=>?_) (fun c7 h9=>?_)
  ·obtain ⟨c8,h10⟩:=ZaT h8
   obtain ⟨x5,c9,h11⟩:=Zci h10
   obtain ⟨x6,c10,h12⟩:=Zae h11
   obtain rfl:=Zaa h12
   exact af fol hE [.r [],.c false,.r [(9,{oe:=[zJ .i64 x5]}),(11,{rs:=[oI x6],st:=st,m:=5})]] [] 0 [] (aO c1 c7 c7 c7 c7 c8 (oD c7) (aN c7 c9 c7 c7 (ZbQ.snd c10 st) c7 c7))
  ·obtain rfl:=Zaa h9
   exact af fol hE [.r [],.c false,.r [(5,wF),(6,wF),(7,wF),(8,wF),(9,wF),(10,wF),(11,wF),(12,wF),(13,yF)]] [] 0 [] (aO c1 c7 c7 c7 c7 c7 c7 (aJ c7 c7 c7))
theorem Zac.snd {x_0:LL} {target_1:Int} {cmp_2_0_0:ZaK} {r:Int×Bool} (h:Zac N x_0 target_1 cmp_2_0_0=some r):Zde zE 60 [.one (vG 1 x_0),oI target_1,.one (L.fn 61 0 [vI 1 [vI 2 cmp_2_0_0.ls]])] (Zac.rs r):=fun st=>
 sO Zac.B Tryz.func60 fun g0 w0 R hE=>by
  unfold Zac at h
  exact aq fol [.r [],.r [],.r []] [0,1,2,8,9,10] [] trivial (At.loop N (At.loopN (fun y:Int×Int=>Zac.p1.S x_0 target_1 cmp_2_0_0 y.1 y.2 st) (fun c J hc y h=>Zac.p1_ok (i_1:=y.1) (j_2:=y.2) h hE (fun i_1 j_2=>hc (i_1,j_2))) N (0,(len x_0)) h))
def ZbD.B:Code:=Tryz.f31.body.getD .skip
def ZbD.rs (r:Int×Bool):List CV:=[oI r.1,oB r.2]
def ZbD (N:Nat) (s_0:ZaK) (at_1:Int):Option (Int×Bool):=
 Zbv (Zac N s_0.list at_1 s_0) fun (x1,x2)=>
 some (x1,x2)
theorem ZbD.snd {s_0:ZaK} {at_1:Int} {r:Int×Bool} (h:ZbD N s_0 at_1=some r):Zde zE 31 [.one (vI 2 s_0.ls),oI at_1] (ZbD.rs r):=fun st=>
 sO ZbD.B Tryz.func31 fun g0 w0 R hE=>by
  unfold ZbD at h
  obtain ⟨⟨x1,x2⟩,c1,h1⟩:=Zae h
  obtain rfl:=Zaa h1
  exact af fol hE [.r [(0,{m:=2})],.r [(0,{m:=2}),(3,{oe:=s_0.ls}),(6,q1 [oI x1,oB x2])]] [] 0 [] (aI (eO s_0.ls) (Zac.snd c1))
def ZaB.B:Code:=Tryz.f11.body.getD .skip
def ZaB.rs (r:Int×LL):List CV:=[oI r.1]
def ZaB.p2 (N:Nat) (c1_:((Option Nat)×Int×Int×LL)→Option (Int×LL)) (s_34:Option Nat) (n_35:Int) (places_1:LL) (v2:Int) (st36:LL):Option (Int×LL):=
 c1_ (s_34,n_35,w64 (v2+1),st36)
def ZaB.p1 (N:Nat) (places_1:LL) (c1_:((Option Nat)×Int×Int×LL)→Option (Int×LL)):((Option Nat)×Int×Int×LL)→Option (Int×LL):=fun (s_19,n_1,v2,st20)=>
 if (decide (v2<(len places_1)))=true then
  chk (0≤v2)<|
  ZcJ (places_1[zD v2]?) ZcN fun x21=>
  Zbv (Zch N s_19 x21 st20) fun (x22,st23)=>
  if (!x22)=true then
   ZaB.p2 N c1_ s_19 n_1 places_1 v2 st23
  else
  Zbv s_19 fun i24=>
  ZcJ (st23[i24]?) Zbn fun x25 x26=>
  Zbv x25 fun i27=>
  ZcJ (st23[i27]?) Zbn fun x28 x29=>
  Zbv x28 fun i30=>
  ZcJ (st23[i30]?) Zbc fun x31=>
  Zbv (ZbD N (ZaK.mk (Zat.mk x31 x29) x26) x21) fun (x32,x33)=>
  if (!x33)=true then
   chk (0≤x32)<|
   chk (x32≤len x26)<|
   chk (isI x26=true)<|
   chk ((zH x26+1)*8≤140737488355328)<|
   ZaB.p2 N c1_ (some i24) (w64 (n_1+1)) places_1 v2 (zS (zS st23 i24 [yO (some i27),L.gone]) i24 [yO (some i27),yP true 1 (List.take (zD x32) x26 ++ [zJ .i64 x21]::List.drop (zD x32) x26)])
  else
  ZaB.p2 N c1_ (some i24) n_1 places_1 v2 st23
 else
 some (n_1,st20)
def ZaB (N:Nat) (s_0:Option Nat) (places_1 st:LL):Option (Int×LL):=
 loopN (ZaB.p1 N places_1) N (s_0,0,0,st)
def ZaB.p2.S (s_34:Option Nat) (n_35:Int) (places_1:LL) (v2:Int) (st36:LL):S:=mkS 43 [(0,sP s_34),(5,sI n_35),(10,sV 1 places_1),(11,sI (len places_1)),(12,sI v2)] [] st36
def ZaB.p1.S (s_19:Option Nat) (n_1:Int) (places_1:LL) (v2:Int) (st20:LL):S:=mkS 43 [(0,sP s_19),(5,sI n_1),(10,sV 1 places_1),(11,sI (len places_1)),(12,sI v2)] [] st20
theorem ZaB.p2_ok {s_34 n_35 places_1 v2 st36 r c1_ J1} (h:ZaB.p2 N c1_ s_34 n_35 places_1 v2 st36=some r) (hE:En Tryz.f11 g0 w0 (ZaB.rs r) r.2 R) (hc1 : ∀s_19 n_1 v2 st20,c1_ (s_19,n_1,v2,st20)=some r→At g0 w0 (ZaB.p1.S s_19 n_1 places_1 v2 st20) J1):At g0 w0 (ZaB.p2.S s_34 n_35 places_1 v2 st36) (XK zE R [.c (ZbX ZaB.B [1,1,0,1,0,0,1,1,1]),.h J1,.b 0,.c (ZbX ZaB.B [1,1,1])]):=by
 unfold ZaB.p2 at h
 exact an fol [.r []] [0,5,10,11,12] [] trivial (hc1 s_34 n_35 (w64 (v2+1)) st36 h)
theorem ZaB.p1_ok {s_19 n_1 places_1 v2 st20 r c1_ J1} (h:ZaB.p1 N places_1 c1_ (s_19,n_1,v2,st20)=some r) (hE:En Tryz.f11 g0 w0 (ZaB.rs r) r.2 R) (hc1 : ∀s_19 n_1 v2 st20,c1_ (s_19,n_1,v2,st20)=some r→At g0 w0 (ZaB.p1.S s_19 n_1 places_1 v2 st20) J1):At g0 w0 (ZaB.p1.S s_19 n_1 places_1 v2 st20) (XK zE R (.c (ZbX ZaB.B [1,1,0,1,0,0]) :: .h J1 :: [.b 0,.c (ZbX ZaB.B [1,1,1])])):=by
 unfold ZaB.p1 at h
 refine Zbg h (fun c18 h1=>?_) (fun c18 h2=>?_)
 ·obtain ⟨c19,h3⟩:=ZaT h1
  obtain ⟨x21,c20,h4⟩:=Zci h3
  obtain ⟨⟨x22,st23⟩,c21,h5⟩:=Zae h4
  let o1:List PS:=[.r [],.c true,.r [(1,{oe:=[zJ .i64 x21]})],.r [(2,{rs:=[oB x22],st:=st23})]]
  have t1 {Q:Prop} (q:Q):=aM c18 c19 (oD c18) c20 (Zch.snd c21) q
  refine Zbg h5 (fun c22 h6=>?_) (fun c22 h7=>?_)
  ·exact aq fol (o1 ++ [.c true,.s 4]) [0,5,10,11,12] [] (t1 c22) (ZaB.p2_ok h6 hE hc1)
  ·obtain ⟨i24,rfl,h8⟩:=Zae h7
   obtain ⟨x25,x26,c24,h9⟩:=Zba h8
   obtain ⟨i27,rfl,h10⟩:=Zae h9
   obtain ⟨x28,x29,c26,h11⟩:=Zba h10
   obtain ⟨i30,rfl,h12⟩:=Zae h11
   obtain ⟨x31,c28,h13⟩:=ZaX h12
   obtain ⟨⟨x32,x33⟩,c29,h14⟩:=Zae h13
   let o2:List PS:=o1 ++ [.c false,.r [(2,{rs:=[oI x32,oB x33],m:=10,cv:=[.one (vI 2 (ZaK.ls (ZaK.mk (Zat.mk x31 x29) x26)))]})],.r []]
   have t2 {Q:Prop} (q:Q):=t1 (aK c22 (bO 2 c24 ((bC 2 c26 ((bC 87 c28 (Zas.bv x31) (bW bN)):BVs st23 [yO (some i30),yP true 1 x29] (Zat.ls (Zat.mk x31 x29))) (bW bN)):BVs st23 [yO (some i27),yP true 1 x26] (ZaK.ls (ZaK.mk (Zat.mk x31 x29) x26)))) (ZbD.snd c29) q)
   refine Zbg h14 (fun c30 h15=>?_) (fun c30 h16=>?_)
   ·obtain ⟨c31,c32,c33,c34,h17⟩:=ck4 h15
    exact aq fol (o2 ++ [.c true,.r [(4,{oc:=[yO (some i27),yP true 1 x26]}),(8,{oe:=[yO (some i27),yP true 1 x26],m:=15}),(11,{oc:=[yO (some i27),L.gone],mv:=[36]})],.r [],.s 4]) [0,5,10,11,12] [] (t2 (aO c30 c24 z0 (eN (zH x26)) c24 c31 c32 (aM c33 c34 slices_Insert_int.snd (ZaM c24 [yO (some i27),L.gone]) z0 (eN (zH (List.take (zD x32) x26 ++ [zJ .i64 x21]::List.drop (zD x32) x26)))))) (ZaB.p2_ok h17 hE hc1)
   ·exact aq fol (o2 ++ [.c false,.s 4]) [0,5,10,11,12] [] (t2 c30) (ZaB.p2_ok h16 hE hc1)
 ·obtain rfl:=Zaa h2
  exact af fol hE [.r [],.c false,.r []] [] 0 [] c18
theorem ZaB.snd {s_0:Option Nat} {places_1:LL} {st:LL} {r:Int×LL} (h:ZaB N s_0 places_1 st=some r):Snd zE 11 [.one (yO s_0),.one (vG 1 places_1)] st (ZaB.rs r) r.2:=
 sO ZaB.B Tryz.func11 fun g0 w0 R hE=>by
  unfold ZaB at h
  exact aq fol [.r [],.r [],.r []] [0,5,10,11,12] [] trivial (At.loop N (At.loopN (fun y:(Option Nat)×Int×Int×LL=>ZaB.p1.S y.1 y.2.1 places_1 y.2.2.1 y.2.2.2) (fun c J hc y h=>ZaB.p1_ok (s_19:=y.1) (n_1:=y.2.1) (v2:=y.2.2.1) (st20:=y.2.2.2) h hE (fun s_19 n_1 v2 st20=>hc (s_19,n_1,v2,st20))) N (s_0,0,0,st) h))
def ZbV.B:Code:=Tryz.f22.body.getD .skip
def ZbV.rs (r:Int):List CV:=[oI r]
def ZbV (N:Nat) (s_0:ZaK):Option Int:=
 some (len s_0.list)
theorem ZbV.snd {s_0:ZaK} {r:Int} (h:ZbV N s_0=some r):Zde zE 22 [.one (vI 2 s_0.ls)] (ZbV.rs r):=fun st=>
 sO ZbV.B Tryz.func22 fun g0 w0 R hE=>by
  unfold ZbV at h
  obtain rfl:=Zaa h
  exact af fol hE [.r [],.r [],.c false,.r [(3,{oe:=s_0.ls})]] [] 0 [] (aI eF (eO s_0.ls))
def Zcd.B:Code:=Tryz.f23.body.getD .skip
def Zcd.rs (r:Int):List CV:=[oI r]
def Zcd (N:Nat) (s_0:ZaK):Option Int:=
 Zbv (ZbV N s_0) fun x1=>
 if (x1==0)=true then
  some (-1)
 else
 chk (0<(len s_0.list))<|
 ZcJ (s_0.list[0]?) ZcN fun x2=>
 some x2
theorem Zcd.snd {s_0:ZaK} {r:Int} (h:Zcd N s_0=some r):Zde zE 23 [.one (vI 2 s_0.ls)] (Zcd.rs r):=fun st=>
 sO Zcd.B Tryz.func23 fun g0 w0 R hE=>by
  unfold Zcd at h
  obtain ⟨x1,c1,h1⟩:=Zae h
  let o1:List PS:=[.r [],.r [(1,q0 [oI x1])]]
  refine Zbg h1 (fun c2 h2=>?_) (fun c2 h3=>?_)
  ·obtain rfl:=Zaa h2
   exact af fol hE (o1 ++ [.c true,.r []]) [] 0 [] (aI (ZbV.snd c1) c2)
  ·obtain ⟨c3,h4⟩:=ZaT h3
   obtain ⟨x2,c4,h5⟩:=Zci h4
   obtain rfl:=Zaa h5
   exact af fol hE (o1 ++ [.c false,.r [(3,{oe:=s_0.ls}),(5,{oe:=[zJ .i64 x2]})]]) [] 0 [] (aM (ZbV.snd c1) c2 (eO s_0.ls) (leI 0 0) c3 c4)
def ZcG.B:Code:=Tryz.f6.body.getD .skip
def ZcG.rs (r:Bool×LL):List CV:=[oB r.1]
def ZcG (N:Nat) (st:LL):Option (Bool×LL):=
 Zbv (ZdJ N (Zaj.mk 545259519 4 10 0 false [] [] (zC 4 0) (zC 4 0) (Zan.mk 0 (zC 32 0) (zC 32 0) 0 0 0)) 5 st) fun (x1,x2,st3)=>
 if (x2 != 0)=true then
  some (false,st3)
 else
 Zbv (Zdx N x1 st3) fun (x4,st5)=>
 Zbv (ZaB N x4 [[zJ .i64 0],[zJ .i64 0],[zJ .i64 1]] st5) fun (x6,st7)=>
 if (x6==1)=true then
  Zbv x4 fun i8=>
  ZcJ (st7[i8]?) Zbn fun x9 x10=>
  Zbv x9 fun i11=>
  ZcJ (st7[i11]?) Zbn fun x12 x13=>
  Zbv x12 fun i14=>
  ZcJ (st7[i14]?) Zbc fun x15=>
  Zbv (Zcd N (ZaK.mk (Zat.mk x15 x13) x10)) fun x16=>
  if (x16==0)=true then
   Zbv (ZbV N (ZaK.mk (Zat.mk x15 x13) x10)) fun x17=>
   some (x17==1,st7)
  else
  some (false,st7)
 else
 some (false,st7)
theorem ZcG.snd {st:LL} {r:Bool×LL} (h:ZcG N st=some r):Snd zE 6 [] st (ZcG.rs r) r.2:=
 sO ZcG.B Tryz.func6 fun g0 w0 R hE=>by
  unfold ZcG at h
  obtain ⟨⟨x1,x2,st3⟩,c1,h1⟩:=Zae h
  let o1:List PS:=[.r [],.r [(1,{rs:=[.one (yO x1),oI x2],st:=st3})],.r []]
  have t1 {Q:Prop} (q:Q):=aI (ZdJ.snd c1) q
  refine Zbg h1 (fun c2 h2=>?_) (fun c2 h3=>?_)
  ·obtain rfl:=Zaa h2
   exact af fol hE (o1 ++ [.c true,.r []]) [] 0 [] (t1 c2)
  ·obtain ⟨⟨x4,st5⟩,c3,h4⟩:=Zae h3
   obtain ⟨⟨x6,st7⟩,c4,h5⟩:=Zae h4
   have t2 {Q:Prop} (q:Q):=t1 (aM c2 (Zdx.snd c3) z0 (eN (3)) (ZaB.snd c4) q)
   refine Zbg h5 (fun c5 h6=>?_) (fun c5 h7=>?_)
   ·obtain ⟨i8,rfl,h8⟩:=Zae h6
    obtain ⟨x9,x10,c7,h9⟩:=Zba h8
    obtain ⟨i11,rfl,h10⟩:=Zae h9
    obtain ⟨x12,x13,c9,h11⟩:=Zba h10
    obtain ⟨i14,rfl,h12⟩:=Zae h11
    obtain ⟨x15,c11,h13⟩:=ZaX h12
    obtain ⟨x16,c12,h14⟩:=Zae h13
    let o2:List PS:=o1 ++ [.c false,.r [(1,{rs:=[.one (yO (some i8))],st:=st5})]]
    have t3 {Q:Prop} (q:Q):=t2 (aN c5 c5 (bO 2 c7 ((bC 2 c9 ((bC 87 c11 (Zas.bv x15) (bW bN)):BVs st7 [yO (some i14),yP true 1 x13] (Zat.ls (Zat.mk x15 x13))) (bW bN)):BVs st7 [yO (some i11),yP true 1 x10] (ZaK.ls (ZaK.mk (Zat.mk x15 x13) x10)))) (Zcd.snd c12) c5 c5 q)
    refine Zbg h14 (fun c13 h15=>?_) (fun c13 h16=>?_)
    ·obtain ⟨x17,c14,h17⟩:=Zae h15
     obtain rfl:=Zaa h17
     exact af fol hE (o2 ++ [.r [(2,{rs:=[oI x6],st:=st7,fz:=[14]}),(6,{rs:=[oI x16],m:=10,cv:=[.one (vI 2 (ZaK.ls (ZaK.mk (Zat.mk x15 x13) x10)))]}),(11,{rs:=[oI x17],m:=10,cv:=[.one (vI 2 (ZaK.ls (ZaK.mk (Zat.mk x15 x13) x10)))]})]]) [] 0 [] (t3 (aM c13 c13 (bO 2 c7 ((bC 2 c9 ((bC 87 c11 (Zas.bv x15) (bW bN)):BVs st7 [yO (some i14),yP true 1 x13] (Zat.ls (Zat.mk x15 x13))) (bW bN)):BVs st7 [yO (some i11),yP true 1 x10] (ZaK.ls (ZaK.mk (Zat.mk x15 x13) x10)))) (ZbV.snd c14) c13 c13))
    ·obtain rfl:=Zaa h16
     exact af fol hE (o2 ++ [.r [(2,{rs:=[oI x6],st:=st7,fz:=[14]}),(6,{rs:=[oI x16],m:=10,cv:=[.one (vI 2 (ZaK.ls (ZaK.mk (Zat.mk x15 x13) x10)))]}),(10,wF),(11,wF),(12,wF),(13,yF)]]) [] 0 [] (t3 (aK c13 c13 c13 c13))
   ·obtain rfl:=Zaa h7
    exact af fol hE (o1 ++ [.c false,.r [(1,{rs:=[.one (yO x4)],st:=st5})],.r [(2,{rs:=[oI x6],st:=st7,fz:=[14]}),(5,wF),(6,wF),(7,wF),(8,yF),(10,wF),(11,wF),(12,wF),(13,yF)]]) [] 0 [] (t2 (aO c5 c5 c5 c5 eF eF eF eF))
def Zam.B:Code:=Tryz.f97.body.getD .skip
def Zam.rs (r:(List Int)):List CV:=[.agg [zL .u64 4 r]]
def Zam.p4 (N:Nat) (c3_:(Int×(List Int))→Option (List Int)) (n_13 i_19:Int) (a_18 out_22:List Int):Option (List Int):=
 c3_ (w64 (i_19+1),out_22)
def Zam.p3 (N:Nat) (n_13:Int) (a_18:List Int) (c3_:(Int×(List Int))→Option (List Int)):(Int×(List Int))→Option (List Int):=fun (i_19,out_21)=>
 if (decide (i_19<4))=true then
  if (decide (n_13>0))=true then
   chk (0≤i_19)<|
   chk (0≤(v64 (n_13)))<|
   if (decide (i_19>0))=true then
    chk (0≤(w64 (i_19-1)))<|
    chk ((w64 (i_19-1))<4)<|
    chk (0≤(v64 (w64 (64-n_13))))<|
    Zam.p4 N c3_ n_13 i_19 a_18 (zS (zS out_21 (zD i_19) (Zbd .u64 (zF a_18 (zD i_19) 0) (v64 (n_13)))) (zD i_19) (v64 ((zF (zS out_21 (zD i_19) (Zbd .u64 (zF a_18 (zD i_19) 0) (v64 (n_13)))) (zD i_19) 0)+(ZaQ .u64 (zF a_18 (zD (w64 (i_19-1))) 0) (v64 (w64 (64-n_13)))))))
   else
   Zam.p4 N c3_ n_13 i_19 a_18 (zS out_21 (zD i_19) (Zbd .u64 (zF a_18 (zD i_19) 0) (v64 (n_13))))
  else
  chk (0≤i_19)<|
  chk (0≤(v64 (w64 (0-n_13))))<|
  if (decide (i_19<3))=true then
   chk (0≤(w64 (i_19+1)))<|
   chk ((w64 (i_19+1))<4)<|
   chk (0≤(v64 (w64 (64+n_13))))<|
   Zam.p4 N c3_ n_13 i_19 a_18 (zS (zS out_21 (zD i_19) (ZaQ .u64 (zF a_18 (zD i_19) 0) (v64 (w64 (0-n_13))))) (zD i_19) (v64 ((zF (zS out_21 (zD i_19) (ZaQ .u64 (zF a_18 (zD i_19) 0) (v64 (w64 (0-n_13))))) (zD i_19) 0)+(Zbd .u64 (zF a_18 (zD (w64 (i_19+1))) 0) (v64 (w64 (64+n_13)))))))
  else
  Zam.p4 N c3_ n_13 i_19 a_18 (zS out_21 (zD i_19) (ZaQ .u64 (zF a_18 (zD i_19) 0) (v64 (w64 (0-n_13)))))
 else
 some out_21
def Zam.p2 (N:Nat) (c2_:(Int×(List Int))→Option (List Int)):(Int×(List Int))→Option (List Int):=fun (n_13,a_18)=>
 if (decide (n_13≤(-64)))=true then
  c2_ (w64 (n_13+64),[zF a_18 1 0,zF a_18 2 0,zF a_18 3 0,0])
 else
 if (n_13==0)=true then
  some a_18
 else
 loopN (Zam.p3 N n_13 a_18) N (0,zC 4 0)
def Zam.p1 (N:Nat) (c1_:(Int×(List Int))→Option (List Int)):(Int×(List Int))→Option (List Int):=fun (n_1,a_12)=>
 if (decide (n_1≥64))=true then
  c1_ (w64 (n_1-64),[0,zF a_12 0 0,zF a_12 1 0,zF a_12 2 0])
 else
 loopN (Zam.p2 N) N (n_1,a_12)
def Zam (N:Nat) (a_0_0:List Int) (n_1:Int):Option (List Int):=
 if (decide (n_1≤(-256)))=true then
  some (zC 4 0)
 else
 if (decide (n_1≥256))=true then
  some (zC 4 0)
 else
 loopN (Zam.p1 N) N (n_1,a_0_0)
def Zam.p4.S (n_13 i_19:Int) (a_18 out_22:List Int) (st:LL):S:=mkS 96 [(1,sI n_13),(2,sA 2),(4,sA 4),(5,sA 5),(6,sI i_19)] [(2,.cells [zL .u64 4 a_18]),(4,.cells [zL .u64 4 (zC 4 0)]),(5,.cells [zL .u64 4 out_22])] st
def Zam.p3.S (n_13 i_19:Int) (a_18 out_21:List Int) (st:LL):S:=mkS 96 [(1,sI n_13),(2,sA 2),(4,sA 4),(5,sA 5),(6,sI i_19)] [(2,.cells [zL .u64 4 a_18]),(4,.cells [zL .u64 4 (zC 4 0)]),(5,.cells [zL .u64 4 out_21])] st
def Zam.p2.S (n_13:Int) (a_18:List Int) (st:LL):S:=mkS 96 [(1,sI n_13),(2,sA 2),(4,sA 4),(5,sA 5)] [(2,.cells [zL .u64 4 a_18]),(4,.cells [zL .u64 4 (zC 4 0)]),(5,.cells [zL .u64 4 (zC 4 0)])] st
def Zam.p1.S (n_1:Int) (a_12:List Int) (st:LL):S:=mkS 96 [(1,sI n_1),(2,sA 2),(4,sA 4),(5,sA 5)] [(2,.cells [zL .u64 4 a_12]),(4,.cells [zL .u64 4 (zC 4 0)]),(5,.cells [zL .u64 4 (zC 4 0)])] st
theorem Zam.p4_ok {n_13 i_19 a_18 out_22 st r c3_ J3} (h:Zam.p4 N c3_ n_13 i_19 a_18 out_22=some r) (hE:En Tryz.f97 g0 w0 (Zam.rs r) st R) (hc3 : ∀i_19 out_21,c3_ (i_19,out_21)=some r→At g0 w0 (Zam.p3.S n_13 i_19 a_18 out_21 st) J3):At g0 w0 (Zam.p4.S n_13 i_19 a_18 out_22 st) (XK zE R [.c (ZbX Zam.B [1,1,1,1,1,1,0,1,0,0,1,1]),.h J3,.b 4,.c (ZbX Zam.B [1,1,1,1,1,1,1])]):=by
 unfold Zam.p4 at h
 exact an fol [.r []] [1,2,4,5,6] [2,4,5] trivial (hc3 (w64 (i_19+1)) out_22 h)
theorem Zam.p3_ok {n_13 i_19 a_18 out_21 st r c3_ J3} (h:Zam.p3 N n_13 a_18 c3_ (i_19,out_21)=some r) (hE:En Tryz.f97 g0 w0 (Zam.rs r) st R) (hc3 : ∀i_19 out_21,c3_ (i_19,out_21)=some r→At g0 w0 (Zam.p3.S n_13 i_19 a_18 out_21 st) J3):At g0 w0 (Zam.p3.S n_13 i_19 a_18 out_21 st) (XK zE R (.c (ZbX Zam.B [1,1,1,1,1,1,0,1,0,0]) :: .h J3 :: [.b 4,.c (ZbX Zam.B [1,1,1,1,1,1,1])])):=by
 unfold Zam.p3 at h
 refine Zbg h (fun c111 h1=>?_) (fun c111 h2=>?_)
 ·let o1:List PS:=[.r [],.c true,.r []]
  refine Zbg h1 (fun c112 h3=>?_) (fun c112 h4=>?_)
  ·obtain ⟨c113,c114,h5⟩:=ck2 h3
   have t1 {Q:Prop} (q:Q):=aO c111 c112 c113 (oD c111) c114 c113 (oD c111) q
   refine Zbg h5 (fun c115 h6=>?_) (fun c115 h7=>?_)
   ·obtain ⟨c116,c117,c118,h8⟩:=ck3 h6
    exact aqd fol (o1 ++ [.c true,.r [],.r [],.c true,.d {ds:=[],hv:=16384,Hs:=[16384]},.s 4]) [1,2,4,5,6] [2,4,5] (t1 (aO c115 c113 (oD c111) c116 c117 c118 c113 (oD c111))) (Zam.p4_ok h8 hE hc3)
   ·exact aq fol (o1 ++ [.c true,.r [],.r [],.c false,.s 4]) [1,2,4,5,6] [2,4,5] (t1 c115) (Zam.p4_ok h7 hE hc3)
  ·obtain ⟨c119,c120,h9⟩:=ck2 h4
   have t2 {Q:Prop} (q:Q):=aO c111 c112 c119 (oD c111) c120 c119 (oD c111) q
   refine Zbg h9 (fun c121 h10=>?_) (fun c121 h11=>?_)
   ·obtain ⟨c122,c123,c124,h12⟩:=ck3 h10
    exact aqd fol (o1 ++ [.c false,.r [],.r [],.c true,.d {ds:=[],hv:=16384,Hs:=[16384]},.s 4]) [1,2,4,5,6] [2,4,5] (t2 (aO c121 c119 (oD c111) c122 c123 c124 c119 (oD c111))) (Zam.p4_ok h12 hE hc3)
   ·exact aq fol (o1 ++ [.c false,.r [],.r [],.c false,.s 4]) [1,2,4,5,6] [2,4,5] (t2 c121) (Zam.p4_ok h11 hE hc3)
 ·obtain rfl:=Zaa h2
  exact af fol hE [.r [],.c false,.r []] [] 0 [] c111
theorem Zam.p2_ok {n_13 a_18 st r c2_ J2} (h:Zam.p2 N c2_ (n_13,a_18)=some r) (hE:En Tryz.f97 g0 w0 (Zam.rs r) st R) (hc2 : ∀n_13 a_18,c2_ (n_13,a_18)=some r→At g0 w0 (Zam.p2.S n_13 a_18 st) J2):At g0 w0 (Zam.p2.S n_13 a_18 st) (XK zE R (.c (ZbX Zam.B [1,1,1,1,0,0,0]) :: .h J2 :: [.b 2,.c (ZbX Zam.B [1,1,1,1,1])])):=by
 unfold Zam.p2 at h
 refine Zbg h (fun c95 h13=>?_) (fun c95 h14=>?_)
 ·exact an fol [.r [],.c true,.r [(6,{m:=3})],.r []] [1,2,4,5] [2,4,5] (aI c95 (ix 1 4 (ix 2 4 (aI (leI 0 3) (ltI 3 4))))) (hc2 (w64 (n_13+64)) [zF a_18 1 0,zF a_18 2 0,zF a_18 3 0,0] h13)
 ·refine Zbg h14 (fun c96 h15=>?_) (fun c96 h16=>?_)
  ·obtain rfl:=Zaa h15
   exact af fol hE [.r [],.c false,.r [],.c true,.r []] [] 0 [] (aI c95 c96)
  ·exact aq fol [.r [],.c false,.r [],.c false,.r []] [1,2,4,5,6] [2,4,5] (aI c95 c96) (At.loop N (At.loopN (fun y:Int×(List Int)=>Zam.p3.S n_13 y.1 a_18 y.2 st) (fun c J hc y h=>Zam.p3_ok (i_19:=y.1) (out_21:=y.2) h hE (fun i_19 out_21=>hc (i_19,out_21))) N (0,zC 4 0) h16))
theorem Zam.p1_ok {n_1 a_12 st r c1_ J1} (h:Zam.p1 N c1_ (n_1,a_12)=some r) (hE:En Tryz.f97 g0 w0 (Zam.rs r) st R) (hc1 : ∀n_1 a_12,c1_ (n_1,a_12)=some r→At g0 w0 (Zam.p1.S n_1 a_12 st) J1):At g0 w0 (Zam.p1.S n_1 a_12 st) (XK zE R (.c (ZbX Zam.B [1,1,1,0,0,0]) :: .h J1 :: [.b 0,.c (ZbX Zam.B [1,1,1,1])])):=by
 unfold Zam.p1 at h
 refine Zbg h (fun c64 h17=>?_) (fun c64 h18=>?_)
 ·exact an fol [.r [],.c true,.r [(6,{m:=3})],.r []] [1,2,4,5] [2,4,5] (aI c64 (ix 0 4 (ix 1 4 (aI (leI 0 2) (ltI 2 4))))) (hc1 (w64 (n_1-64)) [0,zF a_12 0 0,zF a_12 1 0,zF a_12 2 0] h17)
 ·exact aq fol [.r [],.c false] [1,2,4,5] [2,4,5] c64 (At.loop N (At.loopN (fun y:Int×(List Int)=>Zam.p2.S y.1 y.2 st) (fun c J hc y h=>Zam.p2_ok (n_13:=y.1) (a_18:=y.2) h hE (fun n_13 a_18=>hc (n_13,a_18))) N (n_1,a_12) h18))
theorem Zam.snd {a_0_0:List Int} {n_1:Int} {r:(List Int)} (h:Zam N a_0_0 n_1=some r):Zde zE 97 [.agg [zL .u64 4 a_0_0],oI n_1] (Zam.rs r):=fun st=>
 sO Zam.B Tryz.func97 fun g0 w0 R hE=>by
  unfold Zam at h
  refine Zbg h (fun c1 h19=>?_) (fun c1 h20=>?_)
  ·obtain rfl:=Zaa h19
   exact af fol hE [.r [],.r [],.r [(3,wF),(4,wF)],.c true,.r []] [] 0 [] (aK c1 c1 c1 eT)
  ·let o2:List PS:=[.r [],.r [],.r [(5,yF)]]
   refine Zbg h20 (fun c2 h21=>?_) (fun c2 h22=>?_)
   ·obtain rfl:=Zaa h21
    exact af fol hE (o2 ++ [.c true,.r []]) [] 0 [] (aK c1 c1 c1 c2)
   ·exact aq fol (o2 ++ [.c false]) [1,2,4,5] [2,4,5] (aK c1 c1 c1 c2) (At.loop N (At.loopN (fun y:Int×(List Int)=>Zam.p1.S y.1 y.2 st) (fun c J hc y h=>Zam.p1_ok (n_1:=y.1) (a_12:=y.2) h hE (fun n_1 a_12=>hc (n_1,a_12))) N (n_1,a_0_0) h22))
def ZaD.B:Code:=Tryz.f68.body.getD .skip
def ZaD.rs (r:(List Int)×Bool×Bool):List CV:=[.agg [zL .u64 4 r.1],oB r.2.1,oB r.2.2]
def ZaD.p1 (N:Nat) (bits_0:Int) (over_2:Bool) (x1:List Int):Option ((List Int)×Bool×Bool):=
 if (decide ((yH bits_0 8388608)>0))=true then
  some (x1,(yH (w64 (zU bits_0 8388608)) 2)==1,over_2)
 else
 some (x1,false,over_2)
def ZaD (N:Nat) (bits_0:Int):Option ((List Int)×Bool×Bool):=
 if (decide (bits_0<0))=true then
  some (zC 4 0,false,false)
 else
 if (decide (bits_0>4294967295))=true then
  some (zC 4 0,false,false)
 else
 Zbv (Zam N [v64 (yH bits_0 8388608),0,0,0] (w64 (8*(w64 ((w64 (zU bits_0 16777216))-3))))) fun x1=>
 if (decide ((yH bits_0 8388608)>0))=true then
  if (decide ((w64 (zU bits_0 16777216))>34))=true then
   ZaD.p1 N bits_0 true x1
  else
  if (decide ((yH bits_0 8388608)>255))=true then
   if (decide ((w64 (zU bits_0 16777216))>33))=true then
    ZaD.p1 N bits_0 true x1
   else
   if (decide ((yH bits_0 8388608)>65535))=true then
    ZaD.p1 N bits_0 (decide ((w64 (zU bits_0 16777216))>32)) x1
   else
   ZaD.p1 N bits_0 false x1
  else
  if (decide ((yH bits_0 8388608)>65535))=true then
   ZaD.p1 N bits_0 (decide ((w64 (zU bits_0 16777216))>32)) x1
  else
  ZaD.p1 N bits_0 false x1
 else
 if (decide ((yH bits_0 8388608)>255))=true then
  if (decide ((w64 (zU bits_0 16777216))>33))=true then
   ZaD.p1 N bits_0 true x1
  else
  if (decide ((yH bits_0 8388608)>65535))=true then
   ZaD.p1 N bits_0 (decide ((w64 (zU bits_0 16777216))>32)) x1
  else
  ZaD.p1 N bits_0 false x1
 else
 if (decide ((yH bits_0 8388608)>65535))=true then
  ZaD.p1 N bits_0 (decide ((w64 (zU bits_0 16777216))>32)) x1
 else
 ZaD.p1 N bits_0 false x1
def ZaD.p1.S (bits_0:Int) (over_2:Bool) (x1:List Int) (st:LL):S:=mkS 61 [(2,sA 2),(6,sI (yH bits_0 8388608)),(7,.one (.l (wX ((yH (w64 (zU bits_0 8388608)) 2)==1)))),(8,sA 8),(9,.one (.l (wX over_2)))] [(2,.cells [zL .u64 4 (zC 4 0)]),(8,.cells [zL .u64 4 x1])] st
theorem ZaD.p1_ok {bits_0 over_2 x1 st r} (h:ZaD.p1 N bits_0 over_2 x1=some r) (hE:En Tryz.f68 g0 w0 (ZaD.rs r) st R):At g0 w0 (ZaD.p1.S bits_0 over_2 x1 st) (XK zE R [.c (ZbX ZaD.B [1,1,1,1,1,1,1])]):=by
 unfold ZaD.p1 at h
 refine Zbg h (fun c14 h1=>?_) (fun c14 h2=>?_)
 ·obtain rfl:=Zaa h1
  exact af fol hE [.r []] [] 0 [] (aI c14 c14)
 ·obtain rfl:=Zaa h2
  exact af fol hE [.r [(4,wF),(5,yF)]] [] 0 [] (aI c14 c14)
theorem ZaD.snd {bits_0:Int} {r:(List Int)×Bool×Bool} (h:ZaD N bits_0=some r):Zde zE 68 [oI bits_0] (ZaD.rs r):=fun st=>
 sO ZaD.B Tryz.func68 fun g0 w0 R hE=>by
  unfold ZaD at h
  refine Zbg h (fun c1 h3=>?_) (fun c1 h4=>?_)
  ·obtain rfl:=Zaa h3
   exact af fol hE [.r [],.r [(3,wF),(4,wF)],.c true,.r []] [] 0 [] (aK c1 c1 c1 eT)
  ·let o1:List PS:=[.r [],.r [(5,yF)]]
   have t1 {Q:Prop} (q:Q):=aK c1 c1 c1 q
   refine Zbg h4 (fun c2 h5=>?_) (fun c2 h6=>?_)
   ·obtain rfl:=Zaa h5
    exact af fol hE (o1 ++ [.c true,.r []]) [] 0 [] (t1 c2)
   ·obtain ⟨x1,c3,h7⟩:=Zae h6
    let o2:List PS:=o1 ++ [.c false,.r [],.r [],.r [],.r [(2,{m:=3}),(6,q1 [.agg [zL .u64 4 x1]])]]
    have t2 {Q:Prop} (q:Q):=t1 (aN c2 (neI 16777216) (neI 8388608) (neI 8388608) (neI 2) (Zam.snd c3) q)
    refine Zbg h7 (fun c4 h8=>?_) (fun c4 h9=>?_)
    ·have t3 {Q:Prop} (q:Q):=t2 (aK c4 c4 c4 q)
     refine Zbg h8 (fun c5 h10=>?_) (fun c5 h11=>?_)
     ·exact aq fol (o2 ++ [.r [(7,wF),(8,wF),(9,wF),(12,wF),(15,wF),(16,wF),(17,wF),(20,wF)],.s 1]) [2,6,7,8,9] [2,8] (t3 (aO c5 c5 c5 c5 c5 eT eT (aJ eT eT eT))) (ZaD.p1_ok h10 hE)
     ·have t4 {Q:Prop} (q:Q):=t3 (aK c5 c5 c5 q)
      refine Zbg h11 (fun c6 h12=>?_) (fun c6 h13=>?_)
      ·refine Zbg h12 (fun c7 h14=>?_) (fun c7 h15=>?_)
       ·exact aq fol (o2 ++ [.r [(13,yF),(15,wF),(16,wF),(17,wF),(20,wF)],.s 1]) [2,6,7,8,9] [2,8] (t4 (aO c6 c6 c5 c6 c5 c7 c7 (aJ c7 c7 c7))) (ZaD.p1_ok h14 hE)
       ·refine Zbg h15 (fun c8 h16=>?_) (fun c8 h17=>?_)
        ·exact aq fol (o2 ++ [.r [(13,yF),(21,yF)],.s 1]) [2,6,7,8,9] [2,8] (t4 (aO c6 c6 c5 c6 c5 c7 c7 (aM c7 c8 c8 c7 c8 c7))) (ZaD.p1_ok h16 hE)
        ·exact aq fol (o2 ++ [.r [(13,yF),(18,wF),(19,wF),(20,yF),(21,yF)],.s 1]) [2,6,7,8,9] [2,8] (t4 (aO c6 c6 c5 c6 c5 c7 c7 (aM c7 c8 c8 c7 c8 c7))) (ZaD.p1_ok h17 hE)
      ·have t5 {Q:Prop} (q:Q):=t4 (aO c6 c6 c5 c6 c5 eF eF (aI eF q))
       refine Zbg h13 (fun c9 h18=>?_) (fun c9 h19=>?_)
       ·exact aq fol (o2 ++ [.r [(10,wF),(11,wF),(12,yF),(13,yF),(21,yF)],.s 1]) [2,6,7,8,9] [2,8] (t5 (aL c9 c9 eF c9 eF)) (ZaD.p1_ok h18 hE)
       ·exact aq fol (o2 ++ [.r [(10,wF),(11,wF),(12,yF),(13,yF),(18,wF),(19,wF),(20,yF),(21,yF)],.s 1]) [2,6,7,8,9] [2,8] (t5 (aL c9 c9 eF c9 eF)) (ZaD.p1_ok h19 hE)
    ·have t6 {Q:Prop} (q:Q):=t2 (aN c4 c4 c4 eF eF eF q)
     refine Zbg h9 (fun c10 h20=>?_) (fun c10 h21=>?_)
     ·have t7 {Q:Prop} (q:Q):=t6 (aM c10 c10 eF c10 eF q)
      refine Zbg h20 (fun c11 h22=>?_) (fun c11 h23=>?_)
      ·exact aq fol (o2 ++ [.r [(3,wF),(4,wF),(5,yF),(13,yF),(15,wF),(16,wF),(17,wF),(20,wF)],.s 1]) [2,6,7,8,9] [2,8] (t7 (aL c11 c11 c11 c11 c11)) (ZaD.p1_ok h22 hE)
      ·refine Zbg h23 (fun c12 h24=>?_) (fun c12 h25=>?_)
       ·exact aq fol (o2 ++ [.r [(3,wF),(4,wF),(5,yF),(13,yF),(21,yF)],.s 1]) [2,6,7,8,9] [2,8] (t7 (aO c11 c11 c11 c12 c12 c11 c12 c11)) (ZaD.p1_ok h24 hE)
       ·exact aq fol (o2 ++ [.r [(3,wF),(4,wF),(5,yF),(13,yF),(18,wF),(19,wF),(20,yF),(21,yF)],.s 1]) [2,6,7,8,9] [2,8] (t7 (aO c11 c11 c11 c12 c12 c11 c12 c11)) (ZaD.p1_ok h25 hE)
     ·have t8 {Q:Prop} (q:Q):=t6 (aO c10 c10 eF c10 eF eF eF (aI eF q))
      refine Zbg h21 (fun c13 h26=>?_) (fun c13 h27=>?_)
      ·exact aq fol (o2 ++ [.r [(3,wF),(4,wF),(5,yF),(10,wF),(11,wF),(12,yF),(13,yF),(21,yF)],.s 1]) [2,6,7,8,9] [2,8] (t8 (aL c13 c13 eF c13 eF)) (ZaD.p1_ok h26 hE)
      ·exact aq fol (o2 ++ [.r [(3,wF),(4,wF),(5,yF),(10,wF),(11,wF),(12,yF),(13,yF),(18,wF),(19,wF),(20,yF),(21,yF)],.s 1]) [2,6,7,8,9] [2,8] (t8 (aL c13 c13 eF c13 eF)) (ZaD.p1_ok h27 hE)
def ZcB.B:Code:=Tryz.f76.body.getD .skip
def ZcB.rs (r:Int):List CV:=[oI r]
def ZcB (N:Nat) (a_0_0:List Int) (i_1:Int):Option Int:=
 if (decide (i_1<0))=true then
  some 0
 else
 if (decide (i_1>255))=true then
  some 0
 else
 chk (0≤(w64 (zU i_1 64)))<|
 chk ((w64 (zU i_1 64))<4)<|
 chk (0≤(v64 (yH i_1 64)))<|
 some (w64 (yH (ZaQ .u64 (zF a_0_0 (zD (w64 (zU i_1 64))) 0) (v64 (yH i_1 64))) 2))
theorem ZcB.snd {a_0_0:List Int} {i_1:Int} {r:Int} (h:ZcB N a_0_0 i_1=some r):Zde zE 76 [.agg [zL .u64 4 a_0_0],oI i_1] (ZcB.rs r):=fun st=>
 sO ZcB.B Tryz.func76 fun g0 w0 R hE=>by
  unfold ZcB at h
  refine Zbg h (fun c1 h1=>?_) (fun c1 h2=>?_)
  ·obtain rfl:=Zaa h1
   exact af fol hE [.r [],.r [(3,wF),(4,wF)],.c true,.r []] [] 0 [] (aK c1 c1 c1 eT)
  ·refine Zbg h2 (fun c2 h3=>?_) (fun c2 h4=>?_)
   ·obtain rfl:=Zaa h3
    exact af fol hE [.r [],.r [(5,yF)],.c true,.r []] [] 0 [] (aK c1 c1 c1 c2)
   ·obtain ⟨c3,c4,c5,h5⟩:=ck3 h4
    obtain rfl:=Zaa h5
    exact af fol hE [.r [],.r [(5,yF)],.c false,.r []] [] 0 [] (aO c1 c1 c1 c2 (neI 64) c3 c4 (aJ (neI 64) c5 (neI 2)))
def ZbA.B:Code:=Tryz.f47.body.getD .skip
def ZbA.rs (r:Bool):List CV:=[oB r]
def ZbA.p1 (N:Nat) (a_0_0 b_1_0:List Int) (c1_:Int→Option Bool):Int→Option Bool:=fun i_1=>
 if (decide (i_1≥0))=true then
  Zbv (ZcB N a_0_0 i_1) fun x2=>
  Zbv (ZcB N b_1_0 i_1) fun x3=>
  if (x2 != x3)=true then
   some (decide (x2<x3))
  else
  c1_ (w64 (i_1-1))
 else
 some false
def ZbA (N:Nat) (a_0_0 b_1_0:List Int):Option Bool:=
 loopN (ZbA.p1 N a_0_0 b_1_0) N 255
def ZbA.p1.S (i_1:Int) (a_0_0 b_1_0:List Int) (st:LL):S:=mkS 24 [(2,sA 2),(3,sA 3),(5,sI i_1)] [(2,.cells [zL .u64 4 a_0_0]),(3,.cells [zL .u64 4 b_1_0])] st
theorem ZbA.p1_ok {i_1 a_0_0 b_1_0 st r c1_ J1} (h:ZbA.p1 N a_0_0 b_1_0 c1_ i_1=some r) (hE:En Tryz.f47 g0 w0 (ZbA.rs r) st R) (hc1 : ∀i_1,c1_ i_1=some r→At g0 w0 (ZbA.p1.S i_1 a_0_0 b_1_0 st) J1):At g0 w0 (ZbA.p1.S i_1 a_0_0 b_1_0 st) (XK zE R (.c (ZbX ZbA.B [1,0,1,0,0]) :: .h J1 :: [.b 0,.c (ZbX ZbA.B [1,1])])):=by
 unfold ZbA.p1 at h
 refine Zbg h (fun c1 h1=>?_) (fun c1 h2=>?_)
 ·obtain ⟨x2,c2,h3⟩:=Zae h1
  obtain ⟨x3,c3,h4⟩:=Zae h3
  let o1:List PS:=[.r [],.c true,.d {ds:=[(2,q1 [oI x2]),(5,q1 [oI x3])],hv:=0,Hs:=[]}]
  have t1 {Q:Prop} (q:Q):=aK c1 (ZcB.snd c2) (ZcB.snd c3) q
  refine Zbg h4 (fun c4 h5=>?_) (fun c4 h6=>?_)
  ·obtain rfl:=Zaa h5
   exact afd fol hE (o1 ++ [.c true,.d {ds:=[(2,q1 [oI x2]),(5,q1 [oI x3])],hv:=0,Hs:=[]}]) [] 0 [] (t1 (aJ c4 (ZcB.snd c2) (ZcB.snd c3)))
  ·exact Zmb fol (o1 ++ [.c false,.r []]) [2,3,5] [2,3] (t1 c4) (hc1 (w64 (i_1-1)) h6)
 ·obtain rfl:=Zaa h2
  exact af fol hE [.r [],.c false,.r []] [] 0 [] c1
theorem ZbA.snd {a_0_0 b_1_0:List Int} {r:Bool} (h:ZbA N a_0_0 b_1_0=some r):Zde zE 47 [.agg [zL .u64 4 a_0_0],.agg [zL .u64 4 b_1_0]] (ZbA.rs r):=fun st=>
 sO ZbA.B Tryz.func47 fun g0 w0 R hE=>by
  unfold ZbA at h
  exact aq fol [.r [],.r []] [2,3,5] [2,3] trivial (At.loop N (At.loopN (fun y:Int=>ZbA.p1.S y a_0_0 b_1_0 st) (fun c J hc y h=>ZbA.p1_ok h hE (fun i_1=>hc i_1)) N 255 h))
def Zcw.B:Code:=Tryz.f77.body.getD .skip
def Zcw.rs (r:(List Int)×Bool):List CV:=[.agg [zL .u64 4 r.1],oB r.2]
def Zcw (N:Nat) (bits_0 limit_1:Int):Option ((List Int)×Bool):=
 Zbv (ZaD N bits_0) fun (x1,x2,x3)=>
 Zbv (ZaD N limit_1) fun (x4,x5,x6)=>
 if x2=true then
  some (zC 4 0,false)
 else
 if x3=true then
  some (zC 4 0,false)
 else
 if x5=true then
  some (zC 4 0,false)
 else
 if x6=true then
  some (zC 4 0,false)
 else
 if (x1==(zC 4 0))=true then
  some (zC 4 0,false)
 else
 Zbv (ZbA N x4 x1) fun x7=>
 if x7=true then
  some (zC 4 0,false)
 else
 some (x1,true)
theorem Zcw.snd {bits_0 limit_1:Int} {r:(List Int)×Bool} (h:Zcw N bits_0 limit_1=some r):Zde zE 77 [oI bits_0,oI limit_1] (Zcw.rs r):=fun st=>
 sO Zcw.B Tryz.func77 fun g0 w0 R hE=>by
  unfold Zcw at h
  obtain ⟨⟨x1,x2,x3⟩,c1,h1⟩:=Zae h
  obtain ⟨⟨x4,x5,x6⟩,c2,h2⟩:=Zae h1
  let o1:List PS:=[.r [],.r [(1,q1 [.agg [zL .u64 4 x1],oB x2,oB x3])],.r [(1,q1 [.agg [zL .u64 4 x4],oB x5,oB x6])]]
  have t1 {Q:Prop} (q:Q):=aJ (ZaD.snd c1) (ZaD.snd c2) q
  refine Zbg h2 (fun c3 h3=>?_) (fun c3 h4=>?_)
  ·obtain rfl:=Zaa h3
   exact af fol hE (o1 ++ [.r [(2,wF),(5,wF),(8,wF),(11,wF),(12,wF),(13,wF),(16,wF),(17,wF),(18,wF)],.c true,.r []]) [] 0 [] (t1 (aO c3 c3 eT eT eT eT eT (aO eT eT eT eT eT eT eT eT)))
  ·refine Zbg h4 (fun c4 h5=>?_) (fun c4 h6=>?_)
   ·obtain rfl:=Zaa h5
    exact af fol hE (o1 ++ [.r [(3,yF),(5,wF),(8,wF),(11,wF),(12,wF),(13,wF),(16,wF),(17,wF),(18,wF)],.c true,.r []]) [] 0 [] (t1 (aO c3 c3 c4 c4 eT eT eT (aO eT eT eT eT eT eT eT eT)))
   ·have t2 {Q:Prop} (q:Q):=t1 (aL c3 c3 c4 c4 q)
    refine Zbg h6 (fun c5 h7=>?_) (fun c5 h8=>?_)
    ·obtain rfl:=Zaa h7
     exact af fol hE (o1 ++ [.r [(3,yF),(6,yF),(8,wF),(11,wF),(12,wF),(13,wF),(16,wF),(17,wF),(18,wF)],.c true,.r []]) [] 0 [] (t2 (aO c5 c5 eT eT eT eT eT (aK eT eT eT eT)))
    ·refine Zbg h8 (fun c6 h9=>?_) (fun c6 h10=>?_)
     ·obtain rfl:=Zaa h9
      exact af fol hE (o1 ++ [.r [(3,yF),(6,yF),(9,yF),(11,wF),(12,wF),(13,wF),(16,wF),(17,wF),(18,wF)],.c true,.r []]) [] 0 [] (t2 (aO c5 c5 c6 c6 c6 c6 eT (aK eT eT eT eT)))
     ·have t3 {Q:Prop} (q:Q):=t2 (aN c5 c5 c6 c6 c6 c6 q)
      refine Zbg h10 (fun c7 h11=>?_) (fun c7 h12=>?_)
      ·obtain rfl:=Zaa h11
       exact af fol hE (o1 ++ [.r [(3,yF),(6,yF),(9,yF),(14,yF),(16,wF),(17,wF),(18,wF)],.c true,.r []]) [] 0 [] (t3 (aL c7 c7 c7 c7 eT))
      ·obtain ⟨x7,c8,h13⟩:=Zae h12
       let o2:List PS:=o1 ++ [.r [(3,yF),(6,yF),(9,yF),(14,yF),(18,q1 [oB x7]),(19,yF)]]
       refine Zbg h13 (fun c9 h14=>?_) (fun c9 h15=>?_)
       ·obtain rfl:=Zaa h14
        exact af fol hE (o2 ++ [.c true,.r []]) [] 0 [] (t3 (aM c7 c7 c7 (ZbA.snd c8) c7 c9))
       ·obtain rfl:=Zaa h15
        exact af fol hE (o2 ++ [.c false,.r []]) [] 0 [] (t3 (aM c7 c7 c7 (ZbA.snd c8) c7 c9))
def ZcY.B:Code:=Tryz.f48.body.getD .skip
def ZcY.rs (r:Bool):List CV:=[oB r]
def ZcY (N:Nat) (p_0:Zaj):Option Bool:=
 Zbv (Zcw N p_0.Limit p_0.Limit) fun (x1,x2)=>
 if x2=true then
  if (decide (p_0.Interval≥2))=true then
   if (decide (p_0.Interval≤64))=true then
    if (decide (p_0.Spacing≥1))=true then
     if (decide (p_0.Spacing≤10000))=true then
      if (decide (p_0.Future≥0))=true then
       some (decide (p_0.Future<4294967296))
      else
      some false
     else
     some false
    else
    some false
   else
   some false
  else
  some false
 else
 some false
theorem ZcY.snd {p_0:Zaj} {r:Bool} (h:ZcY N p_0=some r):Zde zE 48 [.agg p_0.ls] (ZcY.rs r):=fun st=>
 sO ZcY.B Tryz.func48 fun g0 w0 R hE=>by
  unfold ZcY at h
  obtain ⟨⟨x1,x2⟩,c1,h1⟩:=Zae h
  let o1:List PS:=[.r [],.r [(4,q1 [.agg [zL .u64 4 x1],oB x2])]]
  have t1 {Q:Prop} (q:Q):=aI (Zcw.snd c1) q
  refine Zbg h1 (fun c2 h2=>?_) (fun c2 h3=>?_)
  ·have t2 {Q:Prop} (q:Q):=t1 (aL c2 c2 c2 c2 q)
   refine Zbg h2 (fun c3 h4=>?_) (fun c3 h5=>?_)
   ·have t3 {Q:Prop} (q:Q):=t2 (aL c3 c3 c3 c3 q)
    refine Zbg h4 (fun c4 h6=>?_) (fun c4 h7=>?_)
    ·have t4 {Q:Prop} (q:Q):=t3 (aL c4 c4 c4 c4 q)
     refine Zbg h6 (fun c5 h8=>?_) (fun c5 h9=>?_)
     ·refine Zbg h8 (fun c6 h10=>?_) (fun c6 h11=>?_)
      ·refine Zbg h10 (fun c7 h12=>?_) (fun c7 h13=>?_)
       ·obtain rfl:=Zaa h12
        exact af fol hE (o1 ++ [.r []]) [] 0 [] (t4 (aO c5 c5 c5 c5 c6 c6 c6 (aL c6 c7 c7 c7 c7)))
       ·obtain rfl:=Zaa h13
        exact af fol hE (o1 ++ [.r [(27,wF),(28,wF),(29,wF),(30,yF)]]) [] 0 [] (t4 (aO c5 c5 c5 c5 c6 c6 c6 (aL c6 c7 c7 c7 c7)))
      ·obtain rfl:=Zaa h11
       exact af fol hE (o1 ++ [.r [(22,wF),(23,wF),(24,wF),(25,yF),(27,wF),(28,wF),(29,wF),(30,yF)]]) [] 0 [] (t4 (aO c5 c5 c5 c5 c6 c6 c6 (aL c6 eF eF eF eF)))
     ·obtain rfl:=Zaa h9
      exact af fol hE (o1 ++ [.r [(17,wF),(18,wF),(19,wF),(20,yF),(22,wF),(23,wF),(24,wF),(25,yF),(27,wF),(28,wF),(29,wF),(30,yF)]]) [] 0 [] (t4 (aO c5 c5 c5 c5 eF eF eF (aL eF eF eF eF eF)))
    ·obtain rfl:=Zaa h7
     exact af fol hE (o1 ++ [.r [(12,wF),(13,wF),(14,wF),(15,yF),(17,wF),(18,wF),(19,wF),(20,yF),(22,wF),(23,wF),(24,wF),(25,yF),(27,wF),(28,wF),(29,wF),(30,yF)]]) [] 0 [] (t3 (aO c4 c4 c4 c4 eF eF eF (aO eF eF eF eF eF eF eF (aI eF eF))))
   ·obtain rfl:=Zaa h5
    exact af fol hE (o1 ++ [.r [(7,wF),(8,wF),(9,wF),(10,yF),(12,wF),(13,wF),(14,wF),(15,yF),(17,wF),(18,wF),(19,wF),(20,yF),(22,wF),(23,wF),(24,wF),(25,yF),(27,wF),(28,wF),(29,wF),(30,yF)]]) [] 0 [] (t2 (aO c3 c3 c3 c3 eF eF eF (aO eF eF eF eF eF eF eF (aM eF eF eF eF eF eF))))
  ·obtain rfl:=Zaa h3
   exact af fol hE (o1 ++ [.r [(2,wF),(3,wF),(4,wF),(5,yF),(7,wF),(8,wF),(9,wF),(10,yF),(12,wF),(13,wF),(14,wF),(15,yF),(17,wF),(18,wF),(19,wF),(20,yF),(22,wF),(23,wF),(24,wF),(25,yF),(27,wF),(28,wF),(29,wF),(30,yF)]]) [] 0 [] (t1 (aO c2 c2 c2 c2 eF eF eF (aO eF eF eF eF eF eF eF (aO eF eF eF eF eF eF eF (aJ eF eF eF)))))
def ZcZ.B:Code:=Tryz.f41.body.getD .skip
def ZcZ.rs (r:Bool):List CV:=[oB r]
def ZcZ (N:Nat) (h_0:Zan):Option Bool:=
 if (decide (h_0.Version≥(-2147483648)))=true then
  if (decide (h_0.Version≤2147483647))=true then
   if (decide (h_0.Time≥0))=true then
    if (decide (h_0.Time<4294967296))=true then
     if (decide (h_0.Bits≥0))=true then
      if (decide (h_0.Bits<4294967296))=true then
       if (decide (h_0.Nonce≥0))=true then
        some (decide (h_0.Nonce<4294967296))
       else
       some false
      else
      some false
     else
     some false
    else
    some false
   else
   some false
  else
  some false
 else
 some false
theorem ZcZ.snd {h_0:Zan} {r:Bool} (h:ZcZ N h_0=some r):Zde zE 41 [.agg h_0.ls] (ZcZ.rs r):=fun st=>
 sO ZcZ.B Tryz.func41 fun g0 w0 R hE=>by
  unfold ZcZ at h
  let o1:List PS:=[.r [],.r []]
  refine Zbg h (fun c1 h1=>?_) (fun c1 h2=>?_)
  ·have t1 {Q:Prop} (q:Q):=aL c1 c1 c1 c1 q
   refine Zbg h1 (fun c2 h3=>?_) (fun c2 h4=>?_)
   ·have t2 {Q:Prop} (q:Q):=t1 (aL c2 c2 c2 c2 q)
    refine Zbg h3 (fun c3 h5=>?_) (fun c3 h6=>?_)
    ·have t3 {Q:Prop} (q:Q):=t2 (aM c3 c3 c3 c3 c3 q)
     refine Zbg h5 (fun c4 h7=>?_) (fun c4 h8=>?_)
     ·have t4 {Q:Prop} (q:Q):=t3 (aL c4 c4 c4 c4 q)
      refine Zbg h7 (fun c5 h9=>?_) (fun c5 h10=>?_)
      ·refine Zbg h9 (fun c6 h11=>?_) (fun c6 h12=>?_)
       ·refine Zbg h11 (fun c7 h13=>?_) (fun c7 h14=>?_)
        ·obtain rfl:=Zaa h13
         exact af fol hE (o1 ++ [.r []]) [] 0 [] (t4 (aO c5 c5 c5 c5 c5 c6 c6 (aN c6 c6 c7 c7 c7 c7 c7)))
        ·obtain rfl:=Zaa h14
         exact af fol hE (o1 ++ [.r [(36,wF),(37,wF),(38,wF),(39,wF),(40,yF)]]) [] 0 [] (t4 (aO c5 c5 c5 c5 c5 c6 c6 (aN c6 c6 c7 c7 c7 c7 c7)))
       ·obtain rfl:=Zaa h12
        exact af fol hE (o1 ++ [.r [(31,wF),(32,wF),(33,wF),(34,yF),(36,wF),(37,wF),(38,wF),(39,wF),(40,yF)]]) [] 0 [] (t4 (aO c5 c5 c5 c5 c5 c6 c6 (aN c6 c6 eF eF eF eF eF)))
      ·obtain rfl:=Zaa h10
       exact af fol hE (o1 ++ [.r [(25,wF),(26,wF),(27,wF),(28,wF),(29,yF),(31,wF),(32,wF),(33,wF),(34,yF),(36,wF),(37,wF),(38,wF),(39,wF),(40,yF)]]) [] 0 [] (t4 (aO c5 c5 c5 c5 c5 eF eF (aN eF eF eF eF eF eF eF)))
     ·obtain rfl:=Zaa h8
      exact af fol hE (o1 ++ [.r [(20,wF),(21,wF),(22,wF),(23,yF),(25,wF),(26,wF),(27,wF),(28,wF),(29,yF),(31,wF),(32,wF),(33,wF),(34,yF),(36,wF),(37,wF),(38,wF),(39,wF),(40,yF)]]) [] 0 [] (t3 (aO c4 c4 c4 c4 eF eF eF (aO eF eF eF eF eF eF eF (aK eF eF eF eF))))
    ·obtain rfl:=Zaa h6
     exact af fol hE (o1 ++ [.r [(14,wF),(15,wF),(16,wF),(17,wF),(18,yF),(20,wF),(21,wF),(22,wF),(23,yF),(25,wF),(26,wF),(27,wF),(28,wF),(29,yF),(31,wF),(32,wF),(33,wF),(34,yF),(36,wF),(37,wF),(38,wF),(39,wF),(40,yF)]]) [] 0 [] (t2 (aO c3 c3 c3 c3 c3 eF eF (aO eF eF eF eF eF eF eF (aO eF eF eF eF eF eF eF (aI eF eF)))))
   ·obtain rfl:=Zaa h4
    exact af fol hE (o1 ++ [.r [(9,wF),(10,wF),(11,wF),(12,yF),(14,wF),(15,wF),(16,wF),(17,wF),(18,yF),(20,wF),(21,wF),(22,wF),(23,yF),(25,wF),(26,wF),(27,wF),(28,wF),(29,yF),(31,wF),(32,wF),(33,wF),(34,yF),(36,wF),(37,wF),(38,wF),(39,wF),(40,yF)]]) [] 0 [] (t1 (aO c2 c2 c2 c2 eF eF eF (aO eF eF eF eF eF eF eF (aO eF eF eF eF eF eF eF (aM eF eF eF eF eF eF)))))
  ·obtain rfl:=Zaa h2
   exact af fol hE (o1 ++ [.r [(4,wF),(5,wF),(6,wF),(7,yF),(9,wF),(10,wF),(11,wF),(12,yF),(14,wF),(15,wF),(16,wF),(17,wF),(18,yF),(20,wF),(21,wF),(22,wF),(23,yF),(25,wF),(26,wF),(27,wF),(28,wF),(29,yF),(31,wF),(32,wF),(33,wF),(34,yF),(36,wF),(37,wF),(38,wF),(39,wF),(40,yF)]]) [] 0 [] (aO c1 c1 c1 c1 eF eF eF (aO eF eF eF eF eF eF eF (aO eF eF eF eF eF eF eF (aO eF eF eF eF eF eF eF (aJ eF eF eF)))))
def ZaR.B:Code:=Tryz.f24.body.getD .skip
def ZaR.rs (r:Bool):List CV:=[oB r]
def ZaR.p2 (N:Nat) (p_0:Zaj) (c2_:(Int×Int)→Option Bool):(Int×Int)→Option Bool:=fun (last_6,v7)=>
 if (decide (v7<(len p_0.Checks)))=true then
  chk (0≤v7)<|
  ZcJ (p_0.Checks[zD v7]?) Zdo fun x8=>
  if (decide (x8.Height≤last_6))=true then
   some false
  else
  c2_ (x8.Height,w64 (v7+1))
 else
 some true
def ZaR.p1 (N:Nat) (p_0:Zaj) (c1_:(Int×Int)→Option Bool):(Int×Int)→Option Bool:=fun (last_3,v4)=>
 if (decide (v4<(len p_0.Gates)))=true then
  chk (0≤v4)<|
  ZcJ (p_0.Gates[zD v4]?) ZdF fun x5=>
  if (decide (x5.Height≤last_3))=true then
   some false
  else
  c1_ (x5.Height,w64 (v4+1))
 else
 loopN (ZaR.p2 N p_0) N (0,0)
def ZaR (N:Nat) (p_0:Zaj):Option Bool:=
 Zbv (ZcY N p_0) fun x1=>
 if (!x1)=true then
  some false
 else
 Zbv (ZcZ N p_0.Genesis) fun x2=>
 if (!x2)=true then
  some false
 else
 loopN (ZaR.p1 N p_0) N ((-1),0)
def ZaR.p2.S (last_6:Int) (p_0:Zaj) (v7:Int) (st:LL):S:=mkS 45 [(3,sI last_6),(32,sV 33 p_0.Checks),(33,sI (len p_0.Checks)),(34,sI v7)] [] st
def ZaR.p1.S (last_3:Int) (p_0:Zaj) (v4:Int) (st:LL):S:=mkS 45 [(1,sA 1),(3,sI last_3),(18,sV 2 p_0.Gates),(19,sI (len p_0.Gates)),(20,sI v4)] [(1,.cells p_0.ls)] st
theorem ZaR.p2_ok {last_6 p_0 v7 st r c2_ J2} (h:ZaR.p2 N p_0 c2_ (last_6,v7)=some r) (hE:En Tryz.f24 g0 w0 (ZaR.rs r) st R) (hc2 : ∀last_6 v7,c2_ (last_6,v7)=some r→At g0 w0 (ZaR.p2.S last_6 p_0 v7 st) J2):At g0 w0 (ZaR.p2.S last_6 p_0 v7 st) (XK zE R (.c (ZbX ZaR.B [1,1,1,1,1,0,1,0,0]) :: .h J2 :: [.b 2,.c (ZbX ZaR.B [1,1,1,1,1,1])])):=by
 unfold ZaR.p2 at h
 refine Zbg h (fun c9 h1=>?_) (fun c9 h2=>?_)
 ·obtain ⟨c10,h3⟩:=ZaT h1
  obtain ⟨x8,c11,h4⟩:=ZdM h3
  let o1:List PS:=[.r [],.c true,.r [(1,{oe:=x8.ls})],.r []]
  refine Zbg h4 (fun c12 h5=>?_) (fun c12 h6=>?_)
  ·obtain rfl:=Zaa h5
   exact af fol hE (o1 ++ [.c true,.r []]) [] 0 [] (aL c9 c10 (oD c9) c11 c12)
  ·exact an fol (o1 ++ [.c false,.r [],.r []]) [3,32,33,34] [] (aL c9 c10 (oD c9) c11 c12) (hc2 x8.Height (w64 (v7+1)) h6)
 ·obtain rfl:=Zaa h2
  exact af fol hE [.r [],.c false,.r []] [] 0 [] c9
theorem ZaR.p1_ok {last_3 p_0 v4 st r c1_ J1} (h:ZaR.p1 N p_0 c1_ (last_3,v4)=some r) (hE:En Tryz.f24 g0 w0 (ZaR.rs r) st R) (hc1 : ∀last_3 v4,c1_ (last_3,v4)=some r→At g0 w0 (ZaR.p1.S last_3 p_0 v4 st) J1):At g0 w0 (ZaR.p1.S last_3 p_0 v4 st) (XK zE R (.c (ZbX ZaR.B [1,1,1,0,1,0,0]) :: .h J1 :: [.b 0,.c (ZbX ZaR.B [1,1,1,1])])):=by
 unfold ZaR.p1 at h
 refine Zbg h (fun c5 h7=>?_) (fun c5 h8=>?_)
 ·obtain ⟨c6,h9⟩:=ZaT h7
  obtain ⟨x5,c7,h10⟩:=ZdS h9
  let o2:List PS:=[.r [],.c true,.r [(1,{oe:=x5.ls})],.r []]
  refine Zbg h10 (fun c8 h11=>?_) (fun c8 h12=>?_)
  ·obtain rfl:=Zaa h11
   exact af fol hE (o2 ++ [.c true,.r []]) [] 0 [] (aL c5 c6 (oD c5) c7 c8)
  ·exact an fol (o2 ++ [.c false,.r [],.r []]) [1,3,18,19,20] [1] (aL c5 c6 (oD c5) c7 c8) (hc1 x5.Height (w64 (v4+1)) h12)
 ·exact aq fol [.r [],.c false,.r [],.r []] [3,32,33,34] [] c5 (At.loop N (At.loopN (fun y:Int×Int=>ZaR.p2.S y.1 p_0 y.2 st) (fun c J hc y h=>ZaR.p2_ok (last_6:=y.1) (v7:=y.2) h hE (fun last_6 v7=>hc (last_6,v7))) N (0,0) h8))
theorem ZaR.snd {p_0:Zaj} {r:Bool} (h:ZaR N p_0=some r):Zde zE 24 [.agg p_0.ls] (ZaR.rs r):=fun st=>
 sO ZaR.B Tryz.func24 fun g0 w0 R hE=>by
  unfold ZaR at h
  obtain ⟨x1,c1,h13⟩:=Zae h
  have t1 {Q:Prop} (q:Q):=aI (ZcY.snd c1) q
  refine Zbg h13 (fun c2 h14=>?_) (fun c2 h15=>?_)
  ·obtain rfl:=Zaa h14
   exact af fol hE [.r [],.r [(1,q1 [oB x1]),(4,wF),(5,wF),(6,wF),(7,wF)],.c true,.r []] [] 0 [] (t1 (aM (not_false (ZbZ c2)) (not_false (ZbZ c2)) (not_false (ZbZ c2)) (not_false (ZbZ c2)) (not_false (ZbZ c2)) eT))
  ·obtain ⟨x2,c3,h16⟩:=Zae h15
   let o3:List PS:=[.r [],.r [(1,q1 [oB x1]),(6,q1 [oB x2]),(8,yF)]]
   have t2 {Q:Prop} (q:Q):=t1 (aN (not_true (Zca c2)) (not_true (Zca c2)) (not_true (Zca c2)) (ZcZ.snd c3) (not_true (Zca c2)) (not_true (Zca c2)) q)
   refine Zbg h16 (fun c4 h17=>?_) (fun c4 h18=>?_)
   ·obtain rfl:=Zaa h17
    exact af fol hE (o3 ++ [.c true,.r []]) [] 0 [] (t2 c4)
   ·exact aq fol (o3 ++ [.c false,.r [],.r []]) [1,3,18,19,20] [1] (t2 c4) (At.loop N (At.loopN (fun y:Int×Int=>ZaR.p1.S y.1 p_0 y.2 st) (fun c J hc y h=>ZaR.p1_ok (last_3:=y.1) (v4:=y.2) h hE (fun last_3 v4=>hc (last_3,v4))) N ((-1),0) h18))
def Zbr.B:Code:=Tryz.f7.body.getD .skip
def Zbr.rs (r:Bool):List CV:=[oB r]
def Zbr.p1 (N:Nat) (acts_1:LL) (p_0:Zaj) (c1_:Int→Option Bool):Int→Option Bool:=fun v1=>
 if (decide (v1<(len acts_1)))=true then
  chk (0≤v1)<|
  ZcJ (acts_1[zD v1]?) Zcx fun x2=>
  if (decide (x2.Now<0))=true then
   some true
  else
  c1_ (w64 (v1+1))
 else
 if (decide ((len p_0.Gates)>20))=true then
  some true
 else
 if (decide ((len p_0.Checks)>20))=true then
  some true
 else
 if (decide ((len acts_1)>40))=true then
  some true
 else
 Zbv (ZaR N p_0) fun x3=>
 some (!x3)
def Zbr (N:Nat) (p_0:Zaj) (acts_1:LL):Option Bool:=
 loopN (Zbr.p1 N acts_1 p_0) N 0
def Zbr.p1.S (acts_1:LL) (v1:Int) (p_0:Zaj) (st:LL):S:=mkS 37 [(1,sV 71 acts_1),(2,sA 2),(7,sV 71 acts_1),(8,sI (len acts_1)),(9,sI v1)] [(2,.cells p_0.ls)] st
theorem Zbr.p1_ok {acts_1 v1 p_0 st r c1_ J1} (h:Zbr.p1 N acts_1 p_0 c1_ v1=some r) (hE:En Tryz.f7 g0 w0 (Zbr.rs r) st R) (hc1 : ∀v1,c1_ v1=some r→At g0 w0 (Zbr.p1.S acts_1 v1 p_0 st) J1):At g0 w0 (Zbr.p1.S acts_1 v1 p_0 st) (XK zE R (.c (ZbX Zbr.B [1,0,1,0,0]) :: .h J1 :: [.b 0,.c (ZbX Zbr.B [1,1])])):=by
 unfold Zbr.p1 at h
 refine Zbg h (fun c1 h1=>?_) (fun c1 h2=>?_)
 ·obtain ⟨c2,h3⟩:=ZaT h1
  obtain ⟨x2,c3,h4⟩:=ZdP h3
  let o1:List PS:=[.r [],.c true,.r [(1,{oe:=x2.ls})],.r []]
  refine Zbg h4 (fun c4 h5=>?_) (fun c4 h6=>?_)
  ·obtain rfl:=Zaa h5
   exact af fol hE (o1 ++ [.c true,.r []]) [] 0 [] (aL c1 c2 (oD c1) c3 c4)
  ·exact an fol (o1 ++ [.c false,.r []]) [1,2,7,8,9] [2] (aL c1 c2 (oD c1) c3 c4) (hc1 (w64 (v1+1)) h6)
 ·let o2:List PS:=[.r [],.c false]
  refine Zbg h2 (fun c5 h7=>?_) (fun c5 h8=>?_)
  ·obtain rfl:=Zaa h7
   exact af fol hE (o2 ++ [.r [(5,wF),(6,wF),(7,wF),(8,wF),(11,wF),(12,wF),(13,wF),(16,wF),(17,wF),(18,wF)]]) [] 0 [] (aO c1 c5 c5 c5 c5 c5 eT (aN eT eT eT eT eT eT eT))
  ·have t1 {Q:Prop} (q:Q):=aN c1 c5 c5 c5 c5 c5 q
   refine Zbg h8 (fun c6 h9=>?_) (fun c6 h10=>?_)
   ·obtain rfl:=Zaa h9
    exact af fol hE (o2 ++ [.r [(9,yF),(11,wF),(12,wF),(13,wF),(16,wF),(17,wF),(18,wF)]]) [] 0 [] (t1 (aO c6 c6 c6 c6 eT eT eT eT))
   ·refine Zbg h10 (fun c7 h11=>?_) (fun c7 h12=>?_)
    ·obtain rfl:=Zaa h11
     exact af fol hE (o2 ++ [.r [(9,yF),(14,yF),(16,wF),(17,wF),(18,wF)]]) [] 0 [] (t1 (aO c6 c6 c6 c6 c7 c7 c7 c7))
    ·obtain ⟨x3,c8,h13⟩:=Zae h12
     obtain rfl:=Zaa h13
     exact af fol hE (o2 ++ [.r [(9,yF),(14,yF),(17,q1 [oB x3]),(19,yF)]]) [] 0 [] (t1 (aO c6 c6 c6 c6 c7 c7 (ZaR.snd c8) (aI c7 c7)))
theorem Zbr.snd {p_0:Zaj} {acts_1:LL} {r:Bool} (h:Zbr N p_0 acts_1=some r):Zde zE 7 [.agg p_0.ls,.one (vG 71 acts_1)] (Zbr.rs r):=fun st=>
 sO Zbr.B Tryz.func7 fun g0 w0 R hE=>by
  unfold Zbr at h
  exact aq fol [.r [],.r []] [1,2,7,8,9] [2] trivial (At.loop N (At.loopN (fun y:Int=>Zbr.p1.S acts_1 y p_0 st) (fun c J hc y h=>Zbr.p1_ok h hE (fun v1=>hc v1)) N 0 h))
def ZdB.B:Code:=Tryz.f132.body.getD .skip
def ZdB.rs (r:Int):List CV:=[oI r]
def ZdB (N:Nat) (p_0:Zaj) (from_1 to_2:Int):Option Int:=
 some (if (w64 ((w64 (p_0.Interval*p_0.Spacing))*4))<(if (w64 (zU (w64 (p_0.Interval*p_0.Spacing)) 4))>(w64 (to_2-from_1)) then (w64 (zU (w64 (p_0.Interval*p_0.Spacing)) 4)) else (w64 (to_2-from_1))) then (w64 ((w64 (p_0.Interval*p_0.Spacing))*4)) else (if (w64 (zU (w64 (p_0.Interval*p_0.Spacing)) 4))>(w64 (to_2-from_1)) then (w64 (zU (w64 (p_0.Interval*p_0.Spacing)) 4)) else (w64 (to_2-from_1))))
theorem ZdB.snd {p_0:Zaj} {from_1 to_2:Int} {r:Int} (h:ZdB N p_0 from_1 to_2=some r):Zde zE 132 [.agg p_0.ls,oI from_1,oI to_2] (ZdB.rs r):=fun st=>
 sO ZdB.B Tryz.func132 fun g0 w0 R hE=>by
  unfold ZdB at h
  obtain rfl:=Zaa h
  exact af fol hE [.r [],.r [],.r []] [] 0 [] (neI 4)
def Zbk.B:Code:=Tryz.f151.body.getD .skip
def Zbk.rs (r:Int):List CV:=[oI r]
def Zbk (N:Nat) (x_0:Int):Option Int:=
 Zbv (Zap N x_0) fun x1=>
 some (w64 (64-x1))
theorem Zbk.snd {x_0:Int} {r:Int} (h:Zbk N x_0=some r):Zde zE 151 [.one (zJ .u64 x_0)] (Zbk.rs r):=fun st=>
 sO Zbk.B Tryz.func151 fun g0 w0 R hE=>by
  unfold Zbk at h
  obtain ⟨x1,c1,h1⟩:=Zae h
  obtain rfl:=Zaa h1
  exact af fol hE [.r [],.r [(1,q1 [oI x1])]] [] 0 [] (Zap.snd c1)
def Zaf.B:Code:=Tryz.f144.body.getD .skip
def Zaf.rs (r:Int×Int):List CV:=[.one (zJ .u64 r.1),.one (zJ .u64 r.2)]
def Zaf.p6 (N:Nat) (y_2 x1 lo_1 q1_4 hi_0 q0_7:Int):Option (Int×Int):=
 chk (0≤(v64 (x1)))<|
 some (v64 ((v64 (q1_4*4294967296))+q0_7),ZaQ .u64 (v64 ((v64 ((v64 ((v64 ((v64 ((v64 ((Zaz .or .u64 (Zbd .u64 hi_0 (v64 (x1))) (ZaQ .u64 lo_1 (v64 (64-(v64 (x1))))))*4294967296))+(ZaQ .u64 (Zbd .u64 lo_1 (v64 (x1))) 32)))-(v64 (q1_4*(Zbd .u64 y_2 (v64 (x1)))))))*4294967296))+(Zaz .and .u64 (Zbd .u64 lo_1 (v64 (x1))) 4294967295)))-(v64 (q0_7*(Zbd .u64 y_2 (v64 (x1))))))) (v64 (x1)))
def Zaf.p5 (N:Nat) (c4_:(Int×Int)→Option (Int×Int)) (y_2 x1 lo_1 q1_4 rhat_5 hi_0 q0_6:Int):Option (Int×Int):=
 if (decide ((v64 (rhat_5+(ZaQ .u64 (Zbd .u64 y_2 (v64 (x1))) 32)))≥4294967296))=true then
  Zaf.p6 N y_2 x1 lo_1 q1_4 hi_0 (v64 (q0_6-1))
 else
 c4_ (v64 (rhat_5+(ZaQ .u64 (Zbd .u64 y_2 (v64 (x1))) 32)),v64 (q0_6-1))
def Zaf.p4 (N:Nat) (y_2 x1 lo_1 q1_4 hi_0:Int) (c4_:(Int×Int)→Option (Int×Int)):(Int×Int)→Option (Int×Int):=fun (rhat_5,q0_6)=>
 if (decide (q0_6≥4294967296))=true then
  Zaf.p5 N c4_ y_2 x1 lo_1 q1_4 rhat_5 hi_0 q0_6
 else
 if (decide ((v64 (q0_6*(Zaz .and .u64 (Zbd .u64 y_2 (v64 (x1))) 4294967295)))>(v64 ((v64 (4294967296*rhat_5))+(Zaz .and .u64 (Zbd .u64 lo_1 (v64 (x1))) 4294967295)))))=true then
  Zaf.p5 N c4_ y_2 x1 lo_1 q1_4 rhat_5 hi_0 q0_6
 else
 Zaf.p6 N y_2 x1 lo_1 q1_4 hi_0 q0_6
def Zaf.p3 (N:Nat) (y_2 x1 hi_0 lo_1 q1_4:Int):Option (Int×Int):=
 chk ((ZaQ .u64 (Zbd .u64 y_2 (v64 (x1))) 32)≠0)<|
 loopN (Zaf.p4 N y_2 x1 lo_1 q1_4 hi_0) N (v64 ((v64 ((v64 ((v64 ((Zaz .or .u64 (Zbd .u64 hi_0 (v64 (x1))) (ZaQ .u64 lo_1 (v64 (64-(v64 (x1))))))*4294967296))+(ZaQ .u64 (Zbd .u64 lo_1 (v64 (x1))) 32)))-(v64 (q1_4*(Zbd .u64 y_2 (v64 (x1)))))))-(v64 ((v64 (zU (v64 ((v64 ((v64 ((Zaz .or .u64 (Zbd .u64 hi_0 (v64 (x1))) (ZaQ .u64 lo_1 (v64 (64-(v64 (x1))))))*4294967296))+(ZaQ .u64 (Zbd .u64 lo_1 (v64 (x1))) 32)))-(v64 (q1_4*(Zbd .u64 y_2 (v64 (x1))))))) (ZaQ .u64 (Zbd .u64 y_2 (v64 (x1))) 32)))*(ZaQ .u64 (Zbd .u64 y_2 (v64 (x1))) 32)))),v64 (zU (v64 ((v64 ((v64 ((Zaz .or .u64 (Zbd .u64 hi_0 (v64 (x1))) (ZaQ .u64 lo_1 (v64 (64-(v64 (x1))))))*4294967296))+(ZaQ .u64 (Zbd .u64 lo_1 (v64 (x1))) 32)))-(v64 (q1_4*(Zbd .u64 y_2 (v64 (x1))))))) (ZaQ .u64 (Zbd .u64 y_2 (v64 (x1))) 32)))
def Zaf.p2 (N:Nat) (c1_:(Int×Int)→Option (Int×Int)) (y_2 x1 hi_0 lo_1 q1_2 rhat_3:Int):Option (Int×Int):=
 if (decide ((v64 (rhat_3+(ZaQ .u64 (Zbd .u64 y_2 (v64 (x1))) 32)))≥4294967296))=true then
  Zaf.p3 N y_2 x1 hi_0 lo_1 (v64 (q1_2-1))
 else
 c1_ (v64 (q1_2-1),v64 (rhat_3+(ZaQ .u64 (Zbd .u64 y_2 (v64 (x1))) 32)))
def Zaf.p1 (N:Nat) (y_2 x1 hi_0 lo_1:Int) (c1_:(Int×Int)→Option (Int×Int)):(Int×Int)→Option (Int×Int):=fun (q1_2,rhat_3)=>
 if (decide (q1_2≥4294967296))=true then
  Zaf.p2 N c1_ y_2 x1 hi_0 lo_1 q1_2 rhat_3
 else
 if (decide ((v64 (q1_2*(Zaz .and .u64 (Zbd .u64 y_2 (v64 (x1))) 4294967295)))>(v64 ((v64 (4294967296*rhat_3))+(ZaQ .u64 (Zbd .u64 lo_1 (v64 (x1))) 32)))))=true then
  Zaf.p2 N c1_ y_2 x1 hi_0 lo_1 q1_2 rhat_3
 else
 Zaf.p3 N y_2 x1 hi_0 lo_1 q1_2
def Zaf (N:Nat) (hi_0 lo_1 y_2:Int):Option (Int×Int):=
 if (y_2==0)=true then
  none
 else
 if (decide (y_2≤hi_0))=true then
  none
 else
 if (hi_0==0)=true then
  chk (y_2≠0)<|
  some (v64 (zU lo_1 y_2),yH lo_1 y_2)
 else
 Zbv (Zbk N y_2) fun x1=>
 chk (0≤(v64 (x1)))<|
 chk (0≤(v64 (64-(v64 (x1)))))<|
 chk ((ZaQ .u64 (Zbd .u64 y_2 (v64 (x1))) 32)≠0)<|
 loopN (Zaf.p1 N y_2 x1 hi_0 lo_1) N (v64 (zU (Zaz .or .u64 (Zbd .u64 hi_0 (v64 (x1))) (ZaQ .u64 lo_1 (v64 (64-(v64 (x1)))))) (ZaQ .u64 (Zbd .u64 y_2 (v64 (x1))) 32)),v64 ((Zaz .or .u64 (Zbd .u64 hi_0 (v64 (x1))) (ZaQ .u64 lo_1 (v64 (64-(v64 (x1))))))-(v64 ((v64 (zU (Zaz .or .u64 (Zbd .u64 hi_0 (v64 (x1))) (ZaQ .u64 lo_1 (v64 (64-(v64 (x1)))))) (ZaQ .u64 (Zbd .u64 y_2 (v64 (x1))) 32)))*(ZaQ .u64 (Zbd .u64 y_2 (v64 (x1))) 32)))))
def Zaf.p6.S (y_2 x1 lo_1 q1_4 hi_0 q0_7:Int) (st:LL):S:=mkS 135 [(2,.one (.l (zJ .u64 (Zbd .u64 y_2 (v64 (x1)))))),(8,.one (.l (zJ .u64 (v64 (x1))))),(14,.one (.l (zJ .u64 (Zaz .and .u64 (Zbd .u64 lo_1 (v64 (x1))) 4294967295)))),(15,.one (.l (zJ .u64 q1_4))),(17,.one (.l (zJ .u64 (v64 ((v64 ((v64 ((Zaz .or .u64 (Zbd .u64 hi_0 (v64 (x1))) (ZaQ .u64 lo_1 (v64 (64-(v64 (x1))))))*4294967296))+(ZaQ .u64 (Zbd .u64 lo_1 (v64 (x1))) 32)))-(v64 (q1_4*(Zbd .u64 y_2 (v64 (x1)))))))))),(18,.one (.l (zJ .u64 q0_7)))] [] st
def Zaf.p5.S (y_2 x1 lo_1 q1_4 rhat_5 hi_0 q0_6:Int) (st:LL):S:=mkS 135 [(2,.one (.l (zJ .u64 (Zbd .u64 y_2 (v64 (x1)))))),(8,.one (.l (zJ .u64 (v64 (x1))))),(9,.one (.l (zJ .u64 (ZaQ .u64 (Zbd .u64 y_2 (v64 (x1))) 32)))),(10,.one (.l (zJ .u64 (Zaz .and .u64 (Zbd .u64 y_2 (v64 (x1))) 4294967295)))),(14,.one (.l (zJ .u64 (Zaz .and .u64 (Zbd .u64 lo_1 (v64 (x1))) 4294967295)))),(15,.one (.l (zJ .u64 q1_4))),(16,.one (.l (zJ .u64 rhat_5))),(17,.one (.l (zJ .u64 (v64 ((v64 ((v64 ((Zaz .or .u64 (Zbd .u64 hi_0 (v64 (x1))) (ZaQ .u64 lo_1 (v64 (64-(v64 (x1))))))*4294967296))+(ZaQ .u64 (Zbd .u64 lo_1 (v64 (x1))) 32)))-(v64 (q1_4*(Zbd .u64 y_2 (v64 (x1)))))))))),(18,.one (.l (zJ .u64 q0_6)))] [] st
def Zaf.p4.S (y_2 x1 lo_1 q1_4 rhat_5 hi_0 q0_6:Int) (st:LL):S:=mkS 135 [(2,.one (.l (zJ .u64 (Zbd .u64 y_2 (v64 (x1)))))),(8,.one (.l (zJ .u64 (v64 (x1))))),(9,.one (.l (zJ .u64 (ZaQ .u64 (Zbd .u64 y_2 (v64 (x1))) 32)))),(10,.one (.l (zJ .u64 (Zaz .and .u64 (Zbd .u64 y_2 (v64 (x1))) 4294967295)))),(14,.one (.l (zJ .u64 (Zaz .and .u64 (Zbd .u64 lo_1 (v64 (x1))) 4294967295)))),(15,.one (.l (zJ .u64 q1_4))),(16,.one (.l (zJ .u64 rhat_5))),(17,.one (.l (zJ .u64 (v64 ((v64 ((v64 ((Zaz .or .u64 (Zbd .u64 hi_0 (v64 (x1))) (ZaQ .u64 lo_1 (v64 (64-(v64 (x1))))))*4294967296))+(ZaQ .u64 (Zbd .u64 lo_1 (v64 (x1))) 32)))-(v64 (q1_4*(Zbd .u64 y_2 (v64 (x1)))))))))),(18,.one (.l (zJ .u64 q0_6)))] [] st
def Zaf.p3.S (y_2 x1 hi_0 lo_1 q1_4:Int) (st:LL):S:=mkS 135 [(2,.one (.l (zJ .u64 (Zbd .u64 y_2 (v64 (x1)))))),(8,.one (.l (zJ .u64 (v64 (x1))))),(9,.one (.l (zJ .u64 (ZaQ .u64 (Zbd .u64 y_2 (v64 (x1))) 32)))),(10,.one (.l (zJ .u64 (Zaz .and .u64 (Zbd .u64 y_2 (v64 (x1))) 4294967295)))),(11,.one (.l (zJ .u64 (Zaz .or .u64 (Zbd .u64 hi_0 (v64 (x1))) (ZaQ .u64 lo_1 (v64 (64-(v64 (x1))))))))),(13,.one (.l (zJ .u64 (ZaQ .u64 (Zbd .u64 lo_1 (v64 (x1))) 32)))),(14,.one (.l (zJ .u64 (Zaz .and .u64 (Zbd .u64 lo_1 (v64 (x1))) 4294967295)))),(15,.one (.l (zJ .u64 q1_4)))] [] st
def Zaf.p2.S (y_2 x1 hi_0 lo_1 q1_2 rhat_3:Int) (st:LL):S:=mkS 135 [(2,.one (.l (zJ .u64 (Zbd .u64 y_2 (v64 (x1)))))),(8,.one (.l (zJ .u64 (v64 (x1))))),(9,.one (.l (zJ .u64 (ZaQ .u64 (Zbd .u64 y_2 (v64 (x1))) 32)))),(10,.one (.l (zJ .u64 (Zaz .and .u64 (Zbd .u64 y_2 (v64 (x1))) 4294967295)))),(11,.one (.l (zJ .u64 (Zaz .or .u64 (Zbd .u64 hi_0 (v64 (x1))) (ZaQ .u64 lo_1 (v64 (64-(v64 (x1))))))))),(13,.one (.l (zJ .u64 (ZaQ .u64 (Zbd .u64 lo_1 (v64 (x1))) 32)))),(14,.one (.l (zJ .u64 (Zaz .and .u64 (Zbd .u64 lo_1 (v64 (x1))) 4294967295)))),(15,.one (.l (zJ .u64 q1_2))),(16,.one (.l (zJ .u64 rhat_3)))] [] st
def Zaf.p1.S (y_2 x1 hi_0 lo_1 q1_2 rhat_3:Int) (st:LL):S:=mkS 135 [(2,.one (.l (zJ .u64 (Zbd .u64 y_2 (v64 (x1)))))),(8,.one (.l (zJ .u64 (v64 (x1))))),(9,.one (.l (zJ .u64 (ZaQ .u64 (Zbd .u64 y_2 (v64 (x1))) 32)))),(10,.one (.l (zJ .u64 (Zaz .and .u64 (Zbd .u64 y_2 (v64 (x1))) 4294967295)))),(11,.one (.l (zJ .u64 (Zaz .or .u64 (Zbd .u64 hi_0 (v64 (x1))) (ZaQ .u64 lo_1 (v64 (64-(v64 (x1))))))))),(13,.one (.l (zJ .u64 (ZaQ .u64 (Zbd .u64 lo_1 (v64 (x1))) 32)))),(14,.one (.l (zJ .u64 (Zaz .and .u64 (Zbd .u64 lo_1 (v64 (x1))) 4294967295)))),(15,.one (.l (zJ .u64 q1_2))),(16,.one (.l (zJ .u64 rhat_3)))] [] st
theorem Zaf.p6_ok {y_2 x1 lo_1 q1_4 hi_0 q0_7 st r} (h:Zaf.p6 N y_2 x1 lo_1 q1_4 hi_0 q0_7=some r) (hE:En Tryz.f144 g0 w0 (Zaf.rs r) st R):At g0 w0 (Zaf.p6.S y_2 x1 lo_1 q1_4 hi_0 q0_7 st) (XK zE R [.c (ZbX Zaf.B [1,1,1,1,1,1,1,1,1,1,1,1,1,1,1,1,1,1,1])]):=by
 unfold Zaf.p6 at h
 obtain ⟨c16,h1⟩:=ZaT h
 obtain rfl:=Zaa h1
 exact af fol hE [.r []] [] 0 [] c16
theorem Zaf.p5_ok {y_2 x1 lo_1 q1_4 rhat_5 hi_0 q0_6 st r c4_ J4} (h:Zaf.p5 N c4_ y_2 x1 lo_1 q1_4 rhat_5 hi_0 q0_6=some r) (hE:En Tryz.f144 g0 w0 (Zaf.rs r) st R) (hc4 : ∀rhat_5 q0_6,c4_ (rhat_5,q0_6)=some r→At g0 w0 (Zaf.p4.S y_2 x1 lo_1 q1_4 rhat_5 hi_0 q0_6 st) J4):At g0 w0 (Zaf.p5.S y_2 x1 lo_1 q1_4 rhat_5 hi_0 q0_6 st) (XK zE R [.c (ZbX Zaf.B [1,1,1,1,1,1,1,1,1,1,1,1,1,1,1,1,1,1,0,0,0,1]),.h J4,.b 2,.c (ZbX Zaf.B [1,1,1,1,1,1,1,1,1,1,1,1,1,1,1,1,1,1,1])]):=by
 unfold Zaf.p5 at h
 refine Zbg h (fun c15 h2=>?_) (fun c15 h3=>?_)
 ·exact aq fol [.r [],.r [],.r [],.c true,.s 1] [2,8,14,15,17,18] [] c15 (Zaf.p6_ok h2 hE)
 ·exact an fol [.r [],.r [],.r [],.c false] [2,8,9,10,14,15,16,17,18] [] c15 (hc4 (v64 (rhat_5+(ZaQ .u64 (Zbd .u64 y_2 (v64 (x1))) 32))) (v64 (q0_6-1)) h3)
theorem Zaf.p4_ok {y_2 x1 lo_1 q1_4 rhat_5 hi_0 q0_6 st r c4_ J4} (h:Zaf.p4 N y_2 x1 lo_1 q1_4 hi_0 c4_ (rhat_5,q0_6)=some r) (hE:En Tryz.f144 g0 w0 (Zaf.rs r) st R) (hc4 : ∀rhat_5 q0_6,c4_ (rhat_5,q0_6)=some r→At g0 w0 (Zaf.p4.S y_2 x1 lo_1 q1_4 rhat_5 hi_0 q0_6 st) J4):At g0 w0 (Zaf.p4.S y_2 x1 lo_1 q1_4 rhat_5 hi_0 q0_6 st) (XK zE R (.c (ZbX Zaf.B [1,1,1,1,1,1,1,1,1,1,1,1,1,1,1,1,1,1,0,0,0]) :: .h J4 :: [.b 2,.c (ZbX Zaf.B [1,1,1,1,1,1,1,1,1,1,1,1,1,1,1,1,1,1,1])])):=by
 unfold Zaf.p4 at h
 refine Zbg h (fun c13 h4=>?_) (fun c13 h5=>?_)
 ·exact aq fol [.r [(3,wF),(4,wF),(5,wF),(6,wF),(7,wF),(8,wF),(9,wF),(10,wF)],.c true,.s 4] [2,8,9,10,14,15,16,17,18] [] (aO c13 c13 c13 c13 c13 c13 c13 (aJ c13 c13 eT)) (Zaf.p5_ok h4 hE hc4)
 ·have t1 {Q:Prop} (q:Q):=aO c13 c13 c13 c13 c13 c13 c13 (aJ c13 c13 q)
  refine Zbg h5 (fun c14 h6=>?_) (fun c14 h7=>?_)
  ·exact aq fol [.r [(11,yF)],.c true,.s 4] [2,8,9,10,14,15,16,17,18] [] (t1 c14) (Zaf.p5_ok h6 hE hc4)
  ·exact aq fol [.r [(11,yF)],.c false,.s 1] [2,8,14,15,17,18] [] (t1 c14) (Zaf.p6_ok h7 hE)
theorem Zaf.p3_ok {y_2 x1 hi_0 lo_1 q1_4 st r} (h:Zaf.p3 N y_2 x1 hi_0 lo_1 q1_4=some r) (hE:En Tryz.f144 g0 w0 (Zaf.rs r) st R):At g0 w0 (Zaf.p3.S y_2 x1 hi_0 lo_1 q1_4 st) (XK zE R [.c (ZbX Zaf.B [1,1,1,1,1,1,1,1,1,1,1,1,1,1,1])]):=by
 unfold Zaf.p3 at h
 obtain ⟨c12,h8⟩:=ZaT h
 exact aq fol [.r [],.r [],.r []] [2,8,9,10,14,15,16,17,18] [] c12 (At.loop N (At.loopN (fun y:Int×Int=>Zaf.p4.S y_2 x1 lo_1 q1_4 y.1 hi_0 y.2 st) (fun c J hc y h=>Zaf.p4_ok (rhat_5:=y.1) (q0_6:=y.2) h hE (fun rhat_5 q0_6=>hc (rhat_5,q0_6))) N (v64 ((v64 ((v64 ((v64 ((Zaz .or .u64 (Zbd .u64 hi_0 (v64 (x1))) (ZaQ .u64 lo_1 (v64 (64-(v64 (x1))))))*4294967296))+(ZaQ .u64 (Zbd .u64 lo_1 (v64 (x1))) 32)))-(v64 (q1_4*(Zbd .u64 y_2 (v64 (x1)))))))-(v64 ((v64 (zU (v64 ((v64 ((v64 ((Zaz .or .u64 (Zbd .u64 hi_0 (v64 (x1))) (ZaQ .u64 lo_1 (v64 (64-(v64 (x1))))))*4294967296))+(ZaQ .u64 (Zbd .u64 lo_1 (v64 (x1))) 32)))-(v64 (q1_4*(Zbd .u64 y_2 (v64 (x1))))))) (ZaQ .u64 (Zbd .u64 y_2 (v64 (x1))) 32)))*(ZaQ .u64 (Zbd .u64 y_2 (v64 (x1))) 32)))),v64 (zU (v64 ((v64 ((v64 ((Zaz .or .u64 (Zbd .u64 hi_0 (v64 (x1))) (ZaQ .u64 lo_1 (v64 (64-(v64 (x1))))))*4294967296))+(ZaQ .u64 (Zbd .u64 lo_1 (v64 (x1))) 32)))-(v64 (q1_4*(Zbd .u64 y_2 (v64 (x1))))))) (ZaQ .u64 (Zbd .u64 y_2 (v64 (x1))) 32))) h8))
theorem Zaf.p2_ok {y_2 x1 hi_0 lo_1 q1_2 rhat_3 st r c1_ J1} (h:Zaf.p2 N c1_ y_2 x1 hi_0 lo_1 q1_2 rhat_3=some r) (hE:En Tryz.f144 g0 w0 (Zaf.rs r) st R) (hc1 : ∀q1_2 rhat_3,c1_ (q1_2,rhat_3)=some r→At g0 w0 (Zaf.p1.S y_2 x1 hi_0 lo_1 q1_2 rhat_3 st) J1):At g0 w0 (Zaf.p2.S y_2 x1 hi_0 lo_1 q1_2 rhat_3 st) (XK zE R [.c (ZbX Zaf.B [1,1,1,1,1,1,1,1,1,1,1,1,1,1,0,0,0,1]),.h J1,.b 0,.c (ZbX Zaf.B [1,1,1,1,1,1,1,1,1,1,1,1,1,1,1])]):=by
 unfold Zaf.p2 at h
 refine Zbg h (fun c11 h9=>?_) (fun c11 h10=>?_)
 ·exact aq fol [.r [],.r [],.r [],.c true,.s 1] [2,8,9,10,11,13,14,15] [] c11 (Zaf.p3_ok h9 hE)
 ·exact an fol [.r [],.r [],.r [],.c false] [2,8,9,10,11,13,14,15,16] [] c11 (hc1 (v64 (q1_2-1)) (v64 (rhat_3+(ZaQ .u64 (Zbd .u64 y_2 (v64 (x1))) 32))) h10)
theorem Zaf.p1_ok {y_2 x1 hi_0 lo_1 q1_2 rhat_3 st r c1_ J1} (h:Zaf.p1 N y_2 x1 hi_0 lo_1 c1_ (q1_2,rhat_3)=some r) (hE:En Tryz.f144 g0 w0 (Zaf.rs r) st R) (hc1 : ∀q1_2 rhat_3,c1_ (q1_2,rhat_3)=some r→At g0 w0 (Zaf.p1.S y_2 x1 hi_0 lo_1 q1_2 rhat_3 st) J1):At g0 w0 (Zaf.p1.S y_2 x1 hi_0 lo_1 q1_2 rhat_3 st) (XK zE R (.c (ZbX Zaf.B [1,1,1,1,1,1,1,1,1,1,1,1,1,1,0,0,0]) :: .h J1 :: [.b 0,.c (ZbX Zaf.B [1,1,1,1,1,1,1,1,1,1,1,1,1,1,1])])):=by
 unfold Zaf.p1 at h
 refine Zbg h (fun c9 h11=>?_) (fun c9 h12=>?_)
 ·exact aq fol [.r [(3,wF),(4,wF),(5,wF),(6,wF),(7,wF),(8,wF),(9,wF),(10,wF)],.c true,.s 4] [2,8,9,10,11,13,14,15,16] [] (aO c9 c9 c9 c9 c9 c9 c9 (aJ c9 c9 eT)) (Zaf.p2_ok h11 hE hc1)
 ·refine Zbg h12 (fun c10 h13=>?_) (fun c10 h14=>?_)
  ·exact aq fol [.r [(11,yF)],.c true,.s 4] [2,8,9,10,11,13,14,15,16] [] (aO c9 c9 c9 c9 c9 c9 c9 (aJ c9 c9 c10)) (Zaf.p2_ok h13 hE hc1)
  ·exact aq fol [.r [(11,yF)],.c false,.s 1] [2,8,9,10,11,13,14,15] [] (aO c9 c9 c9 c9 c9 c9 c9 (aJ c9 c9 c10)) (Zaf.p3_ok h14 hE)
theorem Zaf.snd {hi_0 lo_1 y_2:Int} {r:Int×Int} (h:Zaf N hi_0 lo_1 y_2=some r):Zde zE 144 [.one (zJ .u64 hi_0),.one (zJ .u64 lo_1),.one (zJ .u64 y_2)] (Zaf.rs r):=fun st=>
 sO Zaf.B Tryz.func144 fun g0 w0 R hE=>by
  unfold Zaf at h
  let o1:List PS:=[.r [],.r [],.c false,.r [],.c false,.r []]
  refine Zbg h (fun c1 h15=>?_) (fun c1 h16=>?_)
  ·cases h15
  ·refine Zbg h16 (fun c2 h17=>?_) (fun c2 h18=>?_)
   ·cases h17
   ·refine Zbg h18 (fun c3 h19=>?_) (fun c3 h20=>?_)
    ·obtain ⟨c4,h21⟩:=ZaT h19
     obtain rfl:=Zaa h21
     exact afd fol hE (o1 ++ [.c true,.d {ds:=[],hv:=0,Hs:=[]}]) [] 0 [] (aL c1 c2 c3 c4 c4)
    ·obtain ⟨x1,c5,h22⟩:=Zae h20
     obtain ⟨c6,c7,c8,h23⟩:=ck3 h22
     exact aq fol (o1 ++ [.c false,.r [(1,q1 [oI x1])],.r [],.r [],.r [],.r [],.r [],.r [],.r [],.r [],.r []]) [2,8,9,10,11,13,14,15,16] [] (aO c1 c2 c3 (Zbk.snd c5) c6 (leI 0 32) c6 (aK c7 c6 (leI 0 32) c8)) (At.loop N (At.loopN (fun y:Int×Int=>Zaf.p1.S y_2 x1 hi_0 lo_1 y.1 y.2 st) (fun c J hc y h=>Zaf.p1_ok (q1_2:=y.1) (rhat_3:=y.2) h hE (fun q1_2 rhat_3=>hc (q1_2,rhat_3))) N (v64 (zU (Zaz .or .u64 (Zbd .u64 hi_0 (v64 (x1))) (ZaQ .u64 lo_1 (v64 (64-(v64 (x1)))))) (ZaQ .u64 (Zbd .u64 y_2 (v64 (x1))) 32)),v64 ((Zaz .or .u64 (Zbd .u64 hi_0 (v64 (x1))) (ZaQ .u64 lo_1 (v64 (64-(v64 (x1))))))-(v64 ((v64 (zU (Zaz .or .u64 (Zbd .u64 hi_0 (v64 (x1))) (ZaQ .u64 lo_1 (v64 (64-(v64 (x1)))))) (ZaQ .u64 (Zbd .u64 y_2 (v64 (x1))) 32)))*(ZaQ .u64 (Zbd .u64 y_2 (v64 (x1))) 32))))) h23))
def ZbE.B:Code:=Tryz.f133.body.getD .skip
def ZbE.rs (r:(List Int)×Int):List CV:=[.agg [zL .u64 4 r.1],.one (zJ .u64 r.2)]
def ZbE.p1 (N:Nat) (by_1:Int) (c1_:(Int×Int×(List Int))→Option ((List Int)×Int)):(Int×Int×(List Int))→Option ((List Int)×Int):=fun (r_1,i_2,a_5)=>
 if (decide (i_2≥0))=true then
  chk (0≤i_2)<|
  chk (i_2<4)<|
  Zbv (Zaf N r_1 (zF a_5 (zD i_2) 0) by_1) fun (x6,x7)=>
  c1_ (x7,w64 (i_2-1),zS a_5 (zD i_2) x6)
 else
 some (a_5,r_1)
def ZbE (N:Nat) (a_0_0:List Int) (by_1:Int):Option ((List Int)×Int):=
 if (by_1==0)=true then
  some (zC 4 0,0)
 else
 loopN (ZbE.p1 N by_1) N (0,3,a_0_0)
def ZbE.p1.S (by_1 r_1 i_2:Int) (a_5:List Int) (st:LL):S:=mkS 28 [(1,.one (.l (zJ .u64 by_1))),(2,sA 2),(4,sA 4),(6,.one (.l (zJ .u64 r_1))),(7,sI i_2)] [(2,.cells [zL .u64 4 a_5]),(4,.cells [zL .u64 4 (zC 4 0)])] st
theorem ZbE.p1_ok {by_1 r_1 i_2 a_5 st r c1_ J1} (h:ZbE.p1 N by_1 c1_ (r_1,i_2,a_5)=some r) (hE:En Tryz.f133 g0 w0 (ZbE.rs r) st R) (hc1 : ∀r_1 i_2 a_5,c1_ (r_1,i_2,a_5)=some r→At g0 w0 (ZbE.p1.S by_1 r_1 i_2 a_5 st) J1):At g0 w0 (ZbE.p1.S by_1 r_1 i_2 a_5 st) (XK zE R (.c (ZbX ZbE.B [1,1,1,0,1,0,0]) :: .h J1 :: [.b 0,.c (ZbX ZbE.B [1,1,1,1])])):=by
 unfold ZbE.p1 at h
 refine Zbg h (fun c6 h1=>?_) (fun c6 h2=>?_)
 ·obtain ⟨c7,c8,h3⟩:=ck2 h1
  obtain ⟨⟨x6,x7⟩,c9,h4⟩:=Zae h3
  exact an fol [.r [],.c true,.r [(6,q1 [.one (zJ .u64 x6),.one (zJ .u64 x7)])],.r []] [1,2,4,6,7] [2,4] (aM c6 c7 c8 (Zaf.snd c9) c7 c8) (hc1 x7 (w64 (i_2-1)) (zS a_5 (zD i_2) x6) h4)
 ·obtain rfl:=Zaa h2
  exact af fol hE [.r [],.c false,.r []] [] 0 [] c6
theorem ZbE.snd {a_0_0:List Int} {by_1:Int} {r:(List Int)×Int} (h:ZbE N a_0_0 by_1=some r):Zde zE 133 [.agg [zL .u64 4 a_0_0],.one (zJ .u64 by_1)] (ZbE.rs r):=fun st=>
 sO ZbE.B Tryz.func133 fun g0 w0 R hE=>by
  unfold ZbE at h
  refine Zbg h (fun c1 h5=>?_) (fun c1 h6=>?_)
  ·obtain rfl:=Zaa h5
   exact af fol hE [.r [],.r [],.c true,.r []] [] 0 [] c1
  ·exact aq fol [.r [],.r [],.c false,.r [],.r []] [1,2,4,6,7] [2,4] c1 (At.loop N (At.loopN (fun y:Int×Int×(List Int)=>ZbE.p1.S by_1 y.1 y.2.1 y.2.2 st) (fun c J hc y h=>ZbE.p1_ok (r_1:=y.1) (i_2:=y.2.1) (a_5:=y.2.2) h hE (fun r_1 i_2 a_5=>hc (r_1,i_2,a_5))) N (0,3,a_0_0) h6))
def ZbT.B:Code:=Tryz.f145.body.getD .skip
def ZbT.rs (r:Int×Int):List CV:=[.one (zJ .u64 r.1),.one (zJ .u64 r.2)]
def ZbT (N:Nat) (x_0 y_1:Int):Option (Int×Int):=
 some (v64 ((v64 ((v64 ((ZaQ .u64 x_0 32)*(ZaQ .u64 y_1 32)))+(ZaQ .u64 (v64 ((v64 ((ZaQ .u64 x_0 32)*(Zaz .and .u64 y_1 4294967295)))+(ZaQ .u64 (v64 ((Zaz .and .u64 x_0 4294967295)*(Zaz .and .u64 y_1 4294967295))) 32))) 32)))+(ZaQ .u64 (v64 ((Zaz .and .u64 (v64 ((v64 ((ZaQ .u64 x_0 32)*(Zaz .and .u64 y_1 4294967295)))+(ZaQ .u64 (v64 ((Zaz .and .u64 x_0 4294967295)*(Zaz .and .u64 y_1 4294967295))) 32))) 4294967295)+(v64 ((Zaz .and .u64 x_0 4294967295)*(ZaQ .u64 y_1 32))))) 32)),v64 (x_0*y_1))
theorem ZbT.snd {x_0 y_1:Int} {r:Int×Int} (h:ZbT N x_0 y_1=some r):Zde zE 145 [.one (zJ .u64 x_0),.one (zJ .u64 y_1)] (ZbT.rs r):=fun st=>
 sO ZbT.B Tryz.func145 fun g0 w0 R hE=>by
  unfold ZbT at h
  obtain rfl:=Zaa h
  exact af fol hE [.r [],.r [],.r [],.r [],.r [],.r [],.r [],.r [],.r [],.r [],.r [],.r []] [] 0 [] (aL (leI 0 32) (leI 0 32) (leI 0 32) (leI 0 32) (leI 0 32))
def Zbt.B:Code:=Tryz.f134.body.getD .skip
def Zbt.rs (r:(List Int)×Bool):List CV:=[.agg [zL .u64 4 r.1],oB r.2]
def Zbt.p1 (N:Nat) (by_1:Int) (c1_:(Int×Int×(List Int))→Option ((List Int)×Bool)):(Int×Int×(List Int))→Option ((List Int)×Bool):=fun (c_1,v2,a_7)=>
 if (decide (v2<4))=true then
  chk (0≤v2)<|
  Zbv (ZbT N (zF a_7 (zD v2) 0) by_1) fun (x8,x9)=>
  Zbv (ZcS N x9 c_1 0) fun (x10,x11)=>
  c1_ (v64 (x8+x11),w64 (v2+1),zS a_7 (zD v2) x10)
 else
 some (a_7,c_1 != 0)
def Zbt (N:Nat) (a_0_0:List Int) (by_1:Int):Option ((List Int)×Bool):=
 loopN (Zbt.p1 N by_1) N (0,0,a_0_0)
def Zbt.p1.S (by_1 c_1 v2:Int) (a_7:List Int) (st:LL):S:=mkS 37 [(1,.one (.l (zJ .u64 by_1))),(2,sA 2),(4,sA 4),(6,.one (.l (zJ .u64 c_1))),(11,sI v2)] [(2,.cells [zL .u64 4 a_7]),(4,.cells [zL .u64 4 (zC 4 0)])] st
theorem Zbt.p1_ok {by_1 c_1 v2 a_7 st r c1_ J1} (h:Zbt.p1 N by_1 c1_ (c_1,v2,a_7)=some r) (hE:En Tryz.f134 g0 w0 (Zbt.rs r) st R) (hc1 : ∀c_1 v2 a_7,c1_ (c_1,v2,a_7)=some r→At g0 w0 (Zbt.p1.S by_1 c_1 v2 a_7 st) J1):At g0 w0 (Zbt.p1.S by_1 c_1 v2 a_7 st) (XK zE R (.c (ZbX Zbt.B [1,1,0,1,0,0]) :: .h J1 :: [.b 0,.c (ZbX Zbt.B [1,1,1])])):=by
 unfold Zbt.p1 at h
 refine Zbg h (fun c5 h1=>?_) (fun c5 h2=>?_)
 ·obtain ⟨c6,h3⟩:=ZaT h1
  obtain ⟨⟨x8,x9⟩,c7,h4⟩:=Zae h3
  obtain ⟨⟨x10,x11⟩,c8,h5⟩:=Zae h4
  exact an fol [.r [],.c true,.r [],.r [(4,q1 [.one (zJ .u64 x8),.one (zJ .u64 x9)])],.r [],.r [(3,{rs:=[.one (zJ .u64 x10),.one (zJ .u64 x11)],m:=4})],.r [],.r []] [1,2,4,6,11] [2,4] (aN c5 c6 (oD c5) (ZbT.snd c7) (ZcS.snd c8) c6 (oD c5)) (hc1 (v64 (x8+x11)) (w64 (v2+1)) (zS a_7 (zD v2) x10) h5)
 ·obtain rfl:=Zaa h2
  exact af fol hE [.r [],.c false,.r []] [] 0 [] c5
theorem Zbt.snd {a_0_0:List Int} {by_1:Int} {r:(List Int)×Bool} (h:Zbt N a_0_0 by_1=some r):Zde zE 134 [.agg [zL .u64 4 a_0_0],.one (zJ .u64 by_1)] (Zbt.rs r):=fun st=>
 sO Zbt.B Tryz.func134 fun g0 w0 R hE=>by
  unfold Zbt at h
  exact aq fol [.r [],.r [],.r []] [1,2,4,6,11] [2,4] trivial (At.loop N (At.loopN (fun y:Int×Int×(List Int)=>Zbt.p1.S by_1 y.1 y.2.1 y.2.2 st) (fun c J hc y h=>Zbt.p1_ok (c_1:=y.1) (v2:=y.2.1) (a_7:=y.2.2) h hE (fun c_1 v2 a_7=>hc (c_1,v2,a_7))) N (0,0,a_0_0) h))
def ZaF.B:Code:=Tryz.f135.body.getD .skip
def ZaF.rs (r:Int):List CV:=[oI r]
def ZaF.p2 (N:Nat) (size_5 word_6:Int):Option Int:=
 some (Zaz .or .i64 (Zbd .i64 size_5 24) word_6)
def ZaF.p1 (N:Nat) (x1 word_4:Int):Option Int:=
 if ((Zaz .and .i64 word_4 8388608) != 0)=true then
  ZaF.p2 N (w64 ((w64 (zU (w64 (x1+7)) 8))+1)) (ZaQ .i64 word_4 8)
 else
 ZaF.p2 N (w64 (zU (w64 (x1+7)) 8)) word_4
def ZaF (N:Nat) (n_0_0:List Int):Option Int:=
 Zbv (ZbJ N n_0_0) fun x1=>
 if (decide ((w64 (zU (w64 (x1+7)) 8))≤3))=true then
  Zbv (Zbi N n_0_0 (w64 (8*(w64 (3-(w64 (zU (w64 (x1+7)) 8))))))) fun x2=>
  ZaF.p1 N x1 (w64 (zF x2 0 0))
 else
 Zbv (ZaO N n_0_0 (w64 (8*(w64 ((w64 (zU (w64 (x1+7)) 8))-3))))) fun x3=>
 ZaF.p1 N x1 (w64 (zF x3 0 0))
def ZaF.p2.S (size_5 word_6:Int) (st:LL):S:=mkS 36 [(3,sI size_5),(4,sI word_6)] [] st
def ZaF.p1.S (x1 word_4:Int) (st:LL):S:=mkS 36 [(3,sI (w64 (zU (w64 (x1+7)) 8))),(4,sI word_4)] [] st
theorem ZaF.p2_ok {size_5 word_6 st r} (h:ZaF.p2 N size_5 word_6=some r) (hE:En Tryz.f135 g0 w0 (ZaF.rs r) st R):At g0 w0 (ZaF.p2.S size_5 word_6 st) (XK zE R [.c (ZbX ZaF.B [1,1,1,1,1])]):=by
 unfold ZaF.p2 at h
 obtain rfl:=Zaa h
 exact af fol hE [.r []] [] 0 [] (leI 0 24)
theorem ZaF.p1_ok {x1 word_4 st r} (h:ZaF.p1 N x1 word_4=some r) (hE:En Tryz.f135 g0 w0 (ZaF.rs r) st R):At g0 w0 (ZaF.p1.S x1 word_4 st) (XK zE R [.c (ZbX ZaF.B [1,1,1,1])]):=by
 unfold ZaF.p1 at h
 refine Zbg h (fun c5 h1=>?_) (fun c5 h2=>?_)
 ·exact aq fol [.r [],.c true,.r [],.r [],.s 1] [3,4] [] (aI c5 (leI 0 8)) (ZaF.p2_ok h1 hE)
 ·exact aq fol [.r [],.c false,.s 1] [3,4] [] c5 (ZaF.p2_ok h2 hE)
theorem ZaF.snd {n_0_0:List Int} {r:Int} (h:ZaF N n_0_0=some r):Zde zE 135 [.agg [zL .u64 4 n_0_0]] (ZaF.rs r):=fun st=>
 sO ZaF.B Tryz.func135 fun g0 w0 R hE=>by
  unfold ZaF at h
  obtain ⟨x1,c1,h3⟩:=Zae h
  let o1:List PS:=[.r [],.r [(1,q1 [oI x1])],.r [],.r []]
  refine Zbg h3 (fun c2 h4=>?_) (fun c2 h5=>?_)
  ·obtain ⟨x2,c3,h6⟩:=Zae h4
   exact aq fol (o1 ++ [.c true,.r [(4,q1 [.agg [zL .u64 4 x2]])],.s 1]) [3,4] [] (aM (ZbJ.snd c1) (neI 8) c2 (Zbi.snd c3) (leI 0 0) (ltI 0 4)) (ZaF.p1_ok h6 hE)
  ·obtain ⟨x3,c4,h7⟩:=Zae h5
   exact aq fol (o1 ++ [.c false,.r [(4,q1 [.agg [zL .u64 4 x3]])],.s 1]) [3,4] [] (aM (ZbJ.snd c1) (neI 8) c2 (ZaO.snd c4) (leI 0 0) (ltI 0 4)) (ZaF.p1_ok h7 hE)
def Zbh.B:Code:=Tryz.f112.body.getD .skip
def Zbh.rs (r:Int):List CV:=[oI r]
def Zbh.p1 (N:Nat) (n_17:List Int):Option Int:=
 Zbv (ZaF N n_17) fun x18=>
 some x18
def Zbh (N:Nat) (p_0:Zaj) (bits_1 from_2 to_3:Int):Option Int:=
 Zbv (ZbG N bits_1 p_0.Limit) fun (x1,x2)=>
 Zbv (Zdg N p_0) fun x3=>
 if (!x3)=true then
  some p_0.Limit
 else
 if (!x2)=true then
  some p_0.Limit
 else
 Zbv (ZdB N p_0 from_2 to_3) fun x4=>
 Zbv (ZbE N x1 (v64 (w64 (p_0.Interval*p_0.Spacing)))) fun (x5,x6)=>
 Zbv (Zbt N x5 (v64 (x4))) fun (x7,x8)=>
 chk ((v64 (w64 (p_0.Interval*p_0.Spacing)))≠0)<|
 Zbv (Zcs N (v64 (zU (v64 (x6*(v64 (x4)))) (v64 (w64 (p_0.Interval*p_0.Spacing)))))) fun x9=>
 Zbv (Zbm N x7 x9) fun (x10,x11)=>
 Zbv (ZbG N p_0.Limit p_0.Limit) fun (x12,x13)=>
 if x8=true then
  some p_0.Limit
 else
 if x11=true then
  some p_0.Limit
 else
 Zbv (Zck N x12 x10) fun x14=>
 if x14=true then
  some p_0.Limit
 else
 Zbv (Zcc N x10) fun x15=>
 if x15=true then
  Zbv (Zcs N 1) fun x16=>
  Zbh.p1 N x16
 else
 Zbh.p1 N x10
def Zbh.p1.S (n_17:List Int) (st:LL):S:=mkS 94 [(15,sA 15)] [(15,.cells [zL .u64 4 n_17])] st
theorem Zbh.p1_ok {n_17 st r} (h:Zbh.p1 N n_17=some r) (hE:En Tryz.f112 g0 w0 (Zbh.rs r) st R):At g0 w0 (Zbh.p1.S n_17 st) (XK zE R [.c (ZbX Zbh.B [1,1,1,1,1,1,1,1,1,1,1])]):=by
 unfold Zbh.p1 at h
 obtain ⟨x18,c19,h1⟩:=Zae h
 obtain rfl:=Zaa h1
 exact af fol hE [.r [(1,q1 [oI x18])]] [] 0 [] (ZaF.snd c19)
theorem Zbh.snd {p_0:Zaj} {bits_1 from_2 to_3:Int} {r:Int} (h:Zbh N p_0 bits_1 from_2 to_3=some r):Zde zE 112 [.agg p_0.ls,oI bits_1,oI from_2,oI to_3] (Zbh.rs r):=fun st=>
 sO Zbh.B Tryz.func112 fun g0 w0 R hE=>by
  unfold Zbh at h
  obtain ⟨⟨x1,x2⟩,c1,h2⟩:=Zae h
  obtain ⟨x3,c2,h3⟩:=Zae h2
  let o1:List PS:=[.r [],.r [(3,q1 [.agg [zL .u64 4 x1],oB x2])]]
  have t1 {Q:Prop} (q:Q):=aJ (ZbG.snd c1) (Zdg.snd c2) q
  refine Zbg h3 (fun c3 h4=>?_) (fun c3 h5=>?_)
  ·obtain rfl:=Zaa h4
   exact af fol hE (o1 ++ [.r [(1,q1 [oB x3]),(4,wF),(5,wF)],.c true,.r []]) [] 0 [] (t1 (aK (not_false (ZbZ c3)) (not_false (ZbZ c3)) (not_false (ZbZ c3)) eT))
  ·let o2:List PS:=o1 ++ [.r [(1,q1 [oB x3]),(6,yF)]]
   have t2 {Q:Prop} (q:Q):=t1 (aK (not_true (Zca c3)) (not_true (Zca c3)) (not_true (Zca c3)) q)
   refine Zbg h5 (fun c4 h6=>?_) (fun c4 h7=>?_)
   ·obtain rfl:=Zaa h6
    exact af fol hE (o2 ++ [.c true,.r []]) [] 0 [] (t2 c4)
   ·obtain ⟨x4,c5,h8⟩:=Zae h7
    obtain ⟨⟨x5,x6⟩,c6,h9⟩:=Zae h8
    obtain ⟨⟨x7,x8⟩,c7,h10⟩:=Zae h9
    obtain ⟨c8,h11⟩:=ZaT h10
    obtain ⟨x9,c9,h12⟩:=Zae h11
    obtain ⟨⟨x10,x11⟩,c10,h13⟩:=Zae h12
    obtain ⟨⟨x12,x13⟩,c11,h14⟩:=Zae h13
    let o3:List PS:=o2 ++ [.c false,.r [],.r [(3,q1 [oI x4])],.r [(2,q1 [.agg [zL .u64 4 x5],.one (zJ .u64 x6)])],.r [(2,q1 [.agg [zL .u64 4 x7],oB x8])],.d {ds:=[(6,q1 [.agg [zL .u64 4 x9]]),(7,q1 [.agg [zL .u64 4 x10],oB x11])],hv:=2048,Hs:=[2048]},.r [(4,q1 [.agg [zL .u64 4 x12],oB x13])]]
    have t3 {Q:Prop} (q:Q):=t2 (aO c4 (ZdB.snd c5) (ZbE.snd c6) (Zbt.snd c7) c8 (Zcs.snd c9) (Zbm.snd c10) (aI (ZbG.snd c11) q))
    refine Zbg h14 (fun c12 h15=>?_) (fun c12 h16=>?_)
    ·obtain rfl:=Zaa h15
     exact afd fol hE (o3 ++ [.r [(2,wF),(5,wF),(6,wF),(7,wF)],.c true,.r []]) [] 0 [] (t3 (aN c12 c12 eT eT eT eT eT))
    ·refine Zbg h16 (fun c13 h17=>?_) (fun c13 h18=>?_)
     ·obtain rfl:=Zaa h17
      exact afd fol hE (o3 ++ [.r [(3,yF),(5,wF),(6,wF),(7,wF)],.c true,.r []]) [] 0 [] (t3 (aN c12 c12 c13 c13 c13 c13 eT))
     ·obtain ⟨x14,c14,h19⟩:=Zae h18
      let o4:List PS:=o3 ++ [.r [(3,yF),(7,q1 [oB x14]),(8,yF)]]
      have t4 {Q:Prop} (q:Q):=t3 (aO c12 c12 c13 c13 c13 (Zck.snd c14) c13 q)
      refine Zbg h19 (fun c15 h20=>?_) (fun c15 h21=>?_)
      ·obtain rfl:=Zaa h20
       exact afd fol hE (o4 ++ [.c true,.r []]) [] 0 [] (t4 c15)
      ·obtain ⟨x15,c16,h22⟩:=Zae h21
       let o5:List PS:=o4 ++ [.c false,.r [(1,q1 [oB x15])]]
       refine Zbg h22 (fun c17 h23=>?_) (fun c17 h24=>?_)
       ·obtain ⟨x16,c18,h25⟩:=Zae h23
        exact aqd fol (o5 ++ [.c true,.r [(0,q1 [.agg [zL .u64 4 x16]])],.s 1]) [15] [15] (t4 (aK c15 (Zcc.snd c16) c17 (Zcs.snd c18))) (Zbh.p1_ok h25 hE)
       ·exact aqd fol (o5 ++ [.c false,.s 1]) [15] [15] (t4 (aJ c15 (Zcc.snd c16) c17)) (Zbh.p1_ok h24 hE)
def ZdC.B:Code:=Tryz.f84.body.getD .skip
def ZdC.rs (r:Int):List CV:=[oI r]
def ZdC (N:Nat) (p_0:Zaj) (at_1:ZcI) (time_2:Int):Option Int:=
 if (decide (at_1.Height≤0))=true then
  some p_0.Limit
 else
 Zbv (Zcm N p_0 at_1.Height) fun x1=>
 if x1=true then
  Zbv (Zbh N p_0 at_1.Bits at_1.First at_1.Time) fun x2=>
  some x2
 else
 if (!p_0.Easy)=true then
  some at_1.Bits
 else
 if (decide ((w64 (time_2-at_1.Time))>(w64 (2*p_0.Spacing))))=true then
  some p_0.Limit
 else
 some at_1.Hard
theorem ZdC.snd {p_0:Zaj} {at_1:ZcI} {time_2:Int} {r:Int} (h:ZdC N p_0 at_1 time_2=some r):Zde zE 84 [.agg p_0.ls,.agg at_1.ls,oI time_2] (ZdC.rs r):=fun st=>
 sO ZdC.B Tryz.func84 fun g0 w0 R hE=>by
  unfold ZdC at h
  refine Zbg h (fun c1 h1=>?_) (fun c1 h2=>?_)
  ·obtain rfl:=Zaa h1
   exact af fol hE [.r [],.r [],.c true,.r []] [] 0 [] c1
  ·obtain ⟨x1,c2,h3⟩:=Zae h2
   let o1:List PS:=[.r [],.r [],.c false,.r [(3,q1 [oB x1])]]
   have t1 {Q:Prop} (q:Q):=aJ c1 (Zcm.snd c2) q
   refine Zbg h3 (fun c3 h4=>?_) (fun c3 h5=>?_)
   ·obtain ⟨x2,c4,h6⟩:=Zae h4
    obtain rfl:=Zaa h6
    exact af fol hE (o1 ++ [.c true,.r [(7,q1 [oI x2])]]) [] 0 [] (t1 (aI c3 (Zbh.snd c4)))
   ·refine Zbg h5 (fun c5 h7=>?_) (fun c5 h8=>?_)
    ·obtain rfl:=Zaa h7
     exact af fol hE (o1 ++ [.c false,.r [],.c true,.r []]) [] 0 [] (t1 (aI c3 c5))
    ·refine Zbg h8 (fun c6 h9=>?_) (fun c6 h10=>?_)
     ·obtain rfl:=Zaa h9
      exact af fol hE (o1 ++ [.c false,.r [],.c false,.r [],.c true,.r []]) [] 0 [] (t1 (aJ c3 c5 c6))
     ·obtain rfl:=Zaa h10
      exact af fol hE (o1 ++ [.c false,.r [],.c false,.r [],.c false,.r []]) [] 0 [] (t1 (aJ c3 c5 c6))
def ZaY.B:Code:=Tryz.f136.body.getD .skip
def ZaY.rs (r:(List Int)):List CV:=[.agg [zL .u64 4 r]]
def ZaY.p1 (N:Nat) (h_0_0:List Int) (c1_:(Int×(List Int))→Option (List Int)):(Int×(List Int))→Option (List Int):=fun (v1,out_2)=>
 if (decide (v1<32))=true then
  chk (0≤v1)<|
  chk (0≤(w64 (zU v1 8)))<|
  chk ((w64 (zU v1 8))<4)<|
  chk (0≤(w64 (8*(yH v1 8))))<|
  c1_ (w64 (v1+1),zS out_2 (zD (w64 (zU v1 8))) (Zaz .or .u64 (zF out_2 (zD (w64 (zU v1 8))) 0) (Zbd .u64 (v64 (zF h_0_0 (zD v1) 0)) (w64 (8*(yH v1 8))))))
 else
 some out_2
def ZaY (N:Nat) (h_0_0:List Int):Option (List Int):=
 loopN (ZaY.p1 N h_0_0) N (0,zC 4 0)
def ZaY.p1.S (h_0_0:List Int) (v1:Int) (out_2:List Int) (st:LL):S:=mkS 25 [(2,sA 2),(3,sA 3),(6,.agg [.l (zL .u8 32 h_0_0)]),(7,sI v1)] [(2,.cells [zL .u64 4 (zC 4 0)]),(3,.cells [zL .u64 4 out_2])] st
theorem ZaY.p1_ok {h_0_0 v1 out_2 st r c1_ J1} (h:ZaY.p1 N h_0_0 c1_ (v1,out_2)=some r) (hE:En Tryz.f136 g0 w0 (ZaY.rs r) st R) (hc1 : ∀v1 out_2,c1_ (v1,out_2)=some r→At g0 w0 (ZaY.p1.S h_0_0 v1 out_2 st) J1):At g0 w0 (ZaY.p1.S h_0_0 v1 out_2 st) (XK zE R (.c (ZbX ZaY.B [1,1,0,1,0,0]) :: .h J1 :: [.b 0,.c (ZbX ZaY.B [1,1,1])])):=by
 unfold ZaY.p1 at h
 refine Zbg h (fun c6 h1=>?_) (fun c6 h2=>?_)
 ·obtain ⟨c7,c8,c9,c10,h3⟩:=ck4 h1
  exact Zmb fol [.r [],.c true,.r [],.d {ds:=[],hv:=4096,Hs:=[4096]},.r []] [2,3,6,7] [2,3] (aO c6 c7 (oD c6) (neI 8) c8 c9 (neI 8) (aJ c10 c8 c9)) (hc1 (w64 (v1+1)) (zS out_2 (zD (w64 (zU v1 8))) (Zaz .or .u64 (zF out_2 (zD (w64 (zU v1 8))) 0) (Zbd .u64 (v64 (zF h_0_0 (zD v1) 0)) (w64 (8*(yH v1 8)))))) h3)
 ·obtain rfl:=Zaa h2
  exact af fol hE [.r [],.c false,.r []] [] 0 [] c6
theorem ZaY.snd {h_0_0:List Int} {r:(List Int)} (h:ZaY N h_0_0=some r):Zde zE 136 [.agg [zL .u8 32 h_0_0]] (ZaY.rs r):=fun st=>
 sO ZaY.B Tryz.func136 fun g0 w0 R hE=>by
  unfold ZaY at h
  exact aq fol [.r [],.r [],.r []] [2,3,6,7] [2,3] trivial (At.loop N (At.loopN (fun y:Int×(List Int)=>ZaY.p1.S h_0_0 y.1 y.2 st) (fun c J hc y h=>ZaY.p1_ok (v1:=y.1) (out_2:=y.2) h hE (fun v1 out_2=>hc (v1,out_2))) N (0,zC 4 0) h))
def Zcv.B:Code:=Tryz.f113.body.getD .skip
def Zcv.rs (r:Bool):List CV:=[oB r]
def Zcv (N:Nat) (h_0_0 target_1_0:List Int):Option Bool:=
 Zbv (ZaY N h_0_0) fun x1=>
 Zbv (Zck N target_1_0 x1) fun x2=>
 some (!x2)
theorem Zcv.snd {h_0_0 target_1_0:List Int} {r:Bool} (h:Zcv N h_0_0 target_1_0=some r):Zde zE 113 [.agg [zL .u8 32 h_0_0],.agg [zL .u64 4 target_1_0]] (Zcv.rs r):=fun st=>
 sO Zcv.B Tryz.func113 fun g0 w0 R hE=>by
  unfold Zcv at h
  obtain ⟨x1,c1,h1⟩:=Zae h
  obtain ⟨x2,c2,h2⟩:=Zae h1
  obtain rfl:=Zaa h2
  exact afd fol hE [.r [],.d {ds:=[(2,q1 [.agg [zL .u64 4 x1]]),(3,q1 [oB x2])],hv:=0,Hs:=[]}] [] 0 [] (aI (ZaY.snd c1) (Zck.snd c2))
def ZcV.B:Code:=Tryz.f85.body.getD .skip
def ZcV.rs (r:Int):List CV:=[oI r]
def ZcV (N:Nat) (p_0:Zaj) (h_1:Zan):Option Int:=
 Zbv (ZbL N h_1) fun x1=>
 if (!x1)=true then
  some 1
 else
 Zbv (ZbG N h_1.Bits p_0.Limit) fun (x2,x3)=>
 if (!x3)=true then
  some 4
 else
 Zbv (ZcR N h_1) fun x4=>
 Zbv (Zcv N x4 x2) fun x5=>
 if (!x5)=true then
  some 4
 else
 some 0
theorem ZcV.snd {p_0:Zaj} {h_1:Zan} {r:Int} (h:ZcV N p_0 h_1=some r):Zde zE 85 [.agg p_0.ls,.agg h_1.ls] (ZcV.rs r):=fun st=>
 sO ZcV.B Tryz.func85 fun g0 w0 R hE=>by
  unfold ZcV at h
  obtain ⟨x1,c1,h1⟩:=Zae h
  let o1:List PS:=[.r [],.r [(1,q1 [oB x1])]]
  have t1 {Q:Prop} (q:Q):=aI (ZbL.snd c1) q
  refine Zbg h1 (fun c2 h2=>?_) (fun c2 h3=>?_)
  ·obtain rfl:=Zaa h2
   exact af fol hE (o1 ++ [.c true,.r []]) [] 0 [] (t1 c2)
  ·obtain ⟨⟨x2,x3⟩,c3,h4⟩:=Zae h3
   let o2:List PS:=o1 ++ [.c false,.r [(4,q1 [.agg [zL .u64 4 x2],oB x3])]]
   have t2 {Q:Prop} (q:Q):=t1 (aJ c2 (ZbG.snd c3) q)
   refine Zbg h4 (fun c4 h5=>?_) (fun c4 h6=>?_)
   ·obtain rfl:=Zaa h5
    exact afd fol hE (o2 ++ [.d {ds:=[(3,wF),(4,wF),(5,wF),(6,wF),(7,wF)],hv:=0,Hs:=[]},.c true,.r []]) [] 0 [] (t2 (aN (not_false (ZbZ c4)) (not_false (ZbZ c4)) (not_false (ZbZ c4)) (not_false (ZbZ c4)) (not_false (ZbZ c4)) (not_false (ZbZ c4)) eT))
   ·obtain ⟨x4,c5,h7⟩:=Zae h6
    obtain ⟨x5,c6,h8⟩:=Zae h7
    let o3:List PS:=o2 ++ [.d {ds:=[(4,q1 [.agg [zL .u8 32 x4]]),(6,q1 [oB x5]),(8,yF)],hv:=0,Hs:=[]}]
    have t3 {Q:Prop} (q:Q):=t2 (aO (not_true (Zca c4)) (not_true (Zca c4)) (ZcR.snd c5) (not_true (Zca c4)) (not_true (Zca c4)) (Zcv.snd c6) (not_true (Zca c4)) (aI (not_true (Zca c4)) q))
    refine Zbg h8 (fun c7 h9=>?_) (fun c7 h10=>?_)
    ·obtain rfl:=Zaa h9
     exact afd fol hE (o3 ++ [.c true,.r []]) [] 0 [] (t3 c7)
    ·obtain rfl:=Zaa h10
     exact afd fol hE (o3 ++ [.c false,.r []]) [] 0 [] (t3 c7)
def ZdE.B:Code:=Tryz.f114.body.getD .skip
def ZdE.rs (r:Int):List CV:=[oI r]
def ZdE (N:Nat) (times_0:LL):Option Int:=
 chk (0≤(if (11:Int)<(len times_0) then 11 else (len times_0)))<|
 chk ((zD (if (11:Int)<(len times_0) then 11 else (len times_0)))≤(zH times_0))<|
 Zbv (ZaU N (List.take (zD (if (11:Int)<(len times_0) then 11 else (len times_0))) (List.drop 0 times_0))) fun x1=>
 if ((len x1)==0)=true then
  some 0
 else
 chk (isI x1=true)<|
 chk (zH x1<4611686018427387904)<|
 chk (0≤(w64 (zU (len x1) 2)))<|
 chk ((w64 (zU (len x1) 2))<(len x1))<|
 ZcJ ((ZiG x1)[0+(zD (w64 (zU (len x1) 2)))]?) ZcN fun x2=>
 some x2
theorem ZdE.snd {times_0:LL} {r:Int} (h:ZdE N times_0=some r):Zde zE 114 [.one (vG 1 times_0)] (ZdE.rs r):=fun st=>
 sO ZdE.B Tryz.func114 fun g0 w0 R hE=>by
  unfold ZdE at h
  obtain ⟨c1,c2,h1⟩:=ck2 h
  obtain ⟨x1,c3,h2⟩:=Zae h1
  let o1:List PS:=[.r [],.r [(5,{rs:=[.row true 1 x1],ns:=[9],m:=1})],.r []]
  have t1 {Q:Prop} (q:Q):=aL c1 (Nat.zero_le (zD (if (11:Int)<(len times_0) then 11 else (len times_0)))) c2 (ZaU.snd c3) q
  refine Zbg h2 (fun c4 h3=>?_) (fun c4 h4=>?_)
  ·obtain rfl:=Zaa h3
   exact af fol hE (o1 ++ [.c true,.r []]) [] 0 [] (t1 c4)
  ·obtain ⟨c5,c6,c7,c8,h5⟩:=ck4 h4
   obtain ⟨x2,c9,h6⟩:=Zci h5
   obtain rfl:=Zaa h6
   exact af fol hE (o1 ++ [.c false,.r [(1,{m:=7})],.r [(5,{oe:=[zJ .i64 x2]})]]) [] 0 [] (t1 (aO c4 z0 (@rfl _ (zH x1):(zH x1)=(zH x1)) c5 c6 slices_Sort_int.snd (neI 2) (aJ c7 c8 c9)))
def ZcA.B:Code:=Tryz.f86.body.getD .skip
def ZcA.rs (r:Bool):List CV:=[oB r]
def ZcA (N:Nat) (time_0:Int) (times_1:LL):Option Bool:=
 if ((len times_1)==0)=true then
  some true
 else
 Zbv (ZdE N times_1) fun x1=>
 some (decide (time_0>x1))
theorem ZcA.snd {time_0:Int} {times_1:LL} {r:Bool} (h:ZcA N time_0 times_1=some r):Zde zE 86 [oI time_0,.one (vG 1 times_1)] (ZcA.rs r):=fun st=>
 sO ZcA.B Tryz.func86 fun g0 w0 R hE=>by
  unfold ZcA at h
  refine Zbg h (fun c1 h1=>?_) (fun c1 h2=>?_)
  ·obtain rfl:=Zaa h1
   exact af fol hE [.r [],.r [(4,wF),(5,wF),(6,wF),(7,wF)]] [] 0 [] (aL c1 c1 c1 c1 c1)
  ·obtain ⟨x1,c2,h3⟩:=Zae h2
   obtain rfl:=Zaa h3
   exact af fol hE [.r [],.r [(6,q1 [oI x1]),(8,yF)]] [] 0 [] (aM c1 c1 c1 (ZdE.snd c2) c1 c1)
def ZcW.B:Code:=Tryz.f87.body.getD .skip
def ZcW.rs (r:Bool):List CV:=[oB r]
def ZcW (N:Nat) (time_0 now_1 future_2:Int):Option Bool:=
 if (decide (future_2≥0))=true then
  if (decide (time_0≤now_1))=true then
   some true
  else
  some (decide ((w64 (time_0-now_1))≤future_2))
 else
 some false
theorem ZcW.snd {time_0 now_1 future_2:Int} {r:Bool} (h:ZcW N time_0 now_1 future_2=some r):Zde zE 87 [oI time_0,oI now_1,oI future_2] (ZcW.rs r):=fun st=>
 sO ZcW.B Tryz.func87 fun g0 w0 R hE=>by
  unfold ZcW at h
  refine Zbg h (fun c1 h1=>?_) (fun c1 h2=>?_)
  ·refine Zbg h1 (fun c2 h3=>?_) (fun c2 h4=>?_)
   ·obtain rfl:=Zaa h3
    exact af fol hE [.r [],.r [(7,wF),(8,wF),(9,wF),(10,wF),(11,wF)]] [] 0 [] (aO c1 c1 c1 c1 c2 c2 c2 (aL c2 c2 c1 c2 c1))
   ·obtain rfl:=Zaa h4
    exact af fol hE [.r [],.r [(12,yF)]] [] 0 [] (aO c1 c1 c1 c1 c2 c2 c2 (aL c2 c2 c1 c2 c1))
  ·obtain rfl:=Zaa h2
   exact af fol hE [.r [],.r [(3,wF),(4,wF),(5,wF),(6,wF),(12,wF),(13,yF)]] [] 0 [] (aM c1 c1 c1 c1 c1 c1)
def ZaI.B:Code:=Tryz.f88.body.getD .skip
def ZaI.rs (r:Int):List CV:=[oI r]
def ZaI.p2 (N:Nat) (c1_:(Int×Int)→Option Int) (height_0 least_4:Int) (gates_1:LL) (v2:Int):Option Int:=
 c1_ (least_4,w64 (v2+1))
def ZaI.p1 (N:Nat) (height_0:Int) (gates_1:LL) (c1_:(Int×Int)→Option Int):(Int×Int)→Option Int:=fun (least_1,v2)=>
 if (decide (v2<(len gates_1)))=true then
  chk (0≤v2)<|
  ZcJ (gates_1[zD v2]?) ZdF fun x3=>
  if (decide (height_0≥x3.Height))=true then
   ZaI.p2 N c1_ height_0 (if x3.Version>least_1 then x3.Version else least_1) gates_1 v2
  else
  ZaI.p2 N c1_ height_0 least_1 gates_1 v2
 else
 some least_1
def ZaI (N:Nat) (height_0:Int) (gates_1:LL):Option Int:=
 loopN (ZaI.p1 N height_0 gates_1) N ((-2147483648),0)
def ZaI.p2.S (height_0 least_4:Int) (gates_1:LL) (v2:Int) (st:LL):S:=mkS 24 [(0,sI height_0),(5,sI least_4),(8,sV 2 gates_1),(9,sI (len gates_1)),(10,sI v2)] [] st
def ZaI.p1.S (height_0 least_1:Int) (gates_1:LL) (v2:Int) (st:LL):S:=mkS 24 [(0,sI height_0),(5,sI least_1),(8,sV 2 gates_1),(9,sI (len gates_1)),(10,sI v2)] [] st
theorem ZaI.p2_ok {height_0 least_4 gates_1 v2 st r c1_ J1} (h:ZaI.p2 N c1_ height_0 least_4 gates_1 v2=some r) (hE:En Tryz.f88 g0 w0 (ZaI.rs r) st R) (hc1 : ∀least_1 v2,c1_ (least_1,v2)=some r→At g0 w0 (ZaI.p1.S height_0 least_1 gates_1 v2 st) J1):At g0 w0 (ZaI.p2.S height_0 least_4 gates_1 v2 st) (XK zE R [.c (ZbX ZaI.B [1,1,0,1,0,0,1,1,1]),.h J1,.b 0,.c (ZbX ZaI.B [1,1,1])]):=by
 unfold ZaI.p2 at h
 exact an fol [.r []] [0,5,8,9,10] [] trivial (hc1 least_4 (w64 (v2+1)) h)
theorem ZaI.p1_ok {height_0 least_1 gates_1 v2 st r c1_ J1} (h:ZaI.p1 N height_0 gates_1 c1_ (least_1,v2)=some r) (hE:En Tryz.f88 g0 w0 (ZaI.rs r) st R) (hc1 : ∀least_1 v2,c1_ (least_1,v2)=some r→At g0 w0 (ZaI.p1.S height_0 least_1 gates_1 v2 st) J1):At g0 w0 (ZaI.p1.S height_0 least_1 gates_1 v2 st) (XK zE R (.c (ZbX ZaI.B [1,1,0,1,0,0]) :: .h J1 :: [.b 0,.c (ZbX ZaI.B [1,1,1])])):=by
 unfold ZaI.p1 at h
 refine Zbg h (fun c1 h1=>?_) (fun c1 h2=>?_)
 ·obtain ⟨c2,h3⟩:=ZaT h1
  obtain ⟨x3,c3,h4⟩:=ZdS h3
  let o1:List PS:=[.r [],.c true,.r [(1,{oe:=x3.ls})],.r []]
  refine Zbg h4 (fun c4 h5=>?_) (fun c4 h6=>?_)
  ·exact aq fol (o1 ++ [.c true,.r [],.s 4]) [0,5,8,9,10] [] (aL c1 c2 (oD c1) c3 c4) (ZaI.p2_ok h5 hE hc1)
  ·exact aq fol (o1 ++ [.c false,.s 4]) [0,5,8,9,10] [] (aL c1 c2 (oD c1) c3 c4) (ZaI.p2_ok h6 hE hc1)
 ·obtain rfl:=Zaa h2
  exact af fol hE [.r [],.c false,.r []] [] 0 [] c1
theorem ZaI.snd {height_0:Int} {gates_1:LL} {r:Int} (h:ZaI N height_0 gates_1=some r):Zde zE 88 [oI height_0,.one (vG 2 gates_1)] (ZaI.rs r):=fun st=>
 sO ZaI.B Tryz.func88 fun g0 w0 R hE=>by
  unfold ZaI at h
  exact aq fol [.r [],.r [],.r []] [0,5,8,9,10] [] trivial (At.loop N (At.loopN (fun y:Int×Int=>ZaI.p1.S height_0 y.1 gates_1 y.2 st) (fun c J hc y h=>ZaI.p1_ok (least_1:=y.1) (v2:=y.2) h hE (fun least_1 v2=>hc (least_1,v2))) N ((-2147483648),0) h))
def Zbp.B:Code:=Tryz.f89.body.getD .skip
def Zbp.rs (r:Bool):List CV:=[oB r]
def Zbp.p1 (N:Nat) (height_0:Int) (checks_2:LL) (id_1_0:List Int) (c1_:Int→Option Bool):Int→Option Bool:=fun v1=>
 if (decide (v1<(len checks_2)))=true then
  chk (0≤v1)<|
  ZcJ (checks_2[zD v1]?) Zdo fun x2=>
  if (x2.Height==height_0)=true then
   if (!(x2.Id==id_1_0))=true then
    some false
   else
   c1_ (w64 (v1+1))
  else
  c1_ (w64 (v1+1))
 else
 some true
def Zbp (N:Nat) (height_0:Int) (id_1_0:List Int) (checks_2:LL):Option Bool:=
 loopN (Zbp.p1 N height_0 checks_2 id_1_0) N 0
def Zbp.p1.S (height_0:Int) (checks_2:LL) (v1:Int) (id_1_0:List Int) (st:LL):S:=mkS 26 [(0,sI height_0),(4,sA 4),(9,sV 33 checks_2),(10,sI (len checks_2)),(11,sI v1)] [(4,.cells [zL .u8 32 id_1_0])] st
theorem Zbp.p1_ok {height_0 checks_2 v1 id_1_0 st r c1_ J1} (h:Zbp.p1 N height_0 checks_2 id_1_0 c1_ v1=some r) (hE:En Tryz.f89 g0 w0 (Zbp.rs r) st R) (hc1 : ∀v1,c1_ v1=some r→At g0 w0 (Zbp.p1.S height_0 checks_2 v1 id_1_0 st) J1):At g0 w0 (Zbp.p1.S height_0 checks_2 v1 id_1_0 st) (XK zE R (.c (ZbX Zbp.B [1,0,1,0,0]) :: .h J1 :: [.b 0,.c (ZbX Zbp.B [1,1])])):=by
 unfold Zbp.p1 at h
 refine Zbg h (fun c1 h1=>?_) (fun c1 h2=>?_)
 ·obtain ⟨c2,h3⟩:=ZaT h1
  obtain ⟨x2,c3,h4⟩:=ZdM h3
  let o1:List PS:=[.r [],.c true,.r [(1,{oe:=x2.ls})]]
  refine Zbg h4 (fun c4 h5=>?_) (fun c4 h6=>?_)
  ·have t1 {Q:Prop} (q:Q):=aO c1 c2 (oD c1) c3 c4 c4 c4 (aJ c4 c4 q)
   refine Zbg h5 (fun c5 h7=>?_) (fun c5 h8=>?_)
   ·obtain rfl:=Zaa h7
    exact af fol hE (o1 ++ [.r [],.c true,.r []]) [] 0 [] (t1 c5)
   ·exact an fol (o1 ++ [.r [],.c false,.r []]) [0,4,9,10,11] [4] (t1 c5) (hc1 (w64 (v1+1)) h8)
  ·exact an fol (o1 ++ [.r [(5,wF),(6,wF),(7,wF),(8,wF),(9,yF)],.c false,.r []]) [0,4,9,10,11] [4] (aO c1 c2 (oD c1) c3 c4 c4 c4 (aJ c4 c4 eF)) (hc1 (w64 (v1+1)) h6)
 ·obtain rfl:=Zaa h2
  exact af fol hE [.r [],.c false,.r []] [] 0 [] c1
theorem Zbp.snd {height_0:Int} {id_1_0:List Int} {checks_2:LL} {r:Bool} (h:Zbp N height_0 id_1_0 checks_2=some r):Zde zE 89 [oI height_0,.agg [zL .u8 32 id_1_0],.one (vG 33 checks_2)] (Zbp.rs r):=fun st=>
 sO Zbp.B Tryz.func89 fun g0 w0 R hE=>by
  unfold Zbp at h
  exact aq fol [.r [],.r []] [0,4,9,10,11] [4] trivial (At.loop N (At.loopN (fun y:Int=>Zbp.p1.S height_0 checks_2 y id_1_0 st) (fun c J hc y h=>Zbp.p1_ok h hE (fun v1=>hc v1)) N 0 h))
def Zdf.B:Code:=Tryz.f54.body.getD .skip
def Zdf.rs (r:Int):List CV:=[oI r]
def Zdf (N:Nat) (p_0:Zaj) (at_1:ZaE) (h_2:Zan) (now_3:Int):Option Int:=
 Zbv (ZbL N h_2) fun x1=>
 if (!x1)=true then
  some 1
 else
 if (!(h_2.Prev==at_1.Prev))=true then
  some 2
 else
 Zbv (ZdC N p_0 at_1.Point h_2.Time) fun x2=>
 if (h_2.Bits != x2)=true then
  some 3
 else
 Zbv (ZcV N p_0 h_2) fun x3=>
 if (x3 != 0)=true then
  some 4
 else
 Zbv (ZcA N h_2.Time at_1.Times) fun x4=>
 if (!x4)=true then
  some 5
 else
 Zbv (ZcW N h_2.Time now_3 p_0.Future) fun x5=>
 if (!x5)=true then
  some 6
 else
 Zbv (ZaI N at_1.Point.Height p_0.Gates) fun x6=>
 if (decide (h_2.Version<x6))=true then
  some 7
 else
 Zbv (ZcR N h_2) fun x7=>
 Zbv (Zbp N at_1.Point.Height x7 p_0.Checks) fun x8=>
 if (!x8)=true then
  some 8
 else
 some 0
theorem Zdf.snd {p_0:Zaj} {at_1:ZaE} {h_2:Zan} {now_3:Int} {r:Int} (h:Zdf N p_0 at_1 h_2 now_3=some r):Zde zE 54 [.agg p_0.ls,.agg at_1.ls,.agg h_2.ls,oI now_3] (Zdf.rs r):=fun st=>
 sO Zdf.B Tryz.func54 fun g0 w0 R hE=>by
  unfold Zdf at h
  obtain ⟨x1,c1,h1⟩:=Zae h
  let o1:List PS:=[.r [],.r [(1,q1 [oB x1])]]
  have t1 {Q:Prop} (q:Q):=aI (ZbL.snd c1) q
  refine Zbg h1 (fun c2 h2=>?_) (fun c2 h3=>?_)
  ·obtain rfl:=Zaa h2
   exact af fol hE (o1 ++ [.c true,.r []]) [] 0 [] (t1 c2)
  ·let o2:List PS:=o1 ++ [.c false,.r []]
   refine Zbg h3 (fun c3 h4=>?_) (fun c3 h5=>?_)
   ·obtain rfl:=Zaa h4
    exact af fol hE (o2 ++ [.c true,.r []]) [] 0 [] (t1 (aI c2 c3))
   ·obtain ⟨x2,c4,h6⟩:=Zae h5
    let o3:List PS:=o2 ++ [.c false,.d {ds:=[(7,q1 [oI x2])],hv:=0,Hs:=[]}]
    have t2 {Q:Prop} (q:Q):=t1 (aK c2 c3 (ZdC.snd c4) q)
    refine Zbg h6 (fun c5 h7=>?_) (fun c5 h8=>?_)
    ·obtain rfl:=Zaa h7
     exact afd fol hE (o3 ++ [.c true,.r []]) [] 0 [] (t2 c5)
    ·obtain ⟨x3,c6,h9⟩:=Zae h8
     let o4:List PS:=o3 ++ [.c false,.r [(2,q1 [oI x3])]]
     have t3 {Q:Prop} (q:Q):=t2 (aJ c5 (ZcV.snd c6) q)
     refine Zbg h9 (fun c7 h10=>?_) (fun c7 h11=>?_)
     ·obtain rfl:=Zaa h10
      exact afd fol hE (o4 ++ [.c true,.r []]) [] 0 [] (t3 c7)
     ·obtain ⟨x4,c8,h12⟩:=Zae h11
      let o5:List PS:=o4 ++ [.c false,.r [(4,q1 [oB x4])]]
      have t4 {Q:Prop} (q:Q):=t3 (aJ c7 (ZcA.snd c8) q)
      refine Zbg h12 (fun c9 h13=>?_) (fun c9 h14=>?_)
      ·obtain rfl:=Zaa h13
       exact afd fol hE (o5 ++ [.c true,.r []]) [] 0 [] (t4 c9)
      ·obtain ⟨x5,c10,h15⟩:=Zae h14
       let o6:List PS:=o5 ++ [.c false,.r [(5,q1 [oB x5])]]
       have t5 {Q:Prop} (q:Q):=t4 (aJ c9 (ZcW.snd c10) q)
       refine Zbg h15 (fun c11 h16=>?_) (fun c11 h17=>?_)
       ·obtain rfl:=Zaa h16
        exact afd fol hE (o6 ++ [.c true,.r []]) [] 0 [] (t5 c11)
       ·obtain ⟨x6,c12,h18⟩:=Zae h17
        let o7:List PS:=o6 ++ [.c false,.d {ds:=[(7,q1 [oI x6])],hv:=0,Hs:=[]}]
        have t6 {Q:Prop} (q:Q):=t5 (aJ c11 (ZaI.snd c12) q)
        refine Zbg h18 (fun c13 h19=>?_) (fun c13 h20=>?_)
        ·obtain rfl:=Zaa h19
         exact afd fol hE (o7 ++ [.c true,.r []]) [] 0 [] (t6 c13)
        ·obtain ⟨x7,c14,h21⟩:=Zae h20
         obtain ⟨x8,c15,h22⟩:=Zae h21
         let o8:List PS:=o7 ++ [.c false,.d {ds:=[(4,q1 [.agg [zL .u8 32 x7]]),(7,q1 [oB x8])],hv:=0,Hs:=[]}]
         have t7 {Q:Prop} (q:Q):=t6 (aK c13 (ZcR.snd c14) (Zbp.snd c15) q)
         refine Zbg h22 (fun c16 h23=>?_) (fun c16 h24=>?_)
         ·obtain rfl:=Zaa h23
          exact afd fol hE (o8 ++ [.c true,.r []]) [] 0 [] (t7 c16)
         ·obtain rfl:=Zaa h24
          exact afd fol hE (o8 ++ [.c false,.r []]) [] 0 [] (t7 c16)
def Zau.B:Code:=Tryz.f26.body.getD .skip
def Zau.rs (r:Int×Int×Int×LL):List CV:=[oI r.1,oI r.2.1,oI r.2.2.1]
def Zau.p2 (N:Nat) (i2:Nat) (now_2 ahead_12:Int) (is_13:Bool) (h_1:Zan) (st:LL):Option (Int×Int×Int×LL):=
 if (!is_13)=true then
  some ((-1),2,5,st)
 else
 ZcJ (st[i2]?) Zbc fun x14=>
 chk (0≤ahead_12)<|
 chk (ahead_12<(len x14.spots))<|
 ZcJ (x14.spots[0+(zD ahead_12)]?) ZeH fun x15=>
 Zbv (Zdf N x14.rules x15 h_1 now_2) fun x16=>
 if (x16 != 0)=true then
  some ((-1),x16,8,st)
 else
 if (decide ((len x14.list)≥x14.room))=true then
  some ((-1),0,6,st)
 else
 Zbv (ZcF N x14.rules x15 h_1) fun x17=>
 Zbv (ZaH N (some i2) h_1 ahead_12 x17 st) fun (x18,st19)=>
 some (x18,0,0,st19)
def Zau.p1 (N:Nat) (i2:Nat) (now_2 at_7:Int) (is_8:Bool) (h_1:Zan) (st:LL):Option (Int×Int×Int×LL):=
 if is_8=true then
  some (at_7,0,0,st)
 else
 ZcJ (st[i2]?) Zbc fun x9=>
 optM (ZeW x9.places (zL .u8 32 h_1.Prev)) (fun j10 e=>ZcN [e] fun x11=>
  Zau.p2 N i2 now_2 x11 true h_1 st)
 (
  Zau.p2 N i2 now_2 0 false h_1 st)
def Zau (N:Nat) (a_0:Option Nat) (h_1:Zan) (now_2:Int) (st:LL):Option (Int×Int×Int×LL):=
 if (wE a_0)=true then
  some ((-1),0,2,st)
 else
 Zbv (ZbL N h_1) fun x1=>
 if (!x1)=true then
  some ((-1),1,8,st)
 else
 Zbv a_0 fun i2=>
 ZcJ (st[i2]?) Zbc fun x3=>
 Zbv (ZcR N h_1) fun x4=>
 optM (ZeW x3.places (zL .u8 32 x4)) (fun j5 e=>ZcN [e] fun x6=>
  Zau.p1 N i2 now_2 x6 true h_1 st)
 (
  Zau.p1 N i2 now_2 0 false h_1 st)
def Zau.p2.S (i2:Nat) (now_2 ahead_12:Int) (is_13:Bool) (h_1:Zan) (st:LL):S:=mkS 87 [(0,sP (some i2)),(2,sI now_2),(4,sA 4),(11,sI ahead_12),(12,.one (.l (wX is_13)))] [(4,.cells h_1.ls)] st
def Zau.p1.S (i2:Nat) (now_2 at_7:Int) (is_8:Bool) (h_1:Zan) (st:LL):S:=mkS 87 [(0,sP (some i2)),(2,sI now_2),(4,sA 4),(9,sI at_7),(10,.one (.l (wX is_8)))] [(4,.cells h_1.ls)] st
theorem Zau.p2_ok {i2 now_2 ahead_12 is_13 h_1 st r} (h:Zau.p2 N i2 now_2 ahead_12 is_13 h_1 st=some r) (hE:En Tryz.f26 g0 w0 (Zau.rs r) r.2.2.2 R):At g0 w0 (Zau.p2.S i2 now_2 ahead_12 is_13 h_1 st) (XK zE R [.c (ZbX Zau.B [1,1,1,1,1])]):=by
 unfold Zau.p2 at h
 refine Zbg h (fun c11 h1=>?_) (fun c11 h2=>?_)
 ·obtain rfl:=Zaa h1
  exact af fol hE [.r [],.c true,.r []] [] 0 [] c11
 ·obtain ⟨x14,c12,h3⟩:=ZaX h2
  obtain ⟨c13,c14,h4⟩:=ck2 h3
  obtain ⟨x15,c15,h5⟩:=ZhW h4
  obtain ⟨x16,c16,h6⟩:=Zae h5
  let o1:List PS:=[.r [],.c false,.d {ds:=[(3,{oc:=x14.lo}),(7,{oc:=x14.lo}),(10,{oc:=x14.lo,oe:=x15.ls}),(13,q1 [oI x16])],hv:=0,Hs:=[]},.r []]
  have t1 {Q:Prop} (q:Q):=aO c11 c12 c12 c13 c14 c15 c12 (aI (Zdf.snd c16) q)
  refine Zbg h6 (fun c17 h7=>?_) (fun c17 h8=>?_)
  ·obtain rfl:=Zaa h7
   exact afd fol hE (o1 ++ [.c true,.r []]) [] 0 [] (t1 c17)
  ·let o2:List PS:=o1 ++ [.c false,.d {ds:=[(3,{oc:=x14.lo}),(8,{oc:=x14.lo})],hv:=0,Hs:=[]}]
   refine Zbg h8 (fun c18 h9=>?_) (fun c18 h10=>?_)
   ·obtain rfl:=Zaa h9
    exact afd fol hE (o2 ++ [.c true,.r []]) [] 0 [] (t1 (aK c17 c12 c12 c18))
   ·obtain ⟨x17,c19,h11⟩:=Zae h10
    obtain ⟨⟨x18,st19⟩,c20,h12⟩:=Zae h11
    obtain rfl:=Zaa h12
    exact afd fol hE (o2 ++ [.c false,.d {ds:=[(6,{oc:=x14.lo}),(10,{oc:=x14.lo}),(13,{oc:=x14.lo,oe:=x15.ls}),(15,q1 [.agg x17.ls]),(16,{rs:=[oI x18],st:=st19})],hv:=65536,Hs:=[65536]}]) [] 0 [] (t1 (aO c17 c12 c12 c18 c12 c12 c13 (aL c14 c15 c12 (ZcF.snd c19) (ZaH.snd c20))))
theorem Zau.p1_ok {i2 now_2 at_7 is_8 h_1 st r} (h:Zau.p1 N i2 now_2 at_7 is_8 h_1 st=some r) (hE:En Tryz.f26 g0 w0 (Zau.rs r) r.2.2.2 R):At g0 w0 (Zau.p1.S i2 now_2 at_7 is_8 h_1 st) (XK zE R [.c (ZbX Zau.B [1,1,1,0,1]),.c (ZbX Zau.B [1,1,1,1])]):=by
 unfold Zau.p1 at h
 refine Zbg h (fun c8 h13=>?_) (fun c8 h14=>?_)
 ·obtain rfl:=Zaa h13
  exact af fol hE [.r [],.c true,.r []] [] 0 [] c8
 ·obtain ⟨x9,c9,h15⟩:=ZaX h14
  rcases Zhg h15 with ⟨j10,h19,c10,h16⟩ | ⟨c10,h17⟩
  ·obtain ⟨x11,h20,h18⟩:=ZgO h16
   obtain rfl:=Zfk h20
   exact aqd fol [.r [],.c false,.d {ds:=[(3,{oc:=x9.lo}),(6,{oc:=x9.lo,oe:=[zJ .i64 x11]})],hv:=0,Hs:=[]},.s 1] [0,2,4,11,12] [4] (aK c8 c9 (ZkC c10) c9) (Zau.p2_ok h18 hE)
  ·exact aqd fol [.r [],.c false,.d {ds:=[(3,{oc:=x9.lo}),(6,{oc:=x9.lo,yes:=false})],hv:=0,Hs:=[]},.s 1] [0,2,4,11,12] [4] (aK c8 c9 c10 c9) (Zau.p2_ok h17 hE)
theorem Zau.snd {a_0:Option Nat} {h_1:Zan} {now_2:Int} {st:LL} {r:Int×Int×Int×LL} (h:Zau N a_0 h_1 now_2 st=some r):Snd zE 26 [.one (yO a_0),.agg h_1.ls,oI now_2] st (Zau.rs r) r.2.2.2:=
 sO Zau.B Tryz.func26 fun g0 w0 R hE=>by
  unfold Zau at h
  refine Zbg h (fun c1 h21=>?_) (fun c1 h22=>?_)
  ·obtain rfl:=Zaa h21
   exact af fol hE [.r [],.r [],.c true,.r []] [] 0 [] c1
  ·obtain ⟨x1,c2,h23⟩:=Zae h22
   let o3:List PS:=[.r [],.r [],.c false,.r [(1,q1 [oB x1])]]
   have t2 {Q:Prop} (q:Q):=aJ c1 (ZbL.snd c2) q
   refine Zbg h23 (fun c3 h24=>?_) (fun c3 h25=>?_)
   ·obtain rfl:=Zaa h24
    exact af fol hE (o3 ++ [.c true,.r []]) [] 0 [] (t2 c3)
   ·obtain ⟨i2,rfl,h26⟩:=Zae h25
    obtain ⟨x3,c5,h27⟩:=ZaX h26
    obtain ⟨x4,c6,h28⟩:=Zae h27
    rcases Zhg h28 with ⟨j5,h32,c7,h29⟩ | ⟨c7,h30⟩
    ·obtain ⟨x6,h33,h31⟩:=ZgO h29
     obtain rfl:=Zfk h33
     exact aqd fol (o3 ++ [.c false,.d {ds:=[(3,{oc:=x3.lo}),(5,q1 [.agg [zL .u8 32 x4]]),(6,{oc:=x3.lo,oe:=[zJ .i64 x6]})],hv:=0,Hs:=[]},.s 2]) [0,2,4,9,10] [4] (t2 (aL c3 c5 (ZcR.snd c6) (ZkC c7) c5)) (Zau.p1_ok h31 hE)
    ·exact aqd fol (o3 ++ [.c false,.d {ds:=[(3,{oc:=x3.lo}),(5,q1 [.agg [zL .u8 32 x4]]),(6,{oc:=x3.lo,yes:=false})],hv:=0,Hs:=[]},.s 2]) [0,2,4,9,10] [4] (t2 (aL c3 c5 (ZcR.snd c6) c7 c5)) (Zau.p1_ok h30 hE)
def Zbq.B:Code:=Tryz.f27.body.getD .skip
def Zbq.rs (r:Zbu×Bool):List CV:=[.agg r.1.ls,oB r.2]
def Zbq (N:Nat) (a_0:Zas) (at_1:Int):Option (Zbu×Bool):=
 Zbv (Zbe N a_0 at_1) fun x1=>
 if (!x1)=true then
  some (Zbu.mk (Zan.mk 0 (zC 32 0) (zC 32 0) 0 0 0) (zC 32 0) (-1) 0 (zC 4 0),false)
 else
 chk (0≤at_1)<|
 chk (at_1<(len a_0.list))<|
 ZcJ (a_0.list[zD at_1]?) ZcX fun x2=>
 some (x2,true)
theorem Zbq.snd {a_0:Zas} {at_1:Int} {r:Zbu×Bool} (h:Zbq N a_0 at_1=some r):Zde zE 27 [.one (vI 87 a_0.ls),oI at_1] (Zbq.rs r):=fun st=>
 sO Zbq.B Tryz.func27 fun g0 w0 R hE=>by
  unfold Zbq at h
  obtain ⟨x1,c1,h1⟩:=Zae h
  let o1:List PS:=[.r [],.r [(2,q0 [oB x1])]]
  refine Zbg h1 (fun c2 h2=>?_) (fun c2 h3=>?_)
  ·obtain rfl:=Zaa h2
   exact af fol hE (o1 ++ [.c true,.r []]) [] 0 [] (aI (Zbe.snd c1) c2)
  ·obtain ⟨c3,c4,h4⟩:=ck2 h3
   obtain ⟨x2,c5,h5⟩:=Zdn h4
   obtain rfl:=Zaa h5
   exact af fol hE (o1 ++ [.c false,.r [(3,{oe:=a_0.ls}),(6,{oe:=x2.ls})]]) [] 0 [] (aM (Zbe.snd c1) c2 (eO a_0.ls) c3 c4 c5)
def ZcH.B:Code:=Tryz.f59.body.getD .skip
def ZcH.rs (r:Int):List CV:=[oI r]
def ZcH (N:Nat) (n_0:Int):Option Int:=
 some (Zaz .and .i64 n_0 (w64 (n_0-1)))
theorem ZcH.snd {n_0:Int} {r:Int} (h:ZcH N n_0=some r):Zde zE 59 [oI n_0] (ZcH.rs r):=fun st=>
 sO ZcH.B Tryz.func59 fun g0 w0 R hE=>by
  unfold ZcH at h
  obtain rfl:=Zaa h
  exact af fol hE [.r [],.r []] [] 0 [] trivial
def ZcU.B:Code:=Tryz.f29.body.getD .skip
def ZcU.rs (r:Int):List CV:=[oI r]
def ZcU (N:Nat) (h_0:Int):Option Int:=
 if (decide (h_0<2))=true then
  some 0
 else
 if ((Zaz .and .i64 h_0 1)==0)=true then
  Zbv (ZcH N h_0) fun x1=>
  some x1
 else
 Zbv (ZcH N (w64 (h_0-1))) fun x2=>
 Zbv (ZcH N x2) fun x3=>
 some (w64 (x3+1))
theorem ZcU.snd {h_0:Int} {r:Int} (h:ZcU N h_0=some r):Zde zE 29 [oI h_0] (ZcU.rs r):=fun st=>
 sO ZcU.B Tryz.func29 fun g0 w0 R hE=>by
  unfold ZcU at h
  refine Zbg h (fun c1 h1=>?_) (fun c1 h2=>?_)
  ·obtain rfl:=Zaa h1
   exact af fol hE [.r [],.r [],.c true,.r []] [] 0 [] c1
  ·refine Zbg h2 (fun c2 h3=>?_) (fun c2 h4=>?_)
   ·obtain ⟨x1,c3,h5⟩:=Zae h3
    obtain rfl:=Zaa h5
    exact af fol hE [.r [],.r [],.c false,.r [],.c true,.r [(1,q1 [oI x1])]] [] 0 [] (aJ c1 c2 (ZcH.snd c3))
   ·obtain ⟨x2,c4,h6⟩:=Zae h4
    obtain ⟨x3,c5,h7⟩:=Zae h6
    obtain rfl:=Zaa h7
    exact af fol hE [.r [],.r [],.c false,.r [],.c false,.r [(2,q1 [oI x2]),(3,q1 [oI x3])]] [] 0 [] (aK c1 c2 (ZcH.snd c4) (ZcH.snd c5))
def ZbB.B:Code:=Tryz.f58.body.getD .skip
def ZbB.rs (r:Zbu×Bool):List CV:=[.agg r.1.ls,oB r.2]
def ZbB (N:Nat) (t_0:Zat) (at_1:Int):Option (Zbu×Bool):=
 Zbv (Zbq N t_0.store at_1) fun (x1,x2)=>
 some (x1,x2)
theorem ZbB.snd {t_0:Zat} {at_1:Int} {r:Zbu×Bool} (h:ZbB N t_0 at_1=some r):Zde zE 58 [.one (vI 2 t_0.ls),oI at_1] (ZbB.rs r):=fun st=>
 sO ZbB.B Tryz.func58 fun g0 w0 R hE=>by
  unfold ZbB at h
  obtain ⟨⟨x1,x2⟩,c1,h1⟩:=Zae h
  obtain rfl:=Zaa h1
  exact af fol hE [.r [],.r [],.c false,.r [(3,{oe:=t_0.ls}),(5,q0 [.agg x1.ls,oB x2])]] [] 0 [] (aJ eF (eO t_0.ls) (Zbq.snd c1))
def ZaL.B:Code:=Tryz.f57.body.getD .skip
def ZaL.rs (r:Int):List CV:=[oI r]
def ZaL (N:Nat) (t_0:Zat) (at_1:Int):Option Int:=
 Zbv (ZbB N t_0 at_1) fun (x1,x2)=>
 if (!x2)=true then
  some (-1)
 else
 some x1.Height
theorem ZaL.snd {t_0:Zat} {at_1:Int} {r:Int} (h:ZaL N t_0 at_1=some r):Zde zE 57 [.one (vI 2 t_0.ls),oI at_1] (ZaL.rs r):=fun st=>
 sO ZaL.B Tryz.func57 fun g0 w0 R hE=>by
  unfold ZaL at h
  obtain ⟨⟨x1,x2⟩,c1,h1⟩:=Zae h
  let o1:List PS:=[.r [],.r [(2,q0 [.agg x1.ls,oB x2])],.r []]
  refine Zbg h1 (fun c2 h2=>?_) (fun c2 h3=>?_)
  ·obtain rfl:=Zaa h2
   exact af fol hE (o1 ++ [.c true,.r []]) [] 0 [] (aI (ZbB.snd c1) c2)
  ·obtain rfl:=Zaa h3
   exact af fol hE (o1 ++ [.c false,.r []]) [] 0 [] (aI (ZbB.snd c1) c2)
def Zao.B:Code:=Tryz.f28.body.getD .skip
def Zao.rs (r:Int):List CV:=[oI r]
def Zao.p2 (N:Nat) (c1_:(Int×Int)→Option Int) (t_0:Zat) (height_2 next_8 x6 x7:Int):Option Int:=
 Zbv (ZaL N t_0 next_8) fun x9=>
 c1_ (next_8,x9)
def Zao.p1 (N:Nat) (t_0:Zat) (height_2:Int) (c1_:(Int×Int)→Option Int):(Int×Int)→Option Int:=fun (at_2,h_3)=>
 if (decide (h_3>height_2))=true then
  Zbv (ZbB N t_0 at_2) fun (x4,x5)=>
  chk (0≤at_2)<|
  chk (at_2<(len t_0.leaps))<|
  ZcJ (t_0.leaps[zD at_2]?) ZcN fun x6=>
  if (x6 != (-1))=true then
   Zbv (ZaL N t_0 x6) fun x7=>
   if (decide (x7≥height_2))=true then
    Zao.p2 N c1_ t_0 height_2 x6 x6 x7
   else
   Zao.p2 N c1_ t_0 height_2 x4.Ahead x6 x7
  else
  Zbv (ZaL N t_0 x4.Ahead) fun x10=>
  c1_ (x4.Ahead,x10)
 else
 some at_2
def Zao (N:Nat) (t_0:Zat) (at_1 height_2:Int):Option Int:=
 Zbv (ZaL N t_0 at_1) fun x1=>
 if (decide (height_2<0))=true then
  some (-1)
 else
 if (decide (height_2>x1))=true then
  some (-1)
 else
 loopN (Zao.p1 N t_0 height_2) N (at_1,x1)
def Zao.p2.S (t_0:Zat) (height_2 next_8 x6 x7:Int) (st:LL):S:=mkS 55 [(0,.one (.l (vI 2 t_0.ls))),(2,sI height_2),(10,sI next_8),(43,.one (.l (vI 2 t_0.ls))),(44,sI x6),(45,sI x7),(46,sI height_2),(47,.one (.l (wX (decide (x7≥height_2)))))] [] st
def Zao.p1.S (t_0:Zat) (at_2 height_2 h_3:Int) (st:LL):S:=mkS 55 [(0,.one (.l (vI 2 t_0.ls))),(1,sI at_2),(2,sI height_2),(7,sI h_3)] [] st
theorem Zao.p2_ok {t_0 height_2 next_8 x6 x7 st r c1_ J1} (h:Zao.p2 N c1_ t_0 height_2 next_8 x6 x7=some r) (hE:En Tryz.f28 g0 w0 (Zao.rs r) st R) (hc1 : ∀at_2 h_3,c1_ (at_2,h_3)=some r→At g0 w0 (Zao.p1.S t_0 at_2 height_2 h_3 st) J1):At g0 w0 (Zao.p2.S t_0 height_2 next_8 x6 x7 st) (XK zE R [.c (ZbX Zao.B [1,1,1,0,0,0,1,0,1,1,1]),.b 1,.h J1,.b 0,.c (ZbX Zao.B [1,1,1,1])]):=by
 unfold Zao.p2 at h
 obtain ⟨x9,c12,h1⟩:=Zae h
 exact an fol [.r [(3,q0 [oI x9])]] [0,1,2,7] [] (ZaL.snd c12) (hc1 next_8 x9 h1)
theorem Zao.p1_ok {t_0 at_2 height_2 h_3 st r c1_ J1} (h:Zao.p1 N t_0 height_2 c1_ (at_2,h_3)=some r) (hE:En Tryz.f28 g0 w0 (Zao.rs r) st R) (hc1 : ∀at_2 h_3,c1_ (at_2,h_3)=some r→At g0 w0 (Zao.p1.S t_0 at_2 height_2 h_3 st) J1):At g0 w0 (Zao.p1.S t_0 at_2 height_2 h_3 st) (XK zE R (.c (ZbX Zao.B [1,1,1,0,0,0]) :: .h J1 :: [.b 0,.c (ZbX Zao.B [1,1,1,1])])):=by
 unfold Zao.p1 at h
 refine Zbg h (fun c4 h2=>?_) (fun c4 h3=>?_)
 ·obtain ⟨⟨x4,x5⟩,c5,h4⟩:=Zae h2
  obtain ⟨c6,c7,h5⟩:=ck2 h4
  obtain ⟨x6,c8,h6⟩:=Zci h5
  let o1:List PS:=[.r [],.c true,.r [(2,q0 [.agg x4.ls,oB x5])],.r [],.r [(3,{oe:=t_0.ls}),(6,{oe:=[zJ .i64 x6]})]]
  have t1 {Q:Prop} (q:Q):=aN c4 (ZbB.snd c5) (eO t_0.ls) c6 c7 c8 q
  refine Zbg h6 (fun c9 h7=>?_) (fun c9 h8=>?_)
  ·obtain ⟨x7,c10,h9⟩:=Zae h7
   let o2:List PS:=o1 ++ [.r [(5,q0 [oI x7])]]
   have t2 {Q:Prop} (q:Q):=t1 (aO c9 c9 c9 (ZaL.snd c10) c9 c9 c9 q)
   refine Zbg h9 (fun c11 h10=>?_) (fun c11 h11=>?_)
   ·exact aq fol (o2 ++ [.c true,.r [],.s 5]) [0,2,10,43,44,45,46,47] [] (t2 c11) (Zao.p2_ok h10 hE hc1)
   ·exact aq fol (o2 ++ [.c false,.s 5]) [0,2,10,43,44,45,46,47] [] (t2 c11) (Zao.p2_ok h11 hE hc1)
  ·obtain ⟨x10,c13,h12⟩:=Zae h8
   exact an fol (o1 ++ [.r [(3,wF),(4,wF),(5,wF),(6,wF),(7,wF),(8,yF)],.c false,.r [(3,q0 [oI x10])]]) [0,1,2,7] [] (t1 (aO c9 c9 c9 c9 c9 c9 eF (ZaL.snd c13))) (hc1 x4.Ahead x10 h12)
 ·obtain rfl:=Zaa h3
  exact af fol hE [.r [],.c false,.r []] [] 0 [] c4
theorem Zao.snd {t_0:Zat} {at_1 height_2:Int} {r:Int} (h:Zao N t_0 at_1 height_2=some r):Zde zE 28 [.one (vI 2 t_0.ls),oI at_1,oI height_2] (Zao.rs r):=fun st=>
 sO Zao.B Tryz.func28 fun g0 w0 R hE=>by
  unfold Zao at h
  obtain ⟨x1,c1,h13⟩:=Zae h
  let o3:List PS:=[.r [],.r [(2,q0 [oI x1])]]
  have t3 {Q:Prop} (q:Q):=aI (ZaL.snd c1) q
  refine Zbg h13 (fun c2 h14=>?_) (fun c2 h15=>?_)
  ·obtain rfl:=Zaa h14
   exact af fol hE (o3 ++ [.r [(3,wF),(4,wF),(5,wF)],.c true,.r []]) [] 0 [] (t3 (aL c2 c2 c2 c2 eT))
  ·refine Zbg h15 (fun c3 h16=>?_) (fun c3 h17=>?_)
   ·obtain rfl:=Zaa h16
    exact af fol hE (o3 ++ [.r [(6,yF)],.c true,.r []]) [] 0 [] (t3 (aL c2 c2 c2 c2 c3))
   ·exact aq fol (o3 ++ [.r [(6,yF)],.c false]) [0,1,2,7] [] (t3 (aL c2 c2 c2 c2 c3)) (At.loop N (At.loopN (fun y:Int×Int=>Zao.p1.S t_0 y.1 height_2 y.2 st) (fun c J hc y h=>Zao.p1_ok (at_2:=y.1) (h_3:=y.2) h hE (fun at_2 h_3=>hc (at_2,h_3))) N (at_1,x1) h17))
def ZcP.B:Code:=Tryz.f58.body.getD .skip
def ZcP.rs (r:Zbu×Bool×LL):List CV:=[.agg r.1.ls,oB r.2.1]
def ZcP (N:Nat) (t_0:Option Nat) (at_1:Int) (st:LL):Option (Zbu×Bool×LL):=
 if (wE t_0)=true then
  some (Zbu.mk (Zan.mk 0 (zC 32 0) (zC 32 0) 0 0 0) (zC 32 0) (-1) 0 (zC 4 0),false,st)
 else
 Zbv t_0 fun i1=>
 ZcJ (st[i1]?) Zbn fun x2 x3=>
 Zbv x2 fun i4=>
 ZcJ (st[i4]?) Zbc fun x5=>
 Zbv (Zbq N x5 at_1) fun (x6,x7)=>
 some (x6,x7,st)
theorem ZcP.snd {t_0:Option Nat} {at_1:Int} {st:LL} {r:Zbu×Bool×LL} (h:ZcP N t_0 at_1 st=some r):Snd zE 58 [.one (yO t_0),oI at_1] st (ZcP.rs r) r.2.2:=
 sO ZcP.B Tryz.func58 fun g0 w0 R hE=>by
  unfold ZcP at h
  refine Zbg h (fun c1 h1=>?_) (fun c1 h2=>?_)
  ·obtain rfl:=Zaa h1
   exact af fol hE [.r [],.r [],.c true,.r []] [] 0 [] c1
  ·obtain ⟨i1,rfl,h3⟩:=Zae h2
   obtain ⟨x2,x3,c3,h4⟩:=Zba h3
   obtain ⟨i4,rfl,h5⟩:=Zae h4
   obtain ⟨x5,c5,h6⟩:=ZaX h5
   obtain ⟨⟨x6,x7⟩,c6,h7⟩:=Zae h6
   obtain rfl:=Zaa h7
   exact af fol hE [.r [],.r [],.c false,.r [(3,{oc:=[yO (some i4),yP true 1 x3]}),(5,{rs:=[.agg x6.ls,oB x7],m:=10,cv:=[.one (vI 87 x5.ls)]})]] [] 0 [] (aK c1 c3 (bO 87 c5 (Zas.bv x5)) (Zbq.snd c6))
def Zcl.B:Code:=Tryz.f57.body.getD .skip
def Zcl.rs (r:Int×LL):List CV:=[oI r.1]
def Zcl (N:Nat) (t_0:Option Nat) (at_1:Int) (st:LL):Option (Int×LL):=
 Zbv (ZcP N t_0 at_1 st) fun (x1,x2,st3)=>
 if (!x2)=true then
  some ((-1),st3)
 else
 some (x1.Height,st3)
theorem Zcl.snd {t_0:Option Nat} {at_1:Int} {st:LL} {r:Int×LL} (h:Zcl N t_0 at_1 st=some r):Snd zE 57 [.one (yO t_0),oI at_1] st (Zcl.rs r) r.2:=
 sO Zcl.B Tryz.func57 fun g0 w0 R hE=>by
  unfold Zcl at h
  obtain ⟨⟨x1,x2,st3⟩,c1,h1⟩:=Zae h
  let o1:List PS:=[.r [],.r [(2,{rs:=[.agg x1.ls,oB x2],st:=st3})],.r []]
  refine Zbg h1 (fun c2 h2=>?_) (fun c2 h3=>?_)
  ·obtain rfl:=Zaa h2
   exact af fol hE (o1 ++ [.c true,.r []]) [] 0 [] (aI (ZcP.snd c1) c2)
  ·obtain rfl:=Zaa h3
   exact af fol hE (o1 ++ [.c false,.r []]) [] 0 [] (aI (ZcP.snd c1) c2)
end Go.Dn.F
end
