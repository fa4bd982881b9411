import Derived.Test.YtlofpeadcmldhaaGreatDoorFa
import Derived.Test.YtlofpeadcmldhaaGreatDoorFaP
import Derived.Test.YtlofpeadcmldhaaGreatDoorIns
set_option linter.all false
open Go.Dn.L renaming int→zJ,arr→zM,bool→tT,sl→vR,own→yR,bx→xN,ptr→yM
open Go.Proofs.Tryz renaming prog→zF
open Int renaming tdiv→zY,tmod→yK,toNat→zE
open List renaming set→zS,getD→zG,replicate→zC,length→zK
open Option renaming isNone→wL
noncomputable section
set_option maxRecDepth 100000
namespace Go.Dn.F
open Go.Proofs
variable {N:Nat} {g0:G} {w0:World} {R:Exit→Act→World→Prop}
structure ZbZ where
  Height:Int
  Version:Int
def ZbZ.ls (x:ZbZ):List L:=[zJ .i64 x.Height,zJ .i64 x.Version]
def ZdK {α:Type} (l:List L) (k:ZbZ→Option α):Option α:=match l with
  | [zJ .i64 x0,zJ .i64 x1]=>k ⟨x0,x1⟩
  | _=>none
theorem ZdZ {α:Type} {o:Option (List L)} {k:ZbZ→Option α} {r:α} (h:ZcI o ZdK k=some r) : ∃x:ZbZ,o=some x.ls∧k x=some r:=by
  obtain ⟨l,e,k1⟩:=Zae h;subst e;unfold ZdK at k1;split at k1
  · exact ⟨_,rfl,k1⟩
  · cases k1
@[simp] theorem Zej {α:Type} (x:ZbZ) (k:ZbZ→Option α):ZdK x.ls k=k x:=rfl
theorem ZbZ.bv {st:LL} (x:ZbZ):BVs st x.ls x.ls:=(bP (bP bN))
structure ZbO where
  Height:Int
  Id:List Int
def ZbO.ls (x:ZbO):List L:=[zJ .i64 x.Height,zM .u8 32 x.Id]
def Zds {α:Type} (l:List L) (k:ZbO→Option α):Option α:=match l with
  | [zJ .i64 x0,zM .u8 32 x1]=>k ⟨x0,x1⟩
  | _=>none
theorem ZdQ {α:Type} {o:Option (List L)} {k:ZbO→Option α} {r:α} (h:ZcI o Zds k=some r) : ∃x:ZbO,o=some x.ls∧k x=some r:=by
  obtain ⟨l,e,k1⟩:=Zae h;subst e;unfold Zds at k1;split at k1
  · exact ⟨_,rfl,k1⟩
  · cases k1
@[simp] theorem Zea {α:Type} (x:ZbO) (k:ZbO→Option α):Zds x.ls k=k x:=rfl
theorem ZbO.bv {st:LL} (x:ZbO):BVs st x.ls x.ls:=(bP (bP bN))
structure Zau where
  rules:Zaj
  list:LL
  spots:LL
  places:LM
  room:Int
def Zau.lo (x:Zau):List L:=[zJ .i64 x.rules.Limit,zJ .i64 x.rules.Interval,zJ .i64 x.rules.Spacing,zJ .i64 x.rules.Future,tT x.rules.Easy,vR 2 x.rules.Gates,vR 33 x.rules.Checks,zM .u64 4 x.rules.MinWork,zM .u64 4 x.rules.Margin,zJ .i64 x.rules.Genesis.Version,zM .u8 32 x.rules.Genesis.Prev,zM .u8 32 x.rules.Genesis.Root,zJ .i64 x.rules.Genesis.Time,zJ .i64 x.rules.Genesis.Bits,zJ .i64 x.rules.Genesis.Nonce,yR true 106 x.list,yR true 38 x.spots,L.mp x.places,zJ .i64 x.room]
def ZaY {α:Type} (l:List L) (k:Zau→Option α):Option α:=match l with
  | [zJ .i64 x0,zJ .i64 x1,zJ .i64 x2,zJ .i64 x3,tT x4,vR 2 x5,vR 33 x6,zM .u64 4 x7,zM .u64 4 x8,zJ .i64 x9,zM .u8 32 x10,zM .u8 32 x11,zJ .i64 x12,zJ .i64 x13,zJ .i64 x14,yR true 106 x15,yR true 38 x16,L.mp x17,zJ .i64 x18]=>k ⟨⟨x0,x1,x2,x3,x4,x5,x6,x7,x8,⟨x9,x10,x11,x12,x13,x14⟩⟩,x15,x16,x17,x18⟩
  | _=>none
theorem ZaP {α:Type} {o:Option (List L)} {k:Zau→Option α} {r:α} (h:ZcI o ZaY k=some r) : ∃x:Zau,o=some x.lo∧k x=some r:=by
  obtain ⟨l,e,k1⟩:=Zae h;subst e;unfold ZaY at k1;split at k1
  · exact ⟨_,rfl,k1⟩
  · cases k1
@[simp] theorem Zbm {α:Type} (x:Zau) (k:Zau→Option α):ZaY x.lo k=k x:=rfl
def Zau.ls (x:Zau):List L:=[zJ .i64 x.rules.Limit,zJ .i64 x.rules.Interval,zJ .i64 x.rules.Spacing,zJ .i64 x.rules.Future,tT x.rules.Easy,vR 2 x.rules.Gates,vR 33 x.rules.Checks,zM .u64 4 x.rules.MinWork,zM .u64 4 x.rules.Margin,zJ .i64 x.rules.Genesis.Version,zM .u8 32 x.rules.Genesis.Prev,zM .u8 32 x.rules.Genesis.Root,zJ .i64 x.rules.Genesis.Time,zJ .i64 x.rules.Genesis.Bits,zJ .i64 x.rules.Genesis.Nonce,vR 106 x.list,vR 38 x.spots,L.mz x.places,zJ .i64 x.room]
theorem Zau.bv {st:LL} (x:Zau):BVs st x.lo x.ls:=(bP (bP (bP (bP (bP (bS (bS (bP (bP (bP (bP (bP (bP (bP (bP (bW (bW (bM (bP bN)))))))))))))))))))
structure Zby where
  Header:Zap
  Id:List Int
  Ahead:Int
  Height:Int
  Work:List Int
def Zby.ls (x:Zby):List L:=[zJ .i64 x.Header.Version,zM .u8 32 x.Header.Prev,zM .u8 32 x.Header.Root,zJ .i64 x.Header.Time,zJ .i64 x.Header.Bits,zJ .i64 x.Header.Nonce,zM .u8 32 x.Id,zJ .i64 x.Ahead,zJ .i64 x.Height,zM .u64 4 x.Work]
def Zdb {α:Type} (l:List L) (k:Zby→Option α):Option α:=match l with
  | [zJ .i64 x0,zM .u8 32 x1,zM .u8 32 x2,zJ .i64 x3,zJ .i64 x4,zJ .i64 x5,zM .u8 32 x6,zJ .i64 x7,zJ .i64 x8,zM .u64 4 x9]=>k ⟨⟨x0,x1,x2,x3,x4,x5⟩,x6,x7,x8,x9⟩
  | _=>none
theorem Zdr {α:Type} {o:Option (List L)} {k:Zby→Option α} {r:α} (h:ZcI o Zdb k=some r) : ∃x:Zby,o=some x.ls∧k x=some r:=by
  obtain ⟨l,e,k1⟩:=Zae h;subst e;unfold Zdb at k1;split at k1
  · exact ⟨_,rfl,k1⟩
  · cases k1
@[simp] theorem ZdD {α:Type} (x:Zby) (k:Zby→Option α):Zdb x.ls k=k x:=rfl
theorem Zby.bv {st:LL} (x:Zby):BVs st x.ls x.ls:=(bP (bP (bP (bP (bP (bP (bP (bP (bP (bP bN))))))))))
structure Zao where
  store:Zau
  leaps:LL
def Zao.ls (x:Zao):List L:=[xN 87 x.store.ls,vR 1 x.leaps]
structure ZaQ where
  tree:Zao
  list:LL
def ZaQ.ls (x:ZaQ):List L:=[xN 2 x.tree.ls,vR 1 x.list]
structure Zbh where
  Kind:Int
  Header:Zap
  Now:Int
  N:Int
def Zbh.ls (x:Zbh):List L:=[zJ .i64 x.Kind,zJ .i64 x.Header.Version,zM .u8 32 x.Header.Prev,zM .u8 32 x.Header.Root,zJ .i64 x.Header.Time,zJ .i64 x.Header.Bits,zJ .i64 x.Header.Nonce,zJ .i64 x.Now,zJ .i64 x.N]
def ZcC {α:Type} (l:List L) (k:Zbh→Option α):Option α:=match l with
  | [zJ .i64 x0,zJ .i64 x1,zM .u8 32 x2,zM .u8 32 x3,zJ .i64 x4,zJ .i64 x5,zJ .i64 x6,zJ .i64 x7,zJ .i64 x8]=>k ⟨x0,⟨x1,x2,x3,x4,x5,x6⟩,x7,x8⟩
  | _=>none
theorem ZdT {α:Type} {o:Option (List L)} {k:Zbh→Option α} {r:α} (h:ZcI o ZcC k=some r) : ∃x:Zbh,o=some x.ls∧k x=some r:=by
  obtain ⟨l,e,k1⟩:=Zae h;subst e;unfold ZcC at k1;split at k1
  · exact ⟨_,rfl,k1⟩
  · cases k1
@[simp] theorem ZdW {α:Type} (x:Zbh) (k:Zbh→Option α):ZcC x.ls k=k x:=rfl
theorem Zbh.bv {st:LL} (x:Zbh):BVs st x.ls x.ls:=(bP (bP (bP (bP (bP (bP (bP (bP (bP bN)))))))))
def Zhq {α:Type} (l:List L) (k:(List Int)→Option α):Option α:=match l with
  | [zM .u64 4 x0]=>k x0
  | _=>none
theorem ZkK {α:Type} {o:Option (List L)} {k:(List Int)→Option α} {r:α} (h:ZcI o Zhq k=some r) : ∃x0,o=some [zM .u64 4 x0]∧k x0=some r:=by
  obtain ⟨l,e,k1⟩:=Zae h;subst e;unfold Zhq at k1;split at k1
  · exact ⟨_,rfl,k1⟩
  · cases k1
@[simp] theorem dec_u64x4_ls {α:Type} (x0:List Int) (k:(List Int)→Option α):Zhq [zM .u64 4 x0] k=k x0:=rfl
def Zbk {α:Type} (l:List L) (k:(Option Nat)→LL→Option α):Option α:=match l with
  | [yM x0,yR true 1 x1]=>k x0 x1
  | _=>none
theorem ZaX {α:Type} {o:Option (List L)} {k:(Option Nat)→LL→Option α} {r:α} (h:ZcI o Zbk k=some r) : ∃x0 x1,o=some [yM x0,yR true 1 x1]∧k x0 x1=some r:=by
  obtain ⟨l,e,k1⟩:=Zae h;subst e;unfold Zbk at k1;split at k1
  · exact ⟨_,_,rfl,k1⟩
  · cases k1
@[simp] theorem Zca {α:Type} (x0:Option Nat) (x1:LL) (k:(Option Nat)→LL→Option α):Zbk [yM x0,yR true 1 x1] k=k x0 x1:=rfl
theorem slices_Insert_int.snd:InsC zF 32:=slices_Insert_int.holds
theorem slices_Sort_int.snd:SortC zF 137:=slices_Sort_int.holds
theorem ZcW.snd {x y z:Int} {r:Int×Int} (h:ZcW N x y z=some r):ExtI zF 140 [(.u64,x),(.u64,y),(.u64,z)] [(.u64,r.1),(.u64,r.2)]:=ZjA Tryz.func140 (by kernel_rfl) (by kernel_rfl) (by kernel_rfl) (by kernel_rfl) h
theorem ZdS.snd {x y z:Int} {r:Int×Int} (h:ZdS N x y z=some r):ExtI zF 149 [(.u64,x),(.u64,y),(.u64,z)] [(.u64,r.1),(.u64,r.2)]:=Zjz Tryz.func149 (by kernel_rfl) (by kernel_rfl) (by kernel_rfl) (by kernel_rfl) h
def Zcv.B:Code:=Tryz.f121.body.getD .skip
def Zcv.rs (r:(List Int)):List CV:=[.agg [zM .u64 4 r]]
def Zcv (N:Nat) (n_0:Int):Option (List Int):=
 some [n_0,0,0,0]
theorem Zcv.snd {n_0:Int} {r:(List Int)} (h:Zcv N n_0=some r):Zdh zF 121 [.one (zJ .u64 n_0)] (Zcv.rs r):=fun st=>
 sO Zcv.B Tryz.func121 fun g0 w0 R hE=>by
  unfold Zcv at h
  obtain rfl:=Zab h
  exact af fol hE [.r [],.r [(1,{m:=3})]] [] 0 [] trivial
def ZaO.B:Code:=Tryz.f122.body.getD .skip
def ZaO.rs (r:(List Int)):List CV:=[.agg [zM .u64 4 r]]
def ZaO.p2 (N:Nat) (c1_:(Int×(List Int))→Option (List Int)) (n_1 v1:Int) (a_0_0 out_4:List Int):Option (List Int):=
 c1_ (w64 (v1+1),out_4)
def ZaO.p1 (N:Nat) (n_1:Int) (a_0_0:List Int) (c1_:(Int×(List Int))→Option (List Int)):(Int×(List Int))→Option (List Int):=fun (v1,out_3)=>
 if (decide (v1<(w64 (4-(w64 (zY (if (0:Int)>n_1 then 0 else n_1) 64))))))=true then
  chk (0≤(w64 (v1+(w64 (zY (if (0:Int)>n_1 then 0 else n_1) 64)))))<|
  chk ((w64 (v1+(w64 (zY (if (0:Int)>n_1 then 0 else n_1) 64))))<4)<|
  chk (0≤(yK (if (0:Int)>n_1 then 0 else n_1) 64))<|
  chk (0≤v1)<|
  chk (v1<4)<|
  if (decide ((w64 ((w64 (v1+(w64 (zY (if (0:Int)>n_1 then 0 else n_1) 64))))+1))<4))=true then
   chk (0≤(w64 ((w64 (v1+(w64 (zY (if (0:Int)>n_1 then 0 else n_1) 64))))+1)))<|
   chk (0≤(w64 (64-(yK (if (0:Int)>n_1 then 0 else n_1) 64))))<|
   ZaO.p2 N c1_ n_1 v1 a_0_0 (zS (zS out_3 (zE v1) (ZaR .u64 (zG a_0_0 (zE (w64 (v1+(w64 (zY (if (0:Int)>n_1 then 0 else n_1) 64))))) 0) (yK (if (0:Int)>n_1 then 0 else n_1) 64))) (zE v1) (ZaB .or .u64 (zG (zS out_3 (zE v1) (ZaR .u64 (zG a_0_0 (zE (w64 (v1+(w64 (zY (if (0:Int)>n_1 then 0 else n_1) 64))))) 0) (yK (if (0:Int)>n_1 then 0 else n_1) 64))) (zE v1) 0) (Zbf .u64 (zG a_0_0 (zE (w64 ((w64 (v1+(w64 (zY (if (0:Int)>n_1 then 0 else n_1) 64))))+1))) 0) (w64 (64-(yK (if (0:Int)>n_1 then 0 else n_1) 64))))))
  else
  ZaO.p2 N c1_ n_1 v1 a_0_0 (zS out_3 (zE v1) (ZaR .u64 (zG a_0_0 (zE (w64 (v1+(w64 (zY (if (0:Int)>n_1 then 0 else n_1) 64))))) 0) (yK (if (0:Int)>n_1 then 0 else n_1) 64)))
 else
 some out_3
def ZaO (N:Nat) (a_0_0:List Int) (n_1:Int):Option (List Int):=
 if (decide (n_1≥256))=true then
  some (zC 4 0)
 else
 loopN (ZaO.p1 N n_1 a_0_0) N (0,zC 4 0)
def ZaO.p2.S (n_1 v1:Int) (a_0_0 out_4:List Int) (st:LL):S:=mkS 53 [(2,sA 2),(4,sA 4),(5,sA 5),(6,sI (w64 (zY (if (0:Int)>n_1 then 0 else n_1) 64))),(7,sI (yK (if (0:Int)>n_1 then 0 else n_1) 64)),(19,sI (w64 (4-(w64 (zY (if (0:Int)>n_1 then 0 else n_1) 64))))),(20,sI v1)] [(2,.cells [zM .u64 4 a_0_0]),(4,.cells [zM .u64 4 (zC 4 0)]),(5,.cells [zM .u64 4 out_4])] st
def ZaO.p1.S (n_1 v1:Int) (a_0_0 out_3:List Int) (st:LL):S:=mkS 53 [(2,sA 2),(4,sA 4),(5,sA 5),(6,sI (w64 (zY (if (0:Int)>n_1 then 0 else n_1) 64))),(7,sI (yK (if (0:Int)>n_1 then 0 else n_1) 64)),(19,sI (w64 (4-(w64 (zY (if (0:Int)>n_1 then 0 else n_1) 64))))),(20,sI v1)] [(2,.cells [zM .u64 4 a_0_0]),(4,.cells [zM .u64 4 (zC 4 0)]),(5,.cells [zM .u64 4 out_3])] st
theorem ZaO.p2_ok {n_1 v1 a_0_0 out_4 st r c1_ J1} (h:ZaO.p2 N c1_ n_1 v1 a_0_0 out_4=some r) (hE:En Tryz.f122 g0 w0 (ZaO.rs r) st R) (hc1 : ∀v1 out_3,c1_ (v1,out_3)=some r→At g0 w0 (ZaO.p1.S n_1 v1 a_0_0 out_3 st) J1):At g0 w0 (ZaO.p2.S n_1 v1 a_0_0 out_4 st) (XK zF R [.c (Zcb ZaO.B [1,1,1,1,0,1,0,0,1,1,1]),.h J1,.b 0,.c (Zcb ZaO.B [1,1,1,1,1])]):=by
 unfold ZaO.p2 at h
 exact an fol [.r []] [2,4,5,6,7,19,20] [2,4,5] trivial (hc1 (w64 (v1+1)) out_4 h)
theorem ZaO.p1_ok {n_1 v1 a_0_0 out_3 st r c1_ J1} (h:ZaO.p1 N n_1 a_0_0 c1_ (v1,out_3)=some r) (hE:En Tryz.f122 g0 w0 (ZaO.rs r) st R) (hc1 : ∀v1 out_3,c1_ (v1,out_3)=some r→At g0 w0 (ZaO.p1.S n_1 v1 a_0_0 out_3 st) J1):At g0 w0 (ZaO.p1.S n_1 v1 a_0_0 out_3 st) (XK zF R (.c (Zcb ZaO.B [1,1,1,1,0,1,0,0]) :: .h J1 :: [.b 0,.c (Zcb ZaO.B [1,1,1,1,1])])):=by
 unfold ZaO.p1 at h
 refine Zbi h (fun c11 h1=>?_) (fun c11 h2=>?_)
 ·obtain ⟨c12,c13,c14,c15,c16,h3⟩:=ck5 h1
  let o1:List PS:=[.r [],.c true,.r [],.r [],.r []]
  refine Zbi h3 (fun c17 h4=>?_) (fun c17 h5=>?_)
  ·obtain ⟨c18,c19,h6⟩:=ck2 h4
   exact aqd fol (o1 ++ [.c true,.d {ds:=[],hv:=16384,Hs:=[16384]},.s 4]) [2,4,5,6,7,19,20] [2,4,5] (aO c11 c12 c13 c14 c15 c16 c17 (aN c15 c16 c18 (oD c17) c19 c15 c16)) (ZaO.p2_ok h6 hE hc1)
  ·exact aq fol (o1 ++ [.c false,.s 4]) [2,4,5,6,7,19,20] [2,4,5] (aN c11 c12 c13 c14 c15 c16 c17) (ZaO.p2_ok h5 hE hc1)
 ·obtain rfl:=Zab h2
  exact af fol hE [.r [],.c false,.r []] [] 0 [] c11
theorem ZaO.snd {a_0_0:List Int} {n_1:Int} {r:(List Int)} (h:ZaO N a_0_0 n_1=some r):Zdh zF 122 [.agg [zM .u64 4 a_0_0],oI n_1] (ZaO.rs r):=fun st=>
 sO ZaO.B Tryz.func122 fun g0 w0 R hE=>by
  unfold ZaO at h
  refine Zbi h (fun c1 h7=>?_) (fun c1 h8=>?_)
  ·obtain rfl:=Zab h7
   exact af fol hE [.r [],.r [],.c true,.r []] [] 0 [] c1
  ·exact aq fol [.r [],.r [],.c false,.r [],.r [],.r []] [2,4,5,6,7,19,20] [2,4,5] (aJ c1 (neI 64) (neI 64)) (At.loop N (At.loopN (fun y:Int×(List Int)=>ZaO.p1.S n_1 y.1 a_0_0 y.2 st) (fun c J hc y h=>ZaO.p1_ok (v1:=y.1) (out_3:=y.2) h hE (fun v1 out_3=>hc (v1,out_3))) N (0,zC 4 0) h8))
def Zbl.B:Code:=Tryz.f123.body.getD .skip
def Zbl.rs (r:(List Int)):List CV:=[.agg [zM .u64 4 r]]
def Zbl.p2 (N:Nat) (c1_:(Int×(List Int))→Option (List Int)) (n_1 i_1:Int) (a_0_0 out_4:List Int):Option (List Int):=
 c1_ (w64 (i_1+1),out_4)
def Zbl.p1 (N:Nat) (n_1:Int) (a_0_0:List Int) (c1_:(Int×(List Int))→Option (List Int)):(Int×(List Int))→Option (List Int):=fun (i_1,out_3)=>
 if (decide (i_1<4))=true then
  chk (0≤(w64 (i_1-(w64 (zY (if (0:Int)>n_1 then 0 else n_1) 64)))))<|
  chk ((w64 (i_1-(w64 (zY (if (0:Int)>n_1 then 0 else n_1) 64))))<4)<|
  chk (0≤(yK (if (0:Int)>n_1 then 0 else n_1) 64))<|
  chk (0≤i_1)<|
  if (decide (i_1>(w64 (zY (if (0:Int)>n_1 then 0 else n_1) 64))))=true then
   chk (0≤(w64 ((w64 (i_1-(w64 (zY (if (0:Int)>n_1 then 0 else n_1) 64))))-1)))<|
   chk ((w64 ((w64 (i_1-(w64 (zY (if (0:Int)>n_1 then 0 else n_1) 64))))-1))<4)<|
   chk (0≤(w64 (64-(yK (if (0:Int)>n_1 then 0 else n_1) 64))))<|
   Zbl.p2 N c1_ n_1 i_1 a_0_0 (zS (zS out_3 (zE i_1) (Zbf .u64 (zG a_0_0 (zE (w64 (i_1-(w64 (zY (if (0:Int)>n_1 then 0 else n_1) 64))))) 0) (yK (if (0:Int)>n_1 then 0 else n_1) 64))) (zE i_1) (ZaB .or .u64 (zG (zS out_3 (zE i_1) (Zbf .u64 (zG a_0_0 (zE (w64 (i_1-(w64 (zY (if (0:Int)>n_1 then 0 else n_1) 64))))) 0) (yK (if (0:Int)>n_1 then 0 else n_1) 64))) (zE i_1) 0) (ZaR .u64 (zG a_0_0 (zE (w64 ((w64 (i_1-(w64 (zY (if (0:Int)>n_1 then 0 else n_1) 64))))-1))) 0) (w64 (64-(yK (if (0:Int)>n_1 then 0 else n_1) 64))))))
  else
  Zbl.p2 N c1_ n_1 i_1 a_0_0 (zS out_3 (zE i_1) (Zbf .u64 (zG a_0_0 (zE (w64 (i_1-(w64 (zY (if (0:Int)>n_1 then 0 else n_1) 64))))) 0) (yK (if (0:Int)>n_1 then 0 else n_1) 64)))
 else
 some out_3
def Zbl (N:Nat) (a_0_0:List Int) (n_1:Int):Option (List Int):=
 if (decide (n_1≥256))=true then
  some (zC 4 0)
 else
 loopN (Zbl.p1 N n_1 a_0_0) N (w64 (zY (if (0:Int)>n_1 then 0 else n_1) 64),zC 4 0)
def Zbl.p2.S (n_1 i_1:Int) (a_0_0 out_4:List Int) (st:LL):S:=mkS 50 [(2,sA 2),(4,sA 4),(5,sA 5),(6,sI (w64 (zY (if (0:Int)>n_1 then 0 else n_1) 64))),(7,sI (yK (if (0:Int)>n_1 then 0 else n_1) 64)),(8,sI i_1)] [(2,.cells [zM .u64 4 a_0_0]),(4,.cells [zM .u64 4 (zC 4 0)]),(5,.cells [zM .u64 4 out_4])] st
def Zbl.p1.S (n_1 i_1:Int) (a_0_0 out_3:List Int) (st:LL):S:=mkS 50 [(2,sA 2),(4,sA 4),(5,sA 5),(6,sI (w64 (zY (if (0:Int)>n_1 then 0 else n_1) 64))),(7,sI (yK (if (0:Int)>n_1 then 0 else n_1) 64)),(8,sI i_1)] [(2,.cells [zM .u64 4 a_0_0]),(4,.cells [zM .u64 4 (zC 4 0)]),(5,.cells [zM .u64 4 out_3])] st
theorem Zbl.p2_ok {n_1 i_1 a_0_0 out_4 st r c1_ J1} (h:Zbl.p2 N c1_ n_1 i_1 a_0_0 out_4=some r) (hE:En Tryz.f123 g0 w0 (Zbl.rs r) st R) (hc1 : ∀i_1 out_3,c1_ (i_1,out_3)=some r→At g0 w0 (Zbl.p1.S n_1 i_1 a_0_0 out_3 st) J1):At g0 w0 (Zbl.p2.S n_1 i_1 a_0_0 out_4 st) (XK zF R [.c (Zcb Zbl.B [1,1,1,1,0,1,0,0,1,1]),.h J1,.b 0,.c (Zcb Zbl.B [1,1,1,1,1])]):=by
 unfold Zbl.p2 at h
 exact an fol [.r []] [2,4,5,6,7,8] [2,4,5] trivial (hc1 (w64 (i_1+1)) out_4 h)
theorem Zbl.p1_ok {n_1 i_1 a_0_0 out_3 st r c1_ J1} (h:Zbl.p1 N n_1 a_0_0 c1_ (i_1,out_3)=some r) (hE:En Tryz.f123 g0 w0 (Zbl.rs r) st R) (hc1 : ∀i_1 out_3,c1_ (i_1,out_3)=some r→At g0 w0 (Zbl.p1.S n_1 i_1 a_0_0 out_3 st) J1):At g0 w0 (Zbl.p1.S n_1 i_1 a_0_0 out_3 st) (XK zF R (.c (Zcb Zbl.B [1,1,1,1,0,1,0,0]) :: .h J1 :: [.b 0,.c (Zcb Zbl.B [1,1,1,1,1])])):=by
 unfold Zbl.p1 at h
 refine Zbi h (fun c11 h1=>?_) (fun c11 h2=>?_)
 ·obtain ⟨c12,c13,c14,c15,h3⟩:=ck4 h1
  refine Zbi h3 (fun c16 h4=>?_) (fun c16 h5=>?_)
  ·obtain ⟨c17,c18,c19,h6⟩:=ck3 h4
   exact aqd fol [.r [],.c true,.r [],.r [],.c true,.d {ds:=[],hv:=16384,Hs:=[16384]},.s 4] [2,4,5,6,7,8] [2,4,5] (aO c11 c12 c13 c14 c15 (oD c11) c16 (aN c15 (oD c11) c17 c18 c19 c15 (oD c11))) (Zbl.p2_ok h6 hE hc1)
  ·exact aq fol [.r [],.c true,.r [],.r [],.c false,.s 4] [2,4,5,6,7,8] [2,4,5] (aN c11 c12 c13 c14 c15 (oD c11) c16) (Zbl.p2_ok h5 hE hc1)
 ·obtain rfl:=Zab h2
  exact af fol hE [.r [],.c false,.r []] [] 0 [] c11
theorem Zbl.snd {a_0_0:List Int} {n_1:Int} {r:(List Int)} (h:Zbl N a_0_0 n_1=some r):Zdh zF 123 [.agg [zM .u64 4 a_0_0],oI n_1] (Zbl.rs r):=fun st=>
 sO Zbl.B Tryz.func123 fun g0 w0 R hE=>by
  unfold Zbl at h
  refine Zbi h (fun c1 h7=>?_) (fun c1 h8=>?_)
  ·obtain rfl:=Zab h7
   exact af fol hE [.r [],.r [],.c true,.r []] [] 0 [] c1
  ·exact aq fol [.r [],.r [],.c false,.r [],.r [],.r []] [2,4,5,6,7,8] [2,4,5] (aJ c1 (neI 64) (neI 64)) (At.loop N (At.loopN (fun y:Int×(List Int)=>Zbl.p1.S n_1 y.1 a_0_0 y.2 st) (fun c J hc y h=>Zbl.p1_ok (i_1:=y.1) (out_3:=y.2) h hE (fun i_1 out_3=>hc (i_1,out_3))) N (w64 (zY (if (0:Int)>n_1 then 0 else n_1) 64),zC 4 0) h8))
def Zaz.B:Code:=Tryz.f104.body.getD .skip
def Zaz.rs (r:(List Int)×Bool×Bool):List CV:=[.agg [zM .u64 4 r.1],oB r.2.1,oB r.2.2]
def Zaz.p2 (N:Nat) (bits_0:Int) (below_6:Bool) (n_5:List Int):Option ((List Int)×Bool×Bool):=
 if ((ZaB .and .i64 bits_0 8388607) != 0)=true then
  if (decide ((ZaR .i64 bits_0 24)>34))=true then
   some (n_5,below_6,true)
  else
  if (decide ((ZaB .and .i64 bits_0 8388607)>255))=true then
   if (decide ((ZaR .i64 bits_0 24)>33))=true then
    some (n_5,below_6,true)
   else
   if (decide ((ZaB .and .i64 bits_0 8388607)>65535))=true then
    some (n_5,below_6,decide ((ZaR .i64 bits_0 24)>32))
   else
   some (n_5,below_6,false)
  else
  if (decide ((ZaB .and .i64 bits_0 8388607)>65535))=true then
   some (n_5,below_6,decide ((ZaR .i64 bits_0 24)>32))
  else
  some (n_5,below_6,false)
 else
 some (n_5,below_6,false)
def Zaz.p1 (N:Nat) (bits_0:Int) (n_5:List Int):Option ((List Int)×Bool×Bool):=
 if ((ZaB .and .i64 bits_0 8388607) != 0)=true then
  Zaz.p2 N bits_0 ((ZaB .and .i64 bits_0 8388608) != 0) n_5
 else
 Zaz.p2 N bits_0 false n_5
def Zaz (N:Nat) (bits_0:Int):Option ((List Int)×Bool×Bool):=
 Zbs (Zct N bits_0) fun x1=>
 if (!x1)=true then
  some (zC 4 0,false,false)
 else
 Zbs (Zcv N (v64 (ZaB .and .i64 bits_0 8388607))) fun x2=>
 if (decide ((ZaR .i64 bits_0 24)≤3))=true then
  Zbs (ZaO N x2 (w64 (8*(w64 (3-(ZaR .i64 bits_0 24)))))) fun x3=>
  Zaz.p1 N bits_0 x3
 else
 Zbs (Zbl N x2 (w64 (8*(w64 ((ZaR .i64 bits_0 24)-3))))) fun x4=>
 Zaz.p1 N bits_0 x4
def Zaz.p2.S (bits_0:Int) (below_6:Bool) (n_5:List Int) (st:LL):S:=mkS 65 [(2,sA 2),(5,sI (ZaR .i64 bits_0 24)),(6,sI (ZaB .and .i64 bits_0 8388607)),(7,sA 7),(8,.one (.l (tT below_6)))] [(2,.cells [zM .u64 4 (zC 4 0)]),(7,.cells [zM .u64 4 n_5])] st
def Zaz.p1.S (bits_0:Int) (n_5:List Int) (st:LL):S:=mkS 65 [(0,sI bits_0),(2,sA 2),(5,sI (ZaR .i64 bits_0 24)),(6,sI (ZaB .and .i64 bits_0 8388607)),(7,sA 7)] [(2,.cells [zM .u64 4 (zC 4 0)]),(7,.cells [zM .u64 4 n_5])] st
theorem Zaz.p2_ok {bits_0 below_6 n_5 st r} (h:Zaz.p2 N bits_0 below_6 n_5=some r) (hE:En Tryz.f104 g0 w0 (Zaz.rs r) st R):At g0 w0 (Zaz.p2.S bits_0 below_6 n_5 st) (XK zF R [.c (Zcb Zaz.B [1,1,1,1,1,1])]):=by
 unfold Zaz.p2 at h
 refine Zbi h (fun c8 h1=>?_) (fun c8 h2=>?_)
 ·have t1 {Q:Prop} (q:Q):=aK c8 c8 c8 q
  refine Zbi h1 (fun c9 h3=>?_) (fun c9 h4=>?_)
  ·obtain rfl:=Zab h3
   exact af fol hE [.r [(6,wF),(7,wF),(8,wF),(11,wF),(14,wF),(15,wF),(16,wF),(19,wF)],.r []] [] 0 [] (t1 (aO c9 c9 c9 c9 c8 c9 c8 (aN eT eT eT eT c8 eT c8)))
  ·have t2 {Q:Prop} (q:Q):=t1 (aK c9 c9 c9 q)
   refine Zbi h4 (fun c10 h5=>?_) (fun c10 h6=>?_)
   ·have t3 {Q:Prop} (q:Q):=t2 (aO c10 c10 c9 c10 c8 c9 c8 q)
    refine Zbi h5 (fun c11 h7=>?_) (fun c11 h8=>?_)
    ·obtain rfl:=Zab h7
     exact af fol hE [.r [(12,yF),(14,wF),(15,wF),(16,wF),(19,wF)],.r []] [] 0 [] (t3 (aN c11 c11 c11 c11 c8 c11 c8))
    ·refine Zbi h8 (fun c12 h9=>?_) (fun c12 h10=>?_)
     ·obtain rfl:=Zab h9
      exact af fol hE [.r [(12,yF),(20,yF)],.r []] [] 0 [] (t3 (aO c11 c11 c11 c12 c12 c11 c12 (aJ c8 c11 c8)))
     ·obtain rfl:=Zab h10
      exact af fol hE [.r [(12,yF),(17,wF),(18,wF),(19,yF),(20,yF)],.r []] [] 0 [] (t3 (aO c11 c11 c11 c12 c12 c11 c12 (aJ c8 c11 c8)))
   ·have t4 {Q:Prop} (q:Q):=t2 (aO c10 c10 c9 c10 c8 c9 c8 (aK eF eF eF q))
    refine Zbi h6 (fun c13 h11=>?_) (fun c13 h12=>?_)
    ·obtain rfl:=Zab h11
     exact af fol hE [.r [(9,wF),(10,wF),(11,yF),(12,yF),(20,yF)],.r []] [] 0 [] (t4 (aN c13 c13 eF c13 c8 eF c8))
    ·obtain rfl:=Zab h12
     exact af fol hE [.r [(9,wF),(10,wF),(11,yF),(12,yF),(17,wF),(18,wF),(19,yF),(20,yF)],.r []] [] 0 [] (t4 (aN c13 c13 eF c13 c8 eF c8))
 ·obtain rfl:=Zab h2
  exact af fol hE [.r [(3,wF),(4,wF),(5,wF),(12,wF),(13,wF),(20,wF),(21,yF)],.r []] [] 0 [] (aN c8 c8 c8 c8 c8 c8 c8)
theorem Zaz.p1_ok {bits_0 n_5 st r} (h:Zaz.p1 N bits_0 n_5=some r) (hE:En Tryz.f104 g0 w0 (Zaz.rs r) st R):At g0 w0 (Zaz.p1.S bits_0 n_5 st) (XK zF R [.c (Zcb Zaz.B [1,1,1,1,1])]):=by
 unfold Zaz.p1 at h
 refine Zbi h (fun c7 h13=>?_) (fun c7 h14=>?_)
 ·exact aq fol [.r [],.s 1] [2,5,6,7,8] [2,7] (aK c7 c7 c7 c7) (Zaz.p2_ok h13 hE)
 ·exact aq fol [.r [(3,wF),(4,wF),(5,wF),(6,yF)],.s 1] [2,5,6,7,8] [2,7] (aK c7 c7 c7 c7) (Zaz.p2_ok h14 hE)
theorem Zaz.snd {bits_0:Int} {r:(List Int)×Bool×Bool} (h:Zaz N bits_0=some r):Zdh zF 104 [oI bits_0] (Zaz.rs r):=fun st=>
 sO Zaz.B Tryz.func104 fun g0 w0 R hE=>by
  unfold Zaz at h
  obtain ⟨x1,c1,h15⟩:=Zae h
  let o1:List PS:=[.r [],.r [(1,q1 [oB x1])]]
  have t5 {Q:Prop} (q:Q):=aI (Zct.snd c1) q
  refine Zbi h15 (fun c2 h16=>?_) (fun c2 h17=>?_)
  ·obtain rfl:=Zab h16
   exact af fol hE (o1 ++ [.c true,.r []]) [] 0 [] (t5 c2)
  ·obtain ⟨x2,c3,h18⟩:=Zae h17
   let o2:List PS:=o1 ++ [.c false,.r [],.r [(2,q1 [.agg [zM .u64 4 x2]])],.r []]
   refine Zbi h18 (fun c4 h19=>?_) (fun c4 h20=>?_)
   ·obtain ⟨x3,c5,h21⟩:=Zae h19
    exact aq fol (o2 ++ [.c true,.r [(4,q1 [.agg [zM .u64 4 x3]])],.s 1]) [0,2,5,6,7] [2,7] (t5 (aL c2 (leI 0 24) (Zcv.snd c3) c4 (ZaO.snd c5))) (Zaz.p1_ok h21 hE)
   ·obtain ⟨x4,c6,h22⟩:=Zae h20
    exact aq fol (o2 ++ [.c false,.r [(4,q1 [.agg [zM .u64 4 x4]])],.s 1]) [0,2,5,6,7] [2,7] (t5 (aL c2 (leI 0 24) (Zcv.snd c3) c4 (Zbl.snd c6))) (Zaz.p1_ok h22 hE)
def Zce.B:Code:=Tryz.f105.body.getD .skip
def Zce.rs (r:Bool):List CV:=[oB r]
def Zce (N:Nat) (a_0_0:List Int):Option Bool:=
 some (a_0_0==(zC 4 0))
theorem Zce.snd {a_0_0:List Int} {r:Bool} (h:Zce N a_0_0=some r):Zdh zF 105 [.agg [zM .u64 4 a_0_0]] (Zce.rs r):=fun st=>
 sO Zce.B Tryz.func105 fun g0 w0 R hE=>by
  unfold Zce at h
  obtain rfl:=Zab h
  exact af fol hE [.r [],.r []] [] 0 [] trivial
def ZaW.B:Code:=Tryz.f65.body.getD .skip
def ZaW.rs (r:Int):List CV:=[oI r]
def ZaW.p1 (N:Nat) (a_0_0 b_1_0:List Int) (c1_:Int→Option Int):Int→Option Int:=fun i_1=>
 if (decide (i_1≥0))=true then
  chk (0≤i_1)<|
  chk (i_1<4)<|
  if (decide ((zG a_0_0 (zE i_1) 0)<(zG b_1_0 (zE i_1) 0)))=true then
   some (-1)
  else
  if (decide ((zG a_0_0 (zE i_1) 0)>(zG b_1_0 (zE i_1) 0)))=true then
   some 1
  else
  c1_ (w64 (i_1-1))
 else
 some 0
def ZaW (N:Nat) (a_0_0 b_1_0:List Int):Option Int:=
 loopN (ZaW.p1 N a_0_0 b_1_0) N 3
def ZaW.p1.S (i_1:Int) (a_0_0 b_1_0:List Int) (st:LL):S:=mkS 26 [(2,sA 2),(3,sA 3),(5,sI i_1)] [(2,.cells [zM .u64 4 a_0_0]),(3,.cells [zM .u64 4 b_1_0])] st
theorem ZaW.p1_ok {i_1 a_0_0 b_1_0 st r c1_ J1} (h:ZaW.p1 N a_0_0 b_1_0 c1_ i_1=some r) (hE:En Tryz.f65 g0 w0 (ZaW.rs r) st R) (hc1 : ∀i_1,c1_ i_1=some r→At g0 w0 (ZaW.p1.S i_1 a_0_0 b_1_0 st) J1):At g0 w0 (ZaW.p1.S i_1 a_0_0 b_1_0 st) (XK zF R (.c (Zcb ZaW.B [1,0,1,0,0]) :: .h J1 :: [.b 0,.c (Zcb ZaW.B [1,1])])):=by
 unfold ZaW.p1 at h
 refine Zbi h (fun c1 h1=>?_) (fun c1 h2=>?_)
 ·obtain ⟨c2,c3,h3⟩:=ck2 h1
  let o1:List PS:=[.r [],.c true,.d {ds:=[],hv:=0,Hs:=[]}]
  refine Zbi h3 (fun c4 h4=>?_) (fun c4 h5=>?_)
  ·obtain rfl:=Zab h4
   exact afd fol hE (o1 ++ [.c true,.r []]) [] 0 [] (aM c1 c2 c3 c2 c3 c4)
  ·let o2:List PS:=o1 ++ [.c false,.d {ds:=[],hv:=0,Hs:=[]}]
   refine Zbi h5 (fun c5 h6=>?_) (fun c5 h7=>?_)
   ·obtain rfl:=Zab h6
    exact afd fol hE (o2 ++ [.c true,.r []]) [] 0 [] (aO c1 c2 c3 c2 c3 c4 c2 (aK c3 c2 c3 c5))
   ·exact ZkT fol (o2 ++ [.c false,.r []]) [2,3,5] [2,3] (aO c1 c2 c3 c2 c3 c4 c2 (aK c3 c2 c3 c5)) (hc1 (w64 (i_1-1)) h7)
 ·obtain rfl:=Zab h2
  exact af fol hE [.r [],.c false,.r []] [] 0 [] c1
theorem ZaW.snd {a_0_0 b_1_0:List Int} {r:Int} (h:ZaW N a_0_0 b_1_0=some r):Zdh zF 65 [.agg [zM .u64 4 a_0_0],.agg [zM .u64 4 b_1_0]] (ZaW.rs r):=fun st=>
 sO ZaW.B Tryz.func65 fun g0 w0 R hE=>by
  unfold ZaW at h
  exact aq fol [.r [],.r []] [2,3,5] [2,3] trivial (At.loop N (At.loopN (fun y:Int=>ZaW.p1.S y a_0_0 b_1_0 st) (fun c J hc y h=>ZaW.p1_ok h hE (fun i_1=>hc i_1)) N 3 h))
def Zcm.B:Code:=Tryz.f120.body.getD .skip
def Zcm.rs (r:Bool):List CV:=[oB r]
def Zcm (N:Nat) (a_0_0 b_1_0:List Int):Option Bool:=
 Zbs (ZaW N a_0_0 b_1_0) fun x1=>
 some (decide (x1<0))
theorem Zcm.snd {a_0_0 b_1_0:List Int} {r:Bool} (h:Zcm N a_0_0 b_1_0=some r):Zdh zF 120 [.agg [zM .u64 4 a_0_0],.agg [zM .u64 4 b_1_0]] (Zcm.rs r):=fun st=>
 sO Zcm.B Tryz.func120 fun g0 w0 R hE=>by
  unfold Zcm at h
  obtain ⟨x1,c1,h1⟩:=Zae h
  obtain rfl:=Zab h1
  exact af fol hE [.r [],.r [(2,q1 [oI x1])]] [] 0 [] (ZaW.snd c1)
def ZbK.B:Code:=Tryz.f103.body.getD .skip
def ZbK.rs (r:(List Int)×Bool):List CV:=[.agg [zM .u64 4 r.1],oB r.2]
def ZbK (N:Nat) (bits_0 limit_1:Int):Option ((List Int)×Bool):=
 Zbs (Zaz N bits_0) fun (x1,x2,x3)=>
 Zbs (Zaz N limit_1) fun (x4,x5,x6)=>
 if x2=true then
  some (zC 4 0,false)
 else
 if x3=true then
  some (zC 4 0,false)
 else
 if x5=true then
  some (zC 4 0,false)
 else
 if x6=true then
  some (zC 4 0,false)
 else
 Zbs (Zce N x1) fun x7=>
 if x7=true then
  some (zC 4 0,false)
 else
 Zbs (Zcm N x4 x1) fun x8=>
 if x8=true then
  some (zC 4 0,false)
 else
 some (x1,true)
theorem ZbK.snd {bits_0 limit_1:Int} {r:(List Int)×Bool} (h:ZbK N bits_0 limit_1=some r):Zdh zF 103 [oI bits_0,oI limit_1] (ZbK.rs r):=fun st=>
 sO ZbK.B Tryz.func103 fun g0 w0 R hE=>by
  unfold ZbK at h
  obtain ⟨⟨x1,x2,x3⟩,c1,h1⟩:=Zae h
  obtain ⟨⟨x4,x5,x6⟩,c2,h2⟩:=Zae h1
  let o1:List PS:=[.r [],.r [(1,q1 [.agg [zM .u64 4 x1],oB x2,oB x3])],.r [(1,q1 [.agg [zM .u64 4 x4],oB x5,oB x6])]]
  have t1 {Q:Prop} (q:Q):=aJ (Zaz.snd c1) (Zaz.snd c2) q
  refine Zbi h2 (fun c3 h3=>?_) (fun c3 h4=>?_)
  ·obtain rfl:=Zab h3
   exact af fol hE (o1 ++ [.r [(2,wF),(5,wF),(8,wF),(11,wF),(12,wF),(15,wF),(16,wF),(17,wF)],.c true,.r []]) [] 0 [] (t1 (aO c3 c3 eT eT eT eT eT (aN eT eT eT eT eT eT eT)))
  ·refine Zbi h4 (fun c4 h5=>?_) (fun c4 h6=>?_)
   ·obtain rfl:=Zab h5
    exact af fol hE (o1 ++ [.r [(3,yF),(5,wF),(8,wF),(11,wF),(12,wF),(15,wF),(16,wF),(17,wF)],.c true,.r []]) [] 0 [] (t1 (aO c3 c3 c4 c4 eT eT eT (aN eT eT eT eT eT eT eT)))
   ·have t2 {Q:Prop} (q:Q):=t1 (aL c3 c3 c4 c4 q)
    refine Zbi h6 (fun c5 h7=>?_) (fun c5 h8=>?_)
    ·obtain rfl:=Zab h7
     exact af fol hE (o1 ++ [.r [(3,yF),(6,yF),(8,wF),(11,wF),(12,wF),(15,wF),(16,wF),(17,wF)],.c true,.r []]) [] 0 [] (t2 (aO c5 c5 eT eT eT eT eT (aJ eT eT eT)))
    ·refine Zbi h8 (fun c6 h9=>?_) (fun c6 h10=>?_)
     ·obtain rfl:=Zab h9
      exact af fol hE (o1 ++ [.r [(3,yF),(6,yF),(9,yF),(11,wF),(12,wF),(15,wF),(16,wF),(17,wF)],.c true,.r []]) [] 0 [] (t2 (aO c5 c5 c6 c6 c6 eT eT (aJ eT eT eT)))
     ·obtain ⟨x7,c7,h11⟩:=Zae h10
      have t3 {Q:Prop} (q:Q):=t2 (aN c5 c5 c6 c6 (Zce.snd c7) c6 q)
      refine Zbi h11 (fun c8 h12=>?_) (fun c8 h13=>?_)
      ·obtain rfl:=Zab h12
       exact af fol hE (o1 ++ [.r [(3,yF),(6,yF),(9,yF),(12,q1 [oB x7]),(13,yF),(15,wF),(16,wF),(17,wF)],.c true,.r []]) [] 0 [] (t3 (aL c8 c8 c8 c8 eT))
      ·obtain ⟨x8,c9,h14⟩:=Zae h13
       let o2:List PS:=o1 ++ [.r [(3,yF),(6,yF),(9,yF),(12,q1 [oB x7]),(13,yF),(17,q1 [oB x8]),(18,yF)]]
       refine Zbi h14 (fun c10 h15=>?_) (fun c10 h16=>?_)
       ·obtain rfl:=Zab h15
        exact af fol hE (o2 ++ [.c true,.r []]) [] 0 [] (t3 (aM c8 c8 c8 (Zcm.snd c9) c8 c10))
       ·obtain rfl:=Zab h16
        exact af fol hE (o2 ++ [.c false,.r []]) [] 0 [] (t3 (aM c8 c8 c8 (Zcm.snd c9) c8 c10))
def Zdj.B:Code:=Tryz.f78.body.getD .skip
def Zdj.rs (r:Bool):List CV:=[oB r]
def Zdj (N:Nat) (p_0:Zaj):Option Bool:=
 Zbs (ZbK N p_0.Limit p_0.Limit) fun (x1,x2)=>
 if x2=true then
  if (decide (p_0.Interval≥2))=true then
   if (decide (p_0.Interval≤64))=true then
    if (decide (p_0.Spacing≥1))=true then
     if (decide (p_0.Spacing≤10000))=true then
      if (decide (p_0.Future≥0))=true then
       some (decide (p_0.Future<4294967296))
      else
      some false
     else
     some false
    else
    some false
   else
   some false
  else
  some false
 else
 some false
theorem Zdj.snd {p_0:Zaj} {r:Bool} (h:Zdj N p_0=some r):Zdh zF 78 [.agg p_0.ls] (Zdj.rs r):=fun st=>
 sO Zdj.B Tryz.func78 fun g0 w0 R hE=>by
  unfold Zdj at h
  obtain ⟨⟨x1,x2⟩,c1,h1⟩:=Zae h
  let o1:List PS:=[.r [],.r [(4,q1 [.agg [zM .u64 4 x1],oB x2])]]
  have t1 {Q:Prop} (q:Q):=aI (ZbK.snd c1) q
  refine Zbi h1 (fun c2 h2=>?_) (fun c2 h3=>?_)
  ·have t2 {Q:Prop} (q:Q):=t1 (aL c2 c2 c2 c2 q)
   refine Zbi h2 (fun c3 h4=>?_) (fun c3 h5=>?_)
   ·have t3 {Q:Prop} (q:Q):=t2 (aL c3 c3 c3 c3 q)
    refine Zbi h4 (fun c4 h6=>?_) (fun c4 h7=>?_)
    ·have t4 {Q:Prop} (q:Q):=t3 (aL c4 c4 c4 c4 q)
     refine Zbi h6 (fun c5 h8=>?_) (fun c5 h9=>?_)
     ·refine Zbi h8 (fun c6 h10=>?_) (fun c6 h11=>?_)
      ·refine Zbi h10 (fun c7 h12=>?_) (fun c7 h13=>?_)
       ·obtain rfl:=Zab h12
        exact af fol hE (o1 ++ [.r []]) [] 0 [] (t4 (aO c5 c5 c5 c5 c6 c6 c6 (aL c6 c7 c7 c7 c7)))
       ·obtain rfl:=Zab h13
        exact af fol hE (o1 ++ [.r [(27,wF),(28,wF),(29,wF),(30,yF)]]) [] 0 [] (t4 (aO c5 c5 c5 c5 c6 c6 c6 (aL c6 c7 c7 c7 c7)))
      ·obtain rfl:=Zab h11
       exact af fol hE (o1 ++ [.r [(22,wF),(23,wF),(24,wF),(25,yF),(27,wF),(28,wF),(29,wF),(30,yF)]]) [] 0 [] (t4 (aO c5 c5 c5 c5 c6 c6 c6 (aL c6 eF eF eF eF)))
     ·obtain rfl:=Zab h9
      exact af fol hE (o1 ++ [.r [(17,wF),(18,wF),(19,wF),(20,yF),(22,wF),(23,wF),(24,wF),(25,yF),(27,wF),(28,wF),(29,wF),(30,yF)]]) [] 0 [] (t4 (aO c5 c5 c5 c5 eF eF eF (aL eF eF eF eF eF)))
    ·obtain rfl:=Zab h7
     exact af fol hE (o1 ++ [.r [(12,wF),(13,wF),(14,wF),(15,yF),(17,wF),(18,wF),(19,wF),(20,yF),(22,wF),(23,wF),(24,wF),(25,yF),(27,wF),(28,wF),(29,wF),(30,yF)]]) [] 0 [] (t3 (aO c4 c4 c4 c4 eF eF eF (aO eF eF eF eF eF eF eF (aI eF eF))))
   ·obtain rfl:=Zab h5
    exact af fol hE (o1 ++ [.r [(7,wF),(8,wF),(9,wF),(10,yF),(12,wF),(13,wF),(14,wF),(15,yF),(17,wF),(18,wF),(19,wF),(20,yF),(22,wF),(23,wF),(24,wF),(25,yF),(27,wF),(28,wF),(29,wF),(30,yF)]]) [] 0 [] (t2 (aO c3 c3 c3 c3 eF eF eF (aO eF eF eF eF eF eF eF (aM eF eF eF eF eF eF))))
  ·obtain rfl:=Zab h3
   exact af fol hE (o1 ++ [.r [(2,wF),(3,wF),(4,wF),(5,yF),(7,wF),(8,wF),(9,wF),(10,yF),(12,wF),(13,wF),(14,wF),(15,yF),(17,wF),(18,wF),(19,wF),(20,yF),(22,wF),(23,wF),(24,wF),(25,yF),(27,wF),(28,wF),(29,wF),(30,yF)]]) [] 0 [] (t1 (aO c2 c2 c2 c2 eF eF eF (aO eF eF eF eF eF eF eF (aO eF eF eF eF eF eF eF (aJ eF eF eF)))))
def Zbn.B:Code:=Tryz.f49.body.getD .skip
def Zbn.rs (r:Bool):List CV:=[oB r]
def Zbn.p2 (N:Nat) (p_0:Zaj) (c2_:Int→Option Bool):Int→Option Bool:=fun v6=>
 if (decide (v6<(len p_0.Checks)))=true then
  chk (0≤v6)<|
  ZcI (p_0.Checks[zE v6]?) Zds fun x7=>
  if (decide (x7.Height<1))=true then
   some false
  else
  if (decide (v6>0))=true then
   chk (0≤(w64 (v6-1)))<|
   chk ((w64 (v6-1))<(len p_0.Checks))<|
   ZcI (p_0.Checks[zE (w64 (v6-1))]?) Zds fun x8=>
   if (decide (x7.Height≤x8.Height))=true then
    some false
   else
   c2_ (w64 (v6+1))
  else
  c2_ (w64 (v6+1))
 else
 some true
def Zbn.p1 (N:Nat) (p_0:Zaj) (c1_:Int→Option Bool):Int→Option Bool:=fun v3=>
 if (decide (v3<(len p_0.Gates)))=true then
  chk (0≤v3)<|
  ZcI (p_0.Gates[zE v3]?) ZdK fun x4=>
  if (decide (x4.Height<0))=true then
   some false
  else
  if (decide (v3>0))=true then
   chk (0≤(w64 (v3-1)))<|
   chk ((w64 (v3-1))<(len p_0.Gates))<|
   ZcI (p_0.Gates[zE (w64 (v3-1))]?) ZdK fun x5=>
   if (decide (x4.Height≤x5.Height))=true then
    some false
   else
   c1_ (w64 (v3+1))
  else
  c1_ (w64 (v3+1))
 else
 loopN (Zbn.p2 N p_0) N 0
def Zbn (N:Nat) (p_0:Zaj):Option Bool:=
 Zbs (Zdj N p_0) fun x1=>
 if (!x1)=true then
  some false
 else
 Zbs (ZbN N p_0.Genesis) fun x2=>
 if (!x2)=true then
  some false
 else
 loopN (Zbn.p1 N p_0) N 0
def Zbn.p2.S (p_0:Zaj) (v6:Int) (st:LL):S:=mkS 72 [(1,sA 1),(45,sV 33 p_0.Checks),(46,sI (len p_0.Checks)),(47,sI v6)] [(1,.cells p_0.ls)] st
def Zbn.p1.S (p_0:Zaj) (v3:Int) (st:LL):S:=mkS 72 [(1,sA 1),(17,sV 2 p_0.Gates),(18,sI (len p_0.Gates)),(19,sI v3)] [(1,.cells p_0.ls)] st
theorem Zbn.p2_ok {p_0 v6 st r c2_ J2} (h:Zbn.p2 N p_0 c2_ v6=some r) (hE:En Tryz.f49 g0 w0 (Zbn.rs r) st R) (hc2 : ∀v6,c2_ v6=some r→At g0 w0 (Zbn.p2.S p_0 v6 st) J2):At g0 w0 (Zbn.p2.S p_0 v6 st) (XK zF R (.c (Zcb Zbn.B [1,1,1,0,1,0,0]) :: .h J2 :: [.b 2,.c (Zcb Zbn.B [1,1,1,1])])):=by
 unfold Zbn.p2 at h
 refine Zbi h (fun c14 h1=>?_) (fun c14 h2=>?_)
 ·obtain ⟨c15,h3⟩:=ZaU h1
  obtain ⟨x7,c16,h4⟩:=ZdQ h3
  let o1:List PS:=[.r [],.c true,.r [(2,{oe:=x7.ls})]]
  have t1 {Q:Prop} (q:Q):=aL c14 c15 (oD c14) c16 q
  refine Zbi h4 (fun c17 h5=>?_) (fun c17 h6=>?_)
  ·obtain rfl:=Zab h5
   exact afd fol hE (o1 ++ [.d {ds:=[(4,wF),(5,wF),(6,wF),(17,wF)],hv:=0,Hs:=[]},.c true,.r []]) [] 0 [] (t1 (aM c17 c17 c17 c17 c17 eT))
  ·refine Zbi h6 (fun c18 h7=>?_) (fun c18 h8=>?_)
   ·obtain ⟨c19,c20,h9⟩:=ck2 h7
    obtain ⟨x8,c21,h10⟩:=ZdQ h9
    let o2:List PS:=o1 ++ [.d {ds:=[(15,{oe:=x8.ls}),(18,yF)],hv:=0,Hs:=[]}]
    have t2 {Q:Prop} (q:Q):=t1 (aO c17 c17 c17 c18 c18 c18 c18 (aO c18 c18 c18 c19 c20 c18 c18 (aM c21 c18 c17 c18 c17 q)))
    refine Zbi h10 (fun c22 h11=>?_) (fun c22 h12=>?_)
    ·obtain rfl:=Zab h11
     exact afd fol hE (o2 ++ [.c true,.r []]) [] 0 [] (t2 c22)
    ·exact ZkT fol (o2 ++ [.c false,.r []]) [1,45,46,47] [1] (t2 c22) (hc2 (w64 (v6+1)) h12)
   ·exact ZkT fol (o1 ++ [.d {ds:=[(7,wF),(8,wF),(9,wF),(10,wF),(11,wF),(12,wF),(13,wF),(14,wF),(15,wF),(16,wF),(17,yF),(18,yF)],hv:=0,Hs:=[]},.c false,.r []]) [1,45,46,47] [1] (t1 (aO c17 c17 c17 c18 c18 c18 c18 (aO c18 c18 c18 c18 c18 c18 c17 (aJ c18 c17 eF)))) (hc2 (w64 (v6+1)) h8)
 ·obtain rfl:=Zab h2
  exact af fol hE [.r [],.c false,.r []] [] 0 [] c14
theorem Zbn.p1_ok {p_0 v3 st r c1_ J1} (h:Zbn.p1 N p_0 c1_ v3=some r) (hE:En Tryz.f49 g0 w0 (Zbn.rs r) st R) (hc1 : ∀v3,c1_ v3=some r→At g0 w0 (Zbn.p1.S p_0 v3 st) J1):At g0 w0 (Zbn.p1.S p_0 v3 st) (XK zF R (.c (Zcb Zbn.B [1,1,0,1,0,0]) :: .h J1 :: [.b 0,.c (Zcb Zbn.B [1,1,1])])):=by
 unfold Zbn.p1 at h
 refine Zbi h (fun c5 h13=>?_) (fun c5 h14=>?_)
 ·obtain ⟨c6,h15⟩:=ZaU h13
  obtain ⟨x4,c7,h16⟩:=ZdZ h15
  let o3:List PS:=[.r [],.c true,.r [(2,{oe:=x4.ls})]]
  have t3 {Q:Prop} (q:Q):=aL c5 c6 (oD c5) c7 q
  refine Zbi h16 (fun c8 h17=>?_) (fun c8 h18=>?_)
  ·obtain rfl:=Zab h17
   exact afd fol hE (o3 ++ [.d {ds:=[(4,wF),(5,wF),(6,wF),(17,wF)],hv:=0,Hs:=[]},.c true,.r []]) [] 0 [] (t3 (aM c8 c8 c8 c8 c8 eT))
  ·refine Zbi h18 (fun c9 h19=>?_) (fun c9 h20=>?_)
   ·obtain ⟨c10,c11,h21⟩:=ck2 h19
    obtain ⟨x5,c12,h22⟩:=ZdZ h21
    let o4:List PS:=o3 ++ [.d {ds:=[(15,{oe:=x5.ls}),(18,yF)],hv:=0,Hs:=[]}]
    have t4 {Q:Prop} (q:Q):=t3 (aO c8 c8 c8 c9 c9 c9 c9 (aO c9 c9 c9 c10 c11 c9 c9 (aM c12 c9 c8 c9 c8 q)))
    refine Zbi h22 (fun c13 h23=>?_) (fun c13 h24=>?_)
    ·obtain rfl:=Zab h23
     exact afd fol hE (o4 ++ [.c true,.r []]) [] 0 [] (t4 c13)
    ·exact ZkT fol (o4 ++ [.c false,.r []]) [1,17,18,19] [1] (t4 c13) (hc1 (w64 (v3+1)) h24)
   ·exact ZkT fol (o3 ++ [.d {ds:=[(7,wF),(8,wF),(9,wF),(10,wF),(11,wF),(12,wF),(13,wF),(14,wF),(15,wF),(16,wF),(17,yF),(18,yF)],hv:=0,Hs:=[]},.c false,.r []]) [1,17,18,19] [1] (t3 (aO c8 c8 c8 c9 c9 c9 c9 (aO c9 c9 c9 c9 c9 c9 c8 (aJ c9 c8 eF)))) (hc1 (w64 (v3+1)) h20)
 ·exact aq fol [.r [],.c false,.r []] [1,45,46,47] [1] c5 (At.loop N (At.loopN (fun y:Int=>Zbn.p2.S p_0 y st) (fun c J hc y h=>Zbn.p2_ok h hE (fun v6=>hc v6)) N 0 h14))
theorem Zbn.snd {p_0:Zaj} {r:Bool} (h:Zbn N p_0=some r):Zdh zF 49 [.agg p_0.ls] (Zbn.rs r):=fun st=>
 sO Zbn.B Tryz.func49 fun g0 w0 R hE=>by
  unfold Zbn at h
  obtain ⟨x1,c1,h25⟩:=Zae h
  have t5 {Q:Prop} (q:Q):=aI (Zdj.snd c1) q
  refine Zbi h25 (fun c2 h26=>?_) (fun c2 h27=>?_)
  ·obtain rfl:=Zab h26
   exact af fol hE [.r [],.r [(1,q1 [oB x1]),(4,wF),(5,wF),(6,wF),(7,wF)],.c true,.r []] [] 0 [] (t5 (aM (not_false (ZbG c2)) (not_false (ZbG c2)) (not_false (ZbG c2)) (not_false (ZbG c2)) (not_false (ZbG c2)) eT))
  ·obtain ⟨x2,c3,h28⟩:=Zae h27
   let o5:List PS:=[.r [],.r [(1,q1 [oB x1]),(6,q1 [oB x2]),(8,yF)]]
   have t6 {Q:Prop} (q:Q):=t5 (aN (not_true (ZbH c2)) (not_true (ZbH c2)) (not_true (ZbH c2)) (ZbN.snd c3) (not_true (ZbH c2)) (not_true (ZbH c2)) q)
   refine Zbi h28 (fun c4 h29=>?_) (fun c4 h30=>?_)
   ·obtain rfl:=Zab h29
    exact af fol hE (o5 ++ [.c true,.r []]) [] 0 [] (t6 c4)
   ·exact aq fol (o5 ++ [.c false,.r []]) [1,17,18,19] [1] (t6 c4) (At.loop N (At.loopN (fun y:Int=>Zbn.p1.S p_0 y st) (fun c J hc y h=>Zbn.p1_ok h hE (fun v3=>hc v3)) N 0 h30))
def Zbr.B:Code:=Tryz.f124.body.getD .skip
def Zbr.rs (r:(List Int)×Bool):List CV:=[.agg [zM .u64 4 r.1],oB r.2]
def Zbr.p1 (N:Nat) (b_1_0:List Int) (c1_:(Int×Int×(List Int))→Option ((List Int)×Bool)):(Int×Int×(List Int))→Option ((List Int)×Bool):=fun (c_1,v2,a_5)=>
 if (decide (v2<4))=true then
  chk (0≤v2)<|
  Zbs (ZcW N (zG a_5 (zE v2) 0) (zG b_1_0 (zE v2) 0) c_1) fun (x6,x7)=>
  c1_ (x7,w64 (v2+1),zS a_5 (zE v2) x6)
 else
 some (a_5,c_1 != 0)
def Zbr (N:Nat) (a_0_0 b_1_0:List Int):Option ((List Int)×Bool):=
 loopN (Zbr.p1 N b_1_0) N (0,0,a_0_0)
def Zbr.p1.S (c_1 v2:Int) (a_5 b_1_0:List Int) (st:LL):S:=mkS 28 [(2,sA 2),(3,sA 3),(4,sA 4),(6,.one (.l (zJ .u64 c_1))),(8,sI v2)] [(2,.cells [zM .u64 4 a_5]),(3,.cells [zM .u64 4 b_1_0]),(4,.cells [zM .u64 4 (zC 4 0)])] st
theorem Zbr.p1_ok {c_1 v2 a_5 b_1_0 st r c1_ J1} (h:Zbr.p1 N b_1_0 c1_ (c_1,v2,a_5)=some r) (hE:En Tryz.f124 g0 w0 (Zbr.rs r) st R) (hc1 : ∀c_1 v2 a_5,c1_ (c_1,v2,a_5)=some r→At g0 w0 (Zbr.p1.S c_1 v2 a_5 b_1_0 st) J1):At g0 w0 (Zbr.p1.S c_1 v2 a_5 b_1_0 st) (XK zF R (.c (Zcb Zbr.B [1,1,0,1,0,0]) :: .h J1 :: [.b 0,.c (Zcb Zbr.B [1,1,1])])):=by
 unfold Zbr.p1 at h
 refine Zbi h (fun c4 h1=>?_) (fun c4 h2=>?_)
 ·obtain ⟨c5,h3⟩:=ZaU h1
  obtain ⟨⟨x6,x7⟩,c6,h4⟩:=Zae h3
  exact ZkT fol [.r [],.c true,.r [],.d {ds:=[(8,{rs:=[.one (zJ .u64 x6),.one (zJ .u64 x7)],m:=4})],hv:=8192,Hs:=[8192]},.r []] [2,3,4,6,8] [2,3,4] (aO c4 c5 (oD c4) c5 (oD c4) (ZcW.snd c6) c5 (oD c4)) (hc1 x7 (w64 (v2+1)) (zS a_5 (zE v2) x6) h4)
 ·obtain rfl:=Zab h2
  exact af fol hE [.r [],.c false,.r []] [] 0 [] c4
theorem Zbr.snd {a_0_0 b_1_0:List Int} {r:(List Int)×Bool} (h:Zbr N a_0_0 b_1_0=some r):Zdh zF 124 [.agg [zM .u64 4 a_0_0],.agg [zM .u64 4 b_1_0]] (Zbr.rs r):=fun st=>
 sO Zbr.B Tryz.func124 fun g0 w0 R hE=>by
  unfold Zbr at h
  exact aq fol [.r [],.r [],.r []] [2,3,4,6,8] [2,3,4] trivial (At.loop N (At.loopN (fun y:Int×Int×(List Int)=>Zbr.p1.S y.1 y.2.1 y.2.2 b_1_0 st) (fun c J hc y h=>Zbr.p1_ok (c_1:=y.1) (v2:=y.2.1) (a_5:=y.2.2) h hE (fun c_1 v2 a_5=>hc (c_1,v2,a_5))) N (0,0,a_0_0) h))
def ZbF.B:Code:=Tryz.f126.body.getD .skip
def ZbF.rs (r:(List Int)):List CV:=[.agg [zM .u64 4 r]]
def ZbF.p1 (N:Nat) (c1_:(Int×(List Int))→Option (List Int)):(Int×(List Int))→Option (List Int):=fun (v1,a_2)=>
 if (decide (v1<4))=true then
  chk (0≤v1)<|
  c1_ (w64 (v1+1),zS a_2 (zE v1) (ZaB .xor .u64 (IntKind.max IntKind.u64) (zG a_2 (zE v1) 0)))
 else
 some a_2
def ZbF (N:Nat) (a_0_0:List Int):Option (List Int):=
 loopN (ZbF.p1 N) N (0,a_0_0)
def ZbF.p1.S (v1:Int) (a_2:List Int) (st:LL):S:=mkS 15 [(1,sA 1),(2,sA 2),(4,sI v1)] [(1,.cells [zM .u64 4 a_2]),(2,.cells [zM .u64 4 (zC 4 0)])] st
theorem ZbF.p1_ok {v1 a_2 st r c1_ J1} (h:ZbF.p1 N c1_ (v1,a_2)=some r) (hE:En Tryz.f126 g0 w0 (ZbF.rs r) st R) (hc1 : ∀v1 a_2,c1_ (v1,a_2)=some r→At g0 w0 (ZbF.p1.S v1 a_2 st) J1):At g0 w0 (ZbF.p1.S v1 a_2 st) (XK zF R (.c (Zcb ZbF.B [1,0,1,0,0]) :: .h J1 :: [.b 0,.c (Zcb ZbF.B [1,1])])):=by
 unfold ZbF.p1 at h
 refine Zbi h (fun c3 h1=>?_) (fun c3 h2=>?_)
 ·obtain ⟨c4,h3⟩:=ZaU h1
  exact an fol [.r [],.c true,.r [],.r [],.r []] [1,2,4] [1,2] (aL c3 c4 (oD c3) c4 (oD c3)) (hc1 (w64 (v1+1)) (zS a_2 (zE v1) (ZaB .xor .u64 (IntKind.max IntKind.u64) (zG a_2 (zE v1) 0))) h3)
 ·obtain rfl:=Zab h2
  exact af fol hE [.r [],.c false,.r []] [] 0 [] c3
theorem ZbF.snd {a_0_0:List Int} {r:(List Int)} (h:ZbF N a_0_0=some r):Zdh zF 126 [.agg [zM .u64 4 a_0_0]] (ZbF.rs r):=fun st=>
 sO ZbF.B Tryz.func126 fun g0 w0 R hE=>by
  unfold ZbF at h
  exact aq fol [.r [],.r []] [1,2,4] [1,2] trivial (At.loop N (At.loopN (fun y:Int×(List Int)=>ZbF.p1.S y.1 y.2 st) (fun c J hc y h=>ZbF.p1_ok (v1:=y.1) (a_2:=y.2) h hE (fun v1 a_2=>hc (v1,a_2))) N (0,a_0_0) h))
def Zar.B:Code:=Tryz.f148.body.getD .skip
def Zar.rs (r:Int):List CV:=[oI r]
def Zar.p3 (N:Nat) (x_5 n_6:Int):Option Int:=
 chk (0≤(v8 (x_5)))<|
 chk ((v8 (x_5))<((ByteArray.size (ByteArray.mk #[0,1,2,2,3,3,3,3,4,4,4,4,4,4,4,4,5,5,5,5,5,5,5,5,5,5,5,5,5,5,5,5,6,6,6,6,6,6,6,6,6,6,6,6,6,6,6,6,6,6,6,6,6,6,6,6,6,6,6,6,6,6,6,6,7,7,7,7,7,7,7,7,7,7,7,7,7,7,7,7,7,7,7,7,7,7,7,7,7,7,7,7,7,7,7,7,7,7,7,7,7,7,7,7,7,7,7,7,7,7,7,7,7,7,7,7,7,7,7,7,7,7,7,7,7,7,7,7,8,8,8,8,8,8,8,8,8,8,8,8,8,8,8,8,8,8,8,8,8,8,8,8,8,8,8,8,8,8,8,8,8,8,8,8,8,8,8,8,8,8,8,8,8,8,8,8,8,8,8,8,8,8,8,8,8,8,8,8,8,8,8,8,8,8,8,8,8,8,8,8,8,8,8,8,8,8,8,8,8,8,8,8,8,8,8,8,8,8,8,8,8,8,8,8,8,8,8,8,8,8,8,8,8,8,8,8,8,8,8,8,8,8,8,8,8,8,8,8,8,8,8,8,8,8,8,8]):Nat):Int))<|
 some (w64 (n_6+(w64 (((UInt8.toNat (zG (Array.toList (ByteArray.data (ByteArray.mk #[0,1,2,2,3,3,3,3,4,4,4,4,4,4,4,4,5,5,5,5,5,5,5,5,5,5,5,5,5,5,5,5,6,6,6,6,6,6,6,6,6,6,6,6,6,6,6,6,6,6,6,6,6,6,6,6,6,6,6,6,6,6,6,6,7,7,7,7,7,7,7,7,7,7,7,7,7,7,7,7,7,7,7,7,7,7,7,7,7,7,7,7,7,7,7,7,7,7,7,7,7,7,7,7,7,7,7,7,7,7,7,7,7,7,7,7,7,7,7,7,7,7,7,7,7,7,7,7,8,8,8,8,8,8,8,8,8,8,8,8,8,8,8,8,8,8,8,8,8,8,8,8,8,8,8,8,8,8,8,8,8,8,8,8,8,8,8,8,8,8,8,8,8,8,8,8,8,8,8,8,8,8,8,8,8,8,8,8,8,8,8,8,8,8,8,8,8,8,8,8,8,8,8,8,8,8,8,8,8,8,8,8,8,8,8,8,8,8,8,8,8,8,8,8,8,8,8,8,8,8,8,8,8,8,8,8,8,8,8,8,8,8,8,8,8,8,8,8,8,8,8,8,8,8,8,8]))) (zE (v8 (x_5))) 0):Nat):Int)))))
def Zar.p2 (N:Nat) (x_3 n_4:Int):Option Int:=
 if (decide (x_3≥256))=true then
  Zar.p3 N (ZaR .u64 x_3 8) (w64 (n_4+8))
 else
 Zar.p3 N x_3 n_4
def Zar.p1 (N:Nat) (x_1 n_2:Int):Option Int:=
 if (decide (x_1≥65536))=true then
  Zar.p2 N (ZaR .u64 x_1 16) (w64 (n_2+16))
 else
 Zar.p2 N x_1 n_2
def Zar (N:Nat) (x_0:Int):Option Int:=
 if (decide (x_0≥4294967296))=true then
  Zar.p1 N (ZaR .u64 x_0 32) 32
 else
 Zar.p1 N x_0 0
def Zar.p3.S (x_5 n_6:Int) (st:LL):S:=mkS 25 [(0,.one (.l (zJ .u64 x_5))),(2,sI n_6)] [] st
def Zar.p2.S (x_3 n_4:Int) (st:LL):S:=mkS 25 [(0,.one (.l (zJ .u64 x_3))),(2,sI n_4)] [] st
def Zar.p1.S (x_1 n_2:Int) (st:LL):S:=mkS 25 [(0,.one (.l (zJ .u64 x_1))),(2,sI n_2)] [] st
theorem Zar.p3_ok {x_5 n_6 st r} (h:Zar.p3 N x_5 n_6=some r) (hE:En Tryz.f148 g0 w0 (Zar.rs r) st R):At g0 w0 (Zar.p3.S x_5 n_6 st) (XK zF R [.c (Zcb Zar.B [1,1,1,1])]):=by
 unfold Zar.p3 at h
 obtain ⟨c4,c5,h1⟩:=ck2 h
 obtain rfl:=Zab h1
 exact af fol hE [.r []] [] 0 [] (aI c4 c5)
theorem Zar.p2_ok {x_3 n_4 st r} (h:Zar.p2 N x_3 n_4=some r) (hE:En Tryz.f148 g0 w0 (Zar.rs r) st R):At g0 w0 (Zar.p2.S x_3 n_4 st) (XK zF R [.c (Zcb Zar.B [1,1,1])]):=by
 unfold Zar.p2 at h
 refine Zbi h (fun c3 h2=>?_) (fun c3 h3=>?_)
 ·exact aq fol [.r [],.c true,.r [],.r [],.s 1] [0,2] [] (aI c3 (leI 0 8)) (Zar.p3_ok h2 hE)
 ·exact aq fol [.r [],.c false,.s 1] [0,2] [] c3 (Zar.p3_ok h3 hE)
theorem Zar.p1_ok {x_1 n_2 st r} (h:Zar.p1 N x_1 n_2=some r) (hE:En Tryz.f148 g0 w0 (Zar.rs r) st R):At g0 w0 (Zar.p1.S x_1 n_2 st) (XK zF R [.c (Zcb Zar.B [1,1])]):=by
 unfold Zar.p1 at h
 refine Zbi h (fun c2 h4=>?_) (fun c2 h5=>?_)
 ·exact aq fol [.r [],.c true,.r [],.r [],.s 1] [0,2] [] (aI c2 (leI 0 16)) (Zar.p2_ok h4 hE)
 ·exact aq fol [.r [],.c false,.s 1] [0,2] [] c2 (Zar.p2_ok h5 hE)
theorem Zar.snd {x_0:Int} {r:Int} (h:Zar N x_0=some r):Zdh zF 148 [.one (zJ .u64 x_0)] (Zar.rs r):=fun st=>
 sO Zar.B Tryz.func148 fun g0 w0 R hE=>by
  unfold Zar at h
  refine Zbi h (fun c1 h6=>?_) (fun c1 h7=>?_)
  ·exact aq fol [.r [],.r [],.c true,.r [],.r [],.s 1] [0,2] [] (aI c1 (leI 0 32)) (Zar.p1_ok h6 hE)
  ·exact aq fol [.r [],.r [],.c false,.s 1] [0,2] [] c1 (Zar.p1_ok h7 hE)
def ZbM.B:Code:=Tryz.f141.body.getD .skip
def ZbM.rs (r:Int):List CV:=[oI r]
def ZbM.p1 (N:Nat) (a_0_0:List Int) (c1_:Int→Option Int):Int→Option Int:=fun i_1=>
 if (decide (i_1≥0))=true then
  chk (0≤i_1)<|
  chk (i_1<4)<|
  if ((zG a_0_0 (zE i_1) 0) != 0)=true then
   Zbs (Zar N (zG a_0_0 (zE i_1) 0)) fun x2=>
   some (w64 ((w64 (64*i_1))+x2))
  else
  c1_ (w64 (i_1-1))
 else
 some 0
def ZbM (N:Nat) (a_0_0:List Int):Option Int:=
 loopN (ZbM.p1 N a_0_0) N 3
def ZbM.p1.S (i_1:Int) (a_0_0:List Int) (st:LL):S:=mkS 19 [(1,sA 1),(3,sI i_1)] [(1,.cells [zM .u64 4 a_0_0])] st
theorem ZbM.p1_ok {i_1 a_0_0 st r c1_ J1} (h:ZbM.p1 N a_0_0 c1_ i_1=some r) (hE:En Tryz.f141 g0 w0 (ZbM.rs r) st R) (hc1 : ∀i_1,c1_ i_1=some r→At g0 w0 (ZbM.p1.S i_1 a_0_0 st) J1):At g0 w0 (ZbM.p1.S i_1 a_0_0 st) (XK zF R (.c (Zcb ZbM.B [1,0,1,0,0]) :: .h J1 :: [.b 0,.c (Zcb ZbM.B [1,1])])):=by
 unfold ZbM.p1 at h
 refine Zbi h (fun c1 h1=>?_) (fun c1 h2=>?_)
 ·obtain ⟨c2,c3,h3⟩:=ck2 h1
  refine Zbi h3 (fun c4 h4=>?_) (fun c4 h5=>?_)
  ·obtain ⟨x2,c5,h6⟩:=Zae h4
   obtain rfl:=Zab h6
   exact af fol hE [.r [],.c true,.r [],.c true,.r [(5,q1 [oI x2])]] [] 0 [] (aN c1 c2 c3 c4 c2 c3 (Zar.snd c5))
  ·exact an fol [.r [],.c true,.r [],.c false,.r []] [1,3] [1] (aK c1 c2 c3 c4) (hc1 (w64 (i_1-1)) h5)
 ·obtain rfl:=Zab h2
  exact af fol hE [.r [],.c false,.r []] [] 0 [] c1
theorem ZbM.snd {a_0_0:List Int} {r:Int} (h:ZbM N a_0_0=some r):Zdh zF 141 [.agg [zM .u64 4 a_0_0]] (ZbM.rs r):=fun st=>
 sO ZbM.B Tryz.func141 fun g0 w0 R hE=>by
  unfold ZbM at h
  exact aq fol [.r [],.r []] [1,3] [1] trivial (At.loop N (At.loopN (fun y:Int=>ZbM.p1.S y a_0_0 st) (fun c J hc y h=>ZbM.p1_ok h hE (fun i_1=>hc i_1)) N 3 h))
def ZbP.B:Code:=Tryz.f142.body.getD .skip
def ZbP.rs (r:(List Int)×Bool):List CV:=[.agg [zM .u64 4 r.1],oB r.2]
def ZbP.p1 (N:Nat) (b_1_0:List Int) (c1_:(Int×Int×(List Int))→Option ((List Int)×Bool)):(Int×Int×(List Int))→Option ((List Int)×Bool):=fun (c_1,v2,a_5)=>
 if (decide (v2<4))=true then
  chk (0≤v2)<|
  Zbs (ZdS N (zG a_5 (zE v2) 0) (zG b_1_0 (zE v2) 0) c_1) fun (x6,x7)=>
  c1_ (x7,w64 (v2+1),zS a_5 (zE v2) x6)
 else
 some (a_5,c_1 != 0)
def ZbP (N:Nat) (a_0_0 b_1_0:List Int):Option ((List Int)×Bool):=
 loopN (ZbP.p1 N b_1_0) N (0,0,a_0_0)
def ZbP.p1.S (c_1 v2:Int) (a_5 b_1_0:List Int) (st:LL):S:=mkS 28 [(2,sA 2),(3,sA 3),(4,sA 4),(6,.one (.l (zJ .u64 c_1))),(8,sI v2)] [(2,.cells [zM .u64 4 a_5]),(3,.cells [zM .u64 4 b_1_0]),(4,.cells [zM .u64 4 (zC 4 0)])] st
theorem ZbP.p1_ok {c_1 v2 a_5 b_1_0 st r c1_ J1} (h:ZbP.p1 N b_1_0 c1_ (c_1,v2,a_5)=some r) (hE:En Tryz.f142 g0 w0 (ZbP.rs r) st R) (hc1 : ∀c_1 v2 a_5,c1_ (c_1,v2,a_5)=some r→At g0 w0 (ZbP.p1.S c_1 v2 a_5 b_1_0 st) J1):At g0 w0 (ZbP.p1.S c_1 v2 a_5 b_1_0 st) (XK zF R (.c (Zcb ZbP.B [1,1,0,1,0,0]) :: .h J1 :: [.b 0,.c (Zcb ZbP.B [1,1,1])])):=by
 unfold ZbP.p1 at h
 refine Zbi h (fun c4 h1=>?_) (fun c4 h2=>?_)
 ·obtain ⟨c5,h3⟩:=ZaU h1
  obtain ⟨⟨x6,x7⟩,c6,h4⟩:=Zae h3
  exact ZkT fol [.r [],.c true,.r [],.d {ds:=[(8,{rs:=[.one (zJ .u64 x6),.one (zJ .u64 x7)],m:=4})],hv:=8192,Hs:=[8192]},.r []] [2,3,4,6,8] [2,3,4] (aO c4 c5 (oD c4) c5 (oD c4) (ZdS.snd c6) c5 (oD c4)) (hc1 x7 (w64 (v2+1)) (zS a_5 (zE v2) x6) h4)
 ·obtain rfl:=Zab h2
  exact af fol hE [.r [],.c false,.r []] [] 0 [] c4
theorem ZbP.snd {a_0_0 b_1_0:List Int} {r:(List Int)×Bool} (h:ZbP N a_0_0 b_1_0=some r):Zdh zF 142 [.agg [zM .u64 4 a_0_0],.agg [zM .u64 4 b_1_0]] (ZbP.rs r):=fun st=>
 sO ZbP.B Tryz.func142 fun g0 w0 R hE=>by
  unfold ZbP at h
  exact aq fol [.r [],.r [],.r []] [2,3,4,6,8] [2,3,4] trivial (At.loop N (At.loopN (fun y:Int×Int×(List Int)=>ZbP.p1.S y.1 y.2.1 y.2.2 b_1_0 st) (fun c J hc y h=>ZbP.p1_ok (c_1:=y.1) (v2:=y.2.1) (a_5:=y.2.2) h hE (fun c_1 v2 a_5=>hc (c_1,v2,a_5))) N (0,0,a_0_0) h))
def Zbd.B:Code:=Tryz.f125.body.getD .skip
def Zbd.rs (r:(List Int)×(List Int)):List CV:=[.agg [zM .u64 4 r.1],.agg [zM .u64 4 r.2]]
def Zbd.p2 (N:Nat) (c1_:(Int×(List Int)×(List Int))→Option ((List Int)×(List Int))) (i_3:Int) (a_0_0 by_1_0 out_21 rest_20:List Int):Option ((List Int)×(List Int)):=
 c1_ (w64 (i_3-1),out_21,rest_20)
def Zbd.p1 (N:Nat) (a_0_0 by_1_0:List Int) (c1_:(Int×(List Int)×(List Int))→Option ((List Int)×(List Int))):(Int×(List Int)×(List Int))→Option ((List Int)×(List Int)):=fun (i_3,out_12,rest_13)=>
 if (decide (i_3≥0))=true then
  Zbs (Zbl N rest_13 1) fun x14=>
  chk (0≤(w64 (zY i_3 64)))<|
  chk ((w64 (zY i_3 64))<4)<|
  chk (0≤(yK i_3 64))<|
  if ((ZaR .u64 (zG rest_13 3 0) 63)==1)=true then
   Zbs (ZbP N (zS x14 0 (ZaB .or .u64 (zG x14 0 0) (ZaB .and .u64 (ZaR .u64 (zG a_0_0 (zE (w64 (zY i_3 64))) 0) (yK i_3 64)) 1))) by_1_0) fun (x15,x16)=>
   Zbd.p2 N c1_ i_3 a_0_0 by_1_0 (zS out_12 (zE (w64 (zY i_3 64))) (ZaB .or .u64 (zG out_12 (zE (w64 (zY i_3 64))) 0) (Zbf .u64 1 (yK i_3 64)))) x15
  else
  Zbs (Zcm N (zS x14 0 (ZaB .or .u64 (zG x14 0 0) (ZaB .and .u64 (ZaR .u64 (zG a_0_0 (zE (w64 (zY i_3 64))) 0) (yK i_3 64)) 1))) by_1_0) fun x17=>
  if (!x17)=true then
   Zbs (ZbP N (zS x14 0 (ZaB .or .u64 (zG x14 0 0) (ZaB .and .u64 (ZaR .u64 (zG a_0_0 (zE (w64 (zY i_3 64))) 0) (yK i_3 64)) 1))) by_1_0) fun (x18,x19)=>
   Zbd.p2 N c1_ i_3 a_0_0 by_1_0 (zS out_12 (zE (w64 (zY i_3 64))) (ZaB .or .u64 (zG out_12 (zE (w64 (zY i_3 64))) 0) (Zbf .u64 1 (yK i_3 64)))) x18
  else
  Zbd.p2 N c1_ i_3 a_0_0 by_1_0 out_12 (zS x14 0 (ZaB .or .u64 (zG x14 0 0) (ZaB .and .u64 (ZaR .u64 (zG a_0_0 (zE (w64 (zY i_3 64))) 0) (yK i_3 64)) 1)))
 else
 some (out_12,rest_13)
def Zbd (N:Nat) (a_0_0 by_1_0:List Int):Option ((List Int)×(List Int)):=
 Zbs (Zce N by_1_0) fun x1=>
 if x1=true then
  some (zC 4 0,zC 4 0)
 else
 Zbs (ZbM N a_0_0) fun x2=>
 loopN (Zbd.p1 N a_0_0 by_1_0) N (w64 (x2-1),zC 4 0,zC 4 0)
def Zbd.p2.S (i_3:Int) (a_0_0 by_1_0 out_21 rest_20:List Int) (st:LL):S:=mkS 63 [(2,sA 2),(3,sA 3),(4,sA 4),(5,sA 5),(6,sA 6),(7,sA 7),(8,sI i_3)] [(2,.cells [zM .u64 4 a_0_0]),(3,.cells [zM .u64 4 by_1_0]),(4,.cells [zM .u64 4 (zC 4 0)]),(5,.cells [zM .u64 4 (zC 4 0)]),(6,.cells [zM .u64 4 out_21]),(7,.cells [zM .u64 4 rest_20])] st
def Zbd.p1.S (i_3:Int) (a_0_0 by_1_0 out_12 rest_13:List Int) (st:LL):S:=mkS 63 [(2,sA 2),(3,sA 3),(4,sA 4),(5,sA 5),(6,sA 6),(7,sA 7),(8,sI i_3)] [(2,.cells [zM .u64 4 a_0_0]),(3,.cells [zM .u64 4 by_1_0]),(4,.cells [zM .u64 4 (zC 4 0)]),(5,.cells [zM .u64 4 (zC 4 0)]),(6,.cells [zM .u64 4 out_12]),(7,.cells [zM .u64 4 rest_13])] st
theorem Zbd.p2_ok {i_3 a_0_0 by_1_0 out_21 rest_20 st r c1_ J1} (h:Zbd.p2 N c1_ i_3 a_0_0 by_1_0 out_21 rest_20=some r) (hE:En Tryz.f125 g0 w0 (Zbd.rs r) st R) (hc1 : ∀i_3 out_12 rest_13,c1_ (i_3,out_12,rest_13)=some r→At g0 w0 (Zbd.p1.S i_3 a_0_0 by_1_0 out_12 rest_13 st) J1):At g0 w0 (Zbd.p2.S i_3 a_0_0 by_1_0 out_21 rest_20 st) (XK zF R [.c (Zcb Zbd.B [1,1,1,0,1,0,0,1,1]),.h J1,.b 0,.c (Zcb Zbd.B [1,1,1,1])]):=by
 unfold Zbd.p2 at h
 exact an fol [.r []] [2,3,4,5,6,7,8] [2,3,4,5,6,7] trivial (hc1 (w64 (i_3-1)) out_21 rest_20 h)
theorem Zbd.p1_ok {i_3 a_0_0 by_1_0 out_12 rest_13 st r c1_ J1} (h:Zbd.p1 N a_0_0 by_1_0 c1_ (i_3,out_12,rest_13)=some r) (hE:En Tryz.f125 g0 w0 (Zbd.rs r) st R) (hc1 : ∀i_3 out_12 rest_13,c1_ (i_3,out_12,rest_13)=some r→At g0 w0 (Zbd.p1.S i_3 a_0_0 by_1_0 out_12 rest_13 st) J1):At g0 w0 (Zbd.p1.S i_3 a_0_0 by_1_0 out_12 rest_13 st) (XK zF R (.c (Zcb Zbd.B [1,1,1,0,1,0,0]) :: .h J1 :: [.b 0,.c (Zcb Zbd.B [1,1,1,1])])):=by
 unfold Zbd.p1 at h
 refine Zbi h (fun c14 h1=>?_) (fun c14 h2=>?_)
 ·obtain ⟨x14,c15,h3⟩:=Zae h1
  obtain ⟨c16,c17,c18,h4⟩:=ck3 h3
  let o1:List PS:=[.r [],.c true,.r [],.r [(1,q1 [.agg [zM .u64 4 x14]])],.d {ds:=[],hv:=4096,Hs:=[4096]}]
  have t1 {Q:Prop} (q:Q):=aI c14 (ix 3 4 (aJ (leI 0 63) (Zbl.snd c15) (ix 0 4 (aM (neI 64) c16 c17 (neI 64) c18 (ix 0 4 q)))))
  refine Zbi h4 (fun c19 h5=>?_) (fun c19 h6=>?_)
  ·obtain ⟨⟨x15,x16⟩,c20,h7⟩:=Zae h5
   exact aqd fol (o1 ++ [.r [(2,wF),(3,wF),(4,wF),(5,wF)],.c true,.r [(2,q1 [.agg [zM .u64 4 x15],oB x16])],.d {ds:=[],hv:=512,Hs:=[512]},.s 4]) [2,3,4,5,6,7,8] [2,3,4,5,6,7] (t1 (aO c19 c19 c19 c19 c19 eT (ZbP.snd c20) (aN (neI 64) c16 c17 (neI 64) c18 c16 c17))) (Zbd.p2_ok h7 hE hc1)
  ·obtain ⟨x17,c21,h8⟩:=Zae h6
   let o2:List PS:=o1 ++ [.r [(4,q1 [oB x17]),(6,yF)]]
   have t2 {Q:Prop} (q:Q):=t1 (aN c19 c19 c19 (Zcm.snd c21) c19 c19 q)
   refine Zbi h8 (fun c22 h9=>?_) (fun c22 h10=>?_)
   ·obtain ⟨⟨x18,x19⟩,c23,h11⟩:=Zae h9
    exact aqd fol (o2 ++ [.c true,.r [(2,q1 [.agg [zM .u64 4 x18],oB x19])],.d {ds:=[],hv:=512,Hs:=[512]},.s 4]) [2,3,4,5,6,7,8] [2,3,4,5,6,7] (t2 (aO c22 (ZbP.snd c23) (neI 64) c16 c17 (neI 64) c18 (aI c16 c17))) (Zbd.p2_ok h11 hE hc1)
   ·exact aqd fol (o2 ++ [.c false,.s 4]) [2,3,4,5,6,7,8] [2,3,4,5,6,7] (t2 c22) (Zbd.p2_ok h10 hE hc1)
 ·obtain rfl:=Zab h2
  exact afd fol hE [.r [],.c false,.d {ds:=[],hv:=12,Hs:=[4,12]}] [] 0 [] c14
theorem Zbd.snd {a_0_0 by_1_0:List Int} {r:(List Int)×(List Int)} (h:Zbd N a_0_0 by_1_0=some r):Zdh zF 125 [.agg [zM .u64 4 a_0_0],.agg [zM .u64 4 by_1_0]] (Zbd.rs r):=fun st=>
 sO Zbd.B Tryz.func125 fun g0 w0 R hE=>by
  unfold Zbd at h
  obtain ⟨x1,c1,h12⟩:=Zae h
  let o3:List PS:=[.r [],.r [],.r [(1,q1 [oB x1])]]
  refine Zbi h12 (fun c2 h13=>?_) (fun c2 h14=>?_)
  ·obtain rfl:=Zab h13
   exact afd fol hE (o3 ++ [.c true,.d {ds:=[],hv:=12,Hs:=[4,12]}]) [] 0 [] (aI (Zce.snd c1) c2)
  ·obtain ⟨x2,c3,h15⟩:=Zae h14
   exact aq fol (o3 ++ [.c false,.r [(1,q1 [oI x2])]]) [2,3,4,5,6,7,8] [2,3,4,5,6,7] (aJ (Zce.snd c1) c2 (ZbM.snd c3)) (At.loop N (At.loopN (fun y:Int×(List Int)×(List Int)=>Zbd.p1.S y.1 a_0_0 by_1_0 y.2.1 y.2.2 st) (fun c J hc y h=>Zbd.p1_ok (i_3:=y.1) (out_12:=y.2.1) (rest_13:=y.2.2) h hE (fun i_3 out_12 rest_13=>hc (i_3,out_12,rest_13))) N (w64 (x2-1),zC 4 0,zC 4 0) h15))
def ZcT.B:Code:=Tryz.f108.body.getD .skip
def ZcT.rs (r:(List Int)):List CV:=[.agg [zM .u64 4 r]]
def ZcT (N:Nat):Option (List Int):=
 Zbs (ZbF N (zC 4 0)) fun x1=>
 some x1
theorem ZcT.snd {r:(List Int)} (h:ZcT N=some r):Zdh zF 108 [] (ZcT.rs r):=fun st=>
 sO ZcT.B Tryz.func108 fun g0 w0 R hE=>by
  unfold ZcT at h
  obtain ⟨x1,c1,h1⟩:=Zae h
  obtain rfl:=Zab h1
  exact af fol hE [.r [],.r [(1,q1 [.agg [zM .u64 4 x1]])]] [] 0 [] (ZbF.snd c1)
def ZeQ.B:Code:=Tryz.f106.body.getD .skip
def ZeQ.rs (r:(List Int)):List CV:=[.agg [zM .u64 4 r]]
def ZeQ (N:Nat) (target_0_0:List Int):Option (List Int):=
 Zbs (Zcv N 1) fun x1=>
 Zbs (Zbr N target_0_0 x1) fun (x2,x3)=>
 if x3=true then
  some x1
 else
 Zbs (ZbF N target_0_0) fun x4=>
 Zbs (Zbd N x4 x2) fun (x5,x6)=>
 Zbs (Zbr N x5 x1) fun (x7,x8)=>
 if x8=true then
  Zbs (ZcT N ) fun x9=>
  some x9
 else
 some x7
theorem ZeQ.snd {target_0_0:List Int} {r:(List Int)} (h:ZeQ N target_0_0=some r):Zdh zF 106 [.agg [zM .u64 4 target_0_0]] (ZeQ.rs r):=fun st=>
 sO ZeQ.B Tryz.func106 fun g0 w0 R hE=>by
  unfold ZeQ at h
  obtain ⟨x1,c1,h1⟩:=Zae h
  obtain ⟨⟨x2,x3⟩,c2,h2⟩:=Zae h1
  let o1:List PS:=[.r [],.d {ds:=[(1,q1 [.agg [zM .u64 4 x1]]),(2,q1 [.agg [zM .u64 4 x2],oB x3])],hv:=192,Hs:=[64,192]},.r []]
  have t1 {Q:Prop} (q:Q):=aL (Zcv.snd c1) (Zcv.snd c1) (Zbr.snd c2) (Zbr.snd c2) q
  refine Zbi h2 (fun c3 h3=>?_) (fun c3 h4=>?_)
  ·obtain rfl:=Zab h3
   exact afd fol hE (o1 ++ [.c true,.r [(0,q1 [.agg [zM .u64 4 x1]])]]) [] 0 [] (t1 (aI c3 (Zcv.snd c1)))
  ·obtain ⟨x4,c4,h5⟩:=Zae h4
   obtain ⟨⟨x5,x6⟩,c5,h6⟩:=Zae h5
   obtain ⟨⟨x7,x8⟩,c6,h7⟩:=Zae h6
   let o2:List PS:=o1 ++ [.c false,.d {ds:=[(1,q1 [.agg [zM .u64 4 x4]]),(3,q1 [.agg [zM .u64 4 x5],.agg [zM .u64 4 x6]])],hv:=1920,Hs:=[128,256,384,896,1920]},.d {ds:=[(1,q1 [.agg [zM .u64 4 x1]]),(2,q1 [.agg [zM .u64 4 x7],oB x8])],hv:=192,Hs:=[64,192]},.r []]
   have t2 {Q:Prop} (q:Q):=t1 (aO c3 (ZbF.snd c4) (ZbF.snd c4) (ZbF.snd c4) (ZbF.snd c4) (Zbd.snd c5) (Zbd.snd c5) (aN (Zbd.snd c5) (Zbd.snd c5) (Zcv.snd c1) (Zcv.snd c1) (Zbr.snd c6) (Zbr.snd c6) q))
   refine Zbi h7 (fun c7 h8=>?_) (fun c7 h9=>?_)
   ·obtain ⟨x9,c8,h10⟩:=Zae h8
    obtain rfl:=Zab h10
    exact afd fol hE (o2 ++ [.c true,.r [(0,q1 [.agg [zM .u64 4 x9]])]]) [] 0 [] (t2 (aI c7 (ZcT.snd c8)))
   ·obtain rfl:=Zab h9
    exact afd fol hE (o2 ++ [.c false,.r []]) [] 0 [] (t2 c7)
def ZcP.B:Code:=Tryz.f79.body.getD .skip
def ZcP.rs (r:(List Int)):List CV:=[.agg [zM .u64 4 r]]
def ZcP (N:Nat) (bits_0:Int):Option (List Int):=
 Zbs (Zaz N bits_0) fun (x1,x2,x3)=>
 if x2=true then
  some (zC 4 0)
 else
 if x3=true then
  some (zC 4 0)
 else
 Zbs (Zce N x1) fun x4=>
 if x4=true then
  some (zC 4 0)
 else
 Zbs (ZeQ N x1) fun x5=>
 some x5
theorem ZcP.snd {bits_0:Int} {r:(List Int)} (h:ZcP N bits_0=some r):Zdh zF 79 [oI bits_0] (ZcP.rs r):=fun st=>
 sO ZcP.B Tryz.func79 fun g0 w0 R hE=>by
  unfold ZcP at h
  obtain ⟨⟨x1,x2,x3⟩,c1,h1⟩:=Zae h
  let o1:List PS:=[.r [],.r [(1,q1 [.agg [zM .u64 4 x1],oB x2,oB x3])]]
  have t1 {Q:Prop} (q:Q):=aI (Zaz.snd c1) q
  refine Zbi h1 (fun c2 h2=>?_) (fun c2 h3=>?_)
  ·obtain rfl:=Zab h2
   exact af fol hE (o1 ++ [.r [(2,wF),(5,wF),(6,wF)],.c true,.r []]) [] 0 [] (t1 (aM c2 c2 eT eT eT eT))
  ·refine Zbi h3 (fun c3 h4=>?_) (fun c3 h5=>?_)
   ·obtain rfl:=Zab h4
    exact af fol hE (o1 ++ [.r [(3,yF),(5,wF),(6,wF)],.c true,.r []]) [] 0 [] (t1 (aM c2 c2 c3 c3 c3 eT))
   ·obtain ⟨x4,c4,h6⟩:=Zae h5
    let o2:List PS:=o1 ++ [.r [(3,yF),(6,q1 [oB x4]),(7,yF)]]
    refine Zbi h6 (fun c5 h7=>?_) (fun c5 h8=>?_)
    ·obtain rfl:=Zab h7
     exact af fol hE (o2 ++ [.c true,.r []]) [] 0 [] (t1 (aN c2 c2 c3 c3 (Zce.snd c4) c3 c5))
    ·obtain ⟨x5,c6,h9⟩:=Zae h8
     obtain rfl:=Zab h9
     exact af fol hE (o2 ++ [.c false,.r [(1,q1 [.agg [zM .u64 4 x5]])]]) [] 0 [] (t1 (aO c2 c2 c3 c3 (Zce.snd c4) c3 c5 (ZeQ.snd c6)))
def ZbL.B:Code:=Tryz.f107.body.getD .skip
def ZbL.rs (r:(List Int)×Bool):List CV:=[.agg [zM .u64 4 r.1],oB r.2]
def ZbL.p1 (N:Nat) (list_0:LL) (c1_:(Bool×Int×(List Int))→Option ((List Int)×Bool)):(Bool×Int×(List Int))→Option ((List Int)×Bool):=fun (over_1,v2,out_6)=>
 if (decide (v2<(len list_0)))=true then
  chk (0≤v2)<|
  ZcI (list_0[zE v2]?) Zhq fun x7=>
  Zbs (Zbr N out_6 x7) fun (x8,x9)=>
  if over_1=true then
   c1_ (true,w64 (v2+1),x8)
  else
  c1_ (x9,w64 (v2+1),x8)
 else
 some (out_6,over_1)
def ZbL (N:Nat) (list_0:LL):Option ((List Int)×Bool):=
 loopN (ZbL.p1 N list_0) N (false,0,zC 4 0)
def ZbL.p1.S (over_1:Bool) (list_0:LL) (v2:Int) (out_6:List Int) (st:LL):S:=mkS 28 [(2,sA 2),(4,sA 4),(5,.one (.l (tT over_1))),(9,sV 4 list_0),(10,sI (len list_0)),(11,sI v2)] [(2,.cells [zM .u64 4 (zC 4 0)]),(4,.cells [zM .u64 4 out_6])] st
theorem ZbL.p1_ok {over_1 list_0 v2 out_6 st r c1_ J1} (h:ZbL.p1 N list_0 c1_ (over_1,v2,out_6)=some r) (hE:En Tryz.f107 g0 w0 (ZbL.rs r) st R) (hc1 : ∀over_1 v2 out_6,c1_ (over_1,v2,out_6)=some r→At g0 w0 (ZbL.p1.S over_1 list_0 v2 out_6 st) J1):At g0 w0 (ZbL.p1.S over_1 list_0 v2 out_6 st) (XK zF R (.c (Zcb ZbL.B [1,1,1,0,1,0,0]) :: .h J1 :: [.b 0,.c (Zcb ZbL.B [1,1,1,1])])):=by
 unfold ZbL.p1 at h
 refine Zbi h (fun c6 h1=>?_) (fun c6 h2=>?_)
 ·obtain ⟨c7,h3⟩:=ZaU h1
  obtain ⟨x7,c8,h4⟩:=ZkK h3
  obtain ⟨⟨x8,x9⟩,c9,h5⟩:=Zae h4
  let o1:List PS:=[.r [],.c true,.r [(1,{oe:=[zM .u64 4 x7]})],.r [],.r [(2,q1 [.agg [zM .u64 4 x8],oB x9])]]
  refine Zbi h5 (fun c10 h6=>?_) (fun c10 h7=>?_)
  ·exact an fol (o1 ++ [.r [(2,wF)],.r []]) [2,4,5,9,10,11] [2,4] (aN c6 c7 (oD c6) c8 (Zbr.snd c9) c10 c10) (hc1 true (w64 (v2+1)) x8 h6)
  ·exact an fol (o1 ++ [.r [(3,yF)],.r []]) [2,4,5,9,10,11] [2,4] (aN c6 c7 (oD c6) c8 (Zbr.snd c9) c10 c10) (hc1 x9 (w64 (v2+1)) x8 h7)
 ·obtain rfl:=Zab h2
  exact af fol hE [.r [],.c false,.r []] [] 0 [] c6
theorem ZbL.snd {list_0:LL} {r:(List Int)×Bool} (h:ZbL N list_0=some r):Zdh zF 107 [.one (vR 4 list_0)] (ZbL.rs r):=fun st=>
 sO ZbL.B Tryz.func107 fun g0 w0 R hE=>by
  unfold ZbL at h
  exact aq fol [.r [],.r [],.r [],.r []] [2,4,5,9,10,11] [2,4] trivial (At.loop N (At.loopN (fun y:Bool×Int×(List Int)=>ZbL.p1.S y.1 list_0 y.2.1 y.2.2 st) (fun c J hc y h=>ZbL.p1_ok (over_1:=y.1) (v2:=y.2.1) (out_6:=y.2.2) h hE (fun over_1 v2 out_6=>hc (over_1,v2,out_6))) N (false,0,zC 4 0) h))
def Zed.B:Code:=Tryz.f80.body.getD .skip
def Zed.rs (r:(List Int)):List CV:=[.agg [zM .u64 4 r]]
def Zed (N:Nat) (list_0:LL):Option (List Int):=
 Zbs (ZbL N list_0) fun (x1,x2)=>
 if x2=true then
  Zbs (ZcT N ) fun x3=>
  some x3
 else
 some x1
theorem Zed.snd {list_0:LL} {r:(List Int)} (h:Zed N list_0=some r):Zdh zF 80 [.one (vR 4 list_0)] (Zed.rs r):=fun st=>
 sO Zed.B Tryz.func80 fun g0 w0 R hE=>by
  unfold Zed at h
  obtain ⟨⟨x1,x2⟩,c1,h1⟩:=Zae h
  let o1:List PS:=[.r [],.r [(1,q1 [.agg [zM .u64 4 x1],oB x2])],.r []]
  refine Zbi h1 (fun c2 h2=>?_) (fun c2 h3=>?_)
  ·obtain ⟨x3,c3,h4⟩:=Zae h2
   obtain rfl:=Zab h4
   exact af fol hE (o1 ++ [.c true,.r [(0,q1 [.agg [zM .u64 4 x3]])]]) [] 0 [] (aJ (ZbL.snd c1) c2 (ZcT.snd c3))
  ·obtain rfl:=Zab h3
   exact af fol hE (o1 ++ [.c false,.r []]) [] 0 [] (aI (ZbL.snd c1) c2)
def ZaI.B:Code:=Tryz.f50.body.getD .skip
def ZaI.rs (r:Int×LL):List CV:=[oI r.1]
def ZaI.p1 (N:Nat) (a_7:Option Nat) (behind_3:ZaE) (e_6:Zby) (st:LL):Option (Int×LL):=
 Zbs a_7 fun i8=>
 ZcI (st[i8]?) ZaY fun x9=>
 chk (zK (x9.list ++ [e_6.ls])*176≤140737488355328)<|
 chk (zK (x9.spots ++ [behind_3.ls])*96≤140737488355328)<|
 optM (Zga x9.places (zM .u8 32 e_6.Id)) (fun j10 e=>ZcQ [e] fun x11=>
  some (w64 ((len (x9.list ++ [e_6.ls]))-1),zS (zS (zS (zS (zS st i8 (gs x9.lo 15)) i8 (gs (gs x9.lo 15) 16)) i8 (gs (Zau.lo {x9 with list:=x9.list ++ [e_6.ls]}) 16)) i8 (Zau.lo {x9 with list:=x9.list ++ [e_6.ls],spots:=x9.spots ++ [behind_3.ls]})) i8 (Zau.lo (Zau.mk x9.rules (x9.list ++ [e_6.ls]) (x9.spots ++ [behind_3.ls]) (zS x9.places j10 (zM .u8 32 e_6.Id,zJ .i64 (w64 ((len (x9.list ++ [e_6.ls]))-1)))) x9.room))))
 (
  some (w64 ((len (x9.list ++ [e_6.ls]))-1),zS (zS (zS (zS (zS st i8 (gs x9.lo 15)) i8 (gs (gs x9.lo 15) 16)) i8 (gs (Zau.lo {x9 with list:=x9.list ++ [e_6.ls]}) 16)) i8 (Zau.lo {x9 with list:=x9.list ++ [e_6.ls],spots:=x9.spots ++ [behind_3.ls]})) i8 (Zau.lo (Zau.mk x9.rules (x9.list ++ [e_6.ls]) (x9.spots ++ [behind_3.ls]) (x9.places ++ [(zM .u8 32 e_6.Id,zJ .i64 (w64 ((len (x9.list ++ [e_6.ls]))-1)))]) x9.room))))
def ZaI (N:Nat) (a_0:Option Nat) (h_1:Zap) (ahead_2:Int) (behind_3:ZaE) (st:LL):Option (Int×LL):=
 Zbs (ZcP N h_1.Bits) fun x1=>
 if (ahead_2 != (-1))=true then
  Zbs a_0 fun i2=>
  ZcI (st[i2]?) ZaY fun x3=>
  chk (0≤ahead_2)<|
  chk (ahead_2<(len x3.list))<|
  ZcI (x3.list[0+(zE ahead_2)]?) Zdb fun x4=>
  Zbs (Zed N [[zM .u64 4 x4.Work],[zM .u64 4 x1]]) fun x5=>
  ZaI.p1 N (some i2) behind_3 (Zby.mk h_1 behind_3.Prev ahead_2 (w64 (x4.Height+1)) x5) st
 else
 ZaI.p1 N a_0 behind_3 (Zby.mk h_1 behind_3.Prev ahead_2 0 x1) st
def ZaI.p1.S (a_7:Option Nat) (behind_3:ZaE) (e_6:Zby) (st:LL):S:=mkS 81 [(0,sP a_7),(7,sA 7),(9,sA 9)] [(7,.cells behind_3.ls),(9,.cells e_6.ls)] st
theorem ZaI.p1_ok {a_7 behind_3 e_6 st r} (h:ZaI.p1 N a_7 behind_3 e_6 st=some r) (hE:En Tryz.f50 g0 w0 (ZaI.rs r) r.2 R):At g0 w0 (ZaI.p1.S a_7 behind_3 e_6 st) (XK zF R [.c (Zcb ZaI.B [1,1,1])]):=by
 unfold ZaI.p1 at h
 obtain ⟨i8,rfl,h1⟩:=Zae h
 obtain ⟨x9,c10,h2⟩:=ZaP h1
 obtain ⟨c11,c12,h3⟩:=ck2 h2
 let o1:List PS:=[.d {ds:=[(5,{oc:=x9.lo}),(8,{oe:=x9.lo}),(12,{oc:=gs x9.lo 15}),(15,{oe:=gs x9.lo 15}),(18,{oc:=gs (gs x9.lo 15) 16,mv:=[51]}),(21,{oc:=gs (Zau.lo {x9 with list:=x9.list ++ [e_6.ls]}) 16,mv:=[58]})],hv:=2408832,Hs:=[128,384,16384,16512,16768,49536,311680,2408832],dh:=[(12,0,{oc:=x9.lo}),(12,128,{oc:=x9.lo}),(12,16384,{oc:=x9.lo}),(12,16512,{oc:=x9.lo})]}]
 have t1 {Q:Prop} (q:Q):=aO c10 c10 c10 c10 z0 (eN (zK x9.list)) c10 (aO z0 (eN (1)) c11 z0 (eN (zK x9.list)) c10 z0 (aO (eN (1)) c11 c10 c10 (ZaJ c10 (gs x9.lo 15)) c10 c10 (aO (ZaJ c10 (gs x9.lo 15)) z0 (eN (zK x9.spots)) (ZaJ c10 (gs x9.lo 15)) z0 (eN (1)) c12 (aO (ZaJ (ZaJ c10 (gs x9.lo 15)) (gs (gs x9.lo 15) 16)) z0 (eN (zK (x9.list ++ [e_6.ls]))) (ZaJ (ZaJ (ZaJ c10 (gs x9.lo 15)) (gs (gs x9.lo 15) 16)) (gs (Zau.lo {x9 with list:=x9.list ++ [e_6.ls]}) 16)) z0 (eN (zK (x9.spots ++ [behind_3.ls]))) (ZaJ (ZaJ (ZaJ (ZaJ c10 (gs x9.lo 15)) (gs (gs x9.lo 15) 16)) (gs (Zau.lo {x9 with list:=x9.list ++ [e_6.ls]}) 16)) (Zau.lo {x9 with list:=x9.list ++ [e_6.ls],spots:=x9.spots ++ [behind_3.ls]})) (aI (ZaJ (ZaJ (ZaJ (ZaJ c10 (gs x9.lo 15)) (gs (gs x9.lo 15) 16)) (gs (Zau.lo {x9 with list:=x9.list ++ [e_6.ls]}) 16)) (Zau.lo {x9 with list:=x9.list ++ [e_6.ls],spots:=x9.spots ++ [behind_3.ls]})) q)))))
 rcases Zks h3 with ⟨j10,h7,c13,h4⟩ | ⟨c13,h5⟩
 ·obtain ⟨x11,h8,h6⟩:=ZgP h4
  obtain rfl:=ZhG h8
  obtain rfl:=Zab h6
  exact afd fol hE (o1 ++ [.d {ds:=[(3,{oc:=Zau.lo {x9 with list:=x9.list ++ [e_6.ls],spots:=x9.spots ++ [behind_3.ls]}}),(9,{oc:=Zau.lo {x9 with list:=x9.list ++ [e_6.ls],spots:=x9.spots ++ [behind_3.ls]}}),(12,{oc:=Zau.lo {x9 with list:=x9.list ++ [e_6.ls],spots:=x9.spots ++ [behind_3.ls]},m:=j10})],hv:=4096,Hs:=[4096]},.r [(3,{oc:=Zau.lo (Zau.mk x9.rules (x9.list ++ [e_6.ls]) (x9.spots ++ [behind_3.ls]) (zS x9.places j10 (zM .u8 32 e_6.Id,zJ .i64 (w64 ((len (x9.list ++ [e_6.ls]))-1)))) x9.room)})]]) [] 0 [] (t1 (aJ (ex_at c13) (ZaJ (ZaJ (ZaJ (ZaJ c10 (gs x9.lo 15)) (gs (gs x9.lo 15) 16)) (gs (Zau.lo {x9 with list:=x9.list ++ [e_6.ls]}) 16)) (Zau.lo {x9 with list:=x9.list ++ [e_6.ls],spots:=x9.spots ++ [behind_3.ls]})) (ZaJ (ZaJ (ZaJ (ZaJ (ZaJ c10 (gs x9.lo 15)) (gs (gs x9.lo 15) 16)) (gs (Zau.lo {x9 with list:=x9.list ++ [e_6.ls]}) 16)) (Zau.lo {x9 with list:=x9.list ++ [e_6.ls],spots:=x9.spots ++ [behind_3.ls]})) (Zau.lo (Zau.mk x9.rules (x9.list ++ [e_6.ls]) (x9.spots ++ [behind_3.ls]) (zS x9.places j10 (zM .u8 32 e_6.Id,zJ .i64 (w64 ((len (x9.list ++ [e_6.ls]))-1)))) x9.room)))))
 ·obtain rfl:=Zab h5
  exact afd fol hE (o1 ++ [.d {ds:=[(3,{oc:=Zau.lo {x9 with list:=x9.list ++ [e_6.ls],spots:=x9.spots ++ [behind_3.ls]}}),(9,{oc:=Zau.lo {x9 with list:=x9.list ++ [e_6.ls],spots:=x9.spots ++ [behind_3.ls]}}),(12,{oc:=Zau.lo {x9 with list:=x9.list ++ [e_6.ls],spots:=x9.spots ++ [behind_3.ls]},yes:=false})],hv:=4096,Hs:=[4096]},.r [(3,{oc:=Zau.lo (Zau.mk x9.rules (x9.list ++ [e_6.ls]) (x9.spots ++ [behind_3.ls]) (x9.places ++ [(zM .u8 32 e_6.Id,zJ .i64 (w64 ((len (x9.list ++ [e_6.ls]))-1)))]) x9.room)})]]) [] 0 [] (t1 (aJ c13 (ZaJ (ZaJ (ZaJ (ZaJ c10 (gs x9.lo 15)) (gs (gs x9.lo 15) 16)) (gs (Zau.lo {x9 with list:=x9.list ++ [e_6.ls]}) 16)) (Zau.lo {x9 with list:=x9.list ++ [e_6.ls],spots:=x9.spots ++ [behind_3.ls]})) (ZaJ (ZaJ (ZaJ (ZaJ (ZaJ c10 (gs x9.lo 15)) (gs (gs x9.lo 15) 16)) (gs (Zau.lo {x9 with list:=x9.list ++ [e_6.ls]}) 16)) (Zau.lo {x9 with list:=x9.list ++ [e_6.ls],spots:=x9.spots ++ [behind_3.ls]})) (Zau.lo (Zau.mk x9.rules (x9.list ++ [e_6.ls]) (x9.spots ++ [behind_3.ls]) (x9.places ++ [(zM .u8 32 e_6.Id,zJ .i64 (w64 ((len (x9.list ++ [e_6.ls]))-1)))]) x9.room)))))
theorem ZaI.snd {a_0:Option Nat} {h_1:Zap} {ahead_2:Int} {behind_3:ZaE} {st:LL} {r:Int×LL} (h:ZaI N a_0 h_1 ahead_2 behind_3 st=some r):Snd zF 50 [.one (yM a_0),.agg h_1.ls,oI ahead_2,.agg behind_3.ls] st (ZaI.rs r) r.2:=
 sO ZaI.B Tryz.func50 fun g0 w0 R hE=>by
  unfold ZaI at h
  obtain ⟨x1,c1,h9⟩:=Zae h
  let o2:List PS:=[.r [],.d {ds:=[(6,q1 [.agg [zM .u64 4 x1]])],hv:=768,Hs:=[256,768]},.r []]
  have t2 {Q:Prop} (q:Q):=aJ (ZcP.snd c1) (ZcP.snd c1) q
  refine Zbi h9 (fun c2 h10=>?_) (fun c2 h11=>?_)
  ·obtain ⟨i2,rfl,h12⟩:=Zae h10
   obtain ⟨x3,c4,h13⟩:=ZaP h12
   obtain ⟨c5,c6,h14⟩:=ck2 h13
   obtain ⟨x4,c7,h15⟩:=Zdr h14
   obtain ⟨x5,c8,h16⟩:=Zae h15
   exact aqd fol (o2 ++ [.c true,.r [(3,{oc:=x3.lo}),(7,{oc:=x3.lo,oe:=x4.ls})],.d {ds:=[(3,{oc:=x3.lo}),(7,{oc:=x3.lo,oe:=x4.ls}),(11,{rs:=[.agg [zM .u64 4 x5]],m:=2})],hv:=9216,Hs:=[1024,9216]},.s 1]) [0,7,9] [7,9] (t2 (aO c2 c4 c5 c6 c7 c4 c4 (aN c5 c6 c7 c4 z0 (eN (2)) (Zed.snd c8)))) (ZaI.p1_ok h16 hE)
  ·exact aqd fol (o2 ++ [.c false,.s 1]) [0,7,9] [7,9] (t2 c2) (ZaI.p1_ok h11 hE)
def Zdt.B:Code:=Tryz.f25.body.getD .skip
def Zdt.rs (r:(Option Nat)×Int×LL):List CV:=[.one (yM r.1),oI r.2.1]
def Zdt (N:Nat) (p_0:Zaj) (room_1:Int) (st:LL):Option ((Option Nat)×Int×LL):=
 Zbs (Zbn N p_0) fun x1=>
 if (!x1)=true then
  some (none,1,st)
 else
 chk (zK ([]++p_0.Gates)*16≤140737488355328)<|
 chk (zK ([]++p_0.Checks)*40≤140737488355328)<|
 Zbs (Zel N {p_0 with Gates:=[]++p_0.Gates,Checks:=[]++p_0.Checks}) fun x2=>
 Zbs (ZaI N (some (zK st)) p_0.Genesis (-1) x2 (st ++ [Zau.lo (Zau.mk {p_0 with Gates:=[]++p_0.Gates,Checks:=[]++p_0.Checks} [] [] [] (if (512:Int)<(if (1:Int)>room_1 then 1 else room_1) then 512 else (if (1:Int)>room_1 then 1 else room_1)))])) fun (x3,st4)=>
 some ((some (zK st)),0,st4)
theorem Zdt.snd {p_0:Zaj} {room_1:Int} {st:LL} {r:(Option Nat)×Int×LL} (h:Zdt N p_0 room_1 st=some r):Snd zF 25 [.agg p_0.ls,oI room_1] st (Zdt.rs r) r.2.2:=
 sO Zdt.B Tryz.func25 fun g0 w0 R hE=>by
  unfold Zdt at h
  obtain ⟨x1,c1,h1⟩:=Zae h
  let o1:List PS:=[.r [],.r [(1,q1 [oB x1])]]
  refine Zbi h1 (fun c2 h2=>?_) (fun c2 h3=>?_)
  ·obtain rfl:=Zab h2
   exact af fol hE (o1 ++ [.c true,.r []]) [] 0 [] (aI (Zbn.snd c1) c2)
  ·obtain ⟨c3,c4,h4⟩:=ck2 h3
   obtain ⟨x2,c5,h5⟩:=Zae h4
   obtain ⟨⟨x3,st4⟩,c6,h6⟩:=Zae h5
   obtain rfl:=Zab h6
   exact afd fol hE (o1 ++ [.c false,.d {ds:=[(7,{fz:=[12]}),(9,{fz:=[15]})],hv:=676,Hs:=[4,36,164,676]},.r [(5,{ns:=[15,16]}),(6,{m:=1})],.d {ds:=[(4,q1 [.agg x2.ls]),(5,{rs:=[oI x3],st:=st4})],hv:=32,Hs:=[32]},.r []]) [] 0 [] (aO (Zbn.snd c1) c2 c3 c4 z0 (eN (zK ([]++p_0.Gates))) z0 (aJ (eN (zK ([]++p_0.Checks))) (Zel.snd c5) (ZaI.snd c6)))
def ZdN.B:Code:=Tryz.f8.body.getD .skip
def ZdN.rs (r:(Option Nat)×Int×LL):List CV:=[.one (yM r.1),oI r.2.1]
def ZdN (N:Nat) (p_0:Zaj) (room_1:Int) (st:LL):Option ((Option Nat)×Int×LL):=
 Zbs (Zdt N p_0 room_1 st) fun (x1,x2,st3)=>
 if (x2 != 0)=true then
  some (none,x2,st3)
 else
 some ((some (zK st3)),0,st3 ++ [[yM x1,yR true 1 [[zJ .i64 (-1)]]]])
theorem ZdN.snd {p_0:Zaj} {room_1:Int} {st:LL} {r:(Option Nat)×Int×LL} (h:ZdN N p_0 room_1 st=some r):Snd zF 8 [.agg p_0.ls,oI room_1] st (ZdN.rs r) r.2.2:=
 sO ZdN.B Tryz.func8 fun g0 w0 R hE=>by
  unfold ZdN at h
  obtain ⟨⟨x1,x2,st3⟩,c1,h1⟩:=Zae h
  let o1:List PS:=[.r [],.r [(2,{rs:=[.one (yM x1),oI x2],st:=st3})],.r []]
  refine Zbi h1 (fun c2 h2=>?_) (fun c2 h3=>?_)
  ·obtain rfl:=Zab h2
   exact af fol hE (o1 ++ [.c true,.r []]) [] 0 [] (aI (Zdt.snd c1) c2)
  ·obtain rfl:=Zab h3
   exact af fol hE (o1 ++ [.c false,.r [(2,{ns:=[1]}),(3,{m:=1,mv:=[18]})]]) [] 0 [] (aK (Zdt.snd c1) c2 z0 (eN (1)))
def ZdY.B:Code:=Tryz.f10.body.getD .skip
def ZdY.rs (r:(Option Nat)×LL):List CV:=[.one (yM r.1)]
def ZdY (N:Nat) (t_0:Option Nat) (st:LL):Option ((Option Nat)×LL):=
 some ((some (zK st)),st ++ [[yM t_0,yR true 1 []]])
theorem ZdY.snd {t_0:Option Nat} {st:LL} {r:(Option Nat)×LL} (h:ZdY N t_0 st=some r):Snd zF 10 [.one (yM t_0)] st (ZdY.rs r) r.2:=
 sO ZdY.B Tryz.func10 fun g0 w0 R hE=>by
  unfold ZdY at h
  obtain rfl:=Zab h
  exact af fol hE [.r [],.r [(1,{ns:=[1]}),(2,{m:=1})]] [] 0 [] trivial
def ZbX.B:Code:=Tryz.f38.body.getD .skip
def ZbX.rs (r:Int):List CV:=[oI r]
def ZbX (N:Nat) (a_0:Zau):Option Int:=
 some (len a_0.list)
theorem ZbX.snd {a_0:Zau} {r:Int} (h:ZbX N a_0=some r):Zdh zF 38 [.one (xN 87 a_0.ls)] (ZbX.rs r):=fun st=>
 sO ZbX.B Tryz.func38 fun g0 w0 R hE=>by
  unfold ZbX at h
  obtain rfl:=Zab h
  exact af fol hE [.r [],.r [],.c false,.r [(3,{oe:=a_0.ls})]] [] 0 [] (aI eF (eO a_0.ls))
def Zci.B:Code:=Tryz.f17.body.getD .skip
def Zci.rs (r:Int×LL):List CV:=[oI r.1]
def Zci (N:Nat) (t_0:Option Nat) (st:LL):Option (Int×LL):=
 if (wL t_0)=true then
  some (0,st)
 else
 Zbs t_0 fun i1=>
 ZcI (st[i1]?) Zbk fun x2 x3=>
 Zbs x2 fun i4=>
 ZcI (st[i4]?) ZaY fun x5=>
 Zbs (ZbX N x5) fun x6=>
 some (x6,st)
theorem Zci.snd {t_0:Option Nat} {st:LL} {r:Int×LL} (h:Zci N t_0 st=some r):Snd zF 17 [.one (yM t_0)] st (Zci.rs r) r.2:=
 sO Zci.B Tryz.func17 fun g0 w0 R hE=>by
  unfold Zci at h
  refine Zbi h (fun c1 h1=>?_) (fun c1 h2=>?_)
  ·obtain rfl:=Zab h1
   exact af fol hE [.r [],.r [],.c true,.r []] [] 0 [] c1
  ·obtain ⟨i1,rfl,h3⟩:=Zae h2
   obtain ⟨x2,x3,c3,h4⟩:=ZaX h3
   obtain ⟨i4,rfl,h5⟩:=Zae h4
   obtain ⟨x5,c5,h6⟩:=ZaP h5
   obtain ⟨x6,c6,h7⟩:=Zae h6
   obtain rfl:=Zab h7
   exact af fol hE [.r [],.r [],.c false,.r [(3,{oc:=[yM (some i4),yR true 1 x3]}),(4,{rs:=[oI x6],m:=10,cv:=[.one (xN 87 x5.ls)]})]] [] 0 [] (aK c1 c3 (bO 87 c5 (Zau.bv x5)) (ZbX.snd c6))
def Zcf.B:Code:=Tryz.f30.body.getD .skip
def Zcf.rs (r:Bool×LL):List CV:=[oB r.1]
def Zcf (N:Nat) (s_0:Option Nat) (at_1:Int) (st:LL):Option (Bool×LL):=
 if (!(wL s_0))=true then
  if (decide (at_1≥0))=true then
   Zbs s_0 fun i1=>
   ZcI (st[i1]?) Zbk fun x2 x3=>
   Zbs (Zci N x2 st) fun (x4,st5)=>
   some (decide (at_1<x4),st5)
  else
  some (false,st)
 else
 some (false,st)
theorem Zcf.snd {s_0:Option Nat} {at_1:Int} {st:LL} {r:Bool×LL} (h:Zcf N s_0 at_1 st=some r):Snd zF 30 [.one (yM s_0),oI at_1] st (Zcf.rs r) r.2:=
 sO Zcf.B Tryz.func30 fun g0 w0 R hE=>by
  unfold Zcf at h
  refine Zbi h (fun c1 h1=>?_) (fun c1 h2=>?_)
  ·refine Zbi h1 (fun c2 h3=>?_) (fun c2 h4=>?_)
   ·obtain ⟨i1,rfl,h5⟩:=Zae h3
    obtain ⟨x2,x3,c4,h6⟩:=ZaX h5
    obtain ⟨⟨x4,st5⟩,c5,h7⟩:=Zae h6
    obtain rfl:=Zab h7
    exact af fol hE [.r [],.r [(11,{oc:=[yM x2,yR true 1 x3]}),(12,{rs:=[oI x4],st:=st5})]] [] 0 [] (aO eT eT eT c2 c2 c2 c2 (aM c2 c4 c2 (Zci.snd c5) c2 c2))
   ·obtain rfl:=Zab h4
    exact af fol hE [.r [],.r [(7,wF),(8,wF),(9,wF),(10,wF),(11,wF),(12,wF),(13,wF),(14,yF)]] [] 0 [] (aO c1 c1 c1 c2 c2 c2 c2 (aK c2 c2 c2 c2))
  ·obtain rfl:=Zab h2
   exact af fol hE [.r [],.r [(3,wF),(4,wF),(5,yF),(7,wF),(8,wF),(9,wF),(10,wF),(11,wF),(12,wF),(13,wF),(14,yF)]] [] 0 [] (aO c1 c1 c1 eF eF eF eF (aK eF eF eF eF))
def Zbg.B:Code:=Tryz.f56.body.getD .skip
def Zbg.rs (r:Bool):List CV:=[oB r]
def Zbg (N:Nat) (a_0:Zau) (at_1:Int):Option Bool:=
 if (decide (at_1≥0))=true then
  some (decide (at_1<(len a_0.list)))
 else
 some false
theorem Zbg.snd {a_0:Zau} {at_1:Int} {r:Bool} (h:Zbg N a_0 at_1=some r):Zdh zF 56 [.one (xN 87 a_0.ls),oI at_1] (Zbg.rs r):=fun st=>
 sO Zbg.B Tryz.func56 fun g0 w0 R hE=>by
  unfold Zbg at h
  refine Zbi h (fun c1 h1=>?_) (fun c1 h2=>?_)
  ·obtain rfl:=Zab h1
   exact af fol hE [.r [],.r [(11,{oe:=a_0.ls})]] [] 0 [] (aO eT eT eT c1 c1 c1 c1 (aL c1 (eO a_0.ls) c1 c1 c1))
  ·obtain rfl:=Zab h2
   exact af fol hE [.r [],.r [(7,wF),(8,wF),(9,wF),(10,wF),(11,wF),(12,wF),(13,wF),(14,yF)]] [] 0 [] (aO eT eT eT c1 c1 c1 c1 (aK c1 c1 c1 c1))
def Zbp.B:Code:=Tryz.f37.body.getD .skip
def Zbp.rs (r:Bool):List CV:=[oB r]
def Zbp (N:Nat) (a_0:Zau) (x_1 y_2:Int):Option Bool:=
 Zbs (Zbg N a_0 x_1) fun x1=>
 if (!x1)=true then
  some x1
 else
 Zbs (Zbg N a_0 y_2) fun x2=>
 if (!x2)=true then
  some x1
 else
 chk (0≤x_1)<|
 chk (x_1<(len a_0.list))<|
 ZcI (a_0.list[zE x_1]?) Zdb fun x3=>
 chk (0≤y_2)<|
 chk (y_2<(len a_0.list))<|
 ZcI (a_0.list[zE y_2]?) Zdb fun x4=>
 Zbs (ZaW N x3.Work x4.Work) fun x5=>
 if (decide (x5>0))=true then
  some true
 else
 if (x5==0)=true then
  some (decide (x_1<y_2))
 else
 some false
theorem Zbp.snd {a_0:Zau} {x_1 y_2:Int} {r:Bool} (h:Zbp N a_0 x_1 y_2=some r):Zdh zF 37 [.one (xN 87 a_0.ls),oI x_1,oI y_2] (Zbp.rs r):=fun st=>
 sO Zbp.B Tryz.func37 fun g0 w0 R hE=>by
  unfold Zbp at h
  obtain ⟨x1,c1,h1⟩:=Zae h
  have t1 {Q:Prop} (q:Q):=aI (Zbg.snd c1) q
  refine Zbi h1 (fun c2 h2=>?_) (fun c2 h3=>?_)
  ·obtain rfl:=Zab h2
   exact af fol hE [.r [],.r [(2,q0 [oB x1]),(5,wF),(6,wF),(7,wF),(8,wF)],.c true,.r [(2,q0 [oB x1])]] [] 0 [] (t1 (aN (not_false (ZbG c2)) (not_false (ZbG c2)) (not_false (ZbG c2)) (not_false (ZbG c2)) (not_false (ZbG c2)) eT (Zbg.snd c1)))
  ·obtain ⟨x2,c3,h4⟩:=Zae h3
   let o1:List PS:=[.r [],.r [(2,q0 [oB x1]),(7,q0 [oB x2]),(9,yF)]]
   have t2 {Q:Prop} (q:Q):=t1 (aN (not_true (ZbH c2)) (not_true (ZbH c2)) (not_true (ZbH c2)) (Zbg.snd c3) (not_true (ZbH c2)) (not_true (ZbH c2)) q)
   refine Zbi h4 (fun c4 h5=>?_) (fun c4 h6=>?_)
   ·obtain rfl:=Zab h5
    exact af fol hE (o1 ++ [.c true,.r [(2,q0 [oB x1])]]) [] 0 [] (t2 (aI c4 (Zbg.snd c1)))
   ·obtain ⟨c5,c6,h7⟩:=ck2 h6
    obtain ⟨x3,c7,h8⟩:=Zdr h7
    obtain ⟨c8,c9,h9⟩:=ck2 h8
    obtain ⟨x4,c10,h10⟩:=Zdr h9
    obtain ⟨x5,c11,h11⟩:=Zae h10
    let o2:List PS:=o1 ++ [.c false,.d {ds:=[(3,{oe:=a_0.ls}),(7,{oe:=x3.ls}),(11,{oe:=a_0.ls}),(15,{oe:=x4.ls}),(16,q1 [oI x5])],hv:=0,Hs:=[]}]
    have t3 {Q:Prop} (q:Q):=t2 (aO c4 (eO a_0.ls) c5 c6 c7 (eO a_0.ls) c8 (aK c9 c10 (ZaW.snd c11) q))
    refine Zbi h11 (fun c12 h12=>?_) (fun c12 h13=>?_)
    ·obtain rfl:=Zab h12
     exact afd fol hE (o2 ++ [.r [(3,wF),(4,wF),(5,wF),(9,wF)]]) [] 0 [] (t3 (aL c12 c12 c12 c12 c12))
    ·refine Zbi h13 (fun c13 h14=>?_) (fun c13 h15=>?_)
     ·obtain rfl:=Zab h14
      exact afd fol hE (o2 ++ [.r [(10,yF)]]) [] 0 [] (t3 (aO c12 c12 c12 c13 c13 c13 c12 (aI c13 c12)))
     ·obtain rfl:=Zab h15
      exact afd fol hE (o2 ++ [.r [(6,wF),(7,wF),(8,wF),(9,yF),(10,yF)]]) [] 0 [] (t3 (aO c12 c12 c12 c13 c13 c13 c12 (aI c13 c12)))
def Zba.B:Code:=Tryz.f16.body.getD .skip
def Zba.rs (r:Bool):List CV:=[oB r]
def Zba (N:Nat) (t_0:Zao) (x_1 y_2:Int):Option Bool:=
 Zbs (Zbp N t_0.store x_1 y_2) fun x1=>
 some x1
theorem Zba.snd {t_0:Zao} {x_1 y_2:Int} {r:Bool} (h:Zba N t_0 x_1 y_2=some r):Zdh zF 16 [.one (xN 2 t_0.ls),oI x_1,oI y_2] (Zba.rs r):=fun st=>
 sO Zba.B Tryz.func16 fun g0 w0 R hE=>by
  unfold Zba at h
  obtain ⟨x1,c1,h1⟩:=Zae h
  obtain rfl:=Zab h1
  exact af fol hE [.r [],.r [(6,{oe:=t_0.ls}),(9,q0 [oB x1])]] [] 0 [] (aO eT eT eT eT (eO t_0.ls) eT eT (aJ eT (Zbp.snd c1) eT))
def ZbS.B:Code:=Tryz.f61.body.getD .skip
def ZbS.rs (r:Int):List CV:=[oI r]
def ZbS (N:Nat) (x_0 at_1:Int) (a_2_0:ZaQ):Option Int:=
 if (x_0==at_1)=true then
  some 0
 else
 Zbs (Zba N a_2_0.tree x_0 at_1) fun x1=>
 if x1=true then
  some (-1)
 else
 some 1
theorem ZbS.snd {x_0 at_1:Int} {a_2_0:ZaQ} {r:Int} (h:ZbS N x_0 at_1 a_2_0=some r):Zdh zF 61 [oI x_0,oI at_1,.one (xN 1 [xN 2 a_2_0.ls])] (ZbS.rs r):=fun st=>
 sO ZbS.B Tryz.func61 fun g0 w0 R hE=>by
  unfold ZbS at h
  refine Zbi h (fun c1 h1=>?_) (fun c1 h2=>?_)
  ·obtain rfl:=Zab h1
   exact af fol hE [.r [],.r [],.c true,.r []] [] 0 [] c1
  ·obtain ⟨x1,c2,h3⟩:=Zae h2
   let o1:List PS:=[.r [],.r [],.c false,.r [(0,{m:=2}),(3,{oe:=a_2_0.ls}),(6,q0 [oB x1])]]
   have t1 {Q:Prop} (q:Q):=aK c1 (eO a_2_0.ls) (Zba.snd c2) q
   refine Zbi h3 (fun c3 h4=>?_) (fun c3 h5=>?_)
   ·obtain rfl:=Zab h4
    exact af fol hE (o1 ++ [.c true,.r []]) [] 0 [] (t1 c3)
   ·obtain rfl:=Zab h5
    exact af fol hE (o1 ++ [.c false,.r []]) [] 0 [] (t1 c3)
def Zad.B:Code:=Tryz.f60.body.getD .skip
def Zad.rs (r:Int×Bool):List CV:=[oI r.1,oB r.2]
def Zad.p1 (N:Nat) (x_0:LL) (target_1:Int) (cmp_2_0_0:ZaQ) (c1_:(Int×Int)→Option (Int×Bool)):(Int×Int)→Option (Int×Bool):=fun (i_1,j_2)=>
 if (decide (i_1<j_2))=true then
  chk (0≤(w64 (ZaR .u64 (v64 (w64 (i_1+j_2))) 1)))<|
  chk ((w64 (ZaR .u64 (v64 (w64 (i_1+j_2))) 1))<(len x_0))<|
  ZcI (x_0[zE (w64 (ZaR .u64 (v64 (w64 (i_1+j_2))) 1))]?) ZcQ fun x3=>
  Zbs (ZbS N x3 target_1 cmp_2_0_0) fun x4=>
  if (decide (x4<0))=true then
   c1_ (w64 ((w64 (ZaR .u64 (v64 (w64 (i_1+j_2))) 1))+1),j_2)
  else
  c1_ (i_1,w64 (ZaR .u64 (v64 (w64 (i_1+j_2))) 1))
 else
 if (decide (i_1<(len x_0)))=true then
  chk (0≤i_1)<|
  ZcI (x_0[zE i_1]?) ZcQ fun x5=>
  Zbs (ZbS N x5 target_1 cmp_2_0_0) fun x6=>
  some (i_1,x6==0)
 else
 some (i_1,false)
def Zad (N:Nat) (x_0:LL) (target_1:Int) (cmp_2_0_0:ZaQ):Option (Int×Bool):=
 loopN (Zad.p1 N x_0 target_1 cmp_2_0_0) N (0,(len x_0))
def Zad.p1.S (x_0:LL) (target_1:Int) (cmp_2_0_0:ZaQ) (i_1 j_2:Int) (st:LL):S:=mkS 49 [(0,sV 1 x_0),(1,sI target_1),(2,.one (.l (L.fn 61 0 [xN 1 [xN 2 cmp_2_0_0.ls]]))),(8,sI (len x_0)),(9,sI i_1),(10,sI j_2)] [] st
theorem Zad.p1_ok {x_0 target_1 cmp_2_0_0 i_1 j_2 st r c1_ J1} (h:Zad.p1 N x_0 target_1 cmp_2_0_0 c1_ (i_1,j_2)=some r) (hE:En Tryz.f60 g0 w0 (Zad.rs r) st R) (hc1 : ∀i_1 j_2,c1_ (i_1,j_2)=some r→At g0 w0 (Zad.p1.S x_0 target_1 cmp_2_0_0 i_1 j_2 st) J1):At g0 w0 (Zad.p1.S x_0 target_1 cmp_2_0_0 i_1 j_2 st) (XK zF R (.c (Zcb Zad.B [1,1,1,0,0,0]) :: .h J1 :: [.b 0,.c (Zcb Zad.B [1,1,1,1])])):=by
 unfold Zad.p1 at h
 refine Zbi h (fun c1 h1=>?_) (fun c1 h2=>?_)
 ·obtain ⟨c2,c3,h3⟩:=ck2 h1
  obtain ⟨x3,c4,h4⟩:=Zck h3
  obtain ⟨x4,c5,h5⟩:=Zae h4
  let o1:List PS:=[.r [],.c true,.r [],.r [(4,{oe:=[zJ .i64 x3]}),(6,{rs:=[oI x4],st:=st,m:=5})]]
  have t1 {Q:Prop} (q:Q):=aN c1 (leI 0 1) c2 c3 c4 (ZbS.snd c5 st) q
  refine Zbi h5 (fun c6 h6=>?_) (fun c6 h7=>?_)
  ·exact an fol (o1 ++ [.c true,.r []]) [0,1,2,8,9,10] [] (t1 c6) (hc1 (w64 ((w64 (ZaR .u64 (v64 (w64 (i_1+j_2))) 1))+1)) j_2 h6)
  ·exact an fol (o1 ++ [.c false,.r []]) [0,1,2,8,9,10] [] (t1 c6) (hc1 i_1 (w64 (ZaR .u64 (v64 (w64 (i_1+j_2))) 1)) h7)
 ·refine Zbi h2 (fun c7 h8=>?_) (fun c7 h9=>?_)
  ·obtain ⟨c8,h10⟩:=ZaU h8
   obtain ⟨x5,c9,h11⟩:=Zck h10
   obtain ⟨x6,c10,h12⟩:=Zae h11
   obtain rfl:=Zab h12
   exact af fol hE [.r [],.c false,.r [(9,{oe:=[zJ .i64 x5]}),(11,{rs:=[oI x6],st:=st,m:=5})]] [] 0 [] (aO c1 c7 c7 c7 c7 c8 (oD c7) (aN c7 c9 c7 c7 (ZbS.snd c10 st) c7 c7))
  ·obtain rfl:=Zab h9
   exact af fol hE [.r [],.c false,.r [(5,wF),(6,wF),(7,wF),(8,wF),(9,wF),(10,wF),(11,wF),(12,wF),(13,yF)]] [] 0 [] (aO c1 c7 c7 c7 c7 c7 c7 (aJ c7 c7 c7))
theorem Zad.snd {x_0:LL} {target_1:Int} {cmp_2_0_0:ZaQ} {r:Int×Bool} (h:Zad N x_0 target_1 cmp_2_0_0=some r):Zdh zF 60 [.one (vR 1 x_0),oI target_1,.one (L.fn 61 0 [xN 1 [xN 2 cmp_2_0_0.ls]])] (Zad.rs r):=fun st=>
 sO Zad.B Tryz.func60 fun g0 w0 R hE=>by
  unfold Zad at h
  exact aq fol [.r [],.r [],.r []] [0,1,2,8,9,10] [] trivial (At.loop N (At.loopN (fun y:Int×Int=>Zad.p1.S x_0 target_1 cmp_2_0_0 y.1 y.2 st) (fun c J hc y h=>Zad.p1_ok (i_1:=y.1) (j_2:=y.2) h hE (fun i_1 j_2=>hc (i_1,j_2))) N (0,(len x_0)) h))
def ZbQ.B:Code:=Tryz.f31.body.getD .skip
def ZbQ.rs (r:Int×Bool):List CV:=[oI r.1,oB r.2]
def ZbQ (N:Nat) (s_0:ZaQ) (at_1:Int):Option (Int×Bool):=
 Zbs (Zad N s_0.list at_1 s_0) fun (x1,x2)=>
 some (x1,x2)
theorem ZbQ.snd {s_0:ZaQ} {at_1:Int} {r:Int×Bool} (h:ZbQ N s_0 at_1=some r):Zdh zF 31 [.one (xN 2 s_0.ls),oI at_1] (ZbQ.rs r):=fun st=>
 sO ZbQ.B Tryz.func31 fun g0 w0 R hE=>by
  unfold ZbQ at h
  obtain ⟨⟨x1,x2⟩,c1,h1⟩:=Zae h
  obtain rfl:=Zab h1
  exact af fol hE [.r [(0,{m:=2})],.r [(0,{m:=2}),(3,{oe:=s_0.ls}),(6,q1 [oI x1,oB x2])]] [] 0 [] (aI (eO s_0.ls) (Zad.snd c1))
def ZaF.B:Code:=Tryz.f11.body.getD .skip
def ZaF.rs (r:Int×LL):List CV:=[oI r.1]
def ZaF.p2 (N:Nat) (c1_:((Option Nat)×Int×Int×LL)→Option (Int×LL)) (s_34:Option Nat) (n_35:Int) (places_1:LL) (v2:Int) (st36:LL):Option (Int×LL):=
 c1_ (s_34,n_35,w64 (v2+1),st36)
def ZaF.p1 (N:Nat) (places_1:LL) (c1_:((Option Nat)×Int×Int×LL)→Option (Int×LL)):((Option Nat)×Int×Int×LL)→Option (Int×LL):=fun (s_19,n_1,v2,st20)=>
 if (decide (v2<(len places_1)))=true then
  chk (0≤v2)<|
  ZcI (places_1[zE v2]?) ZcQ fun x21=>
  Zbs (Zcf N s_19 x21 st20) fun (x22,st23)=>
  if (!x22)=true then
   ZaF.p2 N c1_ s_19 n_1 places_1 v2 st23
  else
  Zbs s_19 fun i24=>
  ZcI (st23[i24]?) Zbk fun x25 x26=>
  Zbs x25 fun i27=>
  ZcI (st23[i27]?) Zbk fun x28 x29=>
  Zbs x28 fun i30=>
  ZcI (st23[i30]?) ZaY fun x31=>
  Zbs (ZbQ N (ZaQ.mk (Zao.mk x31 x29) x26) x21) fun (x32,x33)=>
  if (!x33)=true then
   chk (0≤x32)<|
   chk (x32≤len x26)<|
   chk (isI x26=true)<|
   chk ((zK x26+1)*8≤140737488355328)<|
   ZaF.p2 N c1_ (some i24) (w64 (n_1+1)) places_1 v2 (zS (zS st23 i24 [yM (some i27),L.gone]) i24 [yM (some i27),yR true 1 (List.take (zE x32) x26 ++ [zJ .i64 x21]::List.drop (zE x32) x26)])
  else
  ZaF.p2 N c1_ (some i24) n_1 places_1 v2 st23
 else
 some (n_1,st20)
def ZaF (N:Nat) (s_0:Option Nat) (places_1 st:LL):Option (Int×LL):=
 loopN (ZaF.p1 N places_1) N (s_0,0,0,st)
def ZaF.p2.S (s_34:Option Nat) (n_35:Int) (places_1:LL) (v2:Int) (st36:LL):S:=mkS 43 [(0,sP s_34),(5,sI n_35),(10,sV 1 places_1),(11,sI (len places_1)),(12,sI v2)] [] st36
def ZaF.p1.S (s_19:Option Nat) (n_1:Int) (places_1:LL) (v2:Int) (st20:LL):S:=mkS 43 [(0,sP s_19),(5,sI n_1),(10,sV 1 places_1),(11,sI (len places_1)),(12,sI v2)] [] st20
theorem ZaF.p2_ok {s_34 n_35 places_1 v2 st36 r c1_ J1} (h:ZaF.p2 N c1_ s_34 n_35 places_1 v2 st36=some r) (hE:En Tryz.f11 g0 w0 (ZaF.rs r) r.2 R) (hc1 : ∀s_19 n_1 v2 st20,c1_ (s_19,n_1,v2,st20)=some r→At g0 w0 (ZaF.p1.S s_19 n_1 places_1 v2 st20) J1):At g0 w0 (ZaF.p2.S s_34 n_35 places_1 v2 st36) (XK zF R [.c (Zcb ZaF.B [1,1,0,1,0,0,1,1,1]),.h J1,.b 0,.c (Zcb ZaF.B [1,1,1])]):=by
 unfold ZaF.p2 at h
 exact an fol [.r []] [0,5,10,11,12] [] trivial (hc1 s_34 n_35 (w64 (v2+1)) st36 h)
theorem ZaF.p1_ok {s_19 n_1 places_1 v2 st20 r c1_ J1} (h:ZaF.p1 N places_1 c1_ (s_19,n_1,v2,st20)=some r) (hE:En Tryz.f11 g0 w0 (ZaF.rs r) r.2 R) (hc1 : ∀s_19 n_1 v2 st20,c1_ (s_19,n_1,v2,st20)=some r→At g0 w0 (ZaF.p1.S s_19 n_1 places_1 v2 st20) J1):At g0 w0 (ZaF.p1.S s_19 n_1 places_1 v2 st20) (XK zF R (.c (Zcb ZaF.B [1,1,0,1,0,0]) :: .h J1 :: [.b 0,.c (Zcb ZaF.B [1,1,1])])):=by
 unfold ZaF.p1 at h
 refine Zbi h (fun c18 h1=>?_) (fun c18 h2=>?_)
 ·obtain ⟨c19,h3⟩:=ZaU h1
  obtain ⟨x21,c20,h4⟩:=Zck h3
  obtain ⟨⟨x22,st23⟩,c21,h5⟩:=Zae h4
  let o1:List PS:=[.r [],.c true,.r [(1,{oe:=[zJ .i64 x21]})],.r [(2,{rs:=[oB x22],st:=st23})]]
  have t1 {Q:Prop} (q:Q):=aM c18 c19 (oD c18) c20 (Zcf.snd c21) q
  refine Zbi h5 (fun c22 h6=>?_) (fun c22 h7=>?_)
  ·exact aq fol (o1 ++ [.c true,.s 4]) [0,5,10,11,12] [] (t1 c22) (ZaF.p2_ok h6 hE hc1)
  ·obtain ⟨i24,rfl,h8⟩:=Zae h7
   obtain ⟨x25,x26,c24,h9⟩:=ZaX h8
   obtain ⟨i27,rfl,h10⟩:=Zae h9
   obtain ⟨x28,x29,c26,h11⟩:=ZaX h10
   obtain ⟨i30,rfl,h12⟩:=Zae h11
   obtain ⟨x31,c28,h13⟩:=ZaP h12
   obtain ⟨⟨x32,x33⟩,c29,h14⟩:=Zae h13
   let o2:List PS:=o1 ++ [.c false,.r [(2,{rs:=[oI x32,oB x33],m:=10,cv:=[.one (xN 2 (ZaQ.ls (ZaQ.mk (Zao.mk x31 x29) x26)))]})],.r []]
   have t2 {Q:Prop} (q:Q):=t1 (aK c22 (bO 2 c24 ((bC 2 c26 ((bC 87 c28 (Zau.bv x31) (bW bN)):BVs st23 [yM (some i30),yR true 1 x29] (Zao.ls (Zao.mk x31 x29))) (bW bN)):BVs st23 [yM (some i27),yR true 1 x26] (ZaQ.ls (ZaQ.mk (Zao.mk x31 x29) x26)))) (ZbQ.snd c29) q)
   refine Zbi h14 (fun c30 h15=>?_) (fun c30 h16=>?_)
   ·obtain ⟨c31,c32,c33,c34,h17⟩:=ck4 h15
    exact aq fol (o2 ++ [.c true,.r [(4,{oc:=[yM (some i27),yR true 1 x26]}),(8,{oe:=[yM (some i27),yR true 1 x26],m:=15}),(11,{oc:=[yM (some i27),L.gone],mv:=[36]})],.r [],.s 4]) [0,5,10,11,12] [] (t2 (aO c30 c24 z0 (eN (zK x26)) c24 c31 c32 (aM c33 c34 slices_Insert_int.snd (ZaJ c24 [yM (some i27),L.gone]) z0 (eN (zK (List.take (zE x32) x26 ++ [zJ .i64 x21]::List.drop (zE x32) x26)))))) (ZaF.p2_ok h17 hE hc1)
   ·exact aq fol (o2 ++ [.c false,.s 4]) [0,5,10,11,12] [] (t2 c30) (ZaF.p2_ok h16 hE hc1)
 ·obtain rfl:=Zab h2
  exact af fol hE [.r [],.c false,.r []] [] 0 [] c18
theorem ZaF.snd {s_0:Option Nat} {places_1:LL} {st:LL} {r:Int×LL} (h:ZaF N s_0 places_1 st=some r):Snd zF 11 [.one (yM s_0),.one (vR 1 places_1)] st (ZaF.rs r) r.2:=
 sO ZaF.B Tryz.func11 fun g0 w0 R hE=>by
  unfold ZaF at h
  exact aq fol [.r [],.r [],.r []] [0,5,10,11,12] [] trivial (At.loop N (At.loopN (fun y:(Option Nat)×Int×Int×LL=>ZaF.p1.S y.1 y.2.1 places_1 y.2.2.1 y.2.2.2) (fun c J hc y h=>ZaF.p1_ok (s_19:=y.1) (n_1:=y.2.1) (v2:=y.2.2.1) (st20:=y.2.2.2) h hE (fun s_19 n_1 v2 st20=>hc (s_19,n_1,v2,st20))) N (s_0,0,0,st) h))
def ZbY.B:Code:=Tryz.f22.body.getD .skip
def ZbY.rs (r:Int):List CV:=[oI r]
def ZbY (N:Nat) (s_0:ZaQ):Option Int:=
 some (len s_0.list)
theorem ZbY.snd {s_0:ZaQ} {r:Int} (h:ZbY N s_0=some r):Zdh zF 22 [.one (xN 2 s_0.ls)] (ZbY.rs r):=fun st=>
 sO ZbY.B Tryz.func22 fun g0 w0 R hE=>by
  unfold ZbY at h
  obtain rfl:=Zab h
  exact af fol hE [.r [],.r [],.c false,.r [(3,{oe:=s_0.ls})]] [] 0 [] (aI eF (eO s_0.ls))
def Zcg.B:Code:=Tryz.f23.body.getD .skip
def Zcg.rs (r:Int):List CV:=[oI r]
def Zcg (N:Nat) (s_0:ZaQ):Option Int:=
 Zbs (ZbY N s_0) fun x1=>
 if (x1==0)=true then
  some (-1)
 else
 chk (0<(len s_0.list))<|
 ZcI (s_0.list[0]?) ZcQ fun x2=>
 some x2
theorem Zcg.snd {s_0:ZaQ} {r:Int} (h:Zcg N s_0=some r):Zdh zF 23 [.one (xN 2 s_0.ls)] (Zcg.rs r):=fun st=>
 sO Zcg.B Tryz.func23 fun g0 w0 R hE=>by
  unfold Zcg at h
  obtain ⟨x1,c1,h1⟩:=Zae h
  let o1:List PS:=[.r [],.r [(1,q0 [oI x1])]]
  refine Zbi h1 (fun c2 h2=>?_) (fun c2 h3=>?_)
  ·obtain rfl:=Zab h2
   exact af fol hE (o1 ++ [.c true,.r []]) [] 0 [] (aI (ZbY.snd c1) c2)
  ·obtain ⟨c3,h4⟩:=ZaU h3
   obtain ⟨x2,c4,h5⟩:=Zck h4
   obtain rfl:=Zab h5
   exact af fol hE (o1 ++ [.c false,.r [(3,{oe:=s_0.ls}),(5,{oe:=[zJ .i64 x2]})]]) [] 0 [] (aM (ZbY.snd c1) c2 (eO s_0.ls) (leI 0 0) c3 c4)
def ZcL.B:Code:=Tryz.f6.body.getD .skip
def ZcL.rs (r:Bool×LL):List CV:=[oB r.1]
def ZcL (N:Nat) (st:LL):Option (Bool×LL):=
 Zbs (ZdN N (Zaj.mk 545259519 4 10 0 false [] [] (zC 4 0) (zC 4 0) (Zap.mk 0 (zC 32 0) (zC 32 0) 0 0 0)) 5 st) fun (x1,x2,st3)=>
 if (x2 != 0)=true then
  some (false,st3)
 else
 Zbs (ZdY N x1 st3) fun (x4,st5)=>
 Zbs (ZaF N x4 [[zJ .i64 0],[zJ .i64 0],[zJ .i64 1]] st5) fun (x6,st7)=>
 if (x6==1)=true then
  Zbs x4 fun i8=>
  ZcI (st7[i8]?) Zbk fun x9 x10=>
  Zbs x9 fun i11=>
  ZcI (st7[i11]?) Zbk fun x12 x13=>
  Zbs x12 fun i14=>
  ZcI (st7[i14]?) ZaY fun x15=>
  Zbs (Zcg N (ZaQ.mk (Zao.mk x15 x13) x10)) fun x16=>
  if (x16==0)=true then
   Zbs (ZbY N (ZaQ.mk (Zao.mk x15 x13) x10)) fun x17=>
   some (x17==1,st7)
  else
  some (false,st7)
 else
 some (false,st7)
theorem ZcL.snd {st:LL} {r:Bool×LL} (h:ZcL N st=some r):Snd zF 6 [] st (ZcL.rs r) r.2:=
 sO ZcL.B Tryz.func6 fun g0 w0 R hE=>by
  unfold ZcL at h
  obtain ⟨⟨x1,x2,st3⟩,c1,h1⟩:=Zae h
  let o1:List PS:=[.r [],.r [(1,{rs:=[.one (yM x1),oI x2],st:=st3})],.r []]
  have t1 {Q:Prop} (q:Q):=aI (ZdN.snd c1) q
  refine Zbi h1 (fun c2 h2=>?_) (fun c2 h3=>?_)
  ·obtain rfl:=Zab h2
   exact af fol hE (o1 ++ [.c true,.r []]) [] 0 [] (t1 c2)
  ·obtain ⟨⟨x4,st5⟩,c3,h4⟩:=Zae h3
   obtain ⟨⟨x6,st7⟩,c4,h5⟩:=Zae h4
   have t2 {Q:Prop} (q:Q):=t1 (aM c2 (ZdY.snd c3) z0 (eN (3)) (ZaF.snd c4) q)
   refine Zbi h5 (fun c5 h6=>?_) (fun c5 h7=>?_)
   ·obtain ⟨i8,rfl,h8⟩:=Zae h6
    obtain ⟨x9,x10,c7,h9⟩:=ZaX h8
    obtain ⟨i11,rfl,h10⟩:=Zae h9
    obtain ⟨x12,x13,c9,h11⟩:=ZaX h10
    obtain ⟨i14,rfl,h12⟩:=Zae h11
    obtain ⟨x15,c11,h13⟩:=ZaP h12
    obtain ⟨x16,c12,h14⟩:=Zae h13
    let o2:List PS:=o1 ++ [.c false,.r [(1,{rs:=[.one (yM (some i8))],st:=st5})]]
    have t3 {Q:Prop} (q:Q):=t2 (aN c5 c5 (bO 2 c7 ((bC 2 c9 ((bC 87 c11 (Zau.bv x15) (bW bN)):BVs st7 [yM (some i14),yR true 1 x13] (Zao.ls (Zao.mk x15 x13))) (bW bN)):BVs st7 [yM (some i11),yR true 1 x10] (ZaQ.ls (ZaQ.mk (Zao.mk x15 x13) x10)))) (Zcg.snd c12) c5 c5 q)
    refine Zbi h14 (fun c13 h15=>?_) (fun c13 h16=>?_)
    ·obtain ⟨x17,c14,h17⟩:=Zae h15
     obtain rfl:=Zab h17
     exact af fol hE (o2 ++ [.r [(2,{rs:=[oI x6],st:=st7,fz:=[14]}),(6,{rs:=[oI x16],m:=10,cv:=[.one (xN 2 (ZaQ.ls (ZaQ.mk (Zao.mk x15 x13) x10)))]}),(11,{rs:=[oI x17],m:=10,cv:=[.one (xN 2 (ZaQ.ls (ZaQ.mk (Zao.mk x15 x13) x10)))]})]]) [] 0 [] (t3 (aM c13 c13 (bO 2 c7 ((bC 2 c9 ((bC 87 c11 (Zau.bv x15) (bW bN)):BVs st7 [yM (some i14),yR true 1 x13] (Zao.ls (Zao.mk x15 x13))) (bW bN)):BVs st7 [yM (some i11),yR true 1 x10] (ZaQ.ls (ZaQ.mk (Zao.mk x15 x13) x10)))) (ZbY.snd c14) c13 c13))
    ·obtain rfl:=Zab h16
     exact af fol hE (o2 ++ [.r [(2,{rs:=[oI x6],st:=st7,fz:=[14]}),(6,{rs:=[oI x16],m:=10,cv:=[.one (xN 2 (ZaQ.ls (ZaQ.mk (Zao.mk x15 x13) x10)))]}),(10,wF),(11,wF),(12,wF),(13,yF)]]) [] 0 [] (t3 (aK c13 c13 c13 c13))
   ·obtain rfl:=Zab h7
    exact af fol hE (o1 ++ [.c false,.r [(1,{rs:=[.one (yM x4)],st:=st5})],.r [(2,{rs:=[oI x6],st:=st7,fz:=[14]}),(5,wF),(6,wF),(7,wF),(8,yF),(10,wF),(11,wF),(12,wF),(13,yF)]]) [] 0 [] (t2 (aO c5 c5 c5 c5 eF eF eF eF))
def Zam.B:Code:=Tryz.f97.body.getD .skip
def Zam.rs (r:(List Int)):List CV:=[.agg [zM .u64 4 r]]
def Zam.p4 (N:Nat) (c3_:(Int×(List Int))→Option (List Int)) (n_13 i_19:Int) (a_18 out_22:List Int):Option (List Int):=
 c3_ (w64 (i_19+1),out_22)
def Zam.p3 (N:Nat) (n_13:Int) (a_18:List Int) (c3_:(Int×(List Int))→Option (List Int)):(Int×(List Int))→Option (List Int):=fun (i_19,out_21)=>
 if (decide (i_19<4))=true then
  if (decide (n_13>0))=true then
   chk (0≤i_19)<|
   chk (0≤(v64 (n_13)))<|
   if (decide (i_19>0))=true then
    chk (0≤(w64 (i_19-1)))<|
    chk ((w64 (i_19-1))<4)<|
    chk (0≤(v64 (w64 (64-n_13))))<|
    Zam.p4 N c3_ n_13 i_19 a_18 (zS (zS out_21 (zE i_19) (Zbf .u64 (zG a_18 (zE i_19) 0) (v64 (n_13)))) (zE i_19) (v64 ((zG (zS out_21 (zE i_19) (Zbf .u64 (zG a_18 (zE i_19) 0) (v64 (n_13)))) (zE i_19) 0)+(ZaR .u64 (zG a_18 (zE (w64 (i_19-1))) 0) (v64 (w64 (64-n_13)))))))
   else
   Zam.p4 N c3_ n_13 i_19 a_18 (zS out_21 (zE i_19) (Zbf .u64 (zG a_18 (zE i_19) 0) (v64 (n_13))))
  else
  chk (0≤i_19)<|
  chk (0≤(v64 (w64 (0-n_13))))<|
  if (decide (i_19<3))=true then
   chk (0≤(w64 (i_19+1)))<|
   chk ((w64 (i_19+1))<4)<|
   chk (0≤(v64 (w64 (64+n_13))))<|
   Zam.p4 N c3_ n_13 i_19 a_18 (zS (zS out_21 (zE i_19) (ZaR .u64 (zG a_18 (zE i_19) 0) (v64 (w64 (0-n_13))))) (zE i_19) (v64 ((zG (zS out_21 (zE i_19) (ZaR .u64 (zG a_18 (zE i_19) 0) (v64 (w64 (0-n_13))))) (zE i_19) 0)+(Zbf .u64 (zG a_18 (zE (w64 (i_19+1))) 0) (v64 (w64 (64+n_13)))))))
  else
  Zam.p4 N c3_ n_13 i_19 a_18 (zS out_21 (zE i_19) (ZaR .u64 (zG a_18 (zE i_19) 0) (v64 (w64 (0-n_13)))))
 else
 some out_21
def Zam.p2 (N:Nat) (c2_:(Int×(List Int))→Option (List Int)):(Int×(List Int))→Option (List Int):=fun (n_13,a_18)=>
 if (decide (n_13≤(-64)))=true then
  c2_ (w64 (n_13+64),[zG a_18 1 0,zG a_18 2 0,zG a_18 3 0,0])
 else
 if (n_13==0)=true then
  some a_18
 else
 loopN (Zam.p3 N n_13 a_18) N (0,zC 4 0)
def Zam.p1 (N:Nat) (c1_:(Int×(List Int))→Option (List Int)):(Int×(List Int))→Option (List Int):=fun (n_1,a_12)=>
 if (decide (n_1≥64))=true then
  c1_ (w64 (n_1-64),[0,zG a_12 0 0,zG a_12 1 0,zG a_12 2 0])
 else
 loopN (Zam.p2 N) N (n_1,a_12)
def Zam (N:Nat) (a_0_0:List Int) (n_1:Int):Option (List Int):=
 if (decide (n_1≤(-256)))=true then
  some (zC 4 0)
 else
 if (decide (n_1≥256))=true then
  some (zC 4 0)
 else
 loopN (Zam.p1 N) N (n_1,a_0_0)
def Zam.p4.S (n_13 i_19:Int) (a_18 out_22:List Int) (st:LL):S:=mkS 96 [(1,sI n_13),(2,sA 2),(4,sA 4),(5,sA 5),(6,sI i_19)] [(2,.cells [zM .u64 4 a_18]),(4,.cells [zM .u64 4 (zC 4 0)]),(5,.cells [zM .u64 4 out_22])] st
def Zam.p3.S (n_13 i_19:Int) (a_18 out_21:List Int) (st:LL):S:=mkS 96 [(1,sI n_13),(2,sA 2),(4,sA 4),(5,sA 5),(6,sI i_19)] [(2,.cells [zM .u64 4 a_18]),(4,.cells [zM .u64 4 (zC 4 0)]),(5,.cells [zM .u64 4 out_21])] st
def Zam.p2.S (n_13:Int) (a_18:List Int) (st:LL):S:=mkS 96 [(1,sI n_13),(2,sA 2),(4,sA 4),(5,sA 5)] [(2,.cells [zM .u64 4 a_18]),(4,.cells [zM .u64 4 (zC 4 0)]),(5,.cells [zM .u64 4 (zC 4 0)])] st
def Zam.p1.S (n_1:Int) (a_12:List Int) (st:LL):S:=mkS 96 [(1,sI n_1),(2,sA 2),(4,sA 4),(5,sA 5)] [(2,.cells [zM .u64 4 a_12]),(4,.cells [zM .u64 4 (zC 4 0)]),(5,.cells [zM .u64 4 (zC 4 0)])] st
theorem Zam.p4_ok {n_13 i_19 a_18 out_22 st r c3_ J3} (h:Zam.p4 N c3_ n_13 i_19 a_18 out_22=some r) (hE:En Tryz.f97 g0 w0 (Zam.rs r) st R) (hc3 : ∀i_19 out_21,c3_ (i_19,out_21)=some r→At g0 w0 (Zam.p3.S n_13 i_19 a_18 out_21 st) J3):At g0 w0 (Zam.p4.S n_13 i_19 a_18 out_22 st) (XK zF R [.c (Zcb Zam.B [1,1,1,1,1,1,0,1,0,0,1,1]),.h J3,.b 4,.c (Zcb Zam.B [1,1,1,1,1,1,1])]):=by
 unfold Zam.p4 at h
 exact an fol [.r []] [1,2,4,5,6] [2,4,5] trivial (hc3 (w64 (i_19+1)) out_22 h)
theorem Zam.p3_ok {n_13 i_19 a_18 out_21 st r c3_ J3} (h:Zam.p3 N n_13 a_18 c3_ (i_19,out_21)=some r) (hE:En Tryz.f97 g0 w0 (Zam.rs r) st R) (hc3 : ∀i_19 out_21,c3_ (i_19,out_21)=some r→At g0 w0 (Zam.p3.S n_13 i_19 a_18 out_21 st) J3):At g0 w0 (Zam.p3.S n_13 i_19 a_18 out_21 st) (XK zF R (.c (Zcb Zam.B [1,1,1,1,1,1,0,1,0,0]) :: .h J3 :: [.b 4,.c (Zcb Zam.B [1,1,1,1,1,1,1])])):=by
 unfold Zam.p3 at h
 refine Zbi h (fun c111 h1=>?_) (fun c111 h2=>?_)
 ·let o1:List PS:=[.r [],.c true,.r []]
  refine Zbi h1 (fun c112 h3=>?_) (fun c112 h4=>?_)
  ·obtain ⟨c113,c114,h5⟩:=ck2 h3
   have t1 {Q:Prop} (q:Q):=aO c111 c112 c113 (oD c111) c114 c113 (oD c111) q
   refine Zbi h5 (fun c115 h6=>?_) (fun c115 h7=>?_)
   ·obtain ⟨c116,c117,c118,h8⟩:=ck3 h6
    exact aqd fol (o1 ++ [.c true,.r [],.r [],.c true,.d {ds:=[],hv:=16384,Hs:=[16384]},.s 4]) [1,2,4,5,6] [2,4,5] (t1 (aO c115 c113 (oD c111) c116 c117 c118 c113 (oD c111))) (Zam.p4_ok h8 hE hc3)
   ·exact aq fol (o1 ++ [.c true,.r [],.r [],.c false,.s 4]) [1,2,4,5,6] [2,4,5] (t1 c115) (Zam.p4_ok h7 hE hc3)
  ·obtain ⟨c119,c120,h9⟩:=ck2 h4
   have t2 {Q:Prop} (q:Q):=aO c111 c112 c119 (oD c111) c120 c119 (oD c111) q
   refine Zbi h9 (fun c121 h10=>?_) (fun c121 h11=>?_)
   ·obtain ⟨c122,c123,c124,h12⟩:=ck3 h10
    exact aqd fol (o1 ++ [.c false,.r [],.r [],.c true,.d {ds:=[],hv:=16384,Hs:=[16384]},.s 4]) [1,2,4,5,6] [2,4,5] (t2 (aO c121 c119 (oD c111) c122 c123 c124 c119 (oD c111))) (Zam.p4_ok h12 hE hc3)
   ·exact aq fol (o1 ++ [.c false,.r [],.r [],.c false,.s 4]) [1,2,4,5,6] [2,4,5] (t2 c121) (Zam.p4_ok h11 hE hc3)
 ·obtain rfl:=Zab h2
  exact af fol hE [.r [],.c false,.r []] [] 0 [] c111
theorem Zam.p2_ok {n_13 a_18 st r c2_ J2} (h:Zam.p2 N c2_ (n_13,a_18)=some r) (hE:En Tryz.f97 g0 w0 (Zam.rs r) st R) (hc2 : ∀n_13 a_18,c2_ (n_13,a_18)=some r→At g0 w0 (Zam.p2.S n_13 a_18 st) J2):At g0 w0 (Zam.p2.S n_13 a_18 st) (XK zF R (.c (Zcb Zam.B [1,1,1,1,0,0,0]) :: .h J2 :: [.b 2,.c (Zcb Zam.B [1,1,1,1,1])])):=by
 unfold Zam.p2 at h
 refine Zbi h (fun c95 h13=>?_) (fun c95 h14=>?_)
 ·exact an fol [.r [],.c true,.r [(6,{m:=3})],.r []] [1,2,4,5] [2,4,5] (aI c95 (ix 1 4 (ix 2 4 (aI (leI 0 3) (ltI 3 4))))) (hc2 (w64 (n_13+64)) [zG a_18 1 0,zG a_18 2 0,zG a_18 3 0,0] h13)
 ·refine Zbi h14 (fun c96 h15=>?_) (fun c96 h16=>?_)
  ·obtain rfl:=Zab h15
   exact af fol hE [.r [],.c false,.r [],.c true,.r []] [] 0 [] (aI c95 c96)
  ·exact aq fol [.r [],.c false,.r [],.c false,.r []] [1,2,4,5,6] [2,4,5] (aI c95 c96) (At.loop N (At.loopN (fun y:Int×(List Int)=>Zam.p3.S n_13 y.1 a_18 y.2 st) (fun c J hc y h=>Zam.p3_ok (i_19:=y.1) (out_21:=y.2) h hE (fun i_19 out_21=>hc (i_19,out_21))) N (0,zC 4 0) h16))
theorem Zam.p1_ok {n_1 a_12 st r c1_ J1} (h:Zam.p1 N c1_ (n_1,a_12)=some r) (hE:En Tryz.f97 g0 w0 (Zam.rs r) st R) (hc1 : ∀n_1 a_12,c1_ (n_1,a_12)=some r→At g0 w0 (Zam.p1.S n_1 a_12 st) J1):At g0 w0 (Zam.p1.S n_1 a_12 st) (XK zF R (.c (Zcb Zam.B [1,1,1,0,0,0]) :: .h J1 :: [.b 0,.c (Zcb Zam.B [1,1,1,1])])):=by
 unfold Zam.p1 at h
 refine Zbi h (fun c64 h17=>?_) (fun c64 h18=>?_)
 ·exact an fol [.r [],.c true,.r [(6,{m:=3})],.r []] [1,2,4,5] [2,4,5] (aI c64 (ix 0 4 (ix 1 4 (aI (leI 0 2) (ltI 2 4))))) (hc1 (w64 (n_1-64)) [0,zG a_12 0 0,zG a_12 1 0,zG a_12 2 0] h17)
 ·exact aq fol [.r [],.c false] [1,2,4,5] [2,4,5] c64 (At.loop N (At.loopN (fun y:Int×(List Int)=>Zam.p2.S y.1 y.2 st) (fun c J hc y h=>Zam.p2_ok (n_13:=y.1) (a_18:=y.2) h hE (fun n_13 a_18=>hc (n_13,a_18))) N (n_1,a_12) h18))
theorem Zam.snd {a_0_0:List Int} {n_1:Int} {r:(List Int)} (h:Zam N a_0_0 n_1=some r):Zdh zF 97 [.agg [zM .u64 4 a_0_0],oI n_1] (Zam.rs r):=fun st=>
 sO Zam.B Tryz.func97 fun g0 w0 R hE=>by
  unfold Zam at h
  refine Zbi h (fun c1 h19=>?_) (fun c1 h20=>?_)
  ·obtain rfl:=Zab h19
   exact af fol hE [.r [],.r [],.r [(3,wF),(4,wF)],.c true,.r []] [] 0 [] (aK c1 c1 c1 eT)
  ·let o2:List PS:=[.r [],.r [],.r [(5,yF)]]
   refine Zbi h20 (fun c2 h21=>?_) (fun c2 h22=>?_)
   ·obtain rfl:=Zab h21
    exact af fol hE (o2 ++ [.c true,.r []]) [] 0 [] (aK c1 c1 c1 c2)
   ·exact aq fol (o2 ++ [.c false]) [1,2,4,5] [2,4,5] (aK c1 c1 c1 c2) (At.loop N (At.loopN (fun y:Int×(List Int)=>Zam.p1.S y.1 y.2 st) (fun c J hc y h=>Zam.p1_ok (n_1:=y.1) (a_12:=y.2) h hE (fun n_1 a_12=>hc (n_1,a_12))) N (n_1,a_0_0) h22))
def ZaD.B:Code:=Tryz.f68.body.getD .skip
def ZaD.rs (r:(List Int)×Bool×Bool):List CV:=[.agg [zM .u64 4 r.1],oB r.2.1,oB r.2.2]
def ZaD.p1 (N:Nat) (bits_0:Int) (over_2:Bool) (x1:List Int):Option ((List Int)×Bool×Bool):=
 if (decide ((yK bits_0 8388608)>0))=true then
  some (x1,(yK (w64 (zY bits_0 8388608)) 2)==1,over_2)
 else
 some (x1,false,over_2)
def ZaD (N:Nat) (bits_0:Int):Option ((List Int)×Bool×Bool):=
 if (decide (bits_0<0))=true then
  some (zC 4 0,false,false)
 else
 if (decide (bits_0>4294967295))=true then
  some (zC 4 0,false,false)
 else
 Zbs (Zam N [v64 (yK bits_0 8388608),0,0,0] (w64 (8*(w64 ((w64 (zY bits_0 16777216))-3))))) fun x1=>
 if (decide ((yK bits_0 8388608)>0))=true then
  if (decide ((w64 (zY bits_0 16777216))>34))=true then
   ZaD.p1 N bits_0 true x1
  else
  if (decide ((yK bits_0 8388608)>255))=true then
   if (decide ((w64 (zY bits_0 16777216))>33))=true then
    ZaD.p1 N bits_0 true x1
   else
   if (decide ((yK bits_0 8388608)>65535))=true then
    ZaD.p1 N bits_0 (decide ((w64 (zY bits_0 16777216))>32)) x1
   else
   ZaD.p1 N bits_0 false x1
  else
  if (decide ((yK bits_0 8388608)>65535))=true then
   ZaD.p1 N bits_0 (decide ((w64 (zY bits_0 16777216))>32)) x1
  else
  ZaD.p1 N bits_0 false x1
 else
 if (decide ((yK bits_0 8388608)>255))=true then
  if (decide ((w64 (zY bits_0 16777216))>33))=true then
   ZaD.p1 N bits_0 true x1
  else
  if (decide ((yK bits_0 8388608)>65535))=true then
   ZaD.p1 N bits_0 (decide ((w64 (zY bits_0 16777216))>32)) x1
  else
  ZaD.p1 N bits_0 false x1
 else
 if (decide ((yK bits_0 8388608)>65535))=true then
  ZaD.p1 N bits_0 (decide ((w64 (zY bits_0 16777216))>32)) x1
 else
 ZaD.p1 N bits_0 false x1
def ZaD.p1.S (bits_0:Int) (over_2:Bool) (x1:List Int) (st:LL):S:=mkS 61 [(2,sA 2),(6,sI (yK bits_0 8388608)),(7,.one (.l (tT ((yK (w64 (zY bits_0 8388608)) 2)==1)))),(8,sA 8),(9,.one (.l (tT over_2)))] [(2,.cells [zM .u64 4 (zC 4 0)]),(8,.cells [zM .u64 4 x1])] st
theorem ZaD.p1_ok {bits_0 over_2 x1 st r} (h:ZaD.p1 N bits_0 over_2 x1=some r) (hE:En Tryz.f68 g0 w0 (ZaD.rs r) st R):At g0 w0 (ZaD.p1.S bits_0 over_2 x1 st) (XK zF R [.c (Zcb ZaD.B [1,1,1,1,1,1,1])]):=by
 unfold ZaD.p1 at h
 refine Zbi h (fun c14 h1=>?_) (fun c14 h2=>?_)
 ·obtain rfl:=Zab h1
  exact af fol hE [.r []] [] 0 [] (aI c14 c14)
 ·obtain rfl:=Zab h2
  exact af fol hE [.r [(4,wF),(5,yF)]] [] 0 [] (aI c14 c14)
theorem ZaD.snd {bits_0:Int} {r:(List Int)×Bool×Bool} (h:ZaD N bits_0=some r):Zdh zF 68 [oI bits_0] (ZaD.rs r):=fun st=>
 sO ZaD.B Tryz.func68 fun g0 w0 R hE=>by
  unfold ZaD at h
  refine Zbi h (fun c1 h3=>?_) (fun c1 h4=>?_)
  ·obtain rfl:=Zab h3
   exact af fol hE [.r [],.r [(3,wF),(4,wF)],.c true,.r []] [] 0 [] (aK c1 c1 c1 eT)
  ·let o1:List PS:=[.r [],.r [(5,yF)]]
   have t1 {Q:Prop} (q:Q):=aK c1 c1 c1 q
   refine Zbi h4 (fun c2 h5=>?_) (fun c2 h6=>?_)
   ·obtain rfl:=Zab h5
    exact af fol hE (o1 ++ [.c true,.r []]) [] 0 [] (t1 c2)
   ·obtain ⟨x1,c3,h7⟩:=Zae h6
    let o2:List PS:=o1 ++ [.c false,.r [],.r [],.r [],.r [(2,{m:=3}),(6,q1 [.agg [zM .u64 4 x1]])]]
    have t2 {Q:Prop} (q:Q):=t1 (aN c2 (neI 16777216) (neI 8388608) (neI 8388608) (neI 2) (Zam.snd c3) q)
    refine Zbi h7 (fun c4 h8=>?_) (fun c4 h9=>?_)
    ·have t3 {Q:Prop} (q:Q):=t2 (aK c4 c4 c4 q)
     refine Zbi h8 (fun c5 h10=>?_) (fun c5 h11=>?_)
     ·exact aq fol (o2 ++ [.r [(7,wF),(8,wF),(9,wF),(12,wF),(15,wF),(16,wF),(17,wF),(20,wF)],.s 1]) [2,6,7,8,9] [2,8] (t3 (aO c5 c5 c5 c5 c5 eT eT (aJ eT eT eT))) (ZaD.p1_ok h10 hE)
     ·have t4 {Q:Prop} (q:Q):=t3 (aK c5 c5 c5 q)
      refine Zbi h11 (fun c6 h12=>?_) (fun c6 h13=>?_)
      ·refine Zbi h12 (fun c7 h14=>?_) (fun c7 h15=>?_)
       ·exact aq fol (o2 ++ [.r [(13,yF),(15,wF),(16,wF),(17,wF),(20,wF)],.s 1]) [2,6,7,8,9] [2,8] (t4 (aO c6 c6 c5 c6 c5 c7 c7 (aJ c7 c7 c7))) (ZaD.p1_ok h14 hE)
       ·refine Zbi h15 (fun c8 h16=>?_) (fun c8 h17=>?_)
        ·exact aq fol (o2 ++ [.r [(13,yF),(21,yF)],.s 1]) [2,6,7,8,9] [2,8] (t4 (aO c6 c6 c5 c6 c5 c7 c7 (aM c7 c8 c8 c7 c8 c7))) (ZaD.p1_ok h16 hE)
        ·exact aq fol (o2 ++ [.r [(13,yF),(18,wF),(19,wF),(20,yF),(21,yF)],.s 1]) [2,6,7,8,9] [2,8] (t4 (aO c6 c6 c5 c6 c5 c7 c7 (aM c7 c8 c8 c7 c8 c7))) (ZaD.p1_ok h17 hE)
      ·have t5 {Q:Prop} (q:Q):=t4 (aO c6 c6 c5 c6 c5 eF eF (aI eF q))
       refine Zbi h13 (fun c9 h18=>?_) (fun c9 h19=>?_)
       ·exact aq fol (o2 ++ [.r [(10,wF),(11,wF),(12,yF),(13,yF),(21,yF)],.s 1]) [2,6,7,8,9] [2,8] (t5 (aL c9 c9 eF c9 eF)) (ZaD.p1_ok h18 hE)
       ·exact aq fol (o2 ++ [.r [(10,wF),(11,wF),(12,yF),(13,yF),(18,wF),(19,wF),(20,yF),(21,yF)],.s 1]) [2,6,7,8,9] [2,8] (t5 (aL c9 c9 eF c9 eF)) (ZaD.p1_ok h19 hE)
    ·have t6 {Q:Prop} (q:Q):=t2 (aN c4 c4 c4 eF eF eF q)
     refine Zbi h9 (fun c10 h20=>?_) (fun c10 h21=>?_)
     ·have t7 {Q:Prop} (q:Q):=t6 (aM c10 c10 eF c10 eF q)
      refine Zbi h20 (fun c11 h22=>?_) (fun c11 h23=>?_)
      ·exact aq fol (o2 ++ [.r [(3,wF),(4,wF),(5,yF),(13,yF),(15,wF),(16,wF),(17,wF),(20,wF)],.s 1]) [2,6,7,8,9] [2,8] (t7 (aL c11 c11 c11 c11 c11)) (ZaD.p1_ok h22 hE)
      ·refine Zbi h23 (fun c12 h24=>?_) (fun c12 h25=>?_)
       ·exact aq fol (o2 ++ [.r [(3,wF),(4,wF),(5,yF),(13,yF),(21,yF)],.s 1]) [2,6,7,8,9] [2,8] (t7 (aO c11 c11 c11 c12 c12 c11 c12 c11)) (ZaD.p1_ok h24 hE)
       ·exact aq fol (o2 ++ [.r [(3,wF),(4,wF),(5,yF),(13,yF),(18,wF),(19,wF),(20,yF),(21,yF)],.s 1]) [2,6,7,8,9] [2,8] (t7 (aO c11 c11 c11 c12 c12 c11 c12 c11)) (ZaD.p1_ok h25 hE)
     ·have t8 {Q:Prop} (q:Q):=t6 (aO c10 c10 eF c10 eF eF eF (aI eF q))
      refine Zbi h21 (fun c13 h26=>?_) (fun c13 h27=>?_)
      ·exact aq fol (o2 ++ [.r [(3,wF),(4,wF),(5,yF),(10,wF),(11,wF),(12,yF),(13,yF),(21,yF)],.s 1]) [2,6,7,8,9] [2,8] (t8 (aL c13 c13 eF c13 eF)) (ZaD.p1_ok h26 hE)
      ·exact aq fol (o2 ++ [.r [(3,wF),(4,wF),(5,yF),(10,wF),(11,wF),(12,yF),(13,yF),(18,wF),(19,wF),(20,yF),(21,yF)],.s 1]) [2,6,7,8,9] [2,8] (t8 (aL c13 c13 eF c13 eF)) (ZaD.p1_ok h27 hE)
def ZcH.B:Code:=Tryz.f76.body.getD .skip
def ZcH.rs (r:Int):List CV:=[oI r]
def ZcH (N:Nat) (a_0_0:List Int) (i_1:Int):Option Int:=
 if (decide (i_1<0))=true then
  some 0
 else
 if (decide (i_1>255))=true then
  some 0
 else
 chk (0≤(w64 (zY i_1 64)))<|
 chk ((w64 (zY i_1 64))<4)<|
 chk (0≤(v64 (yK i_1 64)))<|
 some (w64 (yK (ZaR .u64 (zG a_0_0 (zE (w64 (zY i_1 64))) 0) (v64 (yK i_1 64))) 2))
theorem ZcH.snd {a_0_0:List Int} {i_1:Int} {r:Int} (h:ZcH N a_0_0 i_1=some r):Zdh zF 76 [.agg [zM .u64 4 a_0_0],oI i_1] (ZcH.rs r):=fun st=>
 sO ZcH.B Tryz.func76 fun g0 w0 R hE=>by
  unfold ZcH at h
  refine Zbi h (fun c1 h1=>?_) (fun c1 h2=>?_)
  ·obtain rfl:=Zab h1
   exact af fol hE [.r [],.r [(3,wF),(4,wF)],.c true,.r []] [] 0 [] (aK c1 c1 c1 eT)
  ·refine Zbi h2 (fun c2 h3=>?_) (fun c2 h4=>?_)
   ·obtain rfl:=Zab h3
    exact af fol hE [.r [],.r [(5,yF)],.c true,.r []] [] 0 [] (aK c1 c1 c1 c2)
   ·obtain ⟨c3,c4,c5,h5⟩:=ck3 h4
    obtain rfl:=Zab h5
    exact af fol hE [.r [],.r [(5,yF)],.c false,.r []] [] 0 [] (aO c1 c1 c1 c2 (neI 64) c3 c4 (aJ (neI 64) c5 (neI 2)))
def ZbD.B:Code:=Tryz.f47.body.getD .skip
def ZbD.rs (r:Bool):List CV:=[oB r]
def ZbD.p1 (N:Nat) (a_0_0 b_1_0:List Int) (c1_:Int→Option Bool):Int→Option Bool:=fun i_1=>
 if (decide (i_1≥0))=true then
  Zbs (ZcH N a_0_0 i_1) fun x2=>
  Zbs (ZcH N b_1_0 i_1) fun x3=>
  if (x2 != x3)=true then
   some (decide (x2<x3))
  else
  c1_ (w64 (i_1-1))
 else
 some false
def ZbD (N:Nat) (a_0_0 b_1_0:List Int):Option Bool:=
 loopN (ZbD.p1 N a_0_0 b_1_0) N 255
def ZbD.p1.S (i_1:Int) (a_0_0 b_1_0:List Int) (st:LL):S:=mkS 24 [(2,sA 2),(3,sA 3),(5,sI i_1)] [(2,.cells [zM .u64 4 a_0_0]),(3,.cells [zM .u64 4 b_1_0])] st
theorem ZbD.p1_ok {i_1 a_0_0 b_1_0 st r c1_ J1} (h:ZbD.p1 N a_0_0 b_1_0 c1_ i_1=some r) (hE:En Tryz.f47 g0 w0 (ZbD.rs r) st R) (hc1 : ∀i_1,c1_ i_1=some r→At g0 w0 (ZbD.p1.S i_1 a_0_0 b_1_0 st) J1):At g0 w0 (ZbD.p1.S i_1 a_0_0 b_1_0 st) (XK zF R (.c (Zcb ZbD.B [1,0,1,0,0]) :: .h J1 :: [.b 0,.c (Zcb ZbD.B [1,1])])):=by
 unfold ZbD.p1 at h
 refine Zbi h (fun c1 h1=>?_) (fun c1 h2=>?_)
 ·obtain ⟨x2,c2,h3⟩:=Zae h1
  obtain ⟨x3,c3,h4⟩:=Zae h3
  let o1:List PS:=[.r [],.c true,.d {ds:=[(2,q1 [oI x2]),(5,q1 [oI x3])],hv:=0,Hs:=[]}]
  have t1 {Q:Prop} (q:Q):=aK c1 (ZcH.snd c2) (ZcH.snd c3) q
  refine Zbi h4 (fun c4 h5=>?_) (fun c4 h6=>?_)
  ·obtain rfl:=Zab h5
   exact afd fol hE (o1 ++ [.c true,.d {ds:=[(2,q1 [oI x2]),(5,q1 [oI x3])],hv:=0,Hs:=[]}]) [] 0 [] (t1 (aJ c4 (ZcH.snd c2) (ZcH.snd c3)))
  ·exact ZkT fol (o1 ++ [.c false,.r []]) [2,3,5] [2,3] (t1 c4) (hc1 (w64 (i_1-1)) h6)
 ·obtain rfl:=Zab h2
  exact af fol hE [.r [],.c false,.r []] [] 0 [] c1
theorem ZbD.snd {a_0_0 b_1_0:List Int} {r:Bool} (h:ZbD N a_0_0 b_1_0=some r):Zdh zF 47 [.agg [zM .u64 4 a_0_0],.agg [zM .u64 4 b_1_0]] (ZbD.rs r):=fun st=>
 sO ZbD.B Tryz.func47 fun g0 w0 R hE=>by
  unfold ZbD at h
  exact aq fol [.r [],.r []] [2,3,5] [2,3] trivial (At.loop N (At.loopN (fun y:Int=>ZbD.p1.S y a_0_0 b_1_0 st) (fun c J hc y h=>ZbD.p1_ok h hE (fun i_1=>hc i_1)) N 255 h))
def Zcz.B:Code:=Tryz.f77.body.getD .skip
def Zcz.rs (r:(List Int)×Bool):List CV:=[.agg [zM .u64 4 r.1],oB r.2]
def Zcz (N:Nat) (bits_0 limit_1:Int):Option ((List Int)×Bool):=
 Zbs (ZaD N bits_0) fun (x1,x2,x3)=>
 Zbs (ZaD N limit_1) fun (x4,x5,x6)=>
 if x2=true then
  some (zC 4 0,false)
 else
 if x3=true then
  some (zC 4 0,false)
 else
 if x5=true then
  some (zC 4 0,false)
 else
 if x6=true then
  some (zC 4 0,false)
 else
 if (x1==(zC 4 0))=true then
  some (zC 4 0,false)
 else
 Zbs (ZbD N x4 x1) fun x7=>
 if x7=true then
  some (zC 4 0,false)
 else
 some (x1,true)
theorem Zcz.snd {bits_0 limit_1:Int} {r:(List Int)×Bool} (h:Zcz N bits_0 limit_1=some r):Zdh zF 77 [oI bits_0,oI limit_1] (Zcz.rs r):=fun st=>
 sO Zcz.B Tryz.func77 fun g0 w0 R hE=>by
  unfold Zcz at h
  obtain ⟨⟨x1,x2,x3⟩,c1,h1⟩:=Zae h
  obtain ⟨⟨x4,x5,x6⟩,c2,h2⟩:=Zae h1
  let o1:List PS:=[.r [],.r [(1,q1 [.agg [zM .u64 4 x1],oB x2,oB x3])],.r [(1,q1 [.agg [zM .u64 4 x4],oB x5,oB x6])]]
  have t1 {Q:Prop} (q:Q):=aJ (ZaD.snd c1) (ZaD.snd c2) q
  refine Zbi h2 (fun c3 h3=>?_) (fun c3 h4=>?_)
  ·obtain rfl:=Zab h3
   exact af fol hE (o1 ++ [.r [(2,wF),(5,wF),(8,wF),(11,wF),(12,wF),(13,wF),(16,wF),(17,wF),(18,wF)],.c true,.r []]) [] 0 [] (t1 (aO c3 c3 eT eT eT eT eT (aO eT eT eT eT eT eT eT eT)))
  ·refine Zbi h4 (fun c4 h5=>?_) (fun c4 h6=>?_)
   ·obtain rfl:=Zab h5
    exact af fol hE (o1 ++ [.r [(3,yF),(5,wF),(8,wF),(11,wF),(12,wF),(13,wF),(16,wF),(17,wF),(18,wF)],.c true,.r []]) [] 0 [] (t1 (aO c3 c3 c4 c4 eT eT eT (aO eT eT eT eT eT eT eT eT)))
   ·have t2 {Q:Prop} (q:Q):=t1 (aL c3 c3 c4 c4 q)
    refine Zbi h6 (fun c5 h7=>?_) (fun c5 h8=>?_)
    ·obtain rfl:=Zab h7
     exact af fol hE (o1 ++ [.r [(3,yF),(6,yF),(8,wF),(11,wF),(12,wF),(13,wF),(16,wF),(17,wF),(18,wF)],.c true,.r []]) [] 0 [] (t2 (aO c5 c5 eT eT eT eT eT (aK eT eT eT eT)))
    ·refine Zbi h8 (fun c6 h9=>?_) (fun c6 h10=>?_)
     ·obtain rfl:=Zab h9
      exact af fol hE (o1 ++ [.r [(3,yF),(6,yF),(9,yF),(11,wF),(12,wF),(13,wF),(16,wF),(17,wF),(18,wF)],.c true,.r []]) [] 0 [] (t2 (aO c5 c5 c6 c6 c6 c6 eT (aK eT eT eT eT)))
     ·have t3 {Q:Prop} (q:Q):=t2 (aN c5 c5 c6 c6 c6 c6 q)
      refine Zbi h10 (fun c7 h11=>?_) (fun c7 h12=>?_)
      ·obtain rfl:=Zab h11
       exact af fol hE (o1 ++ [.r [(3,yF),(6,yF),(9,yF),(14,yF),(16,wF),(17,wF),(18,wF)],.c true,.r []]) [] 0 [] (t3 (aL c7 c7 c7 c7 eT))
      ·obtain ⟨x7,c8,h13⟩:=Zae h12
       let o2:List PS:=o1 ++ [.r [(3,yF),(6,yF),(9,yF),(14,yF),(18,q1 [oB x7]),(19,yF)]]
       refine Zbi h13 (fun c9 h14=>?_) (fun c9 h15=>?_)
       ·obtain rfl:=Zab h14
        exact af fol hE (o2 ++ [.c true,.r []]) [] 0 [] (t3 (aM c7 c7 c7 (ZbD.snd c8) c7 c9))
       ·obtain rfl:=Zab h15
        exact af fol hE (o2 ++ [.c false,.r []]) [] 0 [] (t3 (aM c7 c7 c7 (ZbD.snd c8) c7 c9))
def Zdc.B:Code:=Tryz.f48.body.getD .skip
def Zdc.rs (r:Bool):List CV:=[oB r]
def Zdc (N:Nat) (p_0:Zaj):Option Bool:=
 Zbs (Zcz N p_0.Limit p_0.Limit) fun (x1,x2)=>
 if x2=true then
  if (decide (p_0.Interval≥2))=true then
   if (decide (p_0.Interval≤64))=true then
    if (decide (p_0.Spacing≥1))=true then
     if (decide (p_0.Spacing≤10000))=true then
      if (decide (p_0.Future≥0))=true then
       some (decide (p_0.Future<4294967296))
      else
      some false
     else
     some false
    else
    some false
   else
   some false
  else
  some false
 else
 some false
theorem Zdc.snd {p_0:Zaj} {r:Bool} (h:Zdc N p_0=some r):Zdh zF 48 [.agg p_0.ls] (Zdc.rs r):=fun st=>
 sO Zdc.B Tryz.func48 fun g0 w0 R hE=>by
  unfold Zdc at h
  obtain ⟨⟨x1,x2⟩,c1,h1⟩:=Zae h
  let o1:List PS:=[.r [],.r [(4,q1 [.agg [zM .u64 4 x1],oB x2])]]
  have t1 {Q:Prop} (q:Q):=aI (Zcz.snd c1) q
  refine Zbi h1 (fun c2 h2=>?_) (fun c2 h3=>?_)
  ·have t2 {Q:Prop} (q:Q):=t1 (aL c2 c2 c2 c2 q)
   refine Zbi h2 (fun c3 h4=>?_) (fun c3 h5=>?_)
   ·have t3 {Q:Prop} (q:Q):=t2 (aL c3 c3 c3 c3 q)
    refine Zbi h4 (fun c4 h6=>?_) (fun c4 h7=>?_)
    ·have t4 {Q:Prop} (q:Q):=t3 (aL c4 c4 c4 c4 q)
     refine Zbi h6 (fun c5 h8=>?_) (fun c5 h9=>?_)
     ·refine Zbi h8 (fun c6 h10=>?_) (fun c6 h11=>?_)
      ·refine Zbi h10 (fun c7 h12=>?_) (fun c7 h13=>?_)
       ·obtain rfl:=Zab h12
        exact af fol hE (o1 ++ [.r []]) [] 0 [] (t4 (aO c5 c5 c5 c5 c6 c6 c6 (aL c6 c7 c7 c7 c7)))
       ·obtain rfl:=Zab h13
        exact af fol hE (o1 ++ [.r [(27,wF),(28,wF),(29,wF),(30,yF)]]) [] 0 [] (t4 (aO c5 c5 c5 c5 c6 c6 c6 (aL c6 c7 c7 c7 c7)))
      ·obtain rfl:=Zab h11
       exact af fol hE (o1 ++ [.r [(22,wF),(23,wF),(24,wF),(25,yF),(27,wF),(28,wF),(29,wF),(30,yF)]]) [] 0 [] (t4 (aO c5 c5 c5 c5 c6 c6 c6 (aL c6 eF eF eF eF)))
     ·obtain rfl:=Zab h9
      exact af fol hE (o1 ++ [.r [(17,wF),(18,wF),(19,wF),(20,yF),(22,wF),(23,wF),(24,wF),(25,yF),(27,wF),(28,wF),(29,wF),(30,yF)]]) [] 0 [] (t4 (aO c5 c5 c5 c5 eF eF eF (aL eF eF eF eF eF)))
    ·obtain rfl:=Zab h7
     exact af fol hE (o1 ++ [.r [(12,wF),(13,wF),(14,wF),(15,yF),(17,wF),(18,wF),(19,wF),(20,yF),(22,wF),(23,wF),(24,wF),(25,yF),(27,wF),(28,wF),(29,wF),(30,yF)]]) [] 0 [] (t3 (aO c4 c4 c4 c4 eF eF eF (aO eF eF eF eF eF eF eF (aI eF eF))))
   ·obtain rfl:=Zab h5
    exact af fol hE (o1 ++ [.r [(7,wF),(8,wF),(9,wF),(10,yF),(12,wF),(13,wF),(14,wF),(15,yF),(17,wF),(18,wF),(19,wF),(20,yF),(22,wF),(23,wF),(24,wF),(25,yF),(27,wF),(28,wF),(29,wF),(30,yF)]]) [] 0 [] (t2 (aO c3 c3 c3 c3 eF eF eF (aO eF eF eF eF eF eF eF (aM eF eF eF eF eF eF))))
  ·obtain rfl:=Zab h3
   exact af fol hE (o1 ++ [.r [(2,wF),(3,wF),(4,wF),(5,yF),(7,wF),(8,wF),(9,wF),(10,yF),(12,wF),(13,wF),(14,wF),(15,yF),(17,wF),(18,wF),(19,wF),(20,yF),(22,wF),(23,wF),(24,wF),(25,yF),(27,wF),(28,wF),(29,wF),(30,yF)]]) [] 0 [] (t1 (aO c2 c2 c2 c2 eF eF eF (aO eF eF eF eF eF eF eF (aO eF eF eF eF eF eF eF (aJ eF eF eF)))))
def Zdd.B:Code:=Tryz.f41.body.getD .skip
def Zdd.rs (r:Bool):List CV:=[oB r]
def Zdd (N:Nat) (h_0:Zap):Option Bool:=
 if (decide (h_0.Version≥(-2147483648)))=true then
  if (decide (h_0.Version≤2147483647))=true then
   if (decide (h_0.Time≥0))=true then
    if (decide (h_0.Time<4294967296))=true then
     if (decide (h_0.Bits≥0))=true then
      if (decide (h_0.Bits<4294967296))=true then
       if (decide (h_0.Nonce≥0))=true then
        some (decide (h_0.Nonce<4294967296))
       else
       some false
      else
      some false
     else
     some false
    else
    some false
   else
   some false
  else
  some false
 else
 some false
theorem Zdd.snd {h_0:Zap} {r:Bool} (h:Zdd N h_0=some r):Zdh zF 41 [.agg h_0.ls] (Zdd.rs r):=fun st=>
 sO Zdd.B Tryz.func41 fun g0 w0 R hE=>by
  unfold Zdd at h
  let o1:List PS:=[.r [],.r []]
  refine Zbi h (fun c1 h1=>?_) (fun c1 h2=>?_)
  ·have t1 {Q:Prop} (q:Q):=aL c1 c1 c1 c1 q
   refine Zbi h1 (fun c2 h3=>?_) (fun c2 h4=>?_)
   ·have t2 {Q:Prop} (q:Q):=t1 (aL c2 c2 c2 c2 q)
    refine Zbi h3 (fun c3 h5=>?_) (fun c3 h6=>?_)
    ·have t3 {Q:Prop} (q:Q):=t2 (aM c3 c3 c3 c3 c3 q)
     refine Zbi h5 (fun c4 h7=>?_) (fun c4 h8=>?_)
     ·have t4 {Q:Prop} (q:Q):=t3 (aL c4 c4 c4 c4 q)
      refine Zbi h7 (fun c5 h9=>?_) (fun c5 h10=>?_)
      ·refine Zbi h9 (fun c6 h11=>?_) (fun c6 h12=>?_)
       ·refine Zbi h11 (fun c7 h13=>?_) (fun c7 h14=>?_)
        ·obtain rfl:=Zab h13
         exact af fol hE (o1 ++ [.r []]) [] 0 [] (t4 (aO c5 c5 c5 c5 c5 c6 c6 (aN c6 c6 c7 c7 c7 c7 c7)))
        ·obtain rfl:=Zab h14
         exact af fol hE (o1 ++ [.r [(36,wF),(37,wF),(38,wF),(39,wF),(40,yF)]]) [] 0 [] (t4 (aO c5 c5 c5 c5 c5 c6 c6 (aN c6 c6 c7 c7 c7 c7 c7)))
       ·obtain rfl:=Zab h12
        exact af fol hE (o1 ++ [.r [(31,wF),(32,wF),(33,wF),(34,yF),(36,wF),(37,wF),(38,wF),(39,wF),(40,yF)]]) [] 0 [] (t4 (aO c5 c5 c5 c5 c5 c6 c6 (aN c6 c6 eF eF eF eF eF)))
      ·obtain rfl:=Zab h10
       exact af fol hE (o1 ++ [.r [(25,wF),(26,wF),(27,wF),(28,wF),(29,yF),(31,wF),(32,wF),(33,wF),(34,yF),(36,wF),(37,wF),(38,wF),(39,wF),(40,yF)]]) [] 0 [] (t4 (aO c5 c5 c5 c5 c5 eF eF (aN eF eF eF eF eF eF eF)))
     ·obtain rfl:=Zab h8
      exact af fol hE (o1 ++ [.r [(20,wF),(21,wF),(22,wF),(23,yF),(25,wF),(26,wF),(27,wF),(28,wF),(29,yF),(31,wF),(32,wF),(33,wF),(34,yF),(36,wF),(37,wF),(38,wF),(39,wF),(40,yF)]]) [] 0 [] (t3 (aO c4 c4 c4 c4 eF eF eF (aO eF eF eF eF eF eF eF (aK eF eF eF eF))))
    ·obtain rfl:=Zab h6
     exact af fol hE (o1 ++ [.r [(14,wF),(15,wF),(16,wF),(17,wF),(18,yF),(20,wF),(21,wF),(22,wF),(23,yF),(25,wF),(26,wF),(27,wF),(28,wF),(29,yF),(31,wF),(32,wF),(33,wF),(34,yF),(36,wF),(37,wF),(38,wF),(39,wF),(40,yF)]]) [] 0 [] (t2 (aO c3 c3 c3 c3 c3 eF eF (aO eF eF eF eF eF eF eF (aO eF eF eF eF eF eF eF (aI eF eF)))))
   ·obtain rfl:=Zab h4
    exact af fol hE (o1 ++ [.r [(9,wF),(10,wF),(11,wF),(12,yF),(14,wF),(15,wF),(16,wF),(17,wF),(18,yF),(20,wF),(21,wF),(22,wF),(23,yF),(25,wF),(26,wF),(27,wF),(28,wF),(29,yF),(31,wF),(32,wF),(33,wF),(34,yF),(36,wF),(37,wF),(38,wF),(39,wF),(40,yF)]]) [] 0 [] (t1 (aO c2 c2 c2 c2 eF eF eF (aO eF eF eF eF eF eF eF (aO eF eF eF eF eF eF eF (aM eF eF eF eF eF eF)))))
  ·obtain rfl:=Zab h2
   exact af fol hE (o1 ++ [.r [(4,wF),(5,wF),(6,wF),(7,yF),(9,wF),(10,wF),(11,wF),(12,yF),(14,wF),(15,wF),(16,wF),(17,wF),(18,yF),(20,wF),(21,wF),(22,wF),(23,yF),(25,wF),(26,wF),(27,wF),(28,wF),(29,yF),(31,wF),(32,wF),(33,wF),(34,yF),(36,wF),(37,wF),(38,wF),(39,wF),(40,yF)]]) [] 0 [] (aO c1 c1 c1 c1 eF eF eF (aO eF eF eF eF eF eF eF (aO eF eF eF eF eF eF eF (aO eF eF eF eF eF eF eF (aJ eF eF eF)))))
def ZaS.B:Code:=Tryz.f24.body.getD .skip
def ZaS.rs (r:Bool):List CV:=[oB r]
def ZaS.p2 (N:Nat) (p_0:Zaj) (c2_:(Int×Int)→Option Bool):(Int×Int)→Option Bool:=fun (last_6,v7)=>
 if (decide (v7<(len p_0.Checks)))=true then
  chk (0≤v7)<|
  ZcI (p_0.Checks[zE v7]?) Zds fun x8=>
  if (decide (x8.Height≤last_6))=true then
   some false
  else
  c2_ (x8.Height,w64 (v7+1))
 else
 some true
def ZaS.p1 (N:Nat) (p_0:Zaj) (c1_:(Int×Int)→Option Bool):(Int×Int)→Option Bool:=fun (last_3,v4)=>
 if (decide (v4<(len p_0.Gates)))=true then
  chk (0≤v4)<|
  ZcI (p_0.Gates[zE v4]?) ZdK fun x5=>
  if (decide (x5.Height≤last_3))=true then
   some false
  else
  c1_ (x5.Height,w64 (v4+1))
 else
 loopN (ZaS.p2 N p_0) N (0,0)
def ZaS (N:Nat) (p_0:Zaj):Option Bool:=
 Zbs (Zdc N p_0) fun x1=>
 if (!x1)=true then
  some false
 else
 Zbs (Zdd N p_0.Genesis) fun x2=>
 if (!x2)=true then
  some false
 else
 loopN (ZaS.p1 N p_0) N ((-1),0)
def ZaS.p2.S (last_6:Int) (p_0:Zaj) (v7:Int) (st:LL):S:=mkS 45 [(3,sI last_6),(32,sV 33 p_0.Checks),(33,sI (len p_0.Checks)),(34,sI v7)] [] st
def ZaS.p1.S (last_3:Int) (p_0:Zaj) (v4:Int) (st:LL):S:=mkS 45 [(1,sA 1),(3,sI last_3),(18,sV 2 p_0.Gates),(19,sI (len p_0.Gates)),(20,sI v4)] [(1,.cells p_0.ls)] st
theorem ZaS.p2_ok {last_6 p_0 v7 st r c2_ J2} (h:ZaS.p2 N p_0 c2_ (last_6,v7)=some r) (hE:En Tryz.f24 g0 w0 (ZaS.rs r) st R) (hc2 : ∀last_6 v7,c2_ (last_6,v7)=some r→At g0 w0 (ZaS.p2.S last_6 p_0 v7 st) J2):At g0 w0 (ZaS.p2.S last_6 p_0 v7 st) (XK zF R (.c (Zcb ZaS.B [1,1,1,1,1,0,1,0,0]) :: .h J2 :: [.b 2,.c (Zcb ZaS.B [1,1,1,1,1,1])])):=by
 unfold ZaS.p2 at h
 refine Zbi h (fun c9 h1=>?_) (fun c9 h2=>?_)
 ·obtain ⟨c10,h3⟩:=ZaU h1
  obtain ⟨x8,c11,h4⟩:=ZdQ h3
  let o1:List PS:=[.r [],.c true,.r [(1,{oe:=x8.ls})],.r []]
  refine Zbi h4 (fun c12 h5=>?_) (fun c12 h6=>?_)
  ·obtain rfl:=Zab h5
   exact af fol hE (o1 ++ [.c true,.r []]) [] 0 [] (aL c9 c10 (oD c9) c11 c12)
  ·exact an fol (o1 ++ [.c false,.r [],.r []]) [3,32,33,34] [] (aL c9 c10 (oD c9) c11 c12) (hc2 x8.Height (w64 (v7+1)) h6)
 ·obtain rfl:=Zab h2
  exact af fol hE [.r [],.c false,.r []] [] 0 [] c9
theorem ZaS.p1_ok {last_3 p_0 v4 st r c1_ J1} (h:ZaS.p1 N p_0 c1_ (last_3,v4)=some r) (hE:En Tryz.f24 g0 w0 (ZaS.rs r) st R) (hc1 : ∀last_3 v4,c1_ (last_3,v4)=some r→At g0 w0 (ZaS.p1.S last_3 p_0 v4 st) J1):At g0 w0 (ZaS.p1.S last_3 p_0 v4 st) (XK zF R (.c (Zcb ZaS.B [1,1,1,0,1,0,0]) :: .h J1 :: [.b 0,.c (Zcb ZaS.B [1,1,1,1])])):=by
 unfold ZaS.p1 at h
 refine Zbi h (fun c5 h7=>?_) (fun c5 h8=>?_)
 ·obtain ⟨c6,h9⟩:=ZaU h7
  obtain ⟨x5,c7,h10⟩:=ZdZ h9
  let o2:List PS:=[.r [],.c true,.r [(1,{oe:=x5.ls})],.r []]
  refine Zbi h10 (fun c8 h11=>?_) (fun c8 h12=>?_)
  ·obtain rfl:=Zab h11
   exact af fol hE (o2 ++ [.c true,.r []]) [] 0 [] (aL c5 c6 (oD c5) c7 c8)
  ·exact an fol (o2 ++ [.c false,.r [],.r []]) [1,3,18,19,20] [1] (aL c5 c6 (oD c5) c7 c8) (hc1 x5.Height (w64 (v4+1)) h12)
 ·exact aq fol [.r [],.c false,.r [],.r []] [3,32,33,34] [] c5 (At.loop N (At.loopN (fun y:Int×Int=>ZaS.p2.S y.1 p_0 y.2 st) (fun c J hc y h=>ZaS.p2_ok (last_6:=y.1) (v7:=y.2) h hE (fun last_6 v7=>hc (last_6,v7))) N (0,0) h8))
theorem ZaS.snd {p_0:Zaj} {r:Bool} (h:ZaS N p_0=some r):Zdh zF 24 [.agg p_0.ls] (ZaS.rs r):=fun st=>
 sO ZaS.B Tryz.func24 fun g0 w0 R hE=>by
  unfold ZaS at h
  obtain ⟨x1,c1,h13⟩:=Zae h
  have t1 {Q:Prop} (q:Q):=aI (Zdc.snd c1) q
  refine Zbi h13 (fun c2 h14=>?_) (fun c2 h15=>?_)
  ·obtain rfl:=Zab h14
   exact af fol hE [.r [],.r [(1,q1 [oB x1]),(4,wF),(5,wF),(6,wF),(7,wF)],.c true,.r []] [] 0 [] (t1 (aM (not_false (ZbG c2)) (not_false (ZbG c2)) (not_false (ZbG c2)) (not_false (ZbG c2)) (not_false (ZbG c2)) eT))
  ·obtain ⟨x2,c3,h16⟩:=Zae h15
   let o3:List PS:=[.r [],.r [(1,q1 [oB x1]),(6,q1 [oB x2]),(8,yF)]]
   have t2 {Q:Prop} (q:Q):=t1 (aN (not_true (ZbH c2)) (not_true (ZbH c2)) (not_true (ZbH c2)) (Zdd.snd c3) (not_true (ZbH c2)) (not_true (ZbH c2)) q)
   refine Zbi h16 (fun c4 h17=>?_) (fun c4 h18=>?_)
   ·obtain rfl:=Zab h17
    exact af fol hE (o3 ++ [.c true,.r []]) [] 0 [] (t2 c4)
   ·exact aq fol (o3 ++ [.c false,.r [],.r []]) [1,3,18,19,20] [1] (t2 c4) (At.loop N (At.loopN (fun y:Int×Int=>ZaS.p1.S y.1 p_0 y.2 st) (fun c J hc y h=>ZaS.p1_ok (last_3:=y.1) (v4:=y.2) h hE (fun last_3 v4=>hc (last_3,v4))) N ((-1),0) h18))
def Zbw.B:Code:=Tryz.f7.body.getD .skip
def Zbw.rs (r:Bool):List CV:=[oB r]
def Zbw.p1 (N:Nat) (acts_1:LL) (p_0:Zaj) (c1_:Int→Option Bool):Int→Option Bool:=fun v1=>
 if (decide (v1<(len acts_1)))=true then
  chk (0≤v1)<|
  ZcI (acts_1[zE v1]?) ZcC fun x2=>
  if (decide (x2.Now<0))=true then
   some true
  else
  c1_ (w64 (v1+1))
 else
 if (decide ((len p_0.Gates)>20))=true then
  some true
 else
 if (decide ((len p_0.Checks)>20))=true then
  some true
 else
 if (decide ((len acts_1)>40))=true then
  some true
 else
 Zbs (ZaS N p_0) fun x3=>
 some (!x3)
def Zbw (N:Nat) (p_0:Zaj) (acts_1:LL):Option Bool:=
 loopN (Zbw.p1 N acts_1 p_0) N 0
def Zbw.p1.S (acts_1:LL) (v1:Int) (p_0:Zaj) (st:LL):S:=mkS 37 [(1,sV 71 acts_1),(2,sA 2),(7,sV 71 acts_1),(8,sI (len acts_1)),(9,sI v1)] [(2,.cells p_0.ls)] st
theorem Zbw.p1_ok {acts_1 v1 p_0 st r c1_ J1} (h:Zbw.p1 N acts_1 p_0 c1_ v1=some r) (hE:En Tryz.f7 g0 w0 (Zbw.rs r) st R) (hc1 : ∀v1,c1_ v1=some r→At g0 w0 (Zbw.p1.S acts_1 v1 p_0 st) J1):At g0 w0 (Zbw.p1.S acts_1 v1 p_0 st) (XK zF R (.c (Zcb Zbw.B [1,0,1,0,0]) :: .h J1 :: [.b 0,.c (Zcb Zbw.B [1,1])])):=by
 unfold Zbw.p1 at h
 refine Zbi h (fun c1 h1=>?_) (fun c1 h2=>?_)
 ·obtain ⟨c2,h3⟩:=ZaU h1
  obtain ⟨x2,c3,h4⟩:=ZdT h3
  let o1:List PS:=[.r [],.c true,.r [(1,{oe:=x2.ls})],.r []]
  refine Zbi h4 (fun c4 h5=>?_) (fun c4 h6=>?_)
  ·obtain rfl:=Zab h5
   exact af fol hE (o1 ++ [.c true,.r []]) [] 0 [] (aL c1 c2 (oD c1) c3 c4)
  ·exact an fol (o1 ++ [.c false,.r []]) [1,2,7,8,9] [2] (aL c1 c2 (oD c1) c3 c4) (hc1 (w64 (v1+1)) h6)
 ·let o2:List PS:=[.r [],.c false]
  refine Zbi h2 (fun c5 h7=>?_) (fun c5 h8=>?_)
  ·obtain rfl:=Zab h7
   exact af fol hE (o2 ++ [.r [(5,wF),(6,wF),(7,wF),(8,wF),(11,wF),(12,wF),(13,wF),(16,wF),(17,wF),(18,wF)]]) [] 0 [] (aO c1 c5 c5 c5 c5 c5 eT (aN eT eT eT eT eT eT eT))
  ·have t1 {Q:Prop} (q:Q):=aN c1 c5 c5 c5 c5 c5 q
   refine Zbi h8 (fun c6 h9=>?_) (fun c6 h10=>?_)
   ·obtain rfl:=Zab h9
    exact af fol hE (o2 ++ [.r [(9,yF),(11,wF),(12,wF),(13,wF),(16,wF),(17,wF),(18,wF)]]) [] 0 [] (t1 (aO c6 c6 c6 c6 eT eT eT eT))
   ·refine Zbi h10 (fun c7 h11=>?_) (fun c7 h12=>?_)
    ·obtain rfl:=Zab h11
     exact af fol hE (o2 ++ [.r [(9,yF),(14,yF),(16,wF),(17,wF),(18,wF)]]) [] 0 [] (t1 (aO c6 c6 c6 c6 c7 c7 c7 c7))
    ·obtain ⟨x3,c8,h13⟩:=Zae h12
     obtain rfl:=Zab h13
     exact af fol hE (o2 ++ [.r [(9,yF),(14,yF),(17,q1 [oB x3]),(19,yF)]]) [] 0 [] (t1 (aO c6 c6 c6 c6 c7 c7 (ZaS.snd c8) (aI c7 c7)))
theorem Zbw.snd {p_0:Zaj} {acts_1:LL} {r:Bool} (h:Zbw N p_0 acts_1=some r):Zdh zF 7 [.agg p_0.ls,.one (vR 71 acts_1)] (Zbw.rs r):=fun st=>
 sO Zbw.B Tryz.func7 fun g0 w0 R hE=>by
  unfold Zbw at h
  exact aq fol [.r [],.r []] [1,2,7,8,9] [2] trivial (At.loop N (At.loopN (fun y:Int=>Zbw.p1.S acts_1 y p_0 st) (fun c J hc y h=>Zbw.p1_ok h hE (fun v1=>hc v1)) N 0 h))
def ZdG.B:Code:=Tryz.f132.body.getD .skip
def ZdG.rs (r:Int):List CV:=[oI r]
def ZdG (N:Nat) (p_0:Zaj) (from_1 to_2:Int):Option Int:=
 some (if (w64 ((w64 (p_0.Interval*p_0.Spacing))*4))<(if (w64 (zY (w64 (p_0.Interval*p_0.Spacing)) 4))>(w64 (to_2-from_1)) then (w64 (zY (w64 (p_0.Interval*p_0.Spacing)) 4)) else (w64 (to_2-from_1))) then (w64 ((w64 (p_0.Interval*p_0.Spacing))*4)) else (if (w64 (zY (w64 (p_0.Interval*p_0.Spacing)) 4))>(w64 (to_2-from_1)) then (w64 (zY (w64 (p_0.Interval*p_0.Spacing)) 4)) else (w64 (to_2-from_1))))
theorem ZdG.snd {p_0:Zaj} {from_1 to_2:Int} {r:Int} (h:ZdG N p_0 from_1 to_2=some r):Zdh zF 132 [.agg p_0.ls,oI from_1,oI to_2] (ZdG.rs r):=fun st=>
 sO ZdG.B Tryz.func132 fun g0 w0 R hE=>by
  unfold ZdG at h
  obtain rfl:=Zab h
  exact af fol hE [.r [],.r [],.r []] [] 0 [] (neI 4)
def Zbo.B:Code:=Tryz.f151.body.getD .skip
def Zbo.rs (r:Int):List CV:=[oI r]
def Zbo (N:Nat) (x_0:Int):Option Int:=
 Zbs (Zar N x_0) fun x1=>
 some (w64 (64-x1))
theorem Zbo.snd {x_0:Int} {r:Int} (h:Zbo N x_0=some r):Zdh zF 151 [.one (zJ .u64 x_0)] (Zbo.rs r):=fun st=>
 sO Zbo.B Tryz.func151 fun g0 w0 R hE=>by
  unfold Zbo at h
  obtain ⟨x1,c1,h1⟩:=Zae h
  obtain rfl:=Zab h1
  exact af fol hE [.r [],.r [(1,q1 [oI x1])]] [] 0 [] (Zar.snd c1)
def Zag.B:Code:=Tryz.f144.body.getD .skip
def Zag.rs (r:Int×Int):List CV:=[.one (zJ .u64 r.1),.one (zJ .u64 r.2)]
def Zag.p6 (N:Nat) (y_2 x1 lo_1 q1_4 hi_0 q0_7:Int):Option (Int×Int):=
 chk (0≤(v64 (x1)))<|
 some (v64 ((v64 (q1_4*4294967296))+q0_7),ZaR .u64 (v64 ((v64 ((v64 ((v64 ((v64 ((v64 ((ZaB .or .u64 (Zbf .u64 hi_0 (v64 (x1))) (ZaR .u64 lo_1 (v64 (64-(v64 (x1))))))*4294967296))+(ZaR .u64 (Zbf .u64 lo_1 (v64 (x1))) 32)))-(v64 (q1_4*(Zbf .u64 y_2 (v64 (x1)))))))*4294967296))+(ZaB .and .u64 (Zbf .u64 lo_1 (v64 (x1))) 4294967295)))-(v64 (q0_7*(Zbf .u64 y_2 (v64 (x1))))))) (v64 (x1)))
def Zag.p5 (N:Nat) (c4_:(Int×Int)→Option (Int×Int)) (y_2 x1 lo_1 q1_4 rhat_5 hi_0 q0_6:Int):Option (Int×Int):=
 if (decide ((v64 (rhat_5+(ZaR .u64 (Zbf .u64 y_2 (v64 (x1))) 32)))≥4294967296))=true then
  Zag.p6 N y_2 x1 lo_1 q1_4 hi_0 (v64 (q0_6-1))
 else
 c4_ (v64 (rhat_5+(ZaR .u64 (Zbf .u64 y_2 (v64 (x1))) 32)),v64 (q0_6-1))
def Zag.p4 (N:Nat) (y_2 x1 lo_1 q1_4 hi_0:Int) (c4_:(Int×Int)→Option (Int×Int)):(Int×Int)→Option (Int×Int):=fun (rhat_5,q0_6)=>
 if (decide (q0_6≥4294967296))=true then
  Zag.p5 N c4_ y_2 x1 lo_1 q1_4 rhat_5 hi_0 q0_6
 else
 if (decide ((v64 (q0_6*(ZaB .and .u64 (Zbf .u64 y_2 (v64 (x1))) 4294967295)))>(v64 ((v64 (4294967296*rhat_5))+(ZaB .and .u64 (Zbf .u64 lo_1 (v64 (x1))) 4294967295)))))=true then
  Zag.p5 N c4_ y_2 x1 lo_1 q1_4 rhat_5 hi_0 q0_6
 else
 Zag.p6 N y_2 x1 lo_1 q1_4 hi_0 q0_6
def Zag.p3 (N:Nat) (y_2 x1 hi_0 lo_1 q1_4:Int):Option (Int×Int):=
 chk ((ZaR .u64 (Zbf .u64 y_2 (v64 (x1))) 32)≠0)<|
 loopN (Zag.p4 N y_2 x1 lo_1 q1_4 hi_0) N (v64 ((v64 ((v64 ((v64 ((ZaB .or .u64 (Zbf .u64 hi_0 (v64 (x1))) (ZaR .u64 lo_1 (v64 (64-(v64 (x1))))))*4294967296))+(ZaR .u64 (Zbf .u64 lo_1 (v64 (x1))) 32)))-(v64 (q1_4*(Zbf .u64 y_2 (v64 (x1)))))))-(v64 ((v64 (zY (v64 ((v64 ((v64 ((ZaB .or .u64 (Zbf .u64 hi_0 (v64 (x1))) (ZaR .u64 lo_1 (v64 (64-(v64 (x1))))))*4294967296))+(ZaR .u64 (Zbf .u64 lo_1 (v64 (x1))) 32)))-(v64 (q1_4*(Zbf .u64 y_2 (v64 (x1))))))) (ZaR .u64 (Zbf .u64 y_2 (v64 (x1))) 32)))*(ZaR .u64 (Zbf .u64 y_2 (v64 (x1))) 32)))),v64 (zY (v64 ((v64 ((v64 ((ZaB .or .u64 (Zbf .u64 hi_0 (v64 (x1))) (ZaR .u64 lo_1 (v64 (64-(v64 (x1))))))*4294967296))+(ZaR .u64 (Zbf .u64 lo_1 (v64 (x1))) 32)))-(v64 (q1_4*(Zbf .u64 y_2 (v64 (x1))))))) (ZaR .u64 (Zbf .u64 y_2 (v64 (x1))) 32)))
def Zag.p2 (N:Nat) (c1_:(Int×Int)→Option (Int×Int)) (y_2 x1 hi_0 lo_1 q1_2 rhat_3:Int):Option (Int×Int):=
 if (decide ((v64 (rhat_3+(ZaR .u64 (Zbf .u64 y_2 (v64 (x1))) 32)))≥4294967296))=true then
  Zag.p3 N y_2 x1 hi_0 lo_1 (v64 (q1_2-1))
 else
 c1_ (v64 (q1_2-1),v64 (rhat_3+(ZaR .u64 (Zbf .u64 y_2 (v64 (x1))) 32)))
def Zag.p1 (N:Nat) (y_2 x1 hi_0 lo_1:Int) (c1_:(Int×Int)→Option (Int×Int)):(Int×Int)→Option (Int×Int):=fun (q1_2,rhat_3)=>
 if (decide (q1_2≥4294967296))=true then
  Zag.p2 N c1_ y_2 x1 hi_0 lo_1 q1_2 rhat_3
 else
 if (decide ((v64 (q1_2*(ZaB .and .u64 (Zbf .u64 y_2 (v64 (x1))) 4294967295)))>(v64 ((v64 (4294967296*rhat_3))+(ZaR .u64 (Zbf .u64 lo_1 (v64 (x1))) 32)))))=true then
  Zag.p2 N c1_ y_2 x1 hi_0 lo_1 q1_2 rhat_3
 else
 Zag.p3 N y_2 x1 hi_0 lo_1 q1_2
def Zag (N:Nat) (hi_0 lo_1 y_2:Int):Option (Int×Int):=
 if (y_2==0)=true then
  none
 else
 if (decide (y_2≤hi_0))=true then
  none
 else
 if (hi_0==0)=true then
  chk (y_2≠0)<|
  some (v64 (zY lo_1 y_2),yK lo_1 y_2)
 else
 Zbs (Zbo N y_2) fun x1=>
 chk (0≤(v64 (x1)))<|
 chk (0≤(v64 (64-(v64 (x1)))))<|
 chk ((ZaR .u64 (Zbf .u64 y_2 (v64 (x1))) 32)≠0)<|
 loopN (Zag.p1 N y_2 x1 hi_0 lo_1) N (v64 (zY (ZaB .or .u64 (Zbf .u64 hi_0 (v64 (x1))) (ZaR .u64 lo_1 (v64 (64-(v64 (x1)))))) (ZaR .u64 (Zbf .u64 y_2 (v64 (x1))) 32)),v64 ((ZaB .or .u64 (Zbf .u64 hi_0 (v64 (x1))) (ZaR .u64 lo_1 (v64 (64-(v64 (x1))))))-(v64 ((v64 (zY (ZaB .or .u64 (Zbf .u64 hi_0 (v64 (x1))) (ZaR .u64 lo_1 (v64 (64-(v64 (x1)))))) (ZaR .u64 (Zbf .u64 y_2 (v64 (x1))) 32)))*(ZaR .u64 (Zbf .u64 y_2 (v64 (x1))) 32)))))
def Zag.p6.S (y_2 x1 lo_1 q1_4 hi_0 q0_7:Int) (st:LL):S:=mkS 135 [(2,.one (.l (zJ .u64 (Zbf .u64 y_2 (v64 (x1)))))),(8,.one (.l (zJ .u64 (v64 (x1))))),(14,.one (.l (zJ .u64 (ZaB .and .u64 (Zbf .u64 lo_1 (v64 (x1))) 4294967295)))),(15,.one (.l (zJ .u64 q1_4))),(17,.one (.l (zJ .u64 (v64 ((v64 ((v64 ((ZaB .or .u64 (Zbf .u64 hi_0 (v64 (x1))) (ZaR .u64 lo_1 (v64 (64-(v64 (x1))))))*4294967296))+(ZaR .u64 (Zbf .u64 lo_1 (v64 (x1))) 32)))-(v64 (q1_4*(Zbf .u64 y_2 (v64 (x1)))))))))),(18,.one (.l (zJ .u64 q0_7)))] [] st
def Zag.p5.S (y_2 x1 lo_1 q1_4 rhat_5 hi_0 q0_6:Int) (st:LL):S:=mkS 135 [(2,.one (.l (zJ .u64 (Zbf .u64 y_2 (v64 (x1)))))),(8,.one (.l (zJ .u64 (v64 (x1))))),(9,.one (.l (zJ .u64 (ZaR .u64 (Zbf .u64 y_2 (v64 (x1))) 32)))),(10,.one (.l (zJ .u64 (ZaB .and .u64 (Zbf .u64 y_2 (v64 (x1))) 4294967295)))),(14,.one (.l (zJ .u64 (ZaB .and .u64 (Zbf .u64 lo_1 (v64 (x1))) 4294967295)))),(15,.one (.l (zJ .u64 q1_4))),(16,.one (.l (zJ .u64 rhat_5))),(17,.one (.l (zJ .u64 (v64 ((v64 ((v64 ((ZaB .or .u64 (Zbf .u64 hi_0 (v64 (x1))) (ZaR .u64 lo_1 (v64 (64-(v64 (x1))))))*4294967296))+(ZaR .u64 (Zbf .u64 lo_1 (v64 (x1))) 32)))-(v64 (q1_4*(Zbf .u64 y_2 (v64 (x1)))))))))),(18,.one (.l (zJ .u64 q0_6)))] [] st
def Zag.p4.S (y_2 x1 lo_1 q1_4 rhat_5 hi_0 q0_6:Int) (st:LL):S:=mkS 135 [(2,.one (.l (zJ .u64 (Zbf .u64 y_2 (v64 (x1)))))),(8,.one (.l (zJ .u64 (v64 (x1))))),(9,.one (.l (zJ .u64 (ZaR .u64 (Zbf .u64 y_2 (v64 (x1))) 32)))),(10,.one (.l (zJ .u64 (ZaB .and .u64 (Zbf .u64 y_2 (v64 (x1))) 4294967295)))),(14,.one (.l (zJ .u64 (ZaB .and .u64 (Zbf .u64 lo_1 (v64 (x1))) 4294967295)))),(15,.one (.l (zJ .u64 q1_4))),(16,.one (.l (zJ .u64 rhat_5))),(17,.one (.l (zJ .u64 (v64 ((v64 ((v64 ((ZaB .or .u64 (Zbf .u64 hi_0 (v64 (x1))) (ZaR .u64 lo_1 (v64 (64-(v64 (x1))))))*4294967296))+(ZaR .u64 (Zbf .u64 lo_1 (v64 (x1))) 32)))-(v64 (q1_4*(Zbf .u64 y_2 (v64 (x1)))))))))),(18,.one (.l (zJ .u64 q0_6)))] [] st
def Zag.p3.S (y_2 x1 hi_0 lo_1 q1_4:Int) (st:LL):S:=mkS 135 [(2,.one (.l (zJ .u64 (Zbf .u64 y_2 (v64 (x1)))))),(8,.one (.l (zJ .u64 (v64 (x1))))),(9,.one (.l (zJ .u64 (ZaR .u64 (Zbf .u64 y_2 (v64 (x1))) 32)))),(10,.one (.l (zJ .u64 (ZaB .and .u64 (Zbf .u64 y_2 (v64 (x1))) 4294967295)))),(11,.one (.l (zJ .u64 (ZaB .or .u64 (Zbf .u64 hi_0 (v64 (x1))) (ZaR .u64 lo_1 (v64 (64-(v64 (x1))))))))),(13,.one (.l (zJ .u64 (ZaR .u64 (Zbf .u64 lo_1 (v64 (x1))) 32)))),(14,.one (.l (zJ .u64 (ZaB .and .u64 (Zbf .u64 lo_1 (v64 (x1))) 4294967295)))),(15,.one (.l (zJ .u64 q1_4)))] [] st
def Zag.p2.S (y_2 x1 hi_0 lo_1 q1_2 rhat_3:Int) (st:LL):S:=mkS 135 [(2,.one (.l (zJ .u64 (Zbf .u64 y_2 (v64 (x1)))))),(8,.one (.l (zJ .u64 (v64 (x1))))),(9,.one (.l (zJ .u64 (ZaR .u64 (Zbf .u64 y_2 (v64 (x1))) 32)))),(10,.one (.l (zJ .u64 (ZaB .and .u64 (Zbf .u64 y_2 (v64 (x1))) 4294967295)))),(11,.one (.l (zJ .u64 (ZaB .or .u64 (Zbf .u64 hi_0 (v64 (x1))) (ZaR .u64 lo_1 (v64 (64-(v64 (x1))))))))),(13,.one (.l (zJ .u64 (ZaR .u64 (Zbf .u64 lo_1 (v64 (x1))) 32)))),(14,.one (.l (zJ .u64 (ZaB .and .u64 (Zbf .u64 lo_1 (v64 (x1))) 4294967295)))),(15,.one (.l (zJ .u64 q1_2))),(16,.one (.l (zJ .u64 rhat_3)))] [] st
def Zag.p1.S (y_2 x1 hi_0 lo_1 q1_2 rhat_3:Int) (st:LL):S:=mkS 135 [(2,.one (.l (zJ .u64 (Zbf .u64 y_2 (v64 (x1)))))),(8,.one (.l (zJ .u64 (v64 (x1))))),(9,.one (.l (zJ .u64 (ZaR .u64 (Zbf .u64 y_2 (v64 (x1))) 32)))),(10,.one (.l (zJ .u64 (ZaB .and .u64 (Zbf .u64 y_2 (v64 (x1))) 4294967295)))),(11,.one (.l (zJ .u64 (ZaB .or .u64 (Zbf .u64 hi_0 (v64 (x1))) (ZaR .u64 lo_1 (v64 (64-(v64 (x1))))))))),(13,.one (.l (zJ .u64 (ZaR .u64 (Zbf .u64 lo_1 (v64 (x1))) 32)))),(14,.one (.l (zJ .u64 (ZaB .and .u64 (Zbf .u64 lo_1 (v64 (x1))) 4294967295)))),(15,.one (.l (zJ .u64 q1_2))),(16,.one (.l (zJ .u64 rhat_3)))] [] st
theorem Zag.p6_ok {y_2 x1 lo_1 q1_4 hi_0 q0_7 st r} (h:Zag.p6 N y_2 x1 lo_1 q1_4 hi_0 q0_7=some r) (hE:En Tryz.f144 g0 w0 (Zag.rs r) st R):At g0 w0 (Zag.p6.S y_2 x1 lo_1 q1_4 hi_0 q0_7 st) (XK zF R [.c (Zcb Zag.B [1,1,1,1,1,1,1,1,1,1,1,1,1,1,1,1,1,1,1])]):=by
 unfold Zag.p6 at h
 obtain ⟨c16,h1⟩:=ZaU h
 obtain rfl:=Zab h1
 exact af fol hE [.r []] [] 0 [] c16
theorem Zag.p5_ok {y_2 x1 lo_1 q1_4 rhat_5 hi_0 q0_6 st r c4_ J4} (h:Zag.p5 N c4_ y_2 x1 lo_1 q1_4 rhat_5 hi_0 q0_6=some r) (hE:En Tryz.f144 g0 w0 (Zag.rs r) st R) (hc4 : ∀rhat_5 q0_6,c4_ (rhat_5,q0_6)=some r→At g0 w0 (Zag.p4.S y_2 x1 lo_1 q1_4 rhat_5 hi_0 q0_6 st) J4):At g0 w0 (Zag.p5.S y_2 x1 lo_1 q1_4 rhat_5 hi_0 q0_6 st) (XK zF R [.c (Zcb Zag.B [1,1,1,1,1,1,1,1,1,1,1,1,1,1,1,1,1,1,0,0,0,1]),.h J4,.b 2,.c (Zcb Zag.B [1,1,1,1,1,1,1,1,1,1,1,1,1,1,1,1,1,1,1])]):=by
 unfold Zag.p5 at h
 refine Zbi h (fun c15 h2=>?_) (fun c15 h3=>?_)
 ·exact aq fol [.r [],.r [],.r [],.c true,.s 1] [2,8,14,15,17,18] [] c15 (Zag.p6_ok h2 hE)
 ·exact an fol [.r [],.r [],.r [],.c false] [2,8,9,10,14,15,16,17,18] [] c15 (hc4 (v64 (rhat_5+(ZaR .u64 (Zbf .u64 y_2 (v64 (x1))) 32))) (v64 (q0_6-1)) h3)
theorem Zag.p4_ok {y_2 x1 lo_1 q1_4 rhat_5 hi_0 q0_6 st r c4_ J4} (h:Zag.p4 N y_2 x1 lo_1 q1_4 hi_0 c4_ (rhat_5,q0_6)=some r) (hE:En Tryz.f144 g0 w0 (Zag.rs r) st R) (hc4 : ∀rhat_5 q0_6,c4_ (rhat_5,q0_6)=some r→At g0 w0 (Zag.p4.S y_2 x1 lo_1 q1_4 rhat_5 hi_0 q0_6 st) J4):At g0 w0 (Zag.p4.S y_2 x1 lo_1 q1_4 rhat_5 hi_0 q0_6 st) (XK zF R (.c (Zcb Zag.B [1,1,1,1,1,1,1,1,1,1,1,1,1,1,1,1,1,1,0,0,0]) :: .h J4 :: [.b 2,.c (Zcb Zag.B [1,1,1,1,1,1,1,1,1,1,1,1,1,1,1,1,1,1,1])])):=by
 unfold Zag.p4 at h
 refine Zbi h (fun c13 h4=>?_) (fun c13 h5=>?_)
 ·exact aq fol [.r [(3,wF),(4,wF),(5,wF),(6,wF),(7,wF),(8,wF),(9,wF),(10,wF)],.c true,.s 4] [2,8,9,10,14,15,16,17,18] [] (aO c13 c13 c13 c13 c13 c13 c13 (aJ c13 c13 eT)) (Zag.p5_ok h4 hE hc4)
 ·have t1 {Q:Prop} (q:Q):=aO c13 c13 c13 c13 c13 c13 c13 (aJ c13 c13 q)
  refine Zbi h5 (fun c14 h6=>?_) (fun c14 h7=>?_)
  ·exact aq fol [.r [(11,yF)],.c true,.s 4] [2,8,9,10,14,15,16,17,18] [] (t1 c14) (Zag.p5_ok h6 hE hc4)
  ·exact aq fol [.r [(11,yF)],.c false,.s 1] [2,8,14,15,17,18] [] (t1 c14) (Zag.p6_ok h7 hE)
theorem Zag.p3_ok {y_2 x1 hi_0 lo_1 q1_4 st r} (h:Zag.p3 N y_2 x1 hi_0 lo_1 q1_4=some r) (hE:En Tryz.f144 g0 w0 (Zag.rs r) st R):At g0 w0 (Zag.p3.S y_2 x1 hi_0 lo_1 q1_4 st) (XK zF R [.c (Zcb Zag.B [1,1,1,1,1,1,1,1,1,1,1,1,1,1,1])]):=by
 unfold Zag.p3 at h
 obtain ⟨c12,h8⟩:=ZaU h
 exact aq fol [.r [],.r [],.r []] [2,8,9,10,14,15,16,17,18] [] c12 (At.loop N (At.loopN (fun y:Int×Int=>Zag.p4.S y_2 x1 lo_1 q1_4 y.1 hi_0 y.2 st) (fun c J hc y h=>Zag.p4_ok (rhat_5:=y.1) (q0_6:=y.2) h hE (fun rhat_5 q0_6=>hc (rhat_5,q0_6))) N (v64 ((v64 ((v64 ((v64 ((ZaB .or .u64 (Zbf .u64 hi_0 (v64 (x1))) (ZaR .u64 lo_1 (v64 (64-(v64 (x1))))))*4294967296))+(ZaR .u64 (Zbf .u64 lo_1 (v64 (x1))) 32)))-(v64 (q1_4*(Zbf .u64 y_2 (v64 (x1)))))))-(v64 ((v64 (zY (v64 ((v64 ((v64 ((ZaB .or .u64 (Zbf .u64 hi_0 (v64 (x1))) (ZaR .u64 lo_1 (v64 (64-(v64 (x1))))))*4294967296))+(ZaR .u64 (Zbf .u64 lo_1 (v64 (x1))) 32)))-(v64 (q1_4*(Zbf .u64 y_2 (v64 (x1))))))) (ZaR .u64 (Zbf .u64 y_2 (v64 (x1))) 32)))*(ZaR .u64 (Zbf .u64 y_2 (v64 (x1))) 32)))),v64 (zY (v64 ((v64 ((v64 ((ZaB .or .u64 (Zbf .u64 hi_0 (v64 (x1))) (ZaR .u64 lo_1 (v64 (64-(v64 (x1))))))*4294967296))+(ZaR .u64 (Zbf .u64 lo_1 (v64 (x1))) 32)))-(v64 (q1_4*(Zbf .u64 y_2 (v64 (x1))))))) (ZaR .u64 (Zbf .u64 y_2 (v64 (x1))) 32))) h8))
theorem Zag.p2_ok {y_2 x1 hi_0 lo_1 q1_2 rhat_3 st r c1_ J1} (h:Zag.p2 N c1_ y_2 x1 hi_0 lo_1 q1_2 rhat_3=some r) (hE:En Tryz.f144 g0 w0 (Zag.rs r) st R) (hc1 : ∀q1_2 rhat_3,c1_ (q1_2,rhat_3)=some r→At g0 w0 (Zag.p1.S y_2 x1 hi_0 lo_1 q1_2 rhat_3 st) J1):At g0 w0 (Zag.p2.S y_2 x1 hi_0 lo_1 q1_2 rhat_3 st) (XK zF R [.c (Zcb Zag.B [1,1,1,1,1,1,1,1,1,1,1,1,1,1,0,0,0,1]),.h J1,.b 0,.c (Zcb Zag.B [1,1,1,1,1,1,1,1,1,1,1,1,1,1,1])]):=by
 unfold Zag.p2 at h
 refine Zbi h (fun c11 h9=>?_) (fun c11 h10=>?_)
 ·exact aq fol [.r [],.r [],.r [],.c true,.s 1] [2,8,9,10,11,13,14,15] [] c11 (Zag.p3_ok h9 hE)
 ·exact an fol [.r [],.r [],.r [],.c false] [2,8,9,10,11,13,14,15,16] [] c11 (hc1 (v64 (q1_2-1)) (v64 (rhat_3+(ZaR .u64 (Zbf .u64 y_2 (v64 (x1))) 32))) h10)
theorem Zag.p1_ok {y_2 x1 hi_0 lo_1 q1_2 rhat_3 st r c1_ J1} (h:Zag.p1 N y_2 x1 hi_0 lo_1 c1_ (q1_2,rhat_3)=some r) (hE:En Tryz.f144 g0 w0 (Zag.rs r) st R) (hc1 : ∀q1_2 rhat_3,c1_ (q1_2,rhat_3)=some r→At g0 w0 (Zag.p1.S y_2 x1 hi_0 lo_1 q1_2 rhat_3 st) J1):At g0 w0 (Zag.p1.S y_2 x1 hi_0 lo_1 q1_2 rhat_3 st) (XK zF R (.c (Zcb Zag.B [1,1,1,1,1,1,1,1,1,1,1,1,1,1,0,0,0]) :: .h J1 :: [.b 0,.c (Zcb Zag.B [1,1,1,1,1,1,1,1,1,1,1,1,1,1,1])])):=by
 unfold Zag.p1 at h
 refine Zbi h (fun c9 h11=>?_) (fun c9 h12=>?_)
 ·exact aq fol [.r [(3,wF),(4,wF),(5,wF),(6,wF),(7,wF),(8,wF),(9,wF),(10,wF)],.c true,.s 4] [2,8,9,10,11,13,14,15,16] [] (aO c9 c9 c9 c9 c9 c9 c9 (aJ c9 c9 eT)) (Zag.p2_ok h11 hE hc1)
 ·refine Zbi h12 (fun c10 h13=>?_) (fun c10 h14=>?_)
  ·exact aq fol [.r [(11,yF)],.c true,.s 4] [2,8,9,10,11,13,14,15,16] [] (aO c9 c9 c9 c9 c9 c9 c9 (aJ c9 c9 c10)) (Zag.p2_ok h13 hE hc1)
  ·exact aq fol [.r [(11,yF)],.c false,.s 1] [2,8,9,10,11,13,14,15] [] (aO c9 c9 c9 c9 c9 c9 c9 (aJ c9 c9 c10)) (Zag.p3_ok h14 hE)
theorem Zag.snd {hi_0 lo_1 y_2:Int} {r:Int×Int} (h:Zag N hi_0 lo_1 y_2=some r):Zdh zF 144 [.one (zJ .u64 hi_0),.one (zJ .u64 lo_1),.one (zJ .u64 y_2)] (Zag.rs r):=fun st=>
 sO Zag.B Tryz.func144 fun g0 w0 R hE=>by
  unfold Zag at h
  let o1:List PS:=[.r [],.r [],.c false,.r [],.c false,.r []]
  refine Zbi h (fun c1 h15=>?_) (fun c1 h16=>?_)
  ·cases h15
  ·refine Zbi h16 (fun c2 h17=>?_) (fun c2 h18=>?_)
   ·cases h17
   ·refine Zbi h18 (fun c3 h19=>?_) (fun c3 h20=>?_)
    ·obtain ⟨c4,h21⟩:=ZaU h19
     obtain rfl:=Zab h21
     exact afd fol hE (o1 ++ [.c true,.d {ds:=[],hv:=0,Hs:=[]}]) [] 0 [] (aL c1 c2 c3 c4 c4)
    ·obtain ⟨x1,c5,h22⟩:=Zae h20
     obtain ⟨c6,c7,c8,h23⟩:=ck3 h22
     exact aq fol (o1 ++ [.c false,.r [(1,q1 [oI x1])],.r [],.r [],.r [],.r [],.r [],.r [],.r [],.r [],.r []]) [2,8,9,10,11,13,14,15,16] [] (aO c1 c2 c3 (Zbo.snd c5) c6 (leI 0 32) c6 (aK c7 c6 (leI 0 32) c8)) (At.loop N (At.loopN (fun y:Int×Int=>Zag.p1.S y_2 x1 hi_0 lo_1 y.1 y.2 st) (fun c J hc y h=>Zag.p1_ok (q1_2:=y.1) (rhat_3:=y.2) h hE (fun q1_2 rhat_3=>hc (q1_2,rhat_3))) N (v64 (zY (ZaB .or .u64 (Zbf .u64 hi_0 (v64 (x1))) (ZaR .u64 lo_1 (v64 (64-(v64 (x1)))))) (ZaR .u64 (Zbf .u64 y_2 (v64 (x1))) 32)),v64 ((ZaB .or .u64 (Zbf .u64 hi_0 (v64 (x1))) (ZaR .u64 lo_1 (v64 (64-(v64 (x1))))))-(v64 ((v64 (zY (ZaB .or .u64 (Zbf .u64 hi_0 (v64 (x1))) (ZaR .u64 lo_1 (v64 (64-(v64 (x1)))))) (ZaR .u64 (Zbf .u64 y_2 (v64 (x1))) 32)))*(ZaR .u64 (Zbf .u64 y_2 (v64 (x1))) 32))))) h23))
def ZbI.B:Code:=Tryz.f133.body.getD .skip
def ZbI.rs (r:(List Int)×Int):List CV:=[.agg [zM .u64 4 r.1],.one (zJ .u64 r.2)]
def ZbI.p1 (N:Nat) (by_1:Int) (c1_:(Int×Int×(List Int))→Option ((List Int)×Int)):(Int×Int×(List Int))→Option ((List Int)×Int):=fun (r_1,i_2,a_5)=>
 if (decide (i_2≥0))=true then
  chk (0≤i_2)<|
  chk (i_2<4)<|
  Zbs (Zag N r_1 (zG a_5 (zE i_2) 0) by_1) fun (x6,x7)=>
  c1_ (x7,w64 (i_2-1),zS a_5 (zE i_2) x6)
 else
 some (a_5,r_1)
def ZbI (N:Nat) (a_0_0:List Int) (by_1:Int):Option ((List Int)×Int):=
 if (by_1==0)=true then
  some (zC 4 0,0)
 else
 loopN (ZbI.p1 N by_1) N (0,3,a_0_0)
def ZbI.p1.S (by_1 r_1 i_2:Int) (a_5:List Int) (st:LL):S:=mkS 28 [(1,.one (.l (zJ .u64 by_1))),(2,sA 2),(4,sA 4),(6,.one (.l (zJ .u64 r_1))),(7,sI i_2)] [(2,.cells [zM .u64 4 a_5]),(4,.cells [zM .u64 4 (zC 4 0)])] st
theorem ZbI.p1_ok {by_1 r_1 i_2 a_5 st r c1_ J1} (h:ZbI.p1 N by_1 c1_ (r_1,i_2,a_5)=some r) (hE:En Tryz.f133 g0 w0 (ZbI.rs r) st R) (hc1 : ∀r_1 i_2 a_5,c1_ (r_1,i_2,a_5)=some r→At g0 w0 (ZbI.p1.S by_1 r_1 i_2 a_5 st) J1):At g0 w0 (ZbI.p1.S by_1 r_1 i_2 a_5 st) (XK zF R (.c (Zcb ZbI.B [1,1,1,0,1,0,0]) :: .h J1 :: [.b 0,.c (Zcb ZbI.B [1,1,1,1])])):=by
 unfold ZbI.p1 at h
 refine Zbi h (fun c6 h1=>?_) (fun c6 h2=>?_)
 ·obtain ⟨c7,c8,h3⟩:=ck2 h1
  obtain ⟨⟨x6,x7⟩,c9,h4⟩:=Zae h3
  exact an fol [.r [],.c true,.r [(6,q1 [.one (zJ .u64 x6),.one (zJ .u64 x7)])],.r []] [1,2,4,6,7] [2,4] (aM c6 c7 c8 (Zag.snd c9) c7 c8) (hc1 x7 (w64 (i_2-1)) (zS a_5 (zE i_2) x6) h4)
 ·obtain rfl:=Zab h2
  exact af fol hE [.r [],.c false,.r []] [] 0 [] c6
theorem ZbI.snd {a_0_0:List Int} {by_1:Int} {r:(List Int)×Int} (h:ZbI N a_0_0 by_1=some r):Zdh zF 133 [.agg [zM .u64 4 a_0_0],.one (zJ .u64 by_1)] (ZbI.rs r):=fun st=>
 sO ZbI.B Tryz.func133 fun g0 w0 R hE=>by
  unfold ZbI at h
  refine Zbi h (fun c1 h5=>?_) (fun c1 h6=>?_)
  ·obtain rfl:=Zab h5
   exact af fol hE [.r [],.r [],.c true,.r []] [] 0 [] c1
  ·exact aq fol [.r [],.r [],.c false,.r [],.r []] [1,2,4,6,7] [2,4] c1 (At.loop N (At.loopN (fun y:Int×Int×(List Int)=>ZbI.p1.S by_1 y.1 y.2.1 y.2.2 st) (fun c J hc y h=>ZbI.p1_ok (r_1:=y.1) (i_2:=y.2.1) (a_5:=y.2.2) h hE (fun r_1 i_2 a_5=>hc (r_1,i_2,a_5))) N (0,3,a_0_0) h6))
def ZbV.B:Code:=Tryz.f145.body.getD .skip
def ZbV.rs (r:Int×Int):List CV:=[.one (zJ .u64 r.1),.one (zJ .u64 r.2)]
def ZbV (N:Nat) (x_0 y_1:Int):Option (Int×Int):=
 some (v64 ((v64 ((v64 ((ZaR .u64 x_0 32)*(ZaR .u64 y_1 32)))+(ZaR .u64 (v64 ((v64 ((ZaR .u64 x_0 32)*(ZaB .and .u64 y_1 4294967295)))+(ZaR .u64 (v64 ((ZaB .and .u64 x_0 4294967295)*(ZaB .and .u64 y_1 4294967295))) 32))) 32)))+(ZaR .u64 (v64 ((ZaB .and .u64 (v64 ((v64 ((ZaR .u64 x_0 32)*(ZaB .and .u64 y_1 4294967295)))+(ZaR .u64 (v64 ((ZaB .and .u64 x_0 4294967295)*(ZaB .and .u64 y_1 4294967295))) 32))) 4294967295)+(v64 ((ZaB .and .u64 x_0 4294967295)*(ZaR .u64 y_1 32))))) 32)),v64 (x_0*y_1))
theorem ZbV.snd {x_0 y_1:Int} {r:Int×Int} (h:ZbV N x_0 y_1=some r):Zdh zF 145 [.one (zJ .u64 x_0),.one (zJ .u64 y_1)] (ZbV.rs r):=fun st=>
 sO ZbV.B Tryz.func145 fun g0 w0 R hE=>by
  unfold ZbV at h
  obtain rfl:=Zab h
  exact af fol hE [.r [],.r [],.r [],.r [],.r [],.r [],.r [],.r [],.r [],.r [],.r [],.r []] [] 0 [] (aL (leI 0 32) (leI 0 32) (leI 0 32) (leI 0 32) (leI 0 32))
def Zbx.B:Code:=Tryz.f134.body.getD .skip
def Zbx.rs (r:(List Int)×Bool):List CV:=[.agg [zM .u64 4 r.1],oB r.2]
def Zbx.p1 (N:Nat) (by_1:Int) (c1_:(Int×Int×(List Int))→Option ((List Int)×Bool)):(Int×Int×(List Int))→Option ((List Int)×Bool):=fun (c_1,v2,a_7)=>
 if (decide (v2<4))=true then
  chk (0≤v2)<|
  Zbs (ZbV N (zG a_7 (zE v2) 0) by_1) fun (x8,x9)=>
  Zbs (ZcW N x9 c_1 0) fun (x10,x11)=>
  c1_ (v64 (x8+x11),w64 (v2+1),zS a_7 (zE v2) x10)
 else
 some (a_7,c_1 != 0)
def Zbx (N:Nat) (a_0_0:List Int) (by_1:Int):Option ((List Int)×Bool):=
 loopN (Zbx.p1 N by_1) N (0,0,a_0_0)
def Zbx.p1.S (by_1 c_1 v2:Int) (a_7:List Int) (st:LL):S:=mkS 37 [(1,.one (.l (zJ .u64 by_1))),(2,sA 2),(4,sA 4),(6,.one (.l (zJ .u64 c_1))),(11,sI v2)] [(2,.cells [zM .u64 4 a_7]),(4,.cells [zM .u64 4 (zC 4 0)])] st
theorem Zbx.p1_ok {by_1 c_1 v2 a_7 st r c1_ J1} (h:Zbx.p1 N by_1 c1_ (c_1,v2,a_7)=some r) (hE:En Tryz.f134 g0 w0 (Zbx.rs r) st R) (hc1 : ∀c_1 v2 a_7,c1_ (c_1,v2,a_7)=some r→At g0 w0 (Zbx.p1.S by_1 c_1 v2 a_7 st) J1):At g0 w0 (Zbx.p1.S by_1 c_1 v2 a_7 st) (XK zF R (.c (Zcb Zbx.B [1,1,0,1,0,0]) :: .h J1 :: [.b 0,.c (Zcb Zbx.B [1,1,1])])):=by
 unfold Zbx.p1 at h
 refine Zbi h (fun c5 h1=>?_) (fun c5 h2=>?_)
 ·obtain ⟨c6,h3⟩:=ZaU h1
  obtain ⟨⟨x8,x9⟩,c7,h4⟩:=Zae h3
  obtain ⟨⟨x10,x11⟩,c8,h5⟩:=Zae h4
  exact an fol [.r [],.c true,.r [],.r [(4,q1 [.one (zJ .u64 x8),.one (zJ .u64 x9)])],.r [],.r [(3,{rs:=[.one (zJ .u64 x10),.one (zJ .u64 x11)],m:=4})],.r [],.r []] [1,2,4,6,11] [2,4] (aN c5 c6 (oD c5) (ZbV.snd c7) (ZcW.snd c8) c6 (oD c5)) (hc1 (v64 (x8+x11)) (w64 (v2+1)) (zS a_7 (zE v2) x10) h5)
 ·obtain rfl:=Zab h2
  exact af fol hE [.r [],.c false,.r []] [] 0 [] c5
theorem Zbx.snd {a_0_0:List Int} {by_1:Int} {r:(List Int)×Bool} (h:Zbx N a_0_0 by_1=some r):Zdh zF 134 [.agg [zM .u64 4 a_0_0],.one (zJ .u64 by_1)] (Zbx.rs r):=fun st=>
 sO Zbx.B Tryz.func134 fun g0 w0 R hE=>by
  unfold Zbx at h
  exact aq fol [.r [],.r [],.r []] [1,2,4,6,11] [2,4] trivial (At.loop N (At.loopN (fun y:Int×Int×(List Int)=>Zbx.p1.S by_1 y.1 y.2.1 y.2.2 st) (fun c J hc y h=>Zbx.p1_ok (c_1:=y.1) (v2:=y.2.1) (a_7:=y.2.2) h hE (fun c_1 v2 a_7=>hc (c_1,v2,a_7))) N (0,0,a_0_0) h))
def ZaG.B:Code:=Tryz.f135.body.getD .skip
def ZaG.rs (r:Int):List CV:=[oI r]
def ZaG.p2 (N:Nat) (size_5 word_6:Int):Option Int:=
 some (ZaB .or .i64 (Zbf .i64 size_5 24) word_6)
def ZaG.p1 (N:Nat) (x1 word_4:Int):Option Int:=
 if ((ZaB .and .i64 word_4 8388608) != 0)=true then
  ZaG.p2 N (w64 ((w64 (zY (w64 (x1+7)) 8))+1)) (ZaR .i64 word_4 8)
 else
 ZaG.p2 N (w64 (zY (w64 (x1+7)) 8)) word_4
def ZaG (N:Nat) (n_0_0:List Int):Option Int:=
 Zbs (ZbM N n_0_0) fun x1=>
 if (decide ((w64 (zY (w64 (x1+7)) 8))≤3))=true then
  Zbs (Zbl N n_0_0 (w64 (8*(w64 (3-(w64 (zY (w64 (x1+7)) 8))))))) fun x2=>
  ZaG.p1 N x1 (w64 (zG x2 0 0))
 else
 Zbs (ZaO N n_0_0 (w64 (8*(w64 ((w64 (zY (w64 (x1+7)) 8))-3))))) fun x3=>
 ZaG.p1 N x1 (w64 (zG x3 0 0))
def ZaG.p2.S (size_5 word_6:Int) (st:LL):S:=mkS 36 [(3,sI size_5),(4,sI word_6)] [] st
def ZaG.p1.S (x1 word_4:Int) (st:LL):S:=mkS 36 [(3,sI (w64 (zY (w64 (x1+7)) 8))),(4,sI word_4)] [] st
theorem ZaG.p2_ok {size_5 word_6 st r} (h:ZaG.p2 N size_5 word_6=some r) (hE:En Tryz.f135 g0 w0 (ZaG.rs r) st R):At g0 w0 (ZaG.p2.S size_5 word_6 st) (XK zF R [.c (Zcb ZaG.B [1,1,1,1,1])]):=by
 unfold ZaG.p2 at h
 obtain rfl:=Zab h
 exact af fol hE [.r []] [] 0 [] (leI 0 24)
theorem ZaG.p1_ok {x1 word_4 st r} (h:ZaG.p1 N x1 word_4=some r) (hE:En Tryz.f135 g0 w0 (ZaG.rs r) st R):At g0 w0 (ZaG.p1.S x1 word_4 st) (XK zF R [.c (Zcb ZaG.B [1,1,1,1])]):=by
 unfold ZaG.p1 at h
 refine Zbi h (fun c5 h1=>?_) (fun c5 h2=>?_)
 ·exact aq fol [.r [],.c true,.r [],.r [],.s 1] [3,4] [] (aI c5 (leI 0 8)) (ZaG.p2_ok h1 hE)
 ·exact aq fol [.r [],.c false,.s 1] [3,4] [] c5 (ZaG.p2_ok h2 hE)
theorem ZaG.snd {n_0_0:List Int} {r:Int} (h:ZaG N n_0_0=some r):Zdh zF 135 [.agg [zM .u64 4 n_0_0]] (ZaG.rs r):=fun st=>
 sO ZaG.B Tryz.func135 fun g0 w0 R hE=>by
  unfold ZaG at h
  obtain ⟨x1,c1,h3⟩:=Zae h
  let o1:List PS:=[.r [],.r [(1,q1 [oI x1])],.r [],.r []]
  refine Zbi h3 (fun c2 h4=>?_) (fun c2 h5=>?_)
  ·obtain ⟨x2,c3,h6⟩:=Zae h4
   exact aq fol (o1 ++ [.c true,.r [(4,q1 [.agg [zM .u64 4 x2]])],.s 1]) [3,4] [] (aM (ZbM.snd c1) (neI 8) c2 (Zbl.snd c3) (leI 0 0) (ltI 0 4)) (ZaG.p1_ok h6 hE)
  ·obtain ⟨x3,c4,h7⟩:=Zae h5
   exact aq fol (o1 ++ [.c false,.r [(4,q1 [.agg [zM .u64 4 x3]])],.s 1]) [3,4] [] (aM (ZbM.snd c1) (neI 8) c2 (ZaO.snd c4) (leI 0 0) (ltI 0 4)) (ZaG.p1_ok h7 hE)
def Zbj.B:Code:=Tryz.f112.body.getD .skip
def Zbj.rs (r:Int):List CV:=[oI r]
def Zbj.p1 (N:Nat) (n_17:List Int):Option Int:=
 Zbs (ZaG N n_17) fun x18=>
 some x18
def Zbj (N:Nat) (p_0:Zaj) (bits_1 from_2 to_3:Int):Option Int:=
 Zbs (ZbK N bits_1 p_0.Limit) fun (x1,x2)=>
 Zbs (Zdj N p_0) fun x3=>
 if (!x3)=true then
  some p_0.Limit
 else
 if (!x2)=true then
  some p_0.Limit
 else
 Zbs (ZdG N p_0 from_2 to_3) fun x4=>
 Zbs (ZbI N x1 (v64 (w64 (p_0.Interval*p_0.Spacing)))) fun (x5,x6)=>
 Zbs (Zbx N x5 (v64 (x4))) fun (x7,x8)=>
 chk ((v64 (w64 (p_0.Interval*p_0.Spacing)))≠0)<|
 Zbs (Zcv N (v64 (zY (v64 (x6*(v64 (x4)))) (v64 (w64 (p_0.Interval*p_0.Spacing)))))) fun x9=>
 Zbs (Zbr N x7 x9) fun (x10,x11)=>
 Zbs (ZbK N p_0.Limit p_0.Limit) fun (x12,x13)=>
 if x8=true then
  some p_0.Limit
 else
 if x11=true then
  some p_0.Limit
 else
 Zbs (Zcm N x12 x10) fun x14=>
 if x14=true then
  some p_0.Limit
 else
 Zbs (Zce N x10) fun x15=>
 if x15=true then
  Zbs (Zcv N 1) fun x16=>
  Zbj.p1 N x16
 else
 Zbj.p1 N x10
def Zbj.p1.S (n_17:List Int) (st:LL):S:=mkS 94 [(15,sA 15)] [(15,.cells [zM .u64 4 n_17])] st
theorem Zbj.p1_ok {n_17 st r} (h:Zbj.p1 N n_17=some r) (hE:En Tryz.f112 g0 w0 (Zbj.rs r) st R):At g0 w0 (Zbj.p1.S n_17 st) (XK zF R [.c (Zcb Zbj.B [1,1,1,1,1,1,1,1,1,1,1])]):=by
 unfold Zbj.p1 at h
 obtain ⟨x18,c19,h1⟩:=Zae h
 obtain rfl:=Zab h1
 exact af fol hE [.r [(1,q1 [oI x18])]] [] 0 [] (ZaG.snd c19)
theorem Zbj.snd {p_0:Zaj} {bits_1 from_2 to_3:Int} {r:Int} (h:Zbj N p_0 bits_1 from_2 to_3=some r):Zdh zF 112 [.agg p_0.ls,oI bits_1,oI from_2,oI to_3] (Zbj.rs r):=fun st=>
 sO Zbj.B Tryz.func112 fun g0 w0 R hE=>by
  unfold Zbj at h
  obtain ⟨⟨x1,x2⟩,c1,h2⟩:=Zae h
  obtain ⟨x3,c2,h3⟩:=Zae h2
  let o1:List PS:=[.r [],.r [(3,q1 [.agg [zM .u64 4 x1],oB x2])]]
  have t1 {Q:Prop} (q:Q):=aJ (ZbK.snd c1) (Zdj.snd c2) q
  refine Zbi h3 (fun c3 h4=>?_) (fun c3 h5=>?_)
  ·obtain rfl:=Zab h4
   exact af fol hE (o1 ++ [.r [(1,q1 [oB x3]),(4,wF),(5,wF)],.c true,.r []]) [] 0 [] (t1 (aK (not_false (ZbG c3)) (not_false (ZbG c3)) (not_false (ZbG c3)) eT))
  ·let o2:List PS:=o1 ++ [.r [(1,q1 [oB x3]),(6,yF)]]
   have t2 {Q:Prop} (q:Q):=t1 (aK (not_true (ZbH c3)) (not_true (ZbH c3)) (not_true (ZbH c3)) q)
   refine Zbi h5 (fun c4 h6=>?_) (fun c4 h7=>?_)
   ·obtain rfl:=Zab h6
    exact af fol hE (o2 ++ [.c true,.r []]) [] 0 [] (t2 c4)
   ·obtain ⟨x4,c5,h8⟩:=Zae h7
    obtain ⟨⟨x5,x6⟩,c6,h9⟩:=Zae h8
    obtain ⟨⟨x7,x8⟩,c7,h10⟩:=Zae h9
    obtain ⟨c8,h11⟩:=ZaU h10
    obtain ⟨x9,c9,h12⟩:=Zae h11
    obtain ⟨⟨x10,x11⟩,c10,h13⟩:=Zae h12
    obtain ⟨⟨x12,x13⟩,c11,h14⟩:=Zae h13
    let o3:List PS:=o2 ++ [.c false,.r [],.r [(3,q1 [oI x4])],.r [(2,q1 [.agg [zM .u64 4 x5],.one (zJ .u64 x6)])],.r [(2,q1 [.agg [zM .u64 4 x7],oB x8])],.d {ds:=[(6,q1 [.agg [zM .u64 4 x9]]),(7,q1 [.agg [zM .u64 4 x10],oB x11])],hv:=2048,Hs:=[2048]},.r [(4,q1 [.agg [zM .u64 4 x12],oB x13])]]
    have t3 {Q:Prop} (q:Q):=t2 (aO c4 (ZdG.snd c5) (ZbI.snd c6) (Zbx.snd c7) c8 (Zcv.snd c9) (Zbr.snd c10) (aI (ZbK.snd c11) q))
    refine Zbi h14 (fun c12 h15=>?_) (fun c12 h16=>?_)
    ·obtain rfl:=Zab h15
     exact afd fol hE (o3 ++ [.r [(2,wF),(5,wF),(6,wF),(7,wF)],.c true,.r []]) [] 0 [] (t3 (aN c12 c12 eT eT eT eT eT))
    ·refine Zbi h16 (fun c13 h17=>?_) (fun c13 h18=>?_)
     ·obtain rfl:=Zab h17
      exact afd fol hE (o3 ++ [.r [(3,yF),(5,wF),(6,wF),(7,wF)],.c true,.r []]) [] 0 [] (t3 (aN c12 c12 c13 c13 c13 c13 eT))
     ·obtain ⟨x14,c14,h19⟩:=Zae h18
      let o4:List PS:=o3 ++ [.r [(3,yF),(7,q1 [oB x14]),(8,yF)]]
      have t4 {Q:Prop} (q:Q):=t3 (aO c12 c12 c13 c13 c13 (Zcm.snd c14) c13 q)
      refine Zbi h19 (fun c15 h20=>?_) (fun c15 h21=>?_)
      ·obtain rfl:=Zab h20
       exact afd fol hE (o4 ++ [.c true,.r []]) [] 0 [] (t4 c15)
      ·obtain ⟨x15,c16,h22⟩:=Zae h21
       let o5:List PS:=o4 ++ [.c false,.r [(1,q1 [oB x15])]]
       refine Zbi h22 (fun c17 h23=>?_) (fun c17 h24=>?_)
       ·obtain ⟨x16,c18,h25⟩:=Zae h23
        exact aqd fol (o5 ++ [.c true,.r [(0,q1 [.agg [zM .u64 4 x16]])],.s 1]) [15] [15] (t4 (aK c15 (Zce.snd c16) c17 (Zcv.snd c18))) (Zbj.p1_ok h25 hE)
       ·exact aqd fol (o5 ++ [.c false,.s 1]) [15] [15] (t4 (aJ c15 (Zce.snd c16) c17)) (Zbj.p1_ok h24 hE)
def ZdH.B:Code:=Tryz.f84.body.getD .skip
def ZdH.rs (r:Int):List CV:=[oI r]
def ZdH (N:Nat) (p_0:Zaj) (at_1:ZcN) (time_2:Int):Option Int:=
 if (decide (at_1.Height≤0))=true then
  some p_0.Limit
 else
 Zbs (Zcp N p_0 at_1.Height) fun x1=>
 if x1=true then
  Zbs (Zbj N p_0 at_1.Bits at_1.First at_1.Time) fun x2=>
  some x2
 else
 if (!p_0.Easy)=true then
  some at_1.Bits
 else
 if (decide ((w64 (time_2-at_1.Time))>(w64 (2*p_0.Spacing))))=true then
  some p_0.Limit
 else
 some at_1.Hard
theorem ZdH.snd {p_0:Zaj} {at_1:ZcN} {time_2:Int} {r:Int} (h:ZdH N p_0 at_1 time_2=some r):Zdh zF 84 [.agg p_0.ls,.agg at_1.ls,oI time_2] (ZdH.rs r):=fun st=>
 sO ZdH.B Tryz.func84 fun g0 w0 R hE=>by
  unfold ZdH at h
  refine Zbi h (fun c1 h1=>?_) (fun c1 h2=>?_)
  ·obtain rfl:=Zab h1
   exact af fol hE [.r [],.r [],.c true,.r []] [] 0 [] c1
  ·obtain ⟨x1,c2,h3⟩:=Zae h2
   let o1:List PS:=[.r [],.r [],.c false,.r [(3,q1 [oB x1])]]
   have t1 {Q:Prop} (q:Q):=aJ c1 (Zcp.snd c2) q
   refine Zbi h3 (fun c3 h4=>?_) (fun c3 h5=>?_)
   ·obtain ⟨x2,c4,h6⟩:=Zae h4
    obtain rfl:=Zab h6
    exact af fol hE (o1 ++ [.c true,.r [(7,q1 [oI x2])]]) [] 0 [] (t1 (aI c3 (Zbj.snd c4)))
   ·refine Zbi h5 (fun c5 h7=>?_) (fun c5 h8=>?_)
    ·obtain rfl:=Zab h7
     exact af fol hE (o1 ++ [.c false,.r [],.c true,.r []]) [] 0 [] (t1 (aI c3 c5))
    ·refine Zbi h8 (fun c6 h9=>?_) (fun c6 h10=>?_)
     ·obtain rfl:=Zab h9
      exact af fol hE (o1 ++ [.c false,.r [],.c false,.r [],.c true,.r []]) [] 0 [] (t1 (aJ c3 c5 c6))
     ·obtain rfl:=Zab h10
      exact af fol hE (o1 ++ [.c false,.r [],.c false,.r [],.c false,.r []]) [] 0 [] (t1 (aJ c3 c5 c6))
def Zbc.B:Code:=Tryz.f136.body.getD .skip
def Zbc.rs (r:(List Int)):List CV:=[.agg [zM .u64 4 r]]
def Zbc.p1 (N:Nat) (h_0_0:List Int) (c1_:(Int×(List Int))→Option (List Int)):(Int×(List Int))→Option (List Int):=fun (v1,out_2)=>
 if (decide (v1<32))=true then
  chk (0≤v1)<|
  chk (0≤(w64 (zY v1 8)))<|
  chk ((w64 (zY v1 8))<4)<|
  chk (0≤(w64 (8*(yK v1 8))))<|
  c1_ (w64 (v1+1),zS out_2 (zE (w64 (zY v1 8))) (ZaB .or .u64 (zG out_2 (zE (w64 (zY v1 8))) 0) (Zbf .u64 (v64 (zG h_0_0 (zE v1) 0)) (w64 (8*(yK v1 8))))))
 else
 some out_2
def Zbc (N:Nat) (h_0_0:List Int):Option (List Int):=
 loopN (Zbc.p1 N h_0_0) N (0,zC 4 0)
def Zbc.p1.S (h_0_0:List Int) (v1:Int) (out_2:List Int) (st:LL):S:=mkS 25 [(2,sA 2),(3,sA 3),(6,.agg [.l (zM .u8 32 h_0_0)]),(7,sI v1)] [(2,.cells [zM .u64 4 (zC 4 0)]),(3,.cells [zM .u64 4 out_2])] st
theorem Zbc.p1_ok {h_0_0 v1 out_2 st r c1_ J1} (h:Zbc.p1 N h_0_0 c1_ (v1,out_2)=some r) (hE:En Tryz.f136 g0 w0 (Zbc.rs r) st R) (hc1 : ∀v1 out_2,c1_ (v1,out_2)=some r→At g0 w0 (Zbc.p1.S h_0_0 v1 out_2 st) J1):At g0 w0 (Zbc.p1.S h_0_0 v1 out_2 st) (XK zF R (.c (Zcb Zbc.B [1,1,0,1,0,0]) :: .h J1 :: [.b 0,.c (Zcb Zbc.B [1,1,1])])):=by
 unfold Zbc.p1 at h
 refine Zbi h (fun c6 h1=>?_) (fun c6 h2=>?_)
 ·obtain ⟨c7,c8,c9,c10,h3⟩:=ck4 h1
  exact ZkT fol [.r [],.c true,.r [],.d {ds:=[],hv:=4096,Hs:=[4096]},.r []] [2,3,6,7] [2,3] (aO c6 c7 (oD c6) (neI 8) c8 c9 (neI 8) (aJ c10 c8 c9)) (hc1 (w64 (v1+1)) (zS out_2 (zE (w64 (zY v1 8))) (ZaB .or .u64 (zG out_2 (zE (w64 (zY v1 8))) 0) (Zbf .u64 (v64 (zG h_0_0 (zE v1) 0)) (w64 (8*(yK v1 8)))))) h3)
 ·obtain rfl:=Zab h2
  exact af fol hE [.r [],.c false,.r []] [] 0 [] c6
theorem Zbc.snd {h_0_0:List Int} {r:(List Int)} (h:Zbc N h_0_0=some r):Zdh zF 136 [.agg [zM .u8 32 h_0_0]] (Zbc.rs r):=fun st=>
 sO Zbc.B Tryz.func136 fun g0 w0 R hE=>by
  unfold Zbc at h
  exact aq fol [.r [],.r [],.r []] [2,3,6,7] [2,3] trivial (At.loop N (At.loopN (fun y:Int×(List Int)=>Zbc.p1.S h_0_0 y.1 y.2 st) (fun c J hc y h=>Zbc.p1_ok (v1:=y.1) (out_2:=y.2) h hE (fun v1 out_2=>hc (v1,out_2))) N (0,zC 4 0) h))
def Zcy.B:Code:=Tryz.f113.body.getD .skip
def Zcy.rs (r:Bool):List CV:=[oB r]
def Zcy (N:Nat) (h_0_0 target_1_0:List Int):Option Bool:=
 Zbs (Zbc N h_0_0) fun x1=>
 Zbs (Zcm N target_1_0 x1) fun x2=>
 some (!x2)
theorem Zcy.snd {h_0_0 target_1_0:List Int} {r:Bool} (h:Zcy N h_0_0 target_1_0=some r):Zdh zF 113 [.agg [zM .u8 32 h_0_0],.agg [zM .u64 4 target_1_0]] (Zcy.rs r):=fun st=>
 sO Zcy.B Tryz.func113 fun g0 w0 R hE=>by
  unfold Zcy at h
  obtain ⟨x1,c1,h1⟩:=Zae h
  obtain ⟨x2,c2,h2⟩:=Zae h1
  obtain rfl:=Zab h2
  exact afd fol hE [.r [],.d {ds:=[(2,q1 [.agg [zM .u64 4 x1]]),(3,q1 [oB x2])],hv:=0,Hs:=[]}] [] 0 [] (aI (Zbc.snd c1) (Zcm.snd c2))
def ZcZ.B:Code:=Tryz.f85.body.getD .skip
def ZcZ.rs (r:Int):List CV:=[oI r]
def ZcZ (N:Nat) (p_0:Zaj) (h_1:Zap):Option Int:=
 Zbs (ZbN N h_1) fun x1=>
 if (!x1)=true then
  some 1
 else
 Zbs (ZbK N h_1.Bits p_0.Limit) fun (x2,x3)=>
 if (!x3)=true then
  some 4
 else
 Zbs (ZcV N h_1) fun x4=>
 Zbs (Zcy N x4 x2) fun x5=>
 if (!x5)=true then
  some 4
 else
 some 0
theorem ZcZ.snd {p_0:Zaj} {h_1:Zap} {r:Int} (h:ZcZ N p_0 h_1=some r):Zdh zF 85 [.agg p_0.ls,.agg h_1.ls] (ZcZ.rs r):=fun st=>
 sO ZcZ.B Tryz.func85 fun g0 w0 R hE=>by
  unfold ZcZ at h
  obtain ⟨x1,c1,h1⟩:=Zae h
  let o1:List PS:=[.r [],.r [(1,q1 [oB x1])]]
  have t1 {Q:Prop} (q:Q):=aI (ZbN.snd c1) q
  refine Zbi h1 (fun c2 h2=>?_) (fun c2 h3=>?_)
  ·obtain rfl:=Zab h2
   exact af fol hE (o1 ++ [.c true,.r []]) [] 0 [] (t1 c2)
  ·obtain ⟨⟨x2,x3⟩,c3,h4⟩:=Zae h3
   let o2:List PS:=o1 ++ [.c false,.r [(4,q1 [.agg [zM .u64 4 x2],oB x3])]]
   have t2 {Q:Prop} (q:Q):=t1 (aJ c2 (ZbK.snd c3) q)
   refine Zbi h4 (fun c4 h5=>?_) (fun c4 h6=>?_)
   ·obtain rfl:=Zab h5
    exact afd fol hE (o2 ++ [.d {ds:=[(3,wF),(4,wF),(5,wF),(6,wF),(7,wF)],hv:=0,Hs:=[]},.c true,.r []]) [] 0 [] (t2 (aN (not_false (ZbG c4)) (not_false (ZbG c4)) (not_false (ZbG c4)) (not_false (ZbG c4)) (not_false (ZbG c4)) (not_false (ZbG c4)) eT))
   ·obtain ⟨x4,c5,h7⟩:=Zae h6
    obtain ⟨x5,c6,h8⟩:=Zae h7
    let o3:List PS:=o2 ++ [.d {ds:=[(4,q1 [.agg [zM .u8 32 x4]]),(6,q1 [oB x5]),(8,yF)],hv:=0,Hs:=[]}]
    have t3 {Q:Prop} (q:Q):=t2 (aO (not_true (ZbH c4)) (not_true (ZbH c4)) (ZcV.snd c5) (not_true (ZbH c4)) (not_true (ZbH c4)) (Zcy.snd c6) (not_true (ZbH c4)) (aI (not_true (ZbH c4)) q))
    refine Zbi h8 (fun c7 h9=>?_) (fun c7 h10=>?_)
    ·obtain rfl:=Zab h9
     exact afd fol hE (o3 ++ [.c true,.r []]) [] 0 [] (t3 c7)
    ·obtain rfl:=Zab h10
     exact afd fol hE (o3 ++ [.c false,.r []]) [] 0 [] (t3 c7)
def ZdJ.B:Code:=Tryz.f114.body.getD .skip
def ZdJ.rs (r:Int):List CV:=[oI r]
def ZdJ (N:Nat) (times_0:LL):Option Int:=
 chk (0≤(if (11:Int)<(len times_0) then 11 else (len times_0)))<|
 chk ((zE (if (11:Int)<(len times_0) then 11 else (len times_0)))≤(zK times_0))<|
 Zbs (ZaV N (List.take (zE (if (11:Int)<(len times_0) then 11 else (len times_0))) (List.drop 0 times_0))) fun x1=>
 if ((len x1)==0)=true then
  some 0
 else
 chk (isI x1=true)<|
 chk (zK x1<4611686018427387904)<|
 chk (0≤(w64 (zY (len x1) 2)))<|
 chk ((w64 (zY (len x1) 2))<(len x1))<|
 ZcI ((ZiB x1)[0+(zE (w64 (zY (len x1) 2)))]?) ZcQ fun x2=>
 some x2
theorem ZdJ.snd {times_0:LL} {r:Int} (h:ZdJ N times_0=some r):Zdh zF 114 [.one (vR 1 times_0)] (ZdJ.rs r):=fun st=>
 sO ZdJ.B Tryz.func114 fun g0 w0 R hE=>by
  unfold ZdJ at h
  obtain ⟨c1,c2,h1⟩:=ck2 h
  obtain ⟨x1,c3,h2⟩:=Zae h1
  let o1:List PS:=[.r [],.r [(5,{rs:=[.row true 1 x1],ns:=[9],m:=1})],.r []]
  have t1 {Q:Prop} (q:Q):=aL c1 (Nat.zero_le (zE (if (11:Int)<(len times_0) then 11 else (len times_0)))) c2 (ZaV.snd c3) q
  refine Zbi h2 (fun c4 h3=>?_) (fun c4 h4=>?_)
  ·obtain rfl:=Zab h3
   exact af fol hE (o1 ++ [.c true,.r []]) [] 0 [] (t1 c4)
  ·obtain ⟨c5,c6,c7,c8,h5⟩:=ck4 h4
   obtain ⟨x2,c9,h6⟩:=Zck h5
   obtain rfl:=Zab h6
   exact af fol hE (o1 ++ [.c false,.r [(1,{m:=7})],.r [(5,{oe:=[zJ .i64 x2]})]]) [] 0 [] (t1 (aO c4 z0 (@rfl _ (zK x1):(zK x1)=(zK x1)) c5 c6 slices_Sort_int.snd (neI 2) (aJ c7 c8 c9)))
def ZcG.B:Code:=Tryz.f86.body.getD .skip
def ZcG.rs (r:Bool):List CV:=[oB r]
def ZcG (N:Nat) (time_0:Int) (times_1:LL):Option Bool:=
 if ((len times_1)==0)=true then
  some true
 else
 Zbs (ZdJ N times_1) fun x1=>
 some (decide (time_0>x1))
theorem ZcG.snd {time_0:Int} {times_1:LL} {r:Bool} (h:ZcG N time_0 times_1=some r):Zdh zF 86 [oI time_0,.one (vR 1 times_1)] (ZcG.rs r):=fun st=>
 sO ZcG.B Tryz.func86 fun g0 w0 R hE=>by
  unfold ZcG at h
  refine Zbi h (fun c1 h1=>?_) (fun c1 h2=>?_)
  ·obtain rfl:=Zab h1
   exact af fol hE [.r [],.r [(4,wF),(5,wF),(6,wF),(7,wF)]] [] 0 [] (aL c1 c1 c1 c1 c1)
  ·obtain ⟨x1,c2,h3⟩:=Zae h2
   obtain rfl:=Zab h3
   exact af fol hE [.r [],.r [(6,q1 [oI x1]),(8,yF)]] [] 0 [] (aM c1 c1 c1 (ZdJ.snd c2) c1 c1)
def Zda.B:Code:=Tryz.f87.body.getD .skip
def Zda.rs (r:Bool):List CV:=[oB r]
def Zda (N:Nat) (time_0 now_1 future_2:Int):Option Bool:=
 if (decide (future_2≥0))=true then
  if (decide (time_0≤now_1))=true then
   some true
  else
  some (decide ((w64 (time_0-now_1))≤future_2))
 else
 some false
theorem Zda.snd {time_0 now_1 future_2:Int} {r:Bool} (h:Zda N time_0 now_1 future_2=some r):Zdh zF 87 [oI time_0,oI now_1,oI future_2] (Zda.rs r):=fun st=>
 sO Zda.B Tryz.func87 fun g0 w0 R hE=>by
  unfold Zda at h
  refine Zbi h (fun c1 h1=>?_) (fun c1 h2=>?_)
  ·refine Zbi h1 (fun c2 h3=>?_) (fun c2 h4=>?_)
   ·obtain rfl:=Zab h3
    exact af fol hE [.r [],.r [(7,wF),(8,wF),(9,wF),(10,wF),(11,wF)]] [] 0 [] (aO c1 c1 c1 c1 c2 c2 c2 (aL c2 c2 c1 c2 c1))
   ·obtain rfl:=Zab h4
    exact af fol hE [.r [],.r [(12,yF)]] [] 0 [] (aO c1 c1 c1 c1 c2 c2 c2 (aL c2 c2 c1 c2 c1))
  ·obtain rfl:=Zab h2
   exact af fol hE [.r [],.r [(3,wF),(4,wF),(5,wF),(6,wF),(12,wF),(13,yF)]] [] 0 [] (aM c1 c1 c1 c1 c1 c1)
def ZaL.B:Code:=Tryz.f88.body.getD .skip
def ZaL.rs (r:Int):List CV:=[oI r]
def ZaL.p2 (N:Nat) (c1_:(Int×Int)→Option Int) (height_0 least_4:Int) (gates_1:LL) (v2:Int):Option Int:=
 c1_ (least_4,w64 (v2+1))
def ZaL.p1 (N:Nat) (height_0:Int) (gates_1:LL) (c1_:(Int×Int)→Option Int):(Int×Int)→Option Int:=fun (least_1,v2)=>
 if (decide (v2<(len gates_1)))=true then
  chk (0≤v2)<|
  ZcI (gates_1[zE v2]?) ZdK fun x3=>
  if (decide (height_0≥x3.Height))=true then
   ZaL.p2 N c1_ height_0 (if x3.Version>least_1 then x3.Version else least_1) gates_1 v2
  else
  ZaL.p2 N c1_ height_0 least_1 gates_1 v2
 else
 some least_1
def ZaL (N:Nat) (height_0:Int) (gates_1:LL):Option Int:=
 loopN (ZaL.p1 N height_0 gates_1) N ((-2147483648),0)
def ZaL.p2.S (height_0 least_4:Int) (gates_1:LL) (v2:Int) (st:LL):S:=mkS 24 [(0,sI height_0),(5,sI least_4),(8,sV 2 gates_1),(9,sI (len gates_1)),(10,sI v2)] [] st
def ZaL.p1.S (height_0 least_1:Int) (gates_1:LL) (v2:Int) (st:LL):S:=mkS 24 [(0,sI height_0),(5,sI least_1),(8,sV 2 gates_1),(9,sI (len gates_1)),(10,sI v2)] [] st
theorem ZaL.p2_ok {height_0 least_4 gates_1 v2 st r c1_ J1} (h:ZaL.p2 N c1_ height_0 least_4 gates_1 v2=some r) (hE:En Tryz.f88 g0 w0 (ZaL.rs r) st R) (hc1 : ∀least_1 v2,c1_ (least_1,v2)=some r→At g0 w0 (ZaL.p1.S height_0 least_1 gates_1 v2 st) J1):At g0 w0 (ZaL.p2.S height_0 least_4 gates_1 v2 st) (XK zF R [.c (Zcb ZaL.B [1,1,0,1,0,0,1,1,1]),.h J1,.b 0,.c (Zcb ZaL.B [1,1,1])]):=by
 unfold ZaL.p2 at h
 exact an fol [.r []] [0,5,8,9,10] [] trivial (hc1 least_4 (w64 (v2+1)) h)
theorem ZaL.p1_ok {height_0 least_1 gates_1 v2 st r c1_ J1} (h:ZaL.p1 N height_0 gates_1 c1_ (least_1,v2)=some r) (hE:En Tryz.f88 g0 w0 (ZaL.rs r) st R) (hc1 : ∀least_1 v2,c1_ (least_1,v2)=some r→At g0 w0 (ZaL.p1.S height_0 least_1 gates_1 v2 st) J1):At g0 w0 (ZaL.p1.S height_0 least_1 gates_1 v2 st) (XK zF R (.c (Zcb ZaL.B [1,1,0,1,0,0]) :: .h J1 :: [.b 0,.c (Zcb ZaL.B [1,1,1])])):=by
 unfold ZaL.p1 at h
 refine Zbi h (fun c1 h1=>?_) (fun c1 h2=>?_)
 ·obtain ⟨c2,h3⟩:=ZaU h1
  obtain ⟨x3,c3,h4⟩:=ZdZ h3
  let o1:List PS:=[.r [],.c true,.r [(1,{oe:=x3.ls})],.r []]
  refine Zbi h4 (fun c4 h5=>?_) (fun c4 h6=>?_)
  ·exact aq fol (o1 ++ [.c true,.r [],.s 4]) [0,5,8,9,10] [] (aL c1 c2 (oD c1) c3 c4) (ZaL.p2_ok h5 hE hc1)
  ·exact aq fol (o1 ++ [.c false,.s 4]) [0,5,8,9,10] [] (aL c1 c2 (oD c1) c3 c4) (ZaL.p2_ok h6 hE hc1)
 ·obtain rfl:=Zab h2
  exact af fol hE [.r [],.c false,.r []] [] 0 [] c1
theorem ZaL.snd {height_0:Int} {gates_1:LL} {r:Int} (h:ZaL N height_0 gates_1=some r):Zdh zF 88 [oI height_0,.one (vR 2 gates_1)] (ZaL.rs r):=fun st=>
 sO ZaL.B Tryz.func88 fun g0 w0 R hE=>by
  unfold ZaL at h
  exact aq fol [.r [],.r [],.r []] [0,5,8,9,10] [] trivial (At.loop N (At.loopN (fun y:Int×Int=>ZaL.p1.S height_0 y.1 gates_1 y.2 st) (fun c J hc y h=>ZaL.p1_ok (least_1:=y.1) (v2:=y.2) h hE (fun least_1 v2=>hc (least_1,v2))) N ((-2147483648),0) h))
def Zbu.B:Code:=Tryz.f89.body.getD .skip
def Zbu.rs (r:Bool):List CV:=[oB r]
def Zbu.p1 (N:Nat) (height_0:Int) (checks_2:LL) (id_1_0:List Int) (c1_:Int→Option Bool):Int→Option Bool:=fun v1=>
 if (decide (v1<(len checks_2)))=true then
  chk (0≤v1)<|
  ZcI (checks_2[zE v1]?) Zds fun x2=>
  if (x2.Height==height_0)=true then
   if (!(x2.Id==id_1_0))=true then
    some false
   else
   c1_ (w64 (v1+1))
  else
  c1_ (w64 (v1+1))
 else
 some true
def Zbu (N:Nat) (height_0:Int) (id_1_0:List Int) (checks_2:LL):Option Bool:=
 loopN (Zbu.p1 N height_0 checks_2 id_1_0) N 0
def Zbu.p1.S (height_0:Int) (checks_2:LL) (v1:Int) (id_1_0:List Int) (st:LL):S:=mkS 26 [(0,sI height_0),(4,sA 4),(9,sV 33 checks_2),(10,sI (len checks_2)),(11,sI v1)] [(4,.cells [zM .u8 32 id_1_0])] st
theorem Zbu.p1_ok {height_0 checks_2 v1 id_1_0 st r c1_ J1} (h:Zbu.p1 N height_0 checks_2 id_1_0 c1_ v1=some r) (hE:En Tryz.f89 g0 w0 (Zbu.rs r) st R) (hc1 : ∀v1,c1_ v1=some r→At g0 w0 (Zbu.p1.S height_0 checks_2 v1 id_1_0 st) J1):At g0 w0 (Zbu.p1.S height_0 checks_2 v1 id_1_0 st) (XK zF R (.c (Zcb Zbu.B [1,0,1,0,0]) :: .h J1 :: [.b 0,.c (Zcb Zbu.B [1,1])])):=by
 unfold Zbu.p1 at h
 refine Zbi h (fun c1 h1=>?_) (fun c1 h2=>?_)
 ·obtain ⟨c2,h3⟩:=ZaU h1
  obtain ⟨x2,c3,h4⟩:=ZdQ h3
  let o1:List PS:=[.r [],.c true,.r [(1,{oe:=x2.ls})]]
  refine Zbi h4 (fun c4 h5=>?_) (fun c4 h6=>?_)
  ·have t1 {Q:Prop} (q:Q):=aO c1 c2 (oD c1) c3 c4 c4 c4 (aJ c4 c4 q)
   refine Zbi h5 (fun c5 h7=>?_) (fun c5 h8=>?_)
   ·obtain rfl:=Zab h7
    exact af fol hE (o1 ++ [.r [],.c true,.r []]) [] 0 [] (t1 c5)
   ·exact an fol (o1 ++ [.r [],.c false,.r []]) [0,4,9,10,11] [4] (t1 c5) (hc1 (w64 (v1+1)) h8)
  ·exact an fol (o1 ++ [.r [(5,wF),(6,wF),(7,wF),(8,wF),(9,yF)],.c false,.r []]) [0,4,9,10,11] [4] (aO c1 c2 (oD c1) c3 c4 c4 c4 (aJ c4 c4 eF)) (hc1 (w64 (v1+1)) h6)
 ·obtain rfl:=Zab h2
  exact af fol hE [.r [],.c false,.r []] [] 0 [] c1
theorem Zbu.snd {height_0:Int} {id_1_0:List Int} {checks_2:LL} {r:Bool} (h:Zbu N height_0 id_1_0 checks_2=some r):Zdh zF 89 [oI height_0,.agg [zM .u8 32 id_1_0],.one (vR 33 checks_2)] (Zbu.rs r):=fun st=>
 sO Zbu.B Tryz.func89 fun g0 w0 R hE=>by
  unfold Zbu at h
  exact aq fol [.r [],.r []] [0,4,9,10,11] [4] trivial (At.loop N (At.loopN (fun y:Int=>Zbu.p1.S height_0 checks_2 y id_1_0 st) (fun c J hc y h=>Zbu.p1_ok h hE (fun v1=>hc v1)) N 0 h))
def Zdi.B:Code:=Tryz.f54.body.getD .skip
def Zdi.rs (r:Int):List CV:=[oI r]
def Zdi (N:Nat) (p_0:Zaj) (at_1:ZaE) (h_2:Zap) (now_3:Int):Option Int:=
 Zbs (ZbN N h_2) fun x1=>
 if (!x1)=true then
  some 1
 else
 if (!(h_2.Prev==at_1.Prev))=true then
  some 2
 else
 Zbs (ZdH N p_0 at_1.Point h_2.Time) fun x2=>
 if (h_2.Bits != x2)=true then
  some 3
 else
 Zbs (ZcZ N p_0 h_2) fun x3=>
 if (x3 != 0)=true then
  some 4
 else
 Zbs (ZcG N h_2.Time at_1.Times) fun x4=>
 if (!x4)=true then
  some 5
 else
 Zbs (Zda N h_2.Time now_3 p_0.Future) fun x5=>
 if (!x5)=true then
  some 6
 else
 Zbs (ZaL N at_1.Point.Height p_0.Gates) fun x6=>
 if (decide (h_2.Version<x6))=true then
  some 7
 else
 Zbs (ZcV N h_2) fun x7=>
 Zbs (Zbu N at_1.Point.Height x7 p_0.Checks) fun x8=>
 if (!x8)=true then
  some 8
 else
 some 0
theorem Zdi.snd {p_0:Zaj} {at_1:ZaE} {h_2:Zap} {now_3:Int} {r:Int} (h:Zdi N p_0 at_1 h_2 now_3=some r):Zdh zF 54 [.agg p_0.ls,.agg at_1.ls,.agg h_2.ls,oI now_3] (Zdi.rs r):=fun st=>
 sO Zdi.B Tryz.func54 fun g0 w0 R hE=>by
  unfold Zdi at h
  obtain ⟨x1,c1,h1⟩:=Zae h
  let o1:List PS:=[.r [],.r [(1,q1 [oB x1])]]
  have t1 {Q:Prop} (q:Q):=aI (ZbN.snd c1) q
  refine Zbi h1 (fun c2 h2=>?_) (fun c2 h3=>?_)
  ·obtain rfl:=Zab h2
   exact af fol hE (o1 ++ [.c true,.r []]) [] 0 [] (t1 c2)
  ·let o2:List PS:=o1 ++ [.c false,.r []]
   refine Zbi h3 (fun c3 h4=>?_) (fun c3 h5=>?_)
   ·obtain rfl:=Zab h4
    exact af fol hE (o2 ++ [.c true,.r []]) [] 0 [] (t1 (aI c2 c3))
   ·obtain ⟨x2,c4,h6⟩:=Zae h5
    let o3:List PS:=o2 ++ [.c false,.d {ds:=[(7,q1 [oI x2])],hv:=0,Hs:=[]}]
    have t2 {Q:Prop} (q:Q):=t1 (aK c2 c3 (ZdH.snd c4) q)
    refine Zbi h6 (fun c5 h7=>?_) (fun c5 h8=>?_)
    ·obtain rfl:=Zab h7
     exact afd fol hE (o3 ++ [.c true,.r []]) [] 0 [] (t2 c5)
    ·obtain ⟨x3,c6,h9⟩:=Zae h8
     let o4:List PS:=o3 ++ [.c false,.r [(2,q1 [oI x3])]]
     have t3 {Q:Prop} (q:Q):=t2 (aJ c5 (ZcZ.snd c6) q)
     refine Zbi h9 (fun c7 h10=>?_) (fun c7 h11=>?_)
     ·obtain rfl:=Zab h10
      exact afd fol hE (o4 ++ [.c true,.r []]) [] 0 [] (t3 c7)
     ·obtain ⟨x4,c8,h12⟩:=Zae h11
      let o5:List PS:=o4 ++ [.c false,.r [(4,q1 [oB x4])]]
      have t4 {Q:Prop} (q:Q):=t3 (aJ c7 (ZcG.snd c8) q)
      refine Zbi h12 (fun c9 h13=>?_) (fun c9 h14=>?_)
      ·obtain rfl:=Zab h13
       exact afd fol hE (o5 ++ [.c true,.r []]) [] 0 [] (t4 c9)
      ·obtain ⟨x5,c10,h15⟩:=Zae h14
       let o6:List PS:=o5 ++ [.c false,.r [(5,q1 [oB x5])]]
       have t5 {Q:Prop} (q:Q):=t4 (aJ c9 (Zda.snd c10) q)
       refine Zbi h15 (fun c11 h16=>?_) (fun c11 h17=>?_)
       ·obtain rfl:=Zab h16
        exact afd fol hE (o6 ++ [.c true,.r []]) [] 0 [] (t5 c11)
       ·obtain ⟨x6,c12,h18⟩:=Zae h17
        let o7:List PS:=o6 ++ [.c false,.d {ds:=[(7,q1 [oI x6])],hv:=0,Hs:=[]}]
        have t6 {Q:Prop} (q:Q):=t5 (aJ c11 (ZaL.snd c12) q)
        refine Zbi h18 (fun c13 h19=>?_) (fun c13 h20=>?_)
        ·obtain rfl:=Zab h19
         exact afd fol hE (o7 ++ [.c true,.r []]) [] 0 [] (t6 c13)
        ·obtain ⟨x7,c14,h21⟩:=Zae h20
         obtain ⟨x8,c15,h22⟩:=Zae h21
         let o8:List PS:=o7 ++ [.c false,.d {ds:=[(4,q1 [.agg [zM .u8 32 x7]]),(7,q1 [oB x8])],hv:=0,Hs:=[]}]
         have t7 {Q:Prop} (q:Q):=t6 (aK c13 (ZcV.snd c14) (Zbu.snd c15) q)
         refine Zbi h22 (fun c16 h23=>?_) (fun c16 h24=>?_)
         ·obtain rfl:=Zab h23
          exact afd fol hE (o8 ++ [.c true,.r []]) [] 0 [] (t7 c16)
         ·obtain rfl:=Zab h24
          exact afd fol hE (o8 ++ [.c false,.r []]) [] 0 [] (t7 c16)
def Zav.B:Code:=Tryz.f26.body.getD .skip
def Zav.rs (r:Int×Int×Int×LL):List CV:=[oI r.1,oI r.2.1,oI r.2.2.1]
def Zav.p2 (N:Nat) (i2:Nat) (now_2 ahead_12:Int) (is_13:Bool) (h_1:Zap) (st:LL):Option (Int×Int×Int×LL):=
 if (!is_13)=true then
  some ((-1),2,5,st)
 else
 ZcI (st[i2]?) ZaY fun x14=>
 chk (0≤ahead_12)<|
 chk (ahead_12<(len x14.spots))<|
 ZcI (x14.spots[0+(zE ahead_12)]?) ZeI fun x15=>
 Zbs (Zdi N x14.rules x15 h_1 now_2) fun x16=>
 if (x16 != 0)=true then
  some ((-1),x16,8,st)
 else
 if (decide ((len x14.list)≥x14.room))=true then
  some ((-1),0,6,st)
 else
 Zbs (ZcK N x14.rules x15 h_1) fun x17=>
 Zbs (ZaI N (some i2) h_1 ahead_12 x17 st) fun (x18,st19)=>
 some (x18,0,0,st19)
def Zav.p1 (N:Nat) (i2:Nat) (now_2 at_7:Int) (is_8:Bool) (h_1:Zap) (st:LL):Option (Int×Int×Int×LL):=
 if is_8=true then
  some (at_7,0,0,st)
 else
 ZcI (st[i2]?) ZaY fun x9=>
 optM (Zga x9.places (zM .u8 32 h_1.Prev)) (fun j10 e=>ZcQ [e] fun x11=>
  Zav.p2 N i2 now_2 x11 true h_1 st)
 (
  Zav.p2 N i2 now_2 0 false h_1 st)
def Zav (N:Nat) (a_0:Option Nat) (h_1:Zap) (now_2:Int) (st:LL):Option (Int×Int×Int×LL):=
 if (wL a_0)=true then
  some ((-1),0,2,st)
 else
 Zbs (ZbN N h_1) fun x1=>
 if (!x1)=true then
  some ((-1),1,8,st)
 else
 Zbs a_0 fun i2=>
 ZcI (st[i2]?) ZaY fun x3=>
 Zbs (ZcV N h_1) fun x4=>
 optM (Zga x3.places (zM .u8 32 x4)) (fun j5 e=>ZcQ [e] fun x6=>
  Zav.p1 N i2 now_2 x6 true h_1 st)
 (
  Zav.p1 N i2 now_2 0 false h_1 st)
def Zav.p2.S (i2:Nat) (now_2 ahead_12:Int) (is_13:Bool) (h_1:Zap) (st:LL):S:=mkS 87 [(0,sP (some i2)),(2,sI now_2),(4,sA 4),(11,sI ahead_12),(12,.one (.l (tT is_13)))] [(4,.cells h_1.ls)] st
def Zav.p1.S (i2:Nat) (now_2 at_7:Int) (is_8:Bool) (h_1:Zap) (st:LL):S:=mkS 87 [(0,sP (some i2)),(2,sI now_2),(4,sA 4),(9,sI at_7),(10,.one (.l (tT is_8)))] [(4,.cells h_1.ls)] st
theorem Zav.p2_ok {i2 now_2 ahead_12 is_13 h_1 st r} (h:Zav.p2 N i2 now_2 ahead_12 is_13 h_1 st=some r) (hE:En Tryz.f26 g0 w0 (Zav.rs r) r.2.2.2 R):At g0 w0 (Zav.p2.S i2 now_2 ahead_12 is_13 h_1 st) (XK zF R [.c (Zcb Zav.B [1,1,1,1,1])]):=by
 unfold Zav.p2 at h
 refine Zbi h (fun c11 h1=>?_) (fun c11 h2=>?_)
 ·obtain rfl:=Zab h1
  exact af fol hE [.r [],.c true,.r []] [] 0 [] c11
 ·obtain ⟨x14,c12,h3⟩:=ZaP h2
  obtain ⟨c13,c14,h4⟩:=ck2 h3
  obtain ⟨x15,c15,h5⟩:=ZhP h4
  obtain ⟨x16,c16,h6⟩:=Zae h5
  let o1:List PS:=[.r [],.c false,.d {ds:=[(3,{oc:=x14.lo}),(7,{oc:=x14.lo}),(10,{oc:=x14.lo,oe:=x15.ls}),(13,q1 [oI x16])],hv:=0,Hs:=[]},.r []]
  have t1 {Q:Prop} (q:Q):=aO c11 c12 c12 c13 c14 c15 c12 (aI (Zdi.snd c16) q)
  refine Zbi h6 (fun c17 h7=>?_) (fun c17 h8=>?_)
  ·obtain rfl:=Zab h7
   exact afd fol hE (o1 ++ [.c true,.r []]) [] 0 [] (t1 c17)
  ·let o2:List PS:=o1 ++ [.c false,.d {ds:=[(3,{oc:=x14.lo}),(8,{oc:=x14.lo})],hv:=0,Hs:=[]}]
   refine Zbi h8 (fun c18 h9=>?_) (fun c18 h10=>?_)
   ·obtain rfl:=Zab h9
    exact afd fol hE (o2 ++ [.c true,.r []]) [] 0 [] (t1 (aK c17 c12 c12 c18))
   ·obtain ⟨x17,c19,h11⟩:=Zae h10
    obtain ⟨⟨x18,st19⟩,c20,h12⟩:=Zae h11
    obtain rfl:=Zab h12
    exact afd fol hE (o2 ++ [.c false,.d {ds:=[(6,{oc:=x14.lo}),(10,{oc:=x14.lo}),(13,{oc:=x14.lo,oe:=x15.ls}),(15,q1 [.agg x17.ls]),(16,{rs:=[oI x18],st:=st19})],hv:=65536,Hs:=[65536]}]) [] 0 [] (t1 (aO c17 c12 c12 c18 c12 c12 c13 (aL c14 c15 c12 (ZcK.snd c19) (ZaI.snd c20))))
theorem Zav.p1_ok {i2 now_2 at_7 is_8 h_1 st r} (h:Zav.p1 N i2 now_2 at_7 is_8 h_1 st=some r) (hE:En Tryz.f26 g0 w0 (Zav.rs r) r.2.2.2 R):At g0 w0 (Zav.p1.S i2 now_2 at_7 is_8 h_1 st) (XK zF R [.c (Zcb Zav.B [1,1,1,0,1]),.c (Zcb Zav.B [1,1,1,1])]):=by
 unfold Zav.p1 at h
 refine Zbi h (fun c8 h13=>?_) (fun c8 h14=>?_)
 ·obtain rfl:=Zab h13
  exact af fol hE [.r [],.c true,.r []] [] 0 [] c8
 ·obtain ⟨x9,c9,h15⟩:=ZaP h14
  rcases Zks h15 with ⟨j10,h19,c10,h16⟩ | ⟨c10,h17⟩
  ·obtain ⟨x11,h20,h18⟩:=ZgP h16
   obtain rfl:=ZhG h20
   exact aqd fol [.r [],.c false,.d {ds:=[(3,{oc:=x9.lo}),(6,{oc:=x9.lo,oe:=[zJ .i64 x11]})],hv:=0,Hs:=[]},.s 1] [0,2,4,11,12] [4] (aK c8 c9 (ZpJ c10) c9) (Zav.p2_ok h18 hE)
  ·exact aqd fol [.r [],.c false,.d {ds:=[(3,{oc:=x9.lo}),(6,{oc:=x9.lo,yes:=false})],hv:=0,Hs:=[]},.s 1] [0,2,4,11,12] [4] (aK c8 c9 c10 c9) (Zav.p2_ok h17 hE)
theorem Zav.snd {a_0:Option Nat} {h_1:Zap} {now_2:Int} {st:LL} {r:Int×Int×Int×LL} (h:Zav N a_0 h_1 now_2 st=some r):Snd zF 26 [.one (yM a_0),.agg h_1.ls,oI now_2] st (Zav.rs r) r.2.2.2:=
 sO Zav.B Tryz.func26 fun g0 w0 R hE=>by
  unfold Zav at h
  refine Zbi h (fun c1 h21=>?_) (fun c1 h22=>?_)
  ·obtain rfl:=Zab h21
   exact af fol hE [.r [],.r [],.c true,.r []] [] 0 [] c1
  ·obtain ⟨x1,c2,h23⟩:=Zae h22
   let o3:List PS:=[.r [],.r [],.c false,.r [(1,q1 [oB x1])]]
   have t2 {Q:Prop} (q:Q):=aJ c1 (ZbN.snd c2) q
   refine Zbi h23 (fun c3 h24=>?_) (fun c3 h25=>?_)
   ·obtain rfl:=Zab h24
    exact af fol hE (o3 ++ [.c true,.r []]) [] 0 [] (t2 c3)
   ·obtain ⟨i2,rfl,h26⟩:=Zae h25
    obtain ⟨x3,c5,h27⟩:=ZaP h26
    obtain ⟨x4,c6,h28⟩:=Zae h27
    rcases Zks h28 with ⟨j5,h32,c7,h29⟩ | ⟨c7,h30⟩
    ·obtain ⟨x6,h33,h31⟩:=ZgP h29
     obtain rfl:=ZhG h33
     exact aqd fol (o3 ++ [.c false,.d {ds:=[(3,{oc:=x3.lo}),(5,q1 [.agg [zM .u8 32 x4]]),(6,{oc:=x3.lo,oe:=[zJ .i64 x6]})],hv:=0,Hs:=[]},.s 2]) [0,2,4,9,10] [4] (t2 (aL c3 c5 (ZcV.snd c6) (ZpJ c7) c5)) (Zav.p1_ok h31 hE)
    ·exact aqd fol (o3 ++ [.c false,.d {ds:=[(3,{oc:=x3.lo}),(5,q1 [.agg [zM .u8 32 x4]]),(6,{oc:=x3.lo,yes:=false})],hv:=0,Hs:=[]},.s 2]) [0,2,4,9,10] [4] (t2 (aL c3 c5 (ZcV.snd c6) c7 c5)) (Zav.p1_ok h30 hE)
def Zbv.B:Code:=Tryz.f27.body.getD .skip
def Zbv.rs (r:Zby×Bool):List CV:=[.agg r.1.ls,oB r.2]
def Zbv (N:Nat) (a_0:Zau) (at_1:Int):Option (Zby×Bool):=
 Zbs (Zbg N a_0 at_1) fun x1=>
 if (!x1)=true then
  some (Zby.mk (Zap.mk 0 (zC 32 0) (zC 32 0) 0 0 0) (zC 32 0) (-1) 0 (zC 4 0),false)
 else
 chk (0≤at_1)<|
 chk (at_1<(len a_0.list))<|
 ZcI (a_0.list[zE at_1]?) Zdb fun x2=>
 some (x2,true)
theorem Zbv.snd {a_0:Zau} {at_1:Int} {r:Zby×Bool} (h:Zbv N a_0 at_1=some r):Zdh zF 27 [.one (xN 87 a_0.ls),oI at_1] (Zbv.rs r):=fun st=>
 sO Zbv.B Tryz.func27 fun g0 w0 R hE=>by
  unfold Zbv at h
  obtain ⟨x1,c1,h1⟩:=Zae h
  let o1:List PS:=[.r [],.r [(2,q0 [oB x1])]]
  refine Zbi h1 (fun c2 h2=>?_) (fun c2 h3=>?_)
  ·obtain rfl:=Zab h2
   exact af fol hE (o1 ++ [.c true,.r []]) [] 0 [] (aI (Zbg.snd c1) c2)
  ·obtain ⟨c3,c4,h4⟩:=ck2 h3
   obtain ⟨x2,c5,h5⟩:=Zdr h4
   obtain rfl:=Zab h5
   exact af fol hE (o1 ++ [.c false,.r [(3,{oe:=a_0.ls}),(6,{oe:=x2.ls})]]) [] 0 [] (aM (Zbg.snd c1) c2 (eO a_0.ls) c3 c4 c5)
def ZcM.B:Code:=Tryz.f59.body.getD .skip
def ZcM.rs (r:Int):List CV:=[oI r]
def ZcM (N:Nat) (n_0:Int):Option Int:=
 some (ZaB .and .i64 n_0 (w64 (n_0-1)))
theorem ZcM.snd {n_0:Int} {r:Int} (h:ZcM N n_0=some r):Zdh zF 59 [oI n_0] (ZcM.rs r):=fun st=>
 sO ZcM.B Tryz.func59 fun g0 w0 R hE=>by
  unfold ZcM at h
  obtain rfl:=Zab h
  exact af fol hE [.r [],.r []] [] 0 [] trivial
def ZcY.B:Code:=Tryz.f29.body.getD .skip
def ZcY.rs (r:Int):List CV:=[oI r]
def ZcY (N:Nat) (h_0:Int):Option Int:=
 if (decide (h_0<2))=true then
  some 0
 else
 if ((ZaB .and .i64 h_0 1)==0)=true then
  Zbs (ZcM N h_0) fun x1=>
  some x1
 else
 Zbs (ZcM N (w64 (h_0-1))) fun x2=>
 Zbs (ZcM N x2) fun x3=>
 some (w64 (x3+1))
theorem ZcY.snd {h_0:Int} {r:Int} (h:ZcY N h_0=some r):Zdh zF 29 [oI h_0] (ZcY.rs r):=fun st=>
 sO ZcY.B Tryz.func29 fun g0 w0 R hE=>by
  unfold ZcY at h
  refine Zbi h (fun c1 h1=>?_) (fun c1 h2=>?_)
  ·obtain rfl:=Zab h1
   exact af fol hE [.r [],.r [],.c true,.r []] [] 0 [] c1
  ·refine Zbi h2 (fun c2 h3=>?_) (fun c2 h4=>?_)
   ·obtain ⟨x1,c3,h5⟩:=Zae h3
    obtain rfl:=Zab h5
    exact af fol hE [.r [],.r [],.c false,.r [],.c true,.r [(1,q1 [oI x1])]] [] 0 [] (aJ c1 c2 (ZcM.snd c3))
   ·obtain ⟨x2,c4,h6⟩:=Zae h4
    obtain ⟨x3,c5,h7⟩:=Zae h6
    obtain rfl:=Zab h7
    exact af fol hE [.r [],.r [],.c false,.r [],.c false,.r [(2,q1 [oI x2]),(3,q1 [oI x3])]] [] 0 [] (aK c1 c2 (ZcM.snd c4) (ZcM.snd c5))
def ZbE.B:Code:=Tryz.f58.body.getD .skip
def ZbE.rs (r:Zby×Bool):List CV:=[.agg r.1.ls,oB r.2]
def ZbE (N:Nat) (t_0:Zao) (at_1:Int):Option (Zby×Bool):=
 Zbs (Zbv N t_0.store at_1) fun (x1,x2)=>
 some (x1,x2)
theorem ZbE.snd {t_0:Zao} {at_1:Int} {r:Zby×Bool} (h:ZbE N t_0 at_1=some r):Zdh zF 58 [.one (xN 2 t_0.ls),oI at_1] (ZbE.rs r):=fun st=>
 sO ZbE.B Tryz.func58 fun g0 w0 R hE=>by
  unfold ZbE at h
  obtain ⟨⟨x1,x2⟩,c1,h1⟩:=Zae h
  obtain rfl:=Zab h1
  exact af fol hE [.r [],.r [],.c false,.r [(3,{oe:=t_0.ls}),(5,q0 [.agg x1.ls,oB x2])]] [] 0 [] (aJ eF (eO t_0.ls) (Zbv.snd c1))
def ZaM.B:Code:=Tryz.f57.body.getD .skip
def ZaM.rs (r:Int):List CV:=[oI r]
def ZaM (N:Nat) (t_0:Zao) (at_1:Int):Option Int:=
 Zbs (ZbE N t_0 at_1) fun (x1,x2)=>
 if (!x2)=true then
  some (-1)
 else
 some x1.Height
theorem ZaM.snd {t_0:Zao} {at_1:Int} {r:Int} (h:ZaM N t_0 at_1=some r):Zdh zF 57 [.one (xN 2 t_0.ls),oI at_1] (ZaM.rs r):=fun st=>
 sO ZaM.B Tryz.func57 fun g0 w0 R hE=>by
  unfold ZaM at h
  obtain ⟨⟨x1,x2⟩,c1,h1⟩:=Zae h
  let o1:List PS:=[.r [],.r [(2,q0 [.agg x1.ls,oB x2])],.r []]
  refine Zbi h1 (fun c2 h2=>?_) (fun c2 h3=>?_)
  ·obtain rfl:=Zab h2
   exact af fol hE (o1 ++ [.c true,.r []]) [] 0 [] (aI (ZbE.snd c1) c2)
  ·obtain rfl:=Zab h3
   exact af fol hE (o1 ++ [.c false,.r []]) [] 0 [] (aI (ZbE.snd c1) c2)
def Zaq.B:Code:=Tryz.f28.body.getD .skip
def Zaq.rs (r:Int):List CV:=[oI r]
def Zaq.p2 (N:Nat) (c1_:(Int×Int)→Option Int) (t_0:Zao) (height_2 next_8 x6 x7:Int):Option Int:=
 Zbs (ZaM N t_0 next_8) fun x9=>
 c1_ (next_8,x9)
def Zaq.p1 (N:Nat) (t_0:Zao) (height_2:Int) (c1_:(Int×Int)→Option Int):(Int×Int)→Option Int:=fun (at_2,h_3)=>
 if (decide (h_3>height_2))=true then
  Zbs (ZbE N t_0 at_2) fun (x4,x5)=>
  chk (0≤at_2)<|
  chk (at_2<(len t_0.leaps))<|
  ZcI (t_0.leaps[zE at_2]?) ZcQ fun x6=>
  if (x6 != (-1))=true then
   Zbs (ZaM N t_0 x6) fun x7=>
   if (decide (x7≥height_2))=true then
    Zaq.p2 N c1_ t_0 height_2 x6 x6 x7
   else
   Zaq.p2 N c1_ t_0 height_2 x4.Ahead x6 x7
  else
  Zbs (ZaM N t_0 x4.Ahead) fun x10=>
  c1_ (x4.Ahead,x10)
 else
 some at_2
def Zaq (N:Nat) (t_0:Zao) (at_1 height_2:Int):Option Int:=
 Zbs (ZaM N t_0 at_1) fun x1=>
 if (decide (height_2<0))=true then
  some (-1)
 else
 if (decide (height_2>x1))=true then
  some (-1)
 else
 loopN (Zaq.p1 N t_0 height_2) N (at_1,x1)
def Zaq.p2.S (t_0:Zao) (height_2 next_8 x6 x7:Int) (st:LL):S:=mkS 55 [(0,.one (.l (xN 2 t_0.ls))),(2,sI height_2),(10,sI next_8),(43,.one (.l (xN 2 t_0.ls))),(44,sI x6),(45,sI x7),(46,sI height_2),(47,.one (.l (tT (decide (x7≥height_2)))))] [] st
def Zaq.p1.S (t_0:Zao) (at_2 height_2 h_3:Int) (st:LL):S:=mkS 55 [(0,.one (.l (xN 2 t_0.ls))),(1,sI at_2),(2,sI height_2),(7,sI h_3)] [] st
theorem Zaq.p2_ok {t_0 height_2 next_8 x6 x7 st r c1_ J1} (h:Zaq.p2 N c1_ t_0 height_2 next_8 x6 x7=some r) (hE:En Tryz.f28 g0 w0 (Zaq.rs r) st R) (hc1 : ∀at_2 h_3,c1_ (at_2,h_3)=some r→At g0 w0 (Zaq.p1.S t_0 at_2 height_2 h_3 st) J1):At g0 w0 (Zaq.p2.S t_0 height_2 next_8 x6 x7 st) (XK zF R [.c (Zcb Zaq.B [1,1,1,0,0,0,1,0,1,1,1]),.b 1,.h J1,.b 0,.c (Zcb Zaq.B [1,1,1,1])]):=by
 unfold Zaq.p2 at h
 obtain ⟨x9,c12,h1⟩:=Zae h
 exact an fol [.r [(3,q0 [oI x9])]] [0,1,2,7] [] (ZaM.snd c12) (hc1 next_8 x9 h1)
theorem Zaq.p1_ok {t_0 at_2 height_2 h_3 st r c1_ J1} (h:Zaq.p1 N t_0 height_2 c1_ (at_2,h_3)=some r) (hE:En Tryz.f28 g0 w0 (Zaq.rs r) st R) (hc1 : ∀at_2 h_3,c1_ (at_2,h_3)=some r→At g0 w0 (Zaq.p1.S t_0 at_2 height_2 h_3 st) J1):At g0 w0 (Zaq.p1.S t_0 at_2 height_2 h_3 st) (XK zF R (.c (Zcb Zaq.B [1,1,1,0,0,0]) :: .h J1 :: [.b 0,.c (Zcb Zaq.B [1,1,1,1])])):=by
 unfold Zaq.p1 at h
 refine Zbi h (fun c4 h2=>?_) (fun c4 h3=>?_)
 ·obtain ⟨⟨x4,x5⟩,c5,h4⟩:=Zae h2
  obtain ⟨c6,c7,h5⟩:=ck2 h4
  obtain ⟨x6,c8,h6⟩:=Zck h5
  let o1:List PS:=[.r [],.c true,.r [(2,q0 [.agg x4.ls,oB x5])],.r [],.r [(3,{oe:=t_0.ls}),(6,{oe:=[zJ .i64 x6]})]]
  have t1 {Q:Prop} (q:Q):=aN c4 (ZbE.snd c5) (eO t_0.ls) c6 c7 c8 q
  refine Zbi h6 (fun c9 h7=>?_) (fun c9 h8=>?_)
  ·obtain ⟨x7,c10,h9⟩:=Zae h7
   let o2:List PS:=o1 ++ [.r [(5,q0 [oI x7])]]
   have t2 {Q:Prop} (q:Q):=t1 (aO c9 c9 c9 (ZaM.snd c10) c9 c9 c9 q)
   refine Zbi h9 (fun c11 h10=>?_) (fun c11 h11=>?_)
   ·exact aq fol (o2 ++ [.c true,.r [],.s 5]) [0,2,10,43,44,45,46,47] [] (t2 c11) (Zaq.p2_ok h10 hE hc1)
   ·exact aq fol (o2 ++ [.c false,.s 5]) [0,2,10,43,44,45,46,47] [] (t2 c11) (Zaq.p2_ok h11 hE hc1)
  ·obtain ⟨x10,c13,h12⟩:=Zae h8
   exact an fol (o1 ++ [.r [(3,wF),(4,wF),(5,wF),(6,wF),(7,wF),(8,yF)],.c false,.r [(3,q0 [oI x10])]]) [0,1,2,7] [] (t1 (aO c9 c9 c9 c9 c9 c9 eF (ZaM.snd c13))) (hc1 x4.Ahead x10 h12)
 ·obtain rfl:=Zab h3
  exact af fol hE [.r [],.c false,.r []] [] 0 [] c4
theorem Zaq.snd {t_0:Zao} {at_1 height_2:Int} {r:Int} (h:Zaq N t_0 at_1 height_2=some r):Zdh zF 28 [.one (xN 2 t_0.ls),oI at_1,oI height_2] (Zaq.rs r):=fun st=>
 sO Zaq.B Tryz.func28 fun g0 w0 R hE=>by
  unfold Zaq at h
  obtain ⟨x1,c1,h13⟩:=Zae h
  let o3:List PS:=[.r [],.r [(2,q0 [oI x1])]]
  have t3 {Q:Prop} (q:Q):=aI (ZaM.snd c1) q
  refine Zbi h13 (fun c2 h14=>?_) (fun c2 h15=>?_)
  ·obtain rfl:=Zab h14
   exact af fol hE (o3 ++ [.r [(3,wF),(4,wF),(5,wF)],.c true,.r []]) [] 0 [] (t3 (aL c2 c2 c2 c2 eT))
  ·refine Zbi h15 (fun c3 h16=>?_) (fun c3 h17=>?_)
   ·obtain rfl:=Zab h16
    exact af fol hE (o3 ++ [.r [(6,yF)],.c true,.r []]) [] 0 [] (t3 (aL c2 c2 c2 c2 c3))
   ·exact aq fol (o3 ++ [.r [(6,yF)],.c false]) [0,1,2,7] [] (t3 (aL c2 c2 c2 c2 c3)) (At.loop N (At.loopN (fun y:Int×Int=>Zaq.p1.S t_0 y.1 height_2 y.2 st) (fun c J hc y h=>Zaq.p1_ok (at_2:=y.1) (h_3:=y.2) h hE (fun at_2 h_3=>hc (at_2,h_3))) N (at_1,x1) h17))
def ZcS.B:Code:=Tryz.f58.body.getD .skip
def ZcS.rs (r:Zby×Bool×LL):List CV:=[.agg r.1.ls,oB r.2.1]
def ZcS (N:Nat) (t_0:Option Nat) (at_1:Int) (st:LL):Option (Zby×Bool×LL):=
 if (wL t_0)=true then
  some (Zby.mk (Zap.mk 0 (zC 32 0) (zC 32 0) 0 0 0) (zC 32 0) (-1) 0 (zC 4 0),false,st)
 else
 Zbs t_0 fun i1=>
 ZcI (st[i1]?) Zbk fun x2 x3=>
 Zbs x2 fun i4=>
 ZcI (st[i4]?) ZaY fun x5=>
 Zbs (Zbv N x5 at_1) fun (x6,x7)=>
 some (x6,x7,st)
theorem ZcS.snd {t_0:Option Nat} {at_1:Int} {st:LL} {r:Zby×Bool×LL} (h:ZcS N t_0 at_1 st=some r):Snd zF 58 [.one (yM t_0),oI at_1] st (ZcS.rs r) r.2.2:=
 sO ZcS.B Tryz.func58 fun g0 w0 R hE=>by
  unfold ZcS at h
  refine Zbi h (fun c1 h1=>?_) (fun c1 h2=>?_)
  ·obtain rfl:=Zab h1
   exact af fol hE [.r [],.r [],.c true,.r []] [] 0 [] c1
  ·obtain ⟨i1,rfl,h3⟩:=Zae h2
   obtain ⟨x2,x3,c3,h4⟩:=ZaX h3
   obtain ⟨i4,rfl,h5⟩:=Zae h4
   obtain ⟨x5,c5,h6⟩:=ZaP h5
   obtain ⟨⟨x6,x7⟩,c6,h7⟩:=Zae h6
   obtain rfl:=Zab h7
   exact af fol hE [.r [],.r [],.c false,.r [(3,{oc:=[yM (some i4),yR true 1 x3]}),(5,{rs:=[.agg x6.ls,oB x7],m:=10,cv:=[.one (xN 87 x5.ls)]})]] [] 0 [] (aK c1 c3 (bO 87 c5 (Zau.bv x5)) (Zbv.snd c6))
def Zco.B:Code:=Tryz.f57.body.getD .skip
def Zco.rs (r:Int×LL):List CV:=[oI r.1]
def Zco (N:Nat) (t_0:Option Nat) (at_1:Int) (st:LL):Option (Int×LL):=
 Zbs (ZcS N t_0 at_1 st) fun (x1,x2,st3)=>
 if (!x2)=true then
  some ((-1),st3)
 else
 some (x1.Height,st3)
theorem Zco.snd {t_0:Option Nat} {at_1:Int} {st:LL} {r:Int×LL} (h:Zco N t_0 at_1 st=some r):Snd zF 57 [.one (yM t_0),oI at_1] st (Zco.rs r) r.2:=
 sO Zco.B Tryz.func57 fun g0 w0 R hE=>by
  unfold Zco at h
  obtain ⟨⟨x1,x2,st3⟩,c1,h1⟩:=Zae h
  let o1:List PS:=[.r [],.r [(2,{rs:=[.agg x1.ls,oB x2],st:=st3})],.r []]
  refine Zbi h1 (fun c2 h2=>?_) (fun c2 h3=>?_)
  ·obtain rfl:=Zab h2
   exact af fol hE (o1 ++ [.c true,.r []]) [] 0 [] (aI (ZcS.snd c1) c2)
  ·obtain rfl:=Zab h3
   exact af fol hE (o1 ++ [.c false,.r []]) [] 0 [] (aI (ZcS.snd c1) c2)
end Go.Dn.F
end
