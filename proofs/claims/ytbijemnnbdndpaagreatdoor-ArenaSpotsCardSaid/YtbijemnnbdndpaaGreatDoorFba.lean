import Derived.Test.YtbijemnnbdndpaaGreatDoorFm
import Derived.Test.YtbijemnnbdndpaaGreatDoorSp
set_option linter.all false
open Array renaming toList→rD
open ByteArray renaming size→zU,mk→xP,data→sJ
open Go.Dn.L renaming int→zI,arr→zH,bool→uA,sl→vK,own→wL,str→wY
open Go.Proofs.Tryz renaming prog→zF
open Int renaming tdiv→zN,tmod→zT,toNat→zE
open List renaming set→zP,getD→zD,replicate→zB,length→zK,map→wX
noncomputable section
set_option maxRecDepth 100000
namespace Go.Dn.F
open Go.Proofs
variable {N:Nat} {g0:G} {w0:World} {R:Exit→Act→World→Prop}
structure ZbR where
  Height:Int
  Version:Int
def ZbR.ls (x:ZbR):List L:=[zI .i64 x.Height,zI .i64 x.Version]
def ZcW {α:Type} (l:List L) (k:ZbR→Option α):Option α:=match l with
  | [zI .i64 x0,zI .i64 x1]=>k ⟨x0,x1⟩
  | _=>none
theorem ZcO {α:Type} {o:Option (List L)} {k:ZbR→Option α} {r:α} (h:Zds o ZcW k=some r) : ∃x:ZbR,o=some x.ls∧k x=some r:=by
  obtain ⟨l,e,k1⟩:=Zaf h;subst e;unfold ZcW at k1;split at k1
  · exact ⟨_,rfl,k1⟩
  · cases k1
@[simp] theorem ZcV {α:Type} (x:ZbR) (k:ZbR→Option α):ZcW x.ls k=k x:=rfl
theorem ZbR.bv {st:LL} (x:ZbR):BVs st x.ls x.ls:=(bP (bP bN))
structure ZbH where
  Height:Int
  Id:List Int
def ZbH.ls (x:ZbH):List L:=[zI .i64 x.Height,zH .u8 32 x.Id]
def Zdz {α:Type} (l:List L) (k:ZbH→Option α):Option α:=match l with
  | [zI .i64 x0,zH .u8 32 x1]=>k ⟨x0,x1⟩
  | _=>none
theorem ZdI {α:Type} {o:Option (List L)} {k:ZbH→Option α} {r:α} (h:Zds o Zdz k=some r) : ∃x:ZbH,o=some x.ls∧k x=some r:=by
  obtain ⟨l,e,k1⟩:=Zaf h;subst e;unfold Zdz at k1;split at k1
  · exact ⟨_,rfl,k1⟩
  · cases k1
@[simp] theorem ZdN {α:Type} (x:ZbH) (k:ZbH→Option α):Zdz x.ls k=k x:=rfl
theorem ZbH.bv {st:LL} (x:ZbH):BVs st x.ls x.ls:=(bP (bP bN))
def ZaF.ls (x:ZaF):List L:=[zI .i64 x.rules.Limit,zI .i64 x.rules.Interval,zI .i64 x.rules.Spacing,zI .i64 x.rules.Future,uA x.rules.Easy,vK 2 x.rules.Gates,vK 33 x.rules.Checks,zH .u64 4 x.rules.MinWork,zH .u64 4 x.rules.Margin,zI .i64 x.rules.Genesis.Version,zH .u8 32 x.rules.Genesis.Prev,zH .u8 32 x.rules.Genesis.Root,zI .i64 x.rules.Genesis.Time,zI .i64 x.rules.Genesis.Bits,zI .i64 x.rules.Genesis.Nonce,vK 106 x.list,vK 38 x.spots,L.mz x.places,zI .i64 x.room]
theorem ZaF.bv {st:LL} (x:ZaF):BVs st x.lo x.ls:=(bP (bP (bP (bP (bP (bS (bS (bP (bP (bP (bP (bP (bP (bP (bP (bW (bW (bM (bP bN)))))))))))))))))))
structure Zcy where
  Header:Zaj
  Id:List Int
  Ahead:Int
  Height:Int
  Work:List Int
def Zcy.ls (x:Zcy):List L:=[zI .i64 x.Header.Version,zH .u8 32 x.Header.Prev,zH .u8 32 x.Header.Root,zI .i64 x.Header.Time,zI .i64 x.Header.Bits,zI .i64 x.Header.Nonce,zH .u8 32 x.Id,zI .i64 x.Ahead,zI .i64 x.Height,zH .u64 4 x.Work]
def ZeC {α:Type} (l:List L) (k:Zcy→Option α):Option α:=match l with
  | [zI .i64 x0,zH .u8 32 x1,zH .u8 32 x2,zI .i64 x3,zI .i64 x4,zI .i64 x5,zH .u8 32 x6,zI .i64 x7,zI .i64 x8,zH .u64 4 x9]=>k ⟨⟨x0,x1,x2,x3,x4,x5⟩,x6,x7,x8,x9⟩
  | _=>none
theorem Zhy {α:Type} {o:Option (List L)} {k:Zcy→Option α} {r:α} (h:Zds o ZeC k=some r) : ∃x:Zcy,o=some x.ls∧k x=some r:=by
  obtain ⟨l,e,k1⟩:=Zaf h;subst e;unfold ZeC at k1;split at k1
  · exact ⟨_,rfl,k1⟩
  · cases k1
@[simp] theorem ZhY {α:Type} (x:Zcy) (k:Zcy→Option α):ZeC x.ls k=k x:=rfl
theorem Zcy.bv {st:LL} (x:Zcy):BVs st x.ls x.ls:=(bP (bP (bP (bP (bP (bP (bP (bP (bP (bP bN))))))))))
structure Zbh where
  Header:Zaj
  Now:Int
def Zbh.ls (x:Zbh):List L:=[zI .i64 x.Header.Version,zH .u8 32 x.Header.Prev,zH .u8 32 x.Header.Root,zI .i64 x.Header.Time,zI .i64 x.Header.Bits,zI .i64 x.Header.Nonce,zI .i64 x.Now]
def ZcJ {α:Type} (l:List L) (k:Zbh→Option α):Option α:=match l with
  | [zI .i64 x0,zH .u8 32 x1,zH .u8 32 x2,zI .i64 x3,zI .i64 x4,zI .i64 x5,zI .i64 x6]=>k ⟨⟨x0,x1,x2,x3,x4,x5⟩,x6⟩
  | _=>none
theorem Zea {α:Type} {o:Option (List L)} {k:Zbh→Option α} {r:α} (h:Zds o ZcJ k=some r) : ∃x:Zbh,o=some x.ls∧k x=some r:=by
  obtain ⟨l,e,k1⟩:=Zaf h;subst e;unfold ZcJ at k1;split at k1
  · exact ⟨_,rfl,k1⟩
  · cases k1
@[simp] theorem Zej {α:Type} (x:Zbh) (k:Zbh→Option α):ZcJ x.ls k=k x:=rfl
theorem Zbh.bv {st:LL} (x:Zbh):BVs st x.ls x.ls:=(bP (bP (bP (bP (bP (bP (bP bN)))))))
structure Zaa where
  Rules:Zae
  List_:LL
  Ids:LL
  Ahead:LL
  Works:LL
  Room:Int
def Zaa.lo (x:Zaa):List L:=[zI .i64 x.Rules.Limit,zI .i64 x.Rules.Interval,zI .i64 x.Rules.Spacing,zI .i64 x.Rules.Future,uA x.Rules.Easy,vK 2 x.Rules.Gates,vK 33 x.Rules.Checks,zH .u64 4 x.Rules.MinWork,zH .u64 4 x.Rules.Margin,zI .i64 x.Rules.Genesis.Version,zH .u8 32 x.Rules.Genesis.Prev,zH .u8 32 x.Rules.Genesis.Root,zI .i64 x.Rules.Genesis.Time,zI .i64 x.Rules.Genesis.Bits,zI .i64 x.Rules.Genesis.Nonce,wL false 68 x.List_,wL false 32 x.Ids,wL false 1 x.Ahead,wL false 4 x.Works,zI .i64 x.Room]
def ZbQ {α:Type} (l:List L) (k:Zaa→Option α):Option α:=match l with
  | [zI .i64 x0,zI .i64 x1,zI .i64 x2,zI .i64 x3,uA x4,vK 2 x5,vK 33 x6,zH .u64 4 x7,zH .u64 4 x8,zI .i64 x9,zH .u8 32 x10,zH .u8 32 x11,zI .i64 x12,zI .i64 x13,zI .i64 x14,wL false 68 x15,wL false 32 x16,wL false 1 x17,wL false 4 x18,zI .i64 x19]=>k ⟨⟨x0,x1,x2,x3,x4,x5,x6,x7,x8,⟨x9,x10,x11,x12,x13,x14⟩⟩,x15,x16,x17,x18,x19⟩
  | _=>none
theorem Zci {α:Type} {o:Option (List L)} {k:Zaa→Option α} {r:α} (h:Zds o ZbQ k=some r) : ∃x:Zaa,o=some x.lo∧k x=some r:=by
  obtain ⟨l,e,k1⟩:=Zaf h;subst e;unfold ZbQ at k1;split at k1
  · exact ⟨_,rfl,k1⟩
  · cases k1
@[simp] theorem Zcm {α:Type} (x:Zaa) (k:Zaa→Option α):ZbQ x.lo k=k x:=rfl
def Zaa.ls (x:Zaa):List L:=[zI .i64 x.Rules.Limit,zI .i64 x.Rules.Interval,zI .i64 x.Rules.Spacing,zI .i64 x.Rules.Future,uA x.Rules.Easy,vK 2 x.Rules.Gates,vK 33 x.Rules.Checks,zH .u64 4 x.Rules.MinWork,zH .u64 4 x.Rules.Margin,zI .i64 x.Rules.Genesis.Version,zH .u8 32 x.Rules.Genesis.Prev,zH .u8 32 x.Rules.Genesis.Root,zI .i64 x.Rules.Genesis.Time,zI .i64 x.Rules.Genesis.Bits,zI .i64 x.Rules.Genesis.Nonce,vK 68 x.List_,vK 32 x.Ids,vK 1 x.Ahead,vK 4 x.Works,zI .i64 x.Room]
theorem Zaa.bv {st:LL} (x:Zaa):BVs st x.lo x.ls:=(bP (bP (bP (bP (bP (bS (bS (bP (bP (bP (bP (bP (bP (bP (bP (bW (bW (bW (bW (bP bN))))))))))))))))))))
def Zae.lo (x:Zae):List L:=[zI .i64 x.Limit,zI .i64 x.Interval,zI .i64 x.Spacing,zI .i64 x.Future,uA x.Easy,wL true 2 x.Gates,vK 33 x.Checks,zH .u64 4 x.MinWork,zH .u64 4 x.Margin,zI .i64 x.Genesis.Version,zH .u8 32 x.Genesis.Prev,zH .u8 32 x.Genesis.Root,zI .i64 x.Genesis.Time,zI .i64 x.Genesis.Bits,zI .i64 x.Genesis.Nonce]
theorem Zae.bv {st:LL} (x:Zae):BVs st x.lo x.ls:=(bP (bP (bP (bP (bP (bW (bS (bP (bP (bP (bP (bP (bP (bP (bP bN)))))))))))))))
def ZgK {α:Type} (l:List L) (k:(List Int)→Option α):Option α:=match l with
  | [zH .u64 4 x0]=>k x0
  | _=>none
theorem ZhW {α:Type} {o:Option (List L)} {k:(List Int)→Option α} {r:α} (h:Zds o ZgK k=some r) : ∃x0,o=some [zH .u64 4 x0]∧k x0=some r:=by
  obtain ⟨l,e,k1⟩:=Zaf h;subst e;unfold ZgK at k1;split at k1
  · exact ⟨_,rfl,k1⟩
  · cases k1
@[simp] theorem Znf {α:Type} (x0:List Int) (k:(List Int)→Option α):ZgK [zH .u64 4 x0] k=k x0:=rfl
theorem slices_Sort_int.snd:SortC zF 102:=slices_Sort_int.holds
theorem Zdk.snd {x y z:Int} {r:Int×Int} (h:Zdk N x y z=some r):ExtI zF 105 [(.u64,x),(.u64,y),(.u64,z)] [(.u64,r.1),(.u64,r.2)]:=Zkv Tryz.func105 (by kernel_rfl) (by kernel_rfl) (by kernel_rfl) (by kernel_rfl) h
theorem Zeg.snd {x y z:Int} {r:Int×Int} (h:Zeg N x y z=some r):ExtI zF 116 [(.u64,x),(.u64,y),(.u64,z)] [(.u64,r.1),(.u64,r.2)]:=Zku Tryz.func116 (by kernel_rfl) (by kernel_rfl) (by kernel_rfl) (by kernel_rfl) h
def ZcH.B:Code:=Tryz.f86.body.getD .skip
def ZcH.rs (r:(List Int)):List CV:=[.agg [zH .u64 4 r]]
def ZcH (N:Nat) (n_0:Int):Option (List Int):=
 some [n_0,0,0,0]
theorem ZcH.snd {n_0:Int} {r:(List Int)} (h:ZcH N n_0=some r):Zde zF 86 [.one (zI .u64 n_0)] (ZcH.rs r):=fun st=>
 sO ZcH.B Tryz.func86 fun g0 w0 R hE=>by
  unfold ZcH at h
  obtain rfl:=Zac h
  exact af fol hE [.r [],.r [(1,{m:=3})]] [] 0 [] trivial
def ZaU.B:Code:=Tryz.f87.body.getD .skip
def ZaU.rs (r:(List Int)):List CV:=[.agg [zH .u64 4 r]]
def ZaU.p2 (N:Nat) (c1_:(Int×(List Int))→Option (List Int)) (n_1 v1:Int) (a_0_0 out_4:List Int):Option (List Int):=
 c1_ (w64 (v1+1),out_4)
def ZaU.p1 (N:Nat) (n_1:Int) (a_0_0:List Int) (c1_:(Int×(List Int))→Option (List Int)):(Int×(List Int))→Option (List Int):=fun (v1,out_3)=>
 if (decide (v1<(w64 (4-(w64 (zN (if (0:Int)>n_1 then 0 else n_1) 64))))))=true then
  chk (0≤(w64 (v1+(w64 (zN (if (0:Int)>n_1 then 0 else n_1) 64)))))<|
  chk ((w64 (v1+(w64 (zN (if (0:Int)>n_1 then 0 else n_1) 64))))<4)<|
  chk (0≤(zT (if (0:Int)>n_1 then 0 else n_1) 64))<|
  chk (0≤v1)<|
  chk (v1<4)<|
  if (decide ((w64 ((w64 (v1+(w64 (zN (if (0:Int)>n_1 then 0 else n_1) 64))))+1))<4))=true then
   chk (0≤(w64 ((w64 (v1+(w64 (zN (if (0:Int)>n_1 then 0 else n_1) 64))))+1)))<|
   chk (0≤(w64 (64-(zT (if (0:Int)>n_1 then 0 else n_1) 64))))<|
   ZaU.p2 N c1_ n_1 v1 a_0_0 (zP (zP out_3 (zE v1) (Zba .u64 (zD a_0_0 (zE (w64 (v1+(w64 (zN (if (0:Int)>n_1 then 0 else n_1) 64))))) 0) (zT (if (0:Int)>n_1 then 0 else n_1) 64))) (zE v1) (Zay .or .u64 (zD (zP out_3 (zE v1) (Zba .u64 (zD a_0_0 (zE (w64 (v1+(w64 (zN (if (0:Int)>n_1 then 0 else n_1) 64))))) 0) (zT (if (0:Int)>n_1 then 0 else n_1) 64))) (zE v1) 0) (Zbi .u64 (zD a_0_0 (zE (w64 ((w64 (v1+(w64 (zN (if (0:Int)>n_1 then 0 else n_1) 64))))+1))) 0) (w64 (64-(zT (if (0:Int)>n_1 then 0 else n_1) 64))))))
  else
  ZaU.p2 N c1_ n_1 v1 a_0_0 (zP out_3 (zE v1) (Zba .u64 (zD a_0_0 (zE (w64 (v1+(w64 (zN (if (0:Int)>n_1 then 0 else n_1) 64))))) 0) (zT (if (0:Int)>n_1 then 0 else n_1) 64)))
 else
 some out_3
def ZaU (N:Nat) (a_0_0:List Int) (n_1:Int):Option (List Int):=
 if (decide (n_1≥256))=true then
  some (zB 4 0)
 else
 loopN (ZaU.p1 N n_1 a_0_0) N (0,zB 4 0)
def ZaU.p2.S (n_1 v1:Int) (a_0_0 out_4:List Int) (st:LL):S:=mkS 53 [(2,sA 2),(4,sA 4),(5,sA 5),(6,sI (w64 (zN (if (0:Int)>n_1 then 0 else n_1) 64))),(7,sI (zT (if (0:Int)>n_1 then 0 else n_1) 64)),(19,sI (w64 (4-(w64 (zN (if (0:Int)>n_1 then 0 else n_1) 64))))),(20,sI v1)] [(2,.cells [zH .u64 4 a_0_0]),(4,.cells [zH .u64 4 (zB 4 0)]),(5,.cells [zH .u64 4 out_4])] st
def ZaU.p1.S (n_1 v1:Int) (a_0_0 out_3:List Int) (st:LL):S:=mkS 53 [(2,sA 2),(4,sA 4),(5,sA 5),(6,sI (w64 (zN (if (0:Int)>n_1 then 0 else n_1) 64))),(7,sI (zT (if (0:Int)>n_1 then 0 else n_1) 64)),(19,sI (w64 (4-(w64 (zN (if (0:Int)>n_1 then 0 else n_1) 64))))),(20,sI v1)] [(2,.cells [zH .u64 4 a_0_0]),(4,.cells [zH .u64 4 (zB 4 0)]),(5,.cells [zH .u64 4 out_3])] st
theorem ZaU.p2_ok {n_1 v1 a_0_0 out_4 st r c1_ J1} (h:ZaU.p2 N c1_ n_1 v1 a_0_0 out_4=some r) (hE:En Tryz.f87 g0 w0 (ZaU.rs r) st R) (hc1 : ∀v1 out_3,c1_ (v1,out_3)=some r→At g0 w0 (ZaU.p1.S n_1 v1 a_0_0 out_3 st) J1):At g0 w0 (ZaU.p2.S n_1 v1 a_0_0 out_4 st) (XK zF R [.c (Zbn ZaU.B [1,1,1,1,0,1,0,0,1,1,1]),.h J1,.b 0,.c (Zbn ZaU.B [1,1,1,1,1])]):=by
 unfold ZaU.p2 at h
 exact an fol [.r []] [2,4,5,6,7,19,20] [2,4,5] trivial (hc1 (w64 (v1+1)) out_4 h)
theorem ZaU.p1_ok {n_1 v1 a_0_0 out_3 st r c1_ J1} (h:ZaU.p1 N n_1 a_0_0 c1_ (v1,out_3)=some r) (hE:En Tryz.f87 g0 w0 (ZaU.rs r) st R) (hc1 : ∀v1 out_3,c1_ (v1,out_3)=some r→At g0 w0 (ZaU.p1.S n_1 v1 a_0_0 out_3 st) J1):At g0 w0 (ZaU.p1.S n_1 v1 a_0_0 out_3 st) (XK zF R (.c (Zbn ZaU.B [1,1,1,1,0,1,0,0]) :: .h J1 :: [.b 0,.c (Zbn ZaU.B [1,1,1,1,1])])):=by
 unfold ZaU.p1 at h
 refine ZaY h (fun c11 h1=>?_) (fun c11 h2=>?_)
 ·obtain ⟨c12,c13,c14,c15,c16,h3⟩:=ck5 h1
  let o1:List PS:=[.r [],.c true,.r [],.r [],.r []]
  refine ZaY h3 (fun c17 h4=>?_) (fun c17 h5=>?_)
  ·obtain ⟨c18,c19,h6⟩:=ck2 h4
   exact aqd fol (o1 ++ [.c true,.d {ds:=[],hv:=16384,Hs:=[16384]},.s 4]) [2,4,5,6,7,19,20] [2,4,5] (aO c11 c12 c13 c14 c15 c16 c17 (aN c15 c16 c18 (oD c17) c19 c15 c16)) (ZaU.p2_ok h6 hE hc1)
  ·exact aq fol (o1 ++ [.c false,.s 4]) [2,4,5,6,7,19,20] [2,4,5] (aN c11 c12 c13 c14 c15 c16 c17) (ZaU.p2_ok h5 hE hc1)
 ·obtain rfl:=Zac h2
  exact af fol hE [.r [],.c false,.r []] [] 0 [] c11
theorem ZaU.snd {a_0_0:List Int} {n_1:Int} {r:(List Int)} (h:ZaU N a_0_0 n_1=some r):Zde zF 87 [.agg [zH .u64 4 a_0_0],oI n_1] (ZaU.rs r):=fun st=>
 sO ZaU.B Tryz.func87 fun g0 w0 R hE=>by
  unfold ZaU at h
  refine ZaY h (fun c1 h7=>?_) (fun c1 h8=>?_)
  ·obtain rfl:=Zac h7
   exact af fol hE [.r [],.r [],.c true,.r []] [] 0 [] c1
  ·exact aq fol [.r [],.r [],.c false,.r [],.r [],.r []] [2,4,5,6,7,19,20] [2,4,5] (aJ c1 (neI 64) (neI 64)) (At.loop N (At.loopN (fun y:Int×(List Int)=>ZaU.p1.S n_1 y.1 a_0_0 y.2 st) (fun c J hc y h=>ZaU.p1_ok (v1:=y.1) (out_3:=y.2) h hE (fun v1 out_3=>hc (v1,out_3))) N (0,zB 4 0) h8))
def Zbr.B:Code:=Tryz.f88.body.getD .skip
def Zbr.rs (r:(List Int)):List CV:=[.agg [zH .u64 4 r]]
def Zbr.p2 (N:Nat) (c1_:(Int×(List Int))→Option (List Int)) (n_1 i_1:Int) (a_0_0 out_4:List Int):Option (List Int):=
 c1_ (w64 (i_1+1),out_4)
def Zbr.p1 (N:Nat) (n_1:Int) (a_0_0:List Int) (c1_:(Int×(List Int))→Option (List Int)):(Int×(List Int))→Option (List Int):=fun (i_1,out_3)=>
 if (decide (i_1<4))=true then
  chk (0≤(w64 (i_1-(w64 (zN (if (0:Int)>n_1 then 0 else n_1) 64)))))<|
  chk ((w64 (i_1-(w64 (zN (if (0:Int)>n_1 then 0 else n_1) 64))))<4)<|
  chk (0≤(zT (if (0:Int)>n_1 then 0 else n_1) 64))<|
  chk (0≤i_1)<|
  if (decide (i_1>(w64 (zN (if (0:Int)>n_1 then 0 else n_1) 64))))=true then
   chk (0≤(w64 ((w64 (i_1-(w64 (zN (if (0:Int)>n_1 then 0 else n_1) 64))))-1)))<|
   chk ((w64 ((w64 (i_1-(w64 (zN (if (0:Int)>n_1 then 0 else n_1) 64))))-1))<4)<|
   chk (0≤(w64 (64-(zT (if (0:Int)>n_1 then 0 else n_1) 64))))<|
   Zbr.p2 N c1_ n_1 i_1 a_0_0 (zP (zP out_3 (zE i_1) (Zbi .u64 (zD a_0_0 (zE (w64 (i_1-(w64 (zN (if (0:Int)>n_1 then 0 else n_1) 64))))) 0) (zT (if (0:Int)>n_1 then 0 else n_1) 64))) (zE i_1) (Zay .or .u64 (zD (zP out_3 (zE i_1) (Zbi .u64 (zD a_0_0 (zE (w64 (i_1-(w64 (zN (if (0:Int)>n_1 then 0 else n_1) 64))))) 0) (zT (if (0:Int)>n_1 then 0 else n_1) 64))) (zE i_1) 0) (Zba .u64 (zD a_0_0 (zE (w64 ((w64 (i_1-(w64 (zN (if (0:Int)>n_1 then 0 else n_1) 64))))-1))) 0) (w64 (64-(zT (if (0:Int)>n_1 then 0 else n_1) 64))))))
  else
  Zbr.p2 N c1_ n_1 i_1 a_0_0 (zP out_3 (zE i_1) (Zbi .u64 (zD a_0_0 (zE (w64 (i_1-(w64 (zN (if (0:Int)>n_1 then 0 else n_1) 64))))) 0) (zT (if (0:Int)>n_1 then 0 else n_1) 64)))
 else
 some out_3
def Zbr (N:Nat) (a_0_0:List Int) (n_1:Int):Option (List Int):=
 if (decide (n_1≥256))=true then
  some (zB 4 0)
 else
 loopN (Zbr.p1 N n_1 a_0_0) N (w64 (zN (if (0:Int)>n_1 then 0 else n_1) 64),zB 4 0)
def Zbr.p2.S (n_1 i_1:Int) (a_0_0 out_4:List Int) (st:LL):S:=mkS 50 [(2,sA 2),(4,sA 4),(5,sA 5),(6,sI (w64 (zN (if (0:Int)>n_1 then 0 else n_1) 64))),(7,sI (zT (if (0:Int)>n_1 then 0 else n_1) 64)),(8,sI i_1)] [(2,.cells [zH .u64 4 a_0_0]),(4,.cells [zH .u64 4 (zB 4 0)]),(5,.cells [zH .u64 4 out_4])] st
def Zbr.p1.S (n_1 i_1:Int) (a_0_0 out_3:List Int) (st:LL):S:=mkS 50 [(2,sA 2),(4,sA 4),(5,sA 5),(6,sI (w64 (zN (if (0:Int)>n_1 then 0 else n_1) 64))),(7,sI (zT (if (0:Int)>n_1 then 0 else n_1) 64)),(8,sI i_1)] [(2,.cells [zH .u64 4 a_0_0]),(4,.cells [zH .u64 4 (zB 4 0)]),(5,.cells [zH .u64 4 out_3])] st
theorem Zbr.p2_ok {n_1 i_1 a_0_0 out_4 st r c1_ J1} (h:Zbr.p2 N c1_ n_1 i_1 a_0_0 out_4=some r) (hE:En Tryz.f88 g0 w0 (Zbr.rs r) st R) (hc1 : ∀i_1 out_3,c1_ (i_1,out_3)=some r→At g0 w0 (Zbr.p1.S n_1 i_1 a_0_0 out_3 st) J1):At g0 w0 (Zbr.p2.S n_1 i_1 a_0_0 out_4 st) (XK zF R [.c (Zbn Zbr.B [1,1,1,1,0,1,0,0,1,1]),.h J1,.b 0,.c (Zbn Zbr.B [1,1,1,1,1])]):=by
 unfold Zbr.p2 at h
 exact an fol [.r []] [2,4,5,6,7,8] [2,4,5] trivial (hc1 (w64 (i_1+1)) out_4 h)
theorem Zbr.p1_ok {n_1 i_1 a_0_0 out_3 st r c1_ J1} (h:Zbr.p1 N n_1 a_0_0 c1_ (i_1,out_3)=some r) (hE:En Tryz.f88 g0 w0 (Zbr.rs r) st R) (hc1 : ∀i_1 out_3,c1_ (i_1,out_3)=some r→At g0 w0 (Zbr.p1.S n_1 i_1 a_0_0 out_3 st) J1):At g0 w0 (Zbr.p1.S n_1 i_1 a_0_0 out_3 st) (XK zF R (.c (Zbn Zbr.B [1,1,1,1,0,1,0,0]) :: .h J1 :: [.b 0,.c (Zbn Zbr.B [1,1,1,1,1])])):=by
 unfold Zbr.p1 at h
 refine ZaY h (fun c11 h1=>?_) (fun c11 h2=>?_)
 ·obtain ⟨c12,c13,c14,c15,h3⟩:=ck4 h1
  refine ZaY h3 (fun c16 h4=>?_) (fun c16 h5=>?_)
  ·obtain ⟨c17,c18,c19,h6⟩:=ck3 h4
   exact aqd fol [.r [],.c true,.r [],.r [],.c true,.d {ds:=[],hv:=16384,Hs:=[16384]},.s 4] [2,4,5,6,7,8] [2,4,5] (aO c11 c12 c13 c14 c15 (oD c11) c16 (aN c15 (oD c11) c17 c18 c19 c15 (oD c11))) (Zbr.p2_ok h6 hE hc1)
  ·exact aq fol [.r [],.c true,.r [],.r [],.c false,.s 4] [2,4,5,6,7,8] [2,4,5] (aN c11 c12 c13 c14 c15 (oD c11) c16) (Zbr.p2_ok h5 hE hc1)
 ·obtain rfl:=Zac h2
  exact af fol hE [.r [],.c false,.r []] [] 0 [] c11
theorem Zbr.snd {a_0_0:List Int} {n_1:Int} {r:(List Int)} (h:Zbr N a_0_0 n_1=some r):Zde zF 88 [.agg [zH .u64 4 a_0_0],oI n_1] (Zbr.rs r):=fun st=>
 sO Zbr.B Tryz.func88 fun g0 w0 R hE=>by
  unfold Zbr at h
  refine ZaY h (fun c1 h7=>?_) (fun c1 h8=>?_)
  ·obtain rfl:=Zac h7
   exact af fol hE [.r [],.r [],.c true,.r []] [] 0 [] c1
  ·exact aq fol [.r [],.r [],.c false,.r [],.r [],.r []] [2,4,5,6,7,8] [2,4,5] (aJ c1 (neI 64) (neI 64)) (At.loop N (At.loopN (fun y:Int×(List Int)=>Zbr.p1.S n_1 y.1 a_0_0 y.2 st) (fun c J hc y h=>Zbr.p1_ok (i_1:=y.1) (out_3:=y.2) h hE (fun i_1 out_3=>hc (i_1,out_3))) N (w64 (zN (if (0:Int)>n_1 then 0 else n_1) 64),zB 4 0) h8))
def ZaD.B:Code:=Tryz.f64.body.getD .skip
def ZaD.rs (r:(List Int)×Bool×Bool):List CV:=[.agg [zH .u64 4 r.1],oB r.2.1,oB r.2.2]
def ZaD.p2 (N:Nat) (bits_0:Int) (below_6:Bool) (n_5:List Int):Option ((List Int)×Bool×Bool):=
 if ((Zay .and .i64 bits_0 8388607) != 0)=true then
  if (decide ((Zba .i64 bits_0 24)>34))=true then
   some (n_5,below_6,true)
  else
  if (decide ((Zay .and .i64 bits_0 8388607)>255))=true then
   if (decide ((Zba .i64 bits_0 24)>33))=true then
    some (n_5,below_6,true)
   else
   if (decide ((Zay .and .i64 bits_0 8388607)>65535))=true then
    some (n_5,below_6,decide ((Zba .i64 bits_0 24)>32))
   else
   some (n_5,below_6,false)
  else
  if (decide ((Zay .and .i64 bits_0 8388607)>65535))=true then
   some (n_5,below_6,decide ((Zba .i64 bits_0 24)>32))
  else
  some (n_5,below_6,false)
 else
 some (n_5,below_6,false)
def ZaD.p1 (N:Nat) (bits_0:Int) (n_5:List Int):Option ((List Int)×Bool×Bool):=
 if ((Zay .and .i64 bits_0 8388607) != 0)=true then
  ZaD.p2 N bits_0 ((Zay .and .i64 bits_0 8388608) != 0) n_5
 else
 ZaD.p2 N bits_0 false n_5
def ZaD (N:Nat) (bits_0:Int):Option ((List Int)×Bool×Bool):=
 Zbt (ZcG N bits_0) fun x1=>
 if (!x1)=true then
  some (zB 4 0,false,false)
 else
 Zbt (ZcH N (v64 (Zay .and .i64 bits_0 8388607))) fun x2=>
 if (decide ((Zba .i64 bits_0 24)≤3))=true then
  Zbt (ZaU N x2 (w64 (8*(w64 (3-(Zba .i64 bits_0 24)))))) fun x3=>
  ZaD.p1 N bits_0 x3
 else
 Zbt (Zbr N x2 (w64 (8*(w64 ((Zba .i64 bits_0 24)-3))))) fun x4=>
 ZaD.p1 N bits_0 x4
def ZaD.p2.S (bits_0:Int) (below_6:Bool) (n_5:List Int) (st:LL):S:=mkS 65 [(2,sA 2),(5,sI (Zba .i64 bits_0 24)),(6,sI (Zay .and .i64 bits_0 8388607)),(7,sA 7),(8,.one (.l (uA below_6)))] [(2,.cells [zH .u64 4 (zB 4 0)]),(7,.cells [zH .u64 4 n_5])] st
def ZaD.p1.S (bits_0:Int) (n_5:List Int) (st:LL):S:=mkS 65 [(0,sI bits_0),(2,sA 2),(5,sI (Zba .i64 bits_0 24)),(6,sI (Zay .and .i64 bits_0 8388607)),(7,sA 7)] [(2,.cells [zH .u64 4 (zB 4 0)]),(7,.cells [zH .u64 4 n_5])] st
theorem ZaD.p2_ok {bits_0 below_6 n_5 st r} (h:ZaD.p2 N bits_0 below_6 n_5=some r) (hE:En Tryz.f64 g0 w0 (ZaD.rs r) st R):At g0 w0 (ZaD.p2.S bits_0 below_6 n_5 st) (XK zF R [.c (Zbn ZaD.B [1,1,1,1,1,1])]):=by
 unfold ZaD.p2 at h
 refine ZaY h (fun c8 h1=>?_) (fun c8 h2=>?_)
 ·have t1 {Q:Prop} (q:Q):=aK c8 c8 c8 q
  refine ZaY h1 (fun c9 h3=>?_) (fun c9 h4=>?_)
  ·obtain rfl:=Zac h3
   exact af fol hE [.r [(6,wF),(7,wF),(8,wF),(11,wF),(14,wF),(15,wF),(16,wF),(19,wF)],.r []] [] 0 [] (t1 (aO c9 c9 c9 c9 c8 c9 c8 (aN eT eT eT eT c8 eT c8)))
  ·have t2 {Q:Prop} (q:Q):=t1 (aK c9 c9 c9 q)
   refine ZaY h4 (fun c10 h5=>?_) (fun c10 h6=>?_)
   ·have t3 {Q:Prop} (q:Q):=t2 (aO c10 c10 c9 c10 c8 c9 c8 q)
    refine ZaY h5 (fun c11 h7=>?_) (fun c11 h8=>?_)
    ·obtain rfl:=Zac h7
     exact af fol hE [.r [(12,yF),(14,wF),(15,wF),(16,wF),(19,wF)],.r []] [] 0 [] (t3 (aN c11 c11 c11 c11 c8 c11 c8))
    ·refine ZaY h8 (fun c12 h9=>?_) (fun c12 h10=>?_)
     ·obtain rfl:=Zac h9
      exact af fol hE [.r [(12,yF),(20,yF)],.r []] [] 0 [] (t3 (aO c11 c11 c11 c12 c12 c11 c12 (aJ c8 c11 c8)))
     ·obtain rfl:=Zac h10
      exact af fol hE [.r [(12,yF),(17,wF),(18,wF),(19,yF),(20,yF)],.r []] [] 0 [] (t3 (aO c11 c11 c11 c12 c12 c11 c12 (aJ c8 c11 c8)))
   ·have t4 {Q:Prop} (q:Q):=t2 (aO c10 c10 c9 c10 c8 c9 c8 (aK eF eF eF q))
    refine ZaY h6 (fun c13 h11=>?_) (fun c13 h12=>?_)
    ·obtain rfl:=Zac h11
     exact af fol hE [.r [(9,wF),(10,wF),(11,yF),(12,yF),(20,yF)],.r []] [] 0 [] (t4 (aN c13 c13 eF c13 c8 eF c8))
    ·obtain rfl:=Zac h12
     exact af fol hE [.r [(9,wF),(10,wF),(11,yF),(12,yF),(17,wF),(18,wF),(19,yF),(20,yF)],.r []] [] 0 [] (t4 (aN c13 c13 eF c13 c8 eF c8))
 ·obtain rfl:=Zac h2
  exact af fol hE [.r [(3,wF),(4,wF),(5,wF),(12,wF),(13,wF),(20,wF),(21,yF)],.r []] [] 0 [] (aN c8 c8 c8 c8 c8 c8 c8)
theorem ZaD.p1_ok {bits_0 n_5 st r} (h:ZaD.p1 N bits_0 n_5=some r) (hE:En Tryz.f64 g0 w0 (ZaD.rs r) st R):At g0 w0 (ZaD.p1.S bits_0 n_5 st) (XK zF R [.c (Zbn ZaD.B [1,1,1,1,1])]):=by
 unfold ZaD.p1 at h
 refine ZaY h (fun c7 h13=>?_) (fun c7 h14=>?_)
 ·exact aq fol [.r [],.s 1] [2,5,6,7,8] [2,7] (aK c7 c7 c7 c7) (ZaD.p2_ok h13 hE)
 ·exact aq fol [.r [(3,wF),(4,wF),(5,wF),(6,yF)],.s 1] [2,5,6,7,8] [2,7] (aK c7 c7 c7 c7) (ZaD.p2_ok h14 hE)
theorem ZaD.snd {bits_0:Int} {r:(List Int)×Bool×Bool} (h:ZaD N bits_0=some r):Zde zF 64 [oI bits_0] (ZaD.rs r):=fun st=>
 sO ZaD.B Tryz.func64 fun g0 w0 R hE=>by
  unfold ZaD at h
  obtain ⟨x1,c1,h15⟩:=Zaf h
  let o1:List PS:=[.r [],.r [(1,q1 [oB x1])]]
  have t5 {Q:Prop} (q:Q):=aI (ZcG.snd c1) q
  refine ZaY h15 (fun c2 h16=>?_) (fun c2 h17=>?_)
  ·obtain rfl:=Zac h16
   exact af fol hE (o1 ++ [.c true,.r []]) [] 0 [] (t5 c2)
  ·obtain ⟨x2,c3,h18⟩:=Zaf h17
   let o2:List PS:=o1 ++ [.c false,.r [],.r [(2,q1 [.agg [zH .u64 4 x2]])],.r []]
   refine ZaY h18 (fun c4 h19=>?_) (fun c4 h20=>?_)
   ·obtain ⟨x3,c5,h21⟩:=Zaf h19
    exact aq fol (o2 ++ [.c true,.r [(4,q1 [.agg [zH .u64 4 x3]])],.s 1]) [0,2,5,6,7] [2,7] (t5 (aL c2 (leI 0 24) (ZcH.snd c3) c4 (ZaU.snd c5))) (ZaD.p1_ok h21 hE)
   ·obtain ⟨x4,c6,h22⟩:=Zaf h20
    exact aq fol (o2 ++ [.c false,.r [(4,q1 [.agg [zH .u64 4 x4]])],.s 1]) [0,2,5,6,7] [2,7] (t5 (aL c2 (leI 0 24) (ZcH.snd c3) c4 (Zbr.snd c6))) (ZaD.p1_ok h22 hE)
def Zcs.B:Code:=Tryz.f65.body.getD .skip
def Zcs.rs (r:Bool):List CV:=[oB r]
def Zcs (N:Nat) (a_0_0:List Int):Option Bool:=
 some (a_0_0==(zB 4 0))
theorem Zcs.snd {a_0_0:List Int} {r:Bool} (h:Zcs N a_0_0=some r):Zde zF 65 [.agg [zH .u64 4 a_0_0]] (Zcs.rs r):=fun st=>
 sO Zcs.B Tryz.func65 fun g0 w0 R hE=>by
  unfold Zcs at h
  obtain rfl:=Zac h
  exact af fol hE [.r [],.r []] [] 0 [] trivial
def Zbg.B:Code:=Tryz.f104.body.getD .skip
def Zbg.rs (r:Int):List CV:=[oI r]
def Zbg.p1 (N:Nat) (a_0_0 b_1_0:List Int) (c1_:Int→Option Int):Int→Option Int:=fun i_1=>
 if (decide (i_1≥0))=true then
  chk (0≤i_1)<|
  chk (i_1<4)<|
  if (decide ((zD a_0_0 (zE i_1) 0)<(zD b_1_0 (zE i_1) 0)))=true then
   some (-1)
  else
  if (decide ((zD a_0_0 (zE i_1) 0)>(zD b_1_0 (zE i_1) 0)))=true then
   some 1
  else
  c1_ (w64 (i_1-1))
 else
 some 0
def Zbg (N:Nat) (a_0_0 b_1_0:List Int):Option Int:=
 loopN (Zbg.p1 N a_0_0 b_1_0) N 3
def Zbg.p1.S (i_1:Int) (a_0_0 b_1_0:List Int) (st:LL):S:=mkS 26 [(2,sA 2),(3,sA 3),(5,sI i_1)] [(2,.cells [zH .u64 4 a_0_0]),(3,.cells [zH .u64 4 b_1_0])] st
theorem Zbg.p1_ok {i_1 a_0_0 b_1_0 st r c1_ J1} (h:Zbg.p1 N a_0_0 b_1_0 c1_ i_1=some r) (hE:En Tryz.f104 g0 w0 (Zbg.rs r) st R) (hc1 : ∀i_1,c1_ i_1=some r→At g0 w0 (Zbg.p1.S i_1 a_0_0 b_1_0 st) J1):At g0 w0 (Zbg.p1.S i_1 a_0_0 b_1_0 st) (XK zF R (.c (Zbn Zbg.B [1,0,1,0,0]) :: .h J1 :: [.b 0,.c (Zbn Zbg.B [1,1])])):=by
 unfold Zbg.p1 at h
 refine ZaY h (fun c1 h1=>?_) (fun c1 h2=>?_)
 ·obtain ⟨c2,c3,h3⟩:=ck2 h1
  let o1:List PS:=[.r [],.c true,.d {ds:=[],hv:=0,Hs:=[]}]
  refine ZaY h3 (fun c4 h4=>?_) (fun c4 h5=>?_)
  ·obtain rfl:=Zac h4
   exact afd fol hE (o1 ++ [.c true,.r []]) [] 0 [] (aM c1 c2 c3 c2 c3 c4)
  ·let o2:List PS:=o1 ++ [.c false,.d {ds:=[],hv:=0,Hs:=[]}]
   refine ZaY h5 (fun c5 h6=>?_) (fun c5 h7=>?_)
   ·obtain rfl:=Zac h6
    exact afd fol hE (o2 ++ [.c true,.r []]) [] 0 [] (aO c1 c2 c3 c2 c3 c4 c2 (aK c3 c2 c3 c5))
   ·exact ZiS fol (o2 ++ [.c false,.r []]) [2,3,5] [2,3] (aO c1 c2 c3 c2 c3 c4 c2 (aK c3 c2 c3 c5)) (hc1 (w64 (i_1-1)) h7)
 ·obtain rfl:=Zac h2
  exact af fol hE [.r [],.c false,.r []] [] 0 [] c1
theorem Zbg.snd {a_0_0 b_1_0:List Int} {r:Int} (h:Zbg N a_0_0 b_1_0=some r):Zde zF 104 [.agg [zH .u64 4 a_0_0],.agg [zH .u64 4 b_1_0]] (Zbg.rs r):=fun st=>
 sO Zbg.B Tryz.func104 fun g0 w0 R hE=>by
  unfold Zbg at h
  exact aq fol [.r [],.r []] [2,3,5] [2,3] trivial (At.loop N (At.loopN (fun y:Int=>Zbg.p1.S y a_0_0 b_1_0 st) (fun c J hc y h=>Zbg.p1_ok h hE (fun i_1=>hc i_1)) N 3 h))
def Zcz.B:Code:=Tryz.f85.body.getD .skip
def Zcz.rs (r:Bool):List CV:=[oB r]
def Zcz (N:Nat) (a_0_0 b_1_0:List Int):Option Bool:=
 Zbt (Zbg N a_0_0 b_1_0) fun x1=>
 some (decide (x1<0))
theorem Zcz.snd {a_0_0 b_1_0:List Int} {r:Bool} (h:Zcz N a_0_0 b_1_0=some r):Zde zF 85 [.agg [zH .u64 4 a_0_0],.agg [zH .u64 4 b_1_0]] (Zcz.rs r):=fun st=>
 sO Zcz.B Tryz.func85 fun g0 w0 R hE=>by
  unfold Zcz at h
  obtain ⟨x1,c1,h1⟩:=Zaf h
  obtain rfl:=Zac h1
  exact af fol hE [.r [],.r [(2,q1 [oI x1])]] [] 0 [] (Zbg.snd c1)
def ZbV.B:Code:=Tryz.f63.body.getD .skip
def ZbV.rs (r:(List Int)×Bool):List CV:=[.agg [zH .u64 4 r.1],oB r.2]
def ZbV (N:Nat) (bits_0 limit_1:Int):Option ((List Int)×Bool):=
 Zbt (ZaD N bits_0) fun (x1,x2,x3)=>
 Zbt (ZaD N limit_1) fun (x4,x5,x6)=>
 if x2=true then
  some (zB 4 0,false)
 else
 if x3=true then
  some (zB 4 0,false)
 else
 if x5=true then
  some (zB 4 0,false)
 else
 if x6=true then
  some (zB 4 0,false)
 else
 Zbt (Zcs N x1) fun x7=>
 if x7=true then
  some (zB 4 0,false)
 else
 Zbt (Zcz N x4 x1) fun x8=>
 if x8=true then
  some (zB 4 0,false)
 else
 some (x1,true)
theorem ZbV.snd {bits_0 limit_1:Int} {r:(List Int)×Bool} (h:ZbV N bits_0 limit_1=some r):Zde zF 63 [oI bits_0,oI limit_1] (ZbV.rs r):=fun st=>
 sO ZbV.B Tryz.func63 fun g0 w0 R hE=>by
  unfold ZbV at h
  obtain ⟨⟨x1,x2,x3⟩,c1,h1⟩:=Zaf h
  obtain ⟨⟨x4,x5,x6⟩,c2,h2⟩:=Zaf h1
  let o1:List PS:=[.r [],.r [(1,q1 [.agg [zH .u64 4 x1],oB x2,oB x3])],.r [(1,q1 [.agg [zH .u64 4 x4],oB x5,oB x6])]]
  have t1 {Q:Prop} (q:Q):=aJ (ZaD.snd c1) (ZaD.snd c2) q
  refine ZaY h2 (fun c3 h3=>?_) (fun c3 h4=>?_)
  ·obtain rfl:=Zac h3
   exact af fol hE (o1 ++ [.r [(2,wF),(5,wF),(8,wF),(11,wF),(12,wF),(15,wF),(16,wF),(17,wF)],.c true,.r []]) [] 0 [] (t1 (aO c3 c3 eT eT eT eT eT (aN eT eT eT eT eT eT eT)))
  ·refine ZaY h4 (fun c4 h5=>?_) (fun c4 h6=>?_)
   ·obtain rfl:=Zac h5
    exact af fol hE (o1 ++ [.r [(3,yF),(5,wF),(8,wF),(11,wF),(12,wF),(15,wF),(16,wF),(17,wF)],.c true,.r []]) [] 0 [] (t1 (aO c3 c3 c4 c4 eT eT eT (aN eT eT eT eT eT eT eT)))
   ·have t2 {Q:Prop} (q:Q):=t1 (aL c3 c3 c4 c4 q)
    refine ZaY h6 (fun c5 h7=>?_) (fun c5 h8=>?_)
    ·obtain rfl:=Zac h7
     exact af fol hE (o1 ++ [.r [(3,yF),(6,yF),(8,wF),(11,wF),(12,wF),(15,wF),(16,wF),(17,wF)],.c true,.r []]) [] 0 [] (t2 (aO c5 c5 eT eT eT eT eT (aJ eT eT eT)))
    ·refine ZaY h8 (fun c6 h9=>?_) (fun c6 h10=>?_)
     ·obtain rfl:=Zac h9
      exact af fol hE (o1 ++ [.r [(3,yF),(6,yF),(9,yF),(11,wF),(12,wF),(15,wF),(16,wF),(17,wF)],.c true,.r []]) [] 0 [] (t2 (aO c5 c5 c6 c6 c6 eT eT (aJ eT eT eT)))
     ·obtain ⟨x7,c7,h11⟩:=Zaf h10
      have t3 {Q:Prop} (q:Q):=t2 (aN c5 c5 c6 c6 (Zcs.snd c7) c6 q)
      refine ZaY h11 (fun c8 h12=>?_) (fun c8 h13=>?_)
      ·obtain rfl:=Zac h12
       exact af fol hE (o1 ++ [.r [(3,yF),(6,yF),(9,yF),(12,q1 [oB x7]),(13,yF),(15,wF),(16,wF),(17,wF)],.c true,.r []]) [] 0 [] (t3 (aL c8 c8 c8 c8 eT))
      ·obtain ⟨x8,c9,h14⟩:=Zaf h13
       let o2:List PS:=o1 ++ [.r [(3,yF),(6,yF),(9,yF),(12,q1 [oB x7]),(13,yF),(17,q1 [oB x8]),(18,yF)]]
       refine ZaY h14 (fun c10 h15=>?_) (fun c10 h16=>?_)
       ·obtain rfl:=Zac h15
        exact af fol hE (o2 ++ [.c true,.r []]) [] 0 [] (t3 (aM c8 c8 c8 (Zcz.snd c9) c8 c10))
       ·obtain rfl:=Zac h16
        exact af fol hE (o2 ++ [.c false,.r []]) [] 0 [] (t3 (aM c8 c8 c8 (Zcz.snd c9) c8 c10))
def ZdE.B:Code:=Tryz.f38.body.getD .skip
def ZdE.rs (r:Bool):List CV:=[oB r]
def ZdE (N:Nat) (p_0:Zae):Option Bool:=
 Zbt (ZbV N p_0.Limit p_0.Limit) fun (x1,x2)=>
 if x2=true then
  if (decide (p_0.Interval≥2))=true then
   if (decide (p_0.Interval≤64))=true then
    if (decide (p_0.Spacing≥1))=true then
     if (decide (p_0.Spacing≤10000))=true then
      if (decide (p_0.Future≥0))=true then
       some (decide (p_0.Future<4294967296))
      else
      some false
     else
     some false
    else
    some false
   else
   some false
  else
  some false
 else
 some false
theorem ZdE.snd {p_0:Zae} {r:Bool} (h:ZdE N p_0=some r):Zde zF 38 [.agg p_0.ls] (ZdE.rs r):=fun st=>
 sO ZdE.B Tryz.func38 fun g0 w0 R hE=>by
  unfold ZdE at h
  obtain ⟨⟨x1,x2⟩,c1,h1⟩:=Zaf h
  let o1:List PS:=[.r [],.r [(4,q1 [.agg [zH .u64 4 x1],oB x2])]]
  have t1 {Q:Prop} (q:Q):=aI (ZbV.snd c1) q
  refine ZaY h1 (fun c2 h2=>?_) (fun c2 h3=>?_)
  ·have t2 {Q:Prop} (q:Q):=t1 (aL c2 c2 c2 c2 q)
   refine ZaY h2 (fun c3 h4=>?_) (fun c3 h5=>?_)
   ·have t3 {Q:Prop} (q:Q):=t2 (aL c3 c3 c3 c3 q)
    refine ZaY h4 (fun c4 h6=>?_) (fun c4 h7=>?_)
    ·have t4 {Q:Prop} (q:Q):=t3 (aL c4 c4 c4 c4 q)
     refine ZaY h6 (fun c5 h8=>?_) (fun c5 h9=>?_)
     ·refine ZaY h8 (fun c6 h10=>?_) (fun c6 h11=>?_)
      ·refine ZaY h10 (fun c7 h12=>?_) (fun c7 h13=>?_)
       ·obtain rfl:=Zac h12
        exact af fol hE (o1 ++ [.r []]) [] 0 [] (t4 (aO c5 c5 c5 c5 c6 c6 c6 (aL c6 c7 c7 c7 c7)))
       ·obtain rfl:=Zac h13
        exact af fol hE (o1 ++ [.r [(27,wF),(28,wF),(29,wF),(30,yF)]]) [] 0 [] (t4 (aO c5 c5 c5 c5 c6 c6 c6 (aL c6 c7 c7 c7 c7)))
      ·obtain rfl:=Zac h11
       exact af fol hE (o1 ++ [.r [(22,wF),(23,wF),(24,wF),(25,yF),(27,wF),(28,wF),(29,wF),(30,yF)]]) [] 0 [] (t4 (aO c5 c5 c5 c5 c6 c6 c6 (aL c6 eF eF eF eF)))
     ·obtain rfl:=Zac h9
      exact af fol hE (o1 ++ [.r [(17,wF),(18,wF),(19,wF),(20,yF),(22,wF),(23,wF),(24,wF),(25,yF),(27,wF),(28,wF),(29,wF),(30,yF)]]) [] 0 [] (t4 (aO c5 c5 c5 c5 eF eF eF (aL eF eF eF eF eF)))
    ·obtain rfl:=Zac h7
     exact af fol hE (o1 ++ [.r [(12,wF),(13,wF),(14,wF),(15,yF),(17,wF),(18,wF),(19,wF),(20,yF),(22,wF),(23,wF),(24,wF),(25,yF),(27,wF),(28,wF),(29,wF),(30,yF)]]) [] 0 [] (t3 (aO c4 c4 c4 c4 eF eF eF (aO eF eF eF eF eF eF eF (aI eF eF))))
   ·obtain rfl:=Zac h5
    exact af fol hE (o1 ++ [.r [(7,wF),(8,wF),(9,wF),(10,yF),(12,wF),(13,wF),(14,wF),(15,yF),(17,wF),(18,wF),(19,wF),(20,yF),(22,wF),(23,wF),(24,wF),(25,yF),(27,wF),(28,wF),(29,wF),(30,yF)]]) [] 0 [] (t2 (aO c3 c3 c3 c3 eF eF eF (aO eF eF eF eF eF eF eF (aM eF eF eF eF eF eF))))
  ·obtain rfl:=Zac h3
   exact af fol hE (o1 ++ [.r [(2,wF),(3,wF),(4,wF),(5,yF),(7,wF),(8,wF),(9,wF),(10,yF),(12,wF),(13,wF),(14,wF),(15,yF),(17,wF),(18,wF),(19,wF),(20,yF),(22,wF),(23,wF),(24,wF),(25,yF),(27,wF),(28,wF),(29,wF),(30,yF)]]) [] 0 [] (t1 (aO c2 c2 c2 c2 eF eF eF (aO eF eF eF eF eF eF eF (aO eF eF eF eF eF eF eF (aJ eF eF eF)))))
def Zbu.B:Code:=Tryz.f22.body.getD .skip
def Zbu.rs (r:Bool):List CV:=[oB r]
def Zbu.p2 (N:Nat) (p_0:Zae) (c2_:Int→Option Bool):Int→Option Bool:=fun v6=>
 if (decide (v6<(len p_0.Checks)))=true then
  chk (0≤v6)<|
  Zds (p_0.Checks[zE v6]?) Zdz fun x7=>
  if (decide (x7.Height<1))=true then
   some false
  else
  if (decide (v6>0))=true then
   chk (0≤(w64 (v6-1)))<|
   chk ((w64 (v6-1))<(len p_0.Checks))<|
   Zds (p_0.Checks[zE (w64 (v6-1))]?) Zdz fun x8=>
   if (decide (x7.Height≤x8.Height))=true then
    some false
   else
   c2_ (w64 (v6+1))
  else
  c2_ (w64 (v6+1))
 else
 some true
def Zbu.p1 (N:Nat) (p_0:Zae) (c1_:Int→Option Bool):Int→Option Bool:=fun v3=>
 if (decide (v3<(len p_0.Gates)))=true then
  chk (0≤v3)<|
  Zds (p_0.Gates[zE v3]?) ZcW fun x4=>
  if (decide (x4.Height<0))=true then
   some false
  else
  if (decide (v3>0))=true then
   chk (0≤(w64 (v3-1)))<|
   chk ((w64 (v3-1))<(len p_0.Gates))<|
   Zds (p_0.Gates[zE (w64 (v3-1))]?) ZcW fun x5=>
   if (decide (x4.Height≤x5.Height))=true then
    some false
   else
   c1_ (w64 (v3+1))
  else
  c1_ (w64 (v3+1))
 else
 loopN (Zbu.p2 N p_0) N 0
def Zbu (N:Nat) (p_0:Zae):Option Bool:=
 Zbt (ZdE N p_0) fun x1=>
 if (!x1)=true then
  some false
 else
 Zbt (ZbY N p_0.Genesis) fun x2=>
 if (!x2)=true then
  some false
 else
 loopN (Zbu.p1 N p_0) N 0
def Zbu.p2.S (p_0:Zae) (v6:Int) (st:LL):S:=mkS 72 [(1,sA 1),(45,sV 33 p_0.Checks),(46,sI (len p_0.Checks)),(47,sI v6)] [(1,.cells p_0.ls)] st
def Zbu.p1.S (p_0:Zae) (v3:Int) (st:LL):S:=mkS 72 [(1,sA 1),(17,sV 2 p_0.Gates),(18,sI (len p_0.Gates)),(19,sI v3)] [(1,.cells p_0.ls)] st
theorem Zbu.p2_ok {p_0 v6 st r c2_ J2} (h:Zbu.p2 N p_0 c2_ v6=some r) (hE:En Tryz.f22 g0 w0 (Zbu.rs r) st R) (hc2 : ∀v6,c2_ v6=some r→At g0 w0 (Zbu.p2.S p_0 v6 st) J2):At g0 w0 (Zbu.p2.S p_0 v6 st) (XK zF R (.c (Zbn Zbu.B [1,1,1,0,1,0,0]) :: .h J2 :: [.b 2,.c (Zbn Zbu.B [1,1,1,1])])):=by
 unfold Zbu.p2 at h
 refine ZaY h (fun c14 h1=>?_) (fun c14 h2=>?_)
 ·obtain ⟨c15,h3⟩:=ZaP h1
  obtain ⟨x7,c16,h4⟩:=ZdI h3
  let o1:List PS:=[.r [],.c true,.r [(2,{oe:=x7.ls})]]
  have t1 {Q:Prop} (q:Q):=aL c14 c15 (oD c14) c16 q
  refine ZaY h4 (fun c17 h5=>?_) (fun c17 h6=>?_)
  ·obtain rfl:=Zac h5
   exact afd fol hE (o1 ++ [.d {ds:=[(4,wF),(5,wF),(6,wF),(17,wF)],hv:=0,Hs:=[]},.c true,.r []]) [] 0 [] (t1 (aM c17 c17 c17 c17 c17 eT))
  ·refine ZaY h6 (fun c18 h7=>?_) (fun c18 h8=>?_)
   ·obtain ⟨c19,c20,h9⟩:=ck2 h7
    obtain ⟨x8,c21,h10⟩:=ZdI h9
    let o2:List PS:=o1 ++ [.d {ds:=[(15,{oe:=x8.ls}),(18,yF)],hv:=0,Hs:=[]}]
    have t2 {Q:Prop} (q:Q):=t1 (aO c17 c17 c17 c18 c18 c18 c18 (aO c18 c18 c18 c19 c20 c18 c18 (aM c21 c18 c17 c18 c17 q)))
    refine ZaY h10 (fun c22 h11=>?_) (fun c22 h12=>?_)
    ·obtain rfl:=Zac h11
     exact afd fol hE (o2 ++ [.c true,.r []]) [] 0 [] (t2 c22)
    ·exact ZiS fol (o2 ++ [.c false,.r []]) [1,45,46,47] [1] (t2 c22) (hc2 (w64 (v6+1)) h12)
   ·exact ZiS fol (o1 ++ [.d {ds:=[(7,wF),(8,wF),(9,wF),(10,wF),(11,wF),(12,wF),(13,wF),(14,wF),(15,wF),(16,wF),(17,yF),(18,yF)],hv:=0,Hs:=[]},.c false,.r []]) [1,45,46,47] [1] (t1 (aO c17 c17 c17 c18 c18 c18 c18 (aO c18 c18 c18 c18 c18 c18 c17 (aJ c18 c17 eF)))) (hc2 (w64 (v6+1)) h8)
 ·obtain rfl:=Zac h2
  exact af fol hE [.r [],.c false,.r []] [] 0 [] c14
theorem Zbu.p1_ok {p_0 v3 st r c1_ J1} (h:Zbu.p1 N p_0 c1_ v3=some r) (hE:En Tryz.f22 g0 w0 (Zbu.rs r) st R) (hc1 : ∀v3,c1_ v3=some r→At g0 w0 (Zbu.p1.S p_0 v3 st) J1):At g0 w0 (Zbu.p1.S p_0 v3 st) (XK zF R (.c (Zbn Zbu.B [1,1,0,1,0,0]) :: .h J1 :: [.b 0,.c (Zbn Zbu.B [1,1,1])])):=by
 unfold Zbu.p1 at h
 refine ZaY h (fun c5 h13=>?_) (fun c5 h14=>?_)
 ·obtain ⟨c6,h15⟩:=ZaP h13
  obtain ⟨x4,c7,h16⟩:=ZcO h15
  let o3:List PS:=[.r [],.c true,.r [(2,{oe:=x4.ls})]]
  have t3 {Q:Prop} (q:Q):=aL c5 c6 (oD c5) c7 q
  refine ZaY h16 (fun c8 h17=>?_) (fun c8 h18=>?_)
  ·obtain rfl:=Zac h17
   exact afd fol hE (o3 ++ [.d {ds:=[(4,wF),(5,wF),(6,wF),(17,wF)],hv:=0,Hs:=[]},.c true,.r []]) [] 0 [] (t3 (aM c8 c8 c8 c8 c8 eT))
  ·refine ZaY h18 (fun c9 h19=>?_) (fun c9 h20=>?_)
   ·obtain ⟨c10,c11,h21⟩:=ck2 h19
    obtain ⟨x5,c12,h22⟩:=ZcO h21
    let o4:List PS:=o3 ++ [.d {ds:=[(15,{oe:=x5.ls}),(18,yF)],hv:=0,Hs:=[]}]
    have t4 {Q:Prop} (q:Q):=t3 (aO c8 c8 c8 c9 c9 c9 c9 (aO c9 c9 c9 c10 c11 c9 c9 (aM c12 c9 c8 c9 c8 q)))
    refine ZaY h22 (fun c13 h23=>?_) (fun c13 h24=>?_)
    ·obtain rfl:=Zac h23
     exact afd fol hE (o4 ++ [.c true,.r []]) [] 0 [] (t4 c13)
    ·exact ZiS fol (o4 ++ [.c false,.r []]) [1,17,18,19] [1] (t4 c13) (hc1 (w64 (v3+1)) h24)
   ·exact ZiS fol (o3 ++ [.d {ds:=[(7,wF),(8,wF),(9,wF),(10,wF),(11,wF),(12,wF),(13,wF),(14,wF),(15,wF),(16,wF),(17,yF),(18,yF)],hv:=0,Hs:=[]},.c false,.r []]) [1,17,18,19] [1] (t3 (aO c8 c8 c8 c9 c9 c9 c9 (aO c9 c9 c9 c9 c9 c9 c8 (aJ c9 c8 eF)))) (hc1 (w64 (v3+1)) h20)
 ·exact aq fol [.r [],.c false,.r []] [1,45,46,47] [1] c5 (At.loop N (At.loopN (fun y:Int=>Zbu.p2.S p_0 y st) (fun c J hc y h=>Zbu.p2_ok h hE (fun v6=>hc v6)) N 0 h14))
theorem Zbu.snd {p_0:Zae} {r:Bool} (h:Zbu N p_0=some r):Zde zF 22 [.agg p_0.ls] (Zbu.rs r):=fun st=>
 sO Zbu.B Tryz.func22 fun g0 w0 R hE=>by
  unfold Zbu at h
  obtain ⟨x1,c1,h25⟩:=Zaf h
  have t5 {Q:Prop} (q:Q):=aI (ZdE.snd c1) q
  refine ZaY h25 (fun c2 h26=>?_) (fun c2 h27=>?_)
  ·obtain rfl:=Zac h26
   exact af fol hE [.r [],.r [(1,q1 [oB x1]),(4,wF),(5,wF),(6,wF),(7,wF)],.c true,.r []] [] 0 [] (t5 (aM (not_false (ZbB c2)) (not_false (ZbB c2)) (not_false (ZbB c2)) (not_false (ZbB c2)) (not_false (ZbB c2)) eT))
  ·obtain ⟨x2,c3,h28⟩:=Zaf h27
   let o5:List PS:=[.r [],.r [(1,q1 [oB x1]),(6,q1 [oB x2]),(8,yF)]]
   have t6 {Q:Prop} (q:Q):=t5 (aN (not_true (ZbC c2)) (not_true (ZbC c2)) (not_true (ZbC c2)) (ZbY.snd c3) (not_true (ZbC c2)) (not_true (ZbC c2)) q)
   refine ZaY h28 (fun c4 h29=>?_) (fun c4 h30=>?_)
   ·obtain rfl:=Zac h29
    exact af fol hE (o5 ++ [.c true,.r []]) [] 0 [] (t6 c4)
   ·exact aq fol (o5 ++ [.c false,.r []]) [1,17,18,19] [1] (t6 c4) (At.loop N (At.loopN (fun y:Int=>Zbu.p1.S p_0 y st) (fun c J hc y h=>Zbu.p1_ok h hE (fun v3=>hc v3)) N 0 h30))
def Zby.B:Code:=Tryz.f89.body.getD .skip
def Zby.rs (r:(List Int)×Bool):List CV:=[.agg [zH .u64 4 r.1],oB r.2]
def Zby.p1 (N:Nat) (b_1_0:List Int) (c1_:(Int×Int×(List Int))→Option ((List Int)×Bool)):(Int×Int×(List Int))→Option ((List Int)×Bool):=fun (c_1,v2,a_5)=>
 if (decide (v2<4))=true then
  chk (0≤v2)<|
  Zbt (Zdk N (zD a_5 (zE v2) 0) (zD b_1_0 (zE v2) 0) c_1) fun (x6,x7)=>
  c1_ (x7,w64 (v2+1),zP a_5 (zE v2) x6)
 else
 some (a_5,c_1 != 0)
def Zby (N:Nat) (a_0_0 b_1_0:List Int):Option ((List Int)×Bool):=
 loopN (Zby.p1 N b_1_0) N (0,0,a_0_0)
def Zby.p1.S (c_1 v2:Int) (a_5 b_1_0:List Int) (st:LL):S:=mkS 28 [(2,sA 2),(3,sA 3),(4,sA 4),(6,.one (.l (zI .u64 c_1))),(8,sI v2)] [(2,.cells [zH .u64 4 a_5]),(3,.cells [zH .u64 4 b_1_0]),(4,.cells [zH .u64 4 (zB 4 0)])] st
theorem Zby.p1_ok {c_1 v2 a_5 b_1_0 st r c1_ J1} (h:Zby.p1 N b_1_0 c1_ (c_1,v2,a_5)=some r) (hE:En Tryz.f89 g0 w0 (Zby.rs r) st R) (hc1 : ∀c_1 v2 a_5,c1_ (c_1,v2,a_5)=some r→At g0 w0 (Zby.p1.S c_1 v2 a_5 b_1_0 st) J1):At g0 w0 (Zby.p1.S c_1 v2 a_5 b_1_0 st) (XK zF R (.c (Zbn Zby.B [1,1,0,1,0,0]) :: .h J1 :: [.b 0,.c (Zbn Zby.B [1,1,1])])):=by
 unfold Zby.p1 at h
 refine ZaY h (fun c4 h1=>?_) (fun c4 h2=>?_)
 ·obtain ⟨c5,h3⟩:=ZaP h1
  obtain ⟨⟨x6,x7⟩,c6,h4⟩:=Zaf h3
  exact ZiS fol [.r [],.c true,.r [],.d {ds:=[(8,{rs:=[.one (zI .u64 x6),.one (zI .u64 x7)],m:=4})],hv:=8192,Hs:=[8192]},.r []] [2,3,4,6,8] [2,3,4] (aO c4 c5 (oD c4) c5 (oD c4) (Zdk.snd c6) c5 (oD c4)) (hc1 x7 (w64 (v2+1)) (zP a_5 (zE v2) x6) h4)
 ·obtain rfl:=Zac h2
  exact af fol hE [.r [],.c false,.r []] [] 0 [] c4
theorem Zby.snd {a_0_0 b_1_0:List Int} {r:(List Int)×Bool} (h:Zby N a_0_0 b_1_0=some r):Zde zF 89 [.agg [zH .u64 4 a_0_0],.agg [zH .u64 4 b_1_0]] (Zby.rs r):=fun st=>
 sO Zby.B Tryz.func89 fun g0 w0 R hE=>by
  unfold Zby at h
  exact aq fol [.r [],.r [],.r []] [2,3,4,6,8] [2,3,4] trivial (At.loop N (At.loopN (fun y:Int×Int×(List Int)=>Zby.p1.S y.1 y.2.1 y.2.2 b_1_0 st) (fun c J hc y h=>Zby.p1_ok (c_1:=y.1) (v2:=y.2.1) (a_5:=y.2.2) h hE (fun c_1 v2 a_5=>hc (c_1,v2,a_5))) N (0,0,a_0_0) h))
def ZbS.B:Code:=Tryz.f91.body.getD .skip
def ZbS.rs (r:(List Int)):List CV:=[.agg [zH .u64 4 r]]
def ZbS.p1 (N:Nat) (c1_:(Int×(List Int))→Option (List Int)):(Int×(List Int))→Option (List Int):=fun (v1,a_2)=>
 if (decide (v1<4))=true then
  chk (0≤v1)<|
  c1_ (w64 (v1+1),zP a_2 (zE v1) (Zay .xor .u64 (IntKind.max IntKind.u64) (zD a_2 (zE v1) 0)))
 else
 some a_2
def ZbS (N:Nat) (a_0_0:List Int):Option (List Int):=
 loopN (ZbS.p1 N) N (0,a_0_0)
def ZbS.p1.S (v1:Int) (a_2:List Int) (st:LL):S:=mkS 15 [(1,sA 1),(2,sA 2),(4,sI v1)] [(1,.cells [zH .u64 4 a_2]),(2,.cells [zH .u64 4 (zB 4 0)])] st
theorem ZbS.p1_ok {v1 a_2 st r c1_ J1} (h:ZbS.p1 N c1_ (v1,a_2)=some r) (hE:En Tryz.f91 g0 w0 (ZbS.rs r) st R) (hc1 : ∀v1 a_2,c1_ (v1,a_2)=some r→At g0 w0 (ZbS.p1.S v1 a_2 st) J1):At g0 w0 (ZbS.p1.S v1 a_2 st) (XK zF R (.c (Zbn ZbS.B [1,0,1,0,0]) :: .h J1 :: [.b 0,.c (Zbn ZbS.B [1,1])])):=by
 unfold ZbS.p1 at h
 refine ZaY h (fun c3 h1=>?_) (fun c3 h2=>?_)
 ·obtain ⟨c4,h3⟩:=ZaP h1
  exact an fol [.r [],.c true,.r [],.r [],.r []] [1,2,4] [1,2] (aL c3 c4 (oD c3) c4 (oD c3)) (hc1 (w64 (v1+1)) (zP a_2 (zE v1) (Zay .xor .u64 (IntKind.max IntKind.u64) (zD a_2 (zE v1) 0))) h3)
 ·obtain rfl:=Zac h2
  exact af fol hE [.r [],.c false,.r []] [] 0 [] c3
theorem ZbS.snd {a_0_0:List Int} {r:(List Int)} (h:ZbS N a_0_0=some r):Zde zF 91 [.agg [zH .u64 4 a_0_0]] (ZbS.rs r):=fun st=>
 sO ZbS.B Tryz.func91 fun g0 w0 R hE=>by
  unfold ZbS at h
  exact aq fol [.r [],.r []] [1,2,4] [1,2] trivial (At.loop N (At.loopN (fun y:Int×(List Int)=>ZbS.p1.S y.1 y.2 st) (fun c J hc y h=>ZbS.p1_ok (v1:=y.1) (a_2:=y.2) h hE (fun v1 a_2=>hc (v1,a_2))) N (0,a_0_0) h))
def Zau.B:Code:=Tryz.f115.body.getD .skip
def Zau.rs (r:Int):List CV:=[oI r]
def Zau.p3 (N:Nat) (x_5 n_6:Int):Option Int:=
 chk (0≤(v8 (x_5)))<|
 chk ((v8 (x_5))<((zU (xP #[0,1,2,2,3,3,3,3,4,4,4,4,4,4,4,4,5,5,5,5,5,5,5,5,5,5,5,5,5,5,5,5,6,6,6,6,6,6,6,6,6,6,6,6,6,6,6,6,6,6,6,6,6,6,6,6,6,6,6,6,6,6,6,6,7,7,7,7,7,7,7,7,7,7,7,7,7,7,7,7,7,7,7,7,7,7,7,7,7,7,7,7,7,7,7,7,7,7,7,7,7,7,7,7,7,7,7,7,7,7,7,7,7,7,7,7,7,7,7,7,7,7,7,7,7,7,7,7,8,8,8,8,8,8,8,8,8,8,8,8,8,8,8,8,8,8,8,8,8,8,8,8,8,8,8,8,8,8,8,8,8,8,8,8,8,8,8,8,8,8,8,8,8,8,8,8,8,8,8,8,8,8,8,8,8,8,8,8,8,8,8,8,8,8,8,8,8,8,8,8,8,8,8,8,8,8,8,8,8,8,8,8,8,8,8,8,8,8,8,8,8,8,8,8,8,8,8,8,8,8,8,8,8,8,8,8,8,8,8,8,8,8,8,8,8,8,8,8,8,8,8,8,8,8,8,8]):Nat):Int))<|
 some (w64 (n_6+(w64 (((UInt8.toNat (zD (rD (sJ (xP #[0,1,2,2,3,3,3,3,4,4,4,4,4,4,4,4,5,5,5,5,5,5,5,5,5,5,5,5,5,5,5,5,6,6,6,6,6,6,6,6,6,6,6,6,6,6,6,6,6,6,6,6,6,6,6,6,6,6,6,6,6,6,6,6,7,7,7,7,7,7,7,7,7,7,7,7,7,7,7,7,7,7,7,7,7,7,7,7,7,7,7,7,7,7,7,7,7,7,7,7,7,7,7,7,7,7,7,7,7,7,7,7,7,7,7,7,7,7,7,7,7,7,7,7,7,7,7,7,8,8,8,8,8,8,8,8,8,8,8,8,8,8,8,8,8,8,8,8,8,8,8,8,8,8,8,8,8,8,8,8,8,8,8,8,8,8,8,8,8,8,8,8,8,8,8,8,8,8,8,8,8,8,8,8,8,8,8,8,8,8,8,8,8,8,8,8,8,8,8,8,8,8,8,8,8,8,8,8,8,8,8,8,8,8,8,8,8,8,8,8,8,8,8,8,8,8,8,8,8,8,8,8,8,8,8,8,8,8,8,8,8,8,8,8,8,8,8,8,8,8,8,8,8,8,8,8]))) (zE (v8 (x_5))) 0):Nat):Int)))))
def Zau.p2 (N:Nat) (x_3 n_4:Int):Option Int:=
 if (decide (x_3≥256))=true then
  Zau.p3 N (Zba .u64 x_3 8) (w64 (n_4+8))
 else
 Zau.p3 N x_3 n_4
def Zau.p1 (N:Nat) (x_1 n_2:Int):Option Int:=
 if (decide (x_1≥65536))=true then
  Zau.p2 N (Zba .u64 x_1 16) (w64 (n_2+16))
 else
 Zau.p2 N x_1 n_2
def Zau (N:Nat) (x_0:Int):Option Int:=
 if (decide (x_0≥4294967296))=true then
  Zau.p1 N (Zba .u64 x_0 32) 32
 else
 Zau.p1 N x_0 0
def Zau.p3.S (x_5 n_6:Int) (st:LL):S:=mkS 25 [(0,.one (.l (zI .u64 x_5))),(2,sI n_6)] [] st
def Zau.p2.S (x_3 n_4:Int) (st:LL):S:=mkS 25 [(0,.one (.l (zI .u64 x_3))),(2,sI n_4)] [] st
def Zau.p1.S (x_1 n_2:Int) (st:LL):S:=mkS 25 [(0,.one (.l (zI .u64 x_1))),(2,sI n_2)] [] st
theorem Zau.p3_ok {x_5 n_6 st r} (h:Zau.p3 N x_5 n_6=some r) (hE:En Tryz.f115 g0 w0 (Zau.rs r) st R):At g0 w0 (Zau.p3.S x_5 n_6 st) (XK zF R [.c (Zbn Zau.B [1,1,1,1])]):=by
 unfold Zau.p3 at h
 obtain ⟨c4,c5,h1⟩:=ck2 h
 obtain rfl:=Zac h1
 exact af fol hE [.r []] [] 0 [] (aI c4 c5)
theorem Zau.p2_ok {x_3 n_4 st r} (h:Zau.p2 N x_3 n_4=some r) (hE:En Tryz.f115 g0 w0 (Zau.rs r) st R):At g0 w0 (Zau.p2.S x_3 n_4 st) (XK zF R [.c (Zbn Zau.B [1,1,1])]):=by
 unfold Zau.p2 at h
 refine ZaY h (fun c3 h2=>?_) (fun c3 h3=>?_)
 ·exact aq fol [.r [],.c true,.r [],.r [],.s 1] [0,2] [] (aI c3 (leI 0 8)) (Zau.p3_ok h2 hE)
 ·exact aq fol [.r [],.c false,.s 1] [0,2] [] c3 (Zau.p3_ok h3 hE)
theorem Zau.p1_ok {x_1 n_2 st r} (h:Zau.p1 N x_1 n_2=some r) (hE:En Tryz.f115 g0 w0 (Zau.rs r) st R):At g0 w0 (Zau.p1.S x_1 n_2 st) (XK zF R [.c (Zbn Zau.B [1,1])]):=by
 unfold Zau.p1 at h
 refine ZaY h (fun c2 h4=>?_) (fun c2 h5=>?_)
 ·exact aq fol [.r [],.c true,.r [],.r [],.s 1] [0,2] [] (aI c2 (leI 0 16)) (Zau.p2_ok h4 hE)
 ·exact aq fol [.r [],.c false,.s 1] [0,2] [] c2 (Zau.p2_ok h5 hE)
theorem Zau.snd {x_0:Int} {r:Int} (h:Zau N x_0=some r):Zde zF 115 [.one (zI .u64 x_0)] (Zau.rs r):=fun st=>
 sO Zau.B Tryz.func115 fun g0 w0 R hE=>by
  unfold Zau at h
  refine ZaY h (fun c1 h6=>?_) (fun c1 h7=>?_)
  ·exact aq fol [.r [],.r [],.c true,.r [],.r [],.s 1] [0,2] [] (aI c1 (leI 0 32)) (Zau.p1_ok h6 hE)
  ·exact aq fol [.r [],.r [],.c false,.s 1] [0,2] [] c1 (Zau.p1_ok h7 hE)
def ZbX.B:Code:=Tryz.f106.body.getD .skip
def ZbX.rs (r:Int):List CV:=[oI r]
def ZbX.p1 (N:Nat) (a_0_0:List Int) (c1_:Int→Option Int):Int→Option Int:=fun i_1=>
 if (decide (i_1≥0))=true then
  chk (0≤i_1)<|
  chk (i_1<4)<|
  if ((zD a_0_0 (zE i_1) 0) != 0)=true then
   Zbt (Zau N (zD a_0_0 (zE i_1) 0)) fun x2=>
   some (w64 ((w64 (64*i_1))+x2))
  else
  c1_ (w64 (i_1-1))
 else
 some 0
def ZbX (N:Nat) (a_0_0:List Int):Option Int:=
 loopN (ZbX.p1 N a_0_0) N 3
def ZbX.p1.S (i_1:Int) (a_0_0:List Int) (st:LL):S:=mkS 19 [(1,sA 1),(3,sI i_1)] [(1,.cells [zH .u64 4 a_0_0])] st
theorem ZbX.p1_ok {i_1 a_0_0 st r c1_ J1} (h:ZbX.p1 N a_0_0 c1_ i_1=some r) (hE:En Tryz.f106 g0 w0 (ZbX.rs r) st R) (hc1 : ∀i_1,c1_ i_1=some r→At g0 w0 (ZbX.p1.S i_1 a_0_0 st) J1):At g0 w0 (ZbX.p1.S i_1 a_0_0 st) (XK zF R (.c (Zbn ZbX.B [1,0,1,0,0]) :: .h J1 :: [.b 0,.c (Zbn ZbX.B [1,1])])):=by
 unfold ZbX.p1 at h
 refine ZaY h (fun c1 h1=>?_) (fun c1 h2=>?_)
 ·obtain ⟨c2,c3,h3⟩:=ck2 h1
  refine ZaY h3 (fun c4 h4=>?_) (fun c4 h5=>?_)
  ·obtain ⟨x2,c5,h6⟩:=Zaf h4
   obtain rfl:=Zac h6
   exact af fol hE [.r [],.c true,.r [],.c true,.r [(5,q1 [oI x2])]] [] 0 [] (aN c1 c2 c3 c4 c2 c3 (Zau.snd c5))
  ·exact an fol [.r [],.c true,.r [],.c false,.r []] [1,3] [1] (aK c1 c2 c3 c4) (hc1 (w64 (i_1-1)) h5)
 ·obtain rfl:=Zac h2
  exact af fol hE [.r [],.c false,.r []] [] 0 [] c1
theorem ZbX.snd {a_0_0:List Int} {r:Int} (h:ZbX N a_0_0=some r):Zde zF 106 [.agg [zH .u64 4 a_0_0]] (ZbX.rs r):=fun st=>
 sO ZbX.B Tryz.func106 fun g0 w0 R hE=>by
  unfold ZbX at h
  exact aq fol [.r [],.r []] [1,3] [1] trivial (At.loop N (At.loopN (fun y:Int=>ZbX.p1.S y a_0_0 st) (fun c J hc y h=>ZbX.p1_ok h hE (fun i_1=>hc i_1)) N 3 h))
def Zca.B:Code:=Tryz.f107.body.getD .skip
def Zca.rs (r:(List Int)×Bool):List CV:=[.agg [zH .u64 4 r.1],oB r.2]
def Zca.p1 (N:Nat) (b_1_0:List Int) (c1_:(Int×Int×(List Int))→Option ((List Int)×Bool)):(Int×Int×(List Int))→Option ((List Int)×Bool):=fun (c_1,v2,a_5)=>
 if (decide (v2<4))=true then
  chk (0≤v2)<|
  Zbt (Zeg N (zD a_5 (zE v2) 0) (zD b_1_0 (zE v2) 0) c_1) fun (x6,x7)=>
  c1_ (x7,w64 (v2+1),zP a_5 (zE v2) x6)
 else
 some (a_5,c_1 != 0)
def Zca (N:Nat) (a_0_0 b_1_0:List Int):Option ((List Int)×Bool):=
 loopN (Zca.p1 N b_1_0) N (0,0,a_0_0)
def Zca.p1.S (c_1 v2:Int) (a_5 b_1_0:List Int) (st:LL):S:=mkS 28 [(2,sA 2),(3,sA 3),(4,sA 4),(6,.one (.l (zI .u64 c_1))),(8,sI v2)] [(2,.cells [zH .u64 4 a_5]),(3,.cells [zH .u64 4 b_1_0]),(4,.cells [zH .u64 4 (zB 4 0)])] st
theorem Zca.p1_ok {c_1 v2 a_5 b_1_0 st r c1_ J1} (h:Zca.p1 N b_1_0 c1_ (c_1,v2,a_5)=some r) (hE:En Tryz.f107 g0 w0 (Zca.rs r) st R) (hc1 : ∀c_1 v2 a_5,c1_ (c_1,v2,a_5)=some r→At g0 w0 (Zca.p1.S c_1 v2 a_5 b_1_0 st) J1):At g0 w0 (Zca.p1.S c_1 v2 a_5 b_1_0 st) (XK zF R (.c (Zbn Zca.B [1,1,0,1,0,0]) :: .h J1 :: [.b 0,.c (Zbn Zca.B [1,1,1])])):=by
 unfold Zca.p1 at h
 refine ZaY h (fun c4 h1=>?_) (fun c4 h2=>?_)
 ·obtain ⟨c5,h3⟩:=ZaP h1
  obtain ⟨⟨x6,x7⟩,c6,h4⟩:=Zaf h3
  exact ZiS fol [.r [],.c true,.r [],.d {ds:=[(8,{rs:=[.one (zI .u64 x6),.one (zI .u64 x7)],m:=4})],hv:=8192,Hs:=[8192]},.r []] [2,3,4,6,8] [2,3,4] (aO c4 c5 (oD c4) c5 (oD c4) (Zeg.snd c6) c5 (oD c4)) (hc1 x7 (w64 (v2+1)) (zP a_5 (zE v2) x6) h4)
 ·obtain rfl:=Zac h2
  exact af fol hE [.r [],.c false,.r []] [] 0 [] c4
theorem Zca.snd {a_0_0 b_1_0:List Int} {r:(List Int)×Bool} (h:Zca N a_0_0 b_1_0=some r):Zde zF 107 [.agg [zH .u64 4 a_0_0],.agg [zH .u64 4 b_1_0]] (Zca.rs r):=fun st=>
 sO Zca.B Tryz.func107 fun g0 w0 R hE=>by
  unfold Zca at h
  exact aq fol [.r [],.r [],.r []] [2,3,4,6,8] [2,3,4] trivial (At.loop N (At.loopN (fun y:Int×Int×(List Int)=>Zca.p1.S y.1 y.2.1 y.2.2 b_1_0 st) (fun c J hc y h=>Zca.p1_ok (c_1:=y.1) (v2:=y.2.1) (a_5:=y.2.2) h hE (fun c_1 v2 a_5=>hc (c_1,v2,a_5))) N (0,0,a_0_0) h))
def Zbk.B:Code:=Tryz.f90.body.getD .skip
def Zbk.rs (r:(List Int)×(List Int)):List CV:=[.agg [zH .u64 4 r.1],.agg [zH .u64 4 r.2]]
def Zbk.p2 (N:Nat) (c1_:(Int×(List Int)×(List Int))→Option ((List Int)×(List Int))) (i_3:Int) (a_0_0 by_1_0 out_21 rest_20:List Int):Option ((List Int)×(List Int)):=
 c1_ (w64 (i_3-1),out_21,rest_20)
def Zbk.p1 (N:Nat) (a_0_0 by_1_0:List Int) (c1_:(Int×(List Int)×(List Int))→Option ((List Int)×(List Int))):(Int×(List Int)×(List Int))→Option ((List Int)×(List Int)):=fun (i_3,out_12,rest_13)=>
 if (decide (i_3≥0))=true then
  Zbt (Zbr N rest_13 1) fun x14=>
  chk (0≤(w64 (zN i_3 64)))<|
  chk ((w64 (zN i_3 64))<4)<|
  chk (0≤(zT i_3 64))<|
  if ((Zba .u64 (zD rest_13 3 0) 63)==1)=true then
   Zbt (Zca N (zP x14 0 (Zay .or .u64 (zD x14 0 0) (Zay .and .u64 (Zba .u64 (zD a_0_0 (zE (w64 (zN i_3 64))) 0) (zT i_3 64)) 1))) by_1_0) fun (x15,x16)=>
   Zbk.p2 N c1_ i_3 a_0_0 by_1_0 (zP out_12 (zE (w64 (zN i_3 64))) (Zay .or .u64 (zD out_12 (zE (w64 (zN i_3 64))) 0) (Zbi .u64 1 (zT i_3 64)))) x15
  else
  Zbt (Zcz N (zP x14 0 (Zay .or .u64 (zD x14 0 0) (Zay .and .u64 (Zba .u64 (zD a_0_0 (zE (w64 (zN i_3 64))) 0) (zT i_3 64)) 1))) by_1_0) fun x17=>
  if (!x17)=true then
   Zbt (Zca N (zP x14 0 (Zay .or .u64 (zD x14 0 0) (Zay .and .u64 (Zba .u64 (zD a_0_0 (zE (w64 (zN i_3 64))) 0) (zT i_3 64)) 1))) by_1_0) fun (x18,x19)=>
   Zbk.p2 N c1_ i_3 a_0_0 by_1_0 (zP out_12 (zE (w64 (zN i_3 64))) (Zay .or .u64 (zD out_12 (zE (w64 (zN i_3 64))) 0) (Zbi .u64 1 (zT i_3 64)))) x18
  else
  Zbk.p2 N c1_ i_3 a_0_0 by_1_0 out_12 (zP x14 0 (Zay .or .u64 (zD x14 0 0) (Zay .and .u64 (Zba .u64 (zD a_0_0 (zE (w64 (zN i_3 64))) 0) (zT i_3 64)) 1)))
 else
 some (out_12,rest_13)
def Zbk (N:Nat) (a_0_0 by_1_0:List Int):Option ((List Int)×(List Int)):=
 Zbt (Zcs N by_1_0) fun x1=>
 if x1=true then
  some (zB 4 0,zB 4 0)
 else
 Zbt (ZbX N a_0_0) fun x2=>
 loopN (Zbk.p1 N a_0_0 by_1_0) N (w64 (x2-1),zB 4 0,zB 4 0)
def Zbk.p2.S (i_3:Int) (a_0_0 by_1_0 out_21 rest_20:List Int) (st:LL):S:=mkS 63 [(2,sA 2),(3,sA 3),(4,sA 4),(5,sA 5),(6,sA 6),(7,sA 7),(8,sI i_3)] [(2,.cells [zH .u64 4 a_0_0]),(3,.cells [zH .u64 4 by_1_0]),(4,.cells [zH .u64 4 (zB 4 0)]),(5,.cells [zH .u64 4 (zB 4 0)]),(6,.cells [zH .u64 4 out_21]),(7,.cells [zH .u64 4 rest_20])] st
def Zbk.p1.S (i_3:Int) (a_0_0 by_1_0 out_12 rest_13:List Int) (st:LL):S:=mkS 63 [(2,sA 2),(3,sA 3),(4,sA 4),(5,sA 5),(6,sA 6),(7,sA 7),(8,sI i_3)] [(2,.cells [zH .u64 4 a_0_0]),(3,.cells [zH .u64 4 by_1_0]),(4,.cells [zH .u64 4 (zB 4 0)]),(5,.cells [zH .u64 4 (zB 4 0)]),(6,.cells [zH .u64 4 out_12]),(7,.cells [zH .u64 4 rest_13])] st
theorem Zbk.p2_ok {i_3 a_0_0 by_1_0 out_21 rest_20 st r c1_ J1} (h:Zbk.p2 N c1_ i_3 a_0_0 by_1_0 out_21 rest_20=some r) (hE:En Tryz.f90 g0 w0 (Zbk.rs r) st R) (hc1 : ∀i_3 out_12 rest_13,c1_ (i_3,out_12,rest_13)=some r→At g0 w0 (Zbk.p1.S i_3 a_0_0 by_1_0 out_12 rest_13 st) J1):At g0 w0 (Zbk.p2.S i_3 a_0_0 by_1_0 out_21 rest_20 st) (XK zF R [.c (Zbn Zbk.B [1,1,1,0,1,0,0,1,1]),.h J1,.b 0,.c (Zbn Zbk.B [1,1,1,1])]):=by
 unfold Zbk.p2 at h
 exact an fol [.r []] [2,3,4,5,6,7,8] [2,3,4,5,6,7] trivial (hc1 (w64 (i_3-1)) out_21 rest_20 h)
theorem Zbk.p1_ok {i_3 a_0_0 by_1_0 out_12 rest_13 st r c1_ J1} (h:Zbk.p1 N a_0_0 by_1_0 c1_ (i_3,out_12,rest_13)=some r) (hE:En Tryz.f90 g0 w0 (Zbk.rs r) st R) (hc1 : ∀i_3 out_12 rest_13,c1_ (i_3,out_12,rest_13)=some r→At g0 w0 (Zbk.p1.S i_3 a_0_0 by_1_0 out_12 rest_13 st) J1):At g0 w0 (Zbk.p1.S i_3 a_0_0 by_1_0 out_12 rest_13 st) (XK zF R (.c (Zbn Zbk.B [1,1,1,0,1,0,0]) :: .h J1 :: [.b 0,.c (Zbn Zbk.B [1,1,1,1])])):=by
 unfold Zbk.p1 at h
 refine ZaY h (fun c14 h1=>?_) (fun c14 h2=>?_)
 ·obtain ⟨x14,c15,h3⟩:=Zaf h1
  obtain ⟨c16,c17,c18,h4⟩:=ck3 h3
  let o1:List PS:=[.r [],.c true,.r [],.r [(1,q1 [.agg [zH .u64 4 x14]])],.d {ds:=[],hv:=4096,Hs:=[4096]}]
  have t1 {Q:Prop} (q:Q):=aI c14 (ix 3 4 (aJ (leI 0 63) (Zbr.snd c15) (ix 0 4 (aM (neI 64) c16 c17 (neI 64) c18 (ix 0 4 q)))))
  refine ZaY h4 (fun c19 h5=>?_) (fun c19 h6=>?_)
  ·obtain ⟨⟨x15,x16⟩,c20,h7⟩:=Zaf h5
   exact aqd fol (o1 ++ [.r [(2,wF),(3,wF),(4,wF),(5,wF)],.c true,.r [(2,q1 [.agg [zH .u64 4 x15],oB x16])],.d {ds:=[],hv:=512,Hs:=[512]},.s 4]) [2,3,4,5,6,7,8] [2,3,4,5,6,7] (t1 (aO c19 c19 c19 c19 c19 eT (Zca.snd c20) (aN (neI 64) c16 c17 (neI 64) c18 c16 c17))) (Zbk.p2_ok h7 hE hc1)
  ·obtain ⟨x17,c21,h8⟩:=Zaf h6
   let o2:List PS:=o1 ++ [.r [(4,q1 [oB x17]),(6,yF)]]
   have t2 {Q:Prop} (q:Q):=t1 (aN c19 c19 c19 (Zcz.snd c21) c19 c19 q)
   refine ZaY h8 (fun c22 h9=>?_) (fun c22 h10=>?_)
   ·obtain ⟨⟨x18,x19⟩,c23,h11⟩:=Zaf h9
    exact aqd fol (o2 ++ [.c true,.r [(2,q1 [.agg [zH .u64 4 x18],oB x19])],.d {ds:=[],hv:=512,Hs:=[512]},.s 4]) [2,3,4,5,6,7,8] [2,3,4,5,6,7] (t2 (aO c22 (Zca.snd c23) (neI 64) c16 c17 (neI 64) c18 (aI c16 c17))) (Zbk.p2_ok h11 hE hc1)
   ·exact aqd fol (o2 ++ [.c false,.s 4]) [2,3,4,5,6,7,8] [2,3,4,5,6,7] (t2 c22) (Zbk.p2_ok h10 hE hc1)
 ·obtain rfl:=Zac h2
  exact afd fol hE [.r [],.c false,.d {ds:=[],hv:=12,Hs:=[4,12]}] [] 0 [] c14
theorem Zbk.snd {a_0_0 by_1_0:List Int} {r:(List Int)×(List Int)} (h:Zbk N a_0_0 by_1_0=some r):Zde zF 90 [.agg [zH .u64 4 a_0_0],.agg [zH .u64 4 by_1_0]] (Zbk.rs r):=fun st=>
 sO Zbk.B Tryz.func90 fun g0 w0 R hE=>by
  unfold Zbk at h
  obtain ⟨x1,c1,h12⟩:=Zaf h
  let o3:List PS:=[.r [],.r [],.r [(1,q1 [oB x1])]]
  refine ZaY h12 (fun c2 h13=>?_) (fun c2 h14=>?_)
  ·obtain rfl:=Zac h13
   exact afd fol hE (o3 ++ [.c true,.d {ds:=[],hv:=12,Hs:=[4,12]}]) [] 0 [] (aI (Zcs.snd c1) c2)
  ·obtain ⟨x2,c3,h15⟩:=Zaf h14
   exact aq fol (o3 ++ [.c false,.r [(1,q1 [oI x2])]]) [2,3,4,5,6,7,8] [2,3,4,5,6,7] (aJ (Zcs.snd c1) c2 (ZbX.snd c3)) (At.loop N (At.loopN (fun y:Int×(List Int)×(List Int)=>Zbk.p1.S y.1 a_0_0 by_1_0 y.2.1 y.2.2 st) (fun c J hc y h=>Zbk.p1_ok (i_3:=y.1) (out_12:=y.2.1) (rest_13:=y.2.2) h hE (fun i_3 out_12 rest_13=>hc (i_3,out_12,rest_13))) N (w64 (x2-1),zB 4 0,zB 4 0) h15))
def Zdh.B:Code:=Tryz.f68.body.getD .skip
def Zdh.rs (r:(List Int)):List CV:=[.agg [zH .u64 4 r]]
def Zdh (N:Nat):Option (List Int):=
 Zbt (ZbS N (zB 4 0)) fun x1=>
 some x1
theorem Zdh.snd {r:(List Int)} (h:Zdh N=some r):Zde zF 68 [] (Zdh.rs r):=fun st=>
 sO Zdh.B Tryz.func68 fun g0 w0 R hE=>by
  unfold Zdh at h
  obtain ⟨x1,c1,h1⟩:=Zaf h
  obtain rfl:=Zac h1
  exact af fol hE [.r [],.r [(1,q1 [.agg [zH .u64 4 x1]])]] [] 0 [] (ZbS.snd c1)
def Zfl.B:Code:=Tryz.f66.body.getD .skip
def Zfl.rs (r:(List Int)):List CV:=[.agg [zH .u64 4 r]]
def Zfl (N:Nat) (target_0_0:List Int):Option (List Int):=
 Zbt (ZcH N 1) fun x1=>
 Zbt (Zby N target_0_0 x1) fun (x2,x3)=>
 if x3=true then
  some x1
 else
 Zbt (ZbS N target_0_0) fun x4=>
 Zbt (Zbk N x4 x2) fun (x5,x6)=>
 Zbt (Zby N x5 x1) fun (x7,x8)=>
 if x8=true then
  Zbt (Zdh N ) fun x9=>
  some x9
 else
 some x7
theorem Zfl.snd {target_0_0:List Int} {r:(List Int)} (h:Zfl N target_0_0=some r):Zde zF 66 [.agg [zH .u64 4 target_0_0]] (Zfl.rs r):=fun st=>
 sO Zfl.B Tryz.func66 fun g0 w0 R hE=>by
  unfold Zfl at h
  obtain ⟨x1,c1,h1⟩:=Zaf h
  obtain ⟨⟨x2,x3⟩,c2,h2⟩:=Zaf h1
  let o1:List PS:=[.r [],.d {ds:=[(1,q1 [.agg [zH .u64 4 x1]]),(2,q1 [.agg [zH .u64 4 x2],oB x3])],hv:=192,Hs:=[64,192]},.r []]
  have t1 {Q:Prop} (q:Q):=aL (ZcH.snd c1) (ZcH.snd c1) (Zby.snd c2) (Zby.snd c2) q
  refine ZaY h2 (fun c3 h3=>?_) (fun c3 h4=>?_)
  ·obtain rfl:=Zac h3
   exact afd fol hE (o1 ++ [.c true,.r [(0,q1 [.agg [zH .u64 4 x1]])]]) [] 0 [] (t1 (aI c3 (ZcH.snd c1)))
  ·obtain ⟨x4,c4,h5⟩:=Zaf h4
   obtain ⟨⟨x5,x6⟩,c5,h6⟩:=Zaf h5
   obtain ⟨⟨x7,x8⟩,c6,h7⟩:=Zaf h6
   let o2:List PS:=o1 ++ [.c false,.d {ds:=[(1,q1 [.agg [zH .u64 4 x4]]),(3,q1 [.agg [zH .u64 4 x5],.agg [zH .u64 4 x6]])],hv:=1920,Hs:=[128,256,384,896,1920]},.d {ds:=[(1,q1 [.agg [zH .u64 4 x1]]),(2,q1 [.agg [zH .u64 4 x7],oB x8])],hv:=192,Hs:=[64,192]},.r []]
   have t2 {Q:Prop} (q:Q):=t1 (aO c3 (ZbS.snd c4) (ZbS.snd c4) (ZbS.snd c4) (ZbS.snd c4) (Zbk.snd c5) (Zbk.snd c5) (aN (Zbk.snd c5) (Zbk.snd c5) (ZcH.snd c1) (ZcH.snd c1) (Zby.snd c6) (Zby.snd c6) q))
   refine ZaY h7 (fun c7 h8=>?_) (fun c7 h9=>?_)
   ·obtain ⟨x9,c8,h10⟩:=Zaf h8
    obtain rfl:=Zac h10
    exact afd fol hE (o2 ++ [.c true,.r [(0,q1 [.agg [zH .u64 4 x9]])]]) [] 0 [] (t2 (aI c7 (Zdh.snd c8)))
   ·obtain rfl:=Zac h9
    exact afd fol hE (o2 ++ [.c false,.r []]) [] 0 [] (t2 c7)
def Zdb.B:Code:=Tryz.f39.body.getD .skip
def Zdb.rs (r:(List Int)):List CV:=[.agg [zH .u64 4 r]]
def Zdb (N:Nat) (bits_0:Int):Option (List Int):=
 Zbt (ZaD N bits_0) fun (x1,x2,x3)=>
 if x2=true then
  some (zB 4 0)
 else
 if x3=true then
  some (zB 4 0)
 else
 Zbt (Zcs N x1) fun x4=>
 if x4=true then
  some (zB 4 0)
 else
 Zbt (Zfl N x1) fun x5=>
 some x5
theorem Zdb.snd {bits_0:Int} {r:(List Int)} (h:Zdb N bits_0=some r):Zde zF 39 [oI bits_0] (Zdb.rs r):=fun st=>
 sO Zdb.B Tryz.func39 fun g0 w0 R hE=>by
  unfold Zdb at h
  obtain ⟨⟨x1,x2,x3⟩,c1,h1⟩:=Zaf h
  let o1:List PS:=[.r [],.r [(1,q1 [.agg [zH .u64 4 x1],oB x2,oB x3])]]
  have t1 {Q:Prop} (q:Q):=aI (ZaD.snd c1) q
  refine ZaY h1 (fun c2 h2=>?_) (fun c2 h3=>?_)
  ·obtain rfl:=Zac h2
   exact af fol hE (o1 ++ [.r [(2,wF),(5,wF),(6,wF)],.c true,.r []]) [] 0 [] (t1 (aM c2 c2 eT eT eT eT))
  ·refine ZaY h3 (fun c3 h4=>?_) (fun c3 h5=>?_)
   ·obtain rfl:=Zac h4
    exact af fol hE (o1 ++ [.r [(3,yF),(5,wF),(6,wF)],.c true,.r []]) [] 0 [] (t1 (aM c2 c2 c3 c3 c3 eT))
   ·obtain ⟨x4,c4,h6⟩:=Zaf h5
    let o2:List PS:=o1 ++ [.r [(3,yF),(6,q1 [oB x4]),(7,yF)]]
    refine ZaY h6 (fun c5 h7=>?_) (fun c5 h8=>?_)
    ·obtain rfl:=Zac h7
     exact af fol hE (o2 ++ [.c true,.r []]) [] 0 [] (t1 (aN c2 c2 c3 c3 (Zcs.snd c4) c3 c5))
    ·obtain ⟨x5,c6,h9⟩:=Zaf h8
     obtain rfl:=Zac h9
     exact af fol hE (o2 ++ [.c false,.r [(1,q1 [.agg [zH .u64 4 x5]])]]) [] 0 [] (t1 (aO c2 c2 c3 c3 (Zcs.snd c4) c3 c5 (Zfl.snd c6)))
def ZbW.B:Code:=Tryz.f67.body.getD .skip
def ZbW.rs (r:(List Int)×Bool):List CV:=[.agg [zH .u64 4 r.1],oB r.2]
def ZbW.p1 (N:Nat) (list_0:LL) (c1_:(Bool×Int×(List Int))→Option ((List Int)×Bool)):(Bool×Int×(List Int))→Option ((List Int)×Bool):=fun (over_1,v2,out_6)=>
 if (decide (v2<(len list_0)))=true then
  chk (0≤v2)<|
  Zds (list_0[zE v2]?) ZgK fun x7=>
  Zbt (Zby N out_6 x7) fun (x8,x9)=>
  if over_1=true then
   c1_ (true,w64 (v2+1),x8)
  else
  c1_ (x9,w64 (v2+1),x8)
 else
 some (out_6,over_1)
def ZbW (N:Nat) (list_0:LL):Option ((List Int)×Bool):=
 loopN (ZbW.p1 N list_0) N (false,0,zB 4 0)
def ZbW.p1.S (over_1:Bool) (list_0:LL) (v2:Int) (out_6:List Int) (st:LL):S:=mkS 28 [(2,sA 2),(4,sA 4),(5,.one (.l (uA over_1))),(9,sV 4 list_0),(10,sI (len list_0)),(11,sI v2)] [(2,.cells [zH .u64 4 (zB 4 0)]),(4,.cells [zH .u64 4 out_6])] st
theorem ZbW.p1_ok {over_1 list_0 v2 out_6 st r c1_ J1} (h:ZbW.p1 N list_0 c1_ (over_1,v2,out_6)=some r) (hE:En Tryz.f67 g0 w0 (ZbW.rs r) st R) (hc1 : ∀over_1 v2 out_6,c1_ (over_1,v2,out_6)=some r→At g0 w0 (ZbW.p1.S over_1 list_0 v2 out_6 st) J1):At g0 w0 (ZbW.p1.S over_1 list_0 v2 out_6 st) (XK zF R (.c (Zbn ZbW.B [1,1,1,0,1,0,0]) :: .h J1 :: [.b 0,.c (Zbn ZbW.B [1,1,1,1])])):=by
 unfold ZbW.p1 at h
 refine ZaY h (fun c6 h1=>?_) (fun c6 h2=>?_)
 ·obtain ⟨c7,h3⟩:=ZaP h1
  obtain ⟨x7,c8,h4⟩:=ZhW h3
  obtain ⟨⟨x8,x9⟩,c9,h5⟩:=Zaf h4
  let o1:List PS:=[.r [],.c true,.r [(1,{oe:=[zH .u64 4 x7]})],.r [],.r [(2,q1 [.agg [zH .u64 4 x8],oB x9])]]
  refine ZaY h5 (fun c10 h6=>?_) (fun c10 h7=>?_)
  ·exact an fol (o1 ++ [.r [(2,wF)],.r []]) [2,4,5,9,10,11] [2,4] (aN c6 c7 (oD c6) c8 (Zby.snd c9) c10 c10) (hc1 true (w64 (v2+1)) x8 h6)
  ·exact an fol (o1 ++ [.r [(3,yF)],.r []]) [2,4,5,9,10,11] [2,4] (aN c6 c7 (oD c6) c8 (Zby.snd c9) c10 c10) (hc1 x9 (w64 (v2+1)) x8 h7)
 ·obtain rfl:=Zac h2
  exact af fol hE [.r [],.c false,.r []] [] 0 [] c6
theorem ZbW.snd {list_0:LL} {r:(List Int)×Bool} (h:ZbW N list_0=some r):Zde zF 67 [.one (vK 4 list_0)] (ZbW.rs r):=fun st=>
 sO ZbW.B Tryz.func67 fun g0 w0 R hE=>by
  unfold ZbW at h
  exact aq fol [.r [],.r [],.r [],.r []] [2,4,5,9,10,11] [2,4] trivial (At.loop N (At.loopN (fun y:Bool×Int×(List Int)=>ZbW.p1.S y.1 list_0 y.2.1 y.2.2 st) (fun c J hc y h=>ZbW.p1_ok (over_1:=y.1) (v2:=y.2.1) (out_6:=y.2.2) h hE (fun over_1 v2 out_6=>hc (over_1,v2,out_6))) N (false,0,zB 4 0) h))
def Zew.B:Code:=Tryz.f40.body.getD .skip
def Zew.rs (r:(List Int)):List CV:=[.agg [zH .u64 4 r]]
def Zew (N:Nat) (list_0:LL):Option (List Int):=
 Zbt (ZbW N list_0) fun (x1,x2)=>
 if x2=true then
  Zbt (Zdh N ) fun x3=>
  some x3
 else
 some x1
theorem Zew.snd {list_0:LL} {r:(List Int)} (h:Zew N list_0=some r):Zde zF 40 [.one (vK 4 list_0)] (Zew.rs r):=fun st=>
 sO Zew.B Tryz.func40 fun g0 w0 R hE=>by
  unfold Zew at h
  obtain ⟨⟨x1,x2⟩,c1,h1⟩:=Zaf h
  let o1:List PS:=[.r [],.r [(1,q1 [.agg [zH .u64 4 x1],oB x2])],.r []]
  refine ZaY h1 (fun c2 h2=>?_) (fun c2 h3=>?_)
  ·obtain ⟨x3,c3,h4⟩:=Zaf h2
   obtain rfl:=Zac h4
   exact af fol hE (o1 ++ [.c true,.r [(0,q1 [.agg [zH .u64 4 x3]])]]) [] 0 [] (aJ (ZbW.snd c1) c2 (Zdh.snd c3))
  ·obtain rfl:=Zac h3
   exact af fol hE (o1 ++ [.c false,.r []]) [] 0 [] (aI (ZbW.snd c1) c2)
def ZaN.B:Code:=Tryz.f23.body.getD .skip
def ZaN.rs (r:Int×LL):List CV:=[oI r.1]
def ZaN.p1 (N:Nat) (a_7:Option Nat) (behind_3:Zaz) (e_6:Zcy) (st:LL):Option (Int×LL):=
 Zbt a_7 fun i8=>
 Zds (st[i8]?) Zcb fun x9=>
 chk (zK (x9.list ++ [e_6.ls])*176≤140737488355328)<|
 chk (zK (x9.spots ++ [behind_3.ls])*96≤140737488355328)<|
 optM (Zgp x9.places (zH .u8 32 e_6.Id)) (fun j10 e=>Zdq [e] fun x11=>
  some (w64 ((len (x9.list ++ [e_6.ls]))-1),zP (zP (zP (zP (zP st i8 (gs x9.lo 15)) i8 (gs (gs x9.lo 15) 16)) i8 (gs (ZaF.lo {x9 with list:=x9.list ++ [e_6.ls]}) 16)) i8 (ZaF.lo {x9 with list:=x9.list ++ [e_6.ls],spots:=x9.spots ++ [behind_3.ls]})) i8 (ZaF.lo (ZaF.mk x9.rules (x9.list ++ [e_6.ls]) (x9.spots ++ [behind_3.ls]) (zP x9.places j10 (zH .u8 32 e_6.Id,zI .i64 (w64 ((len (x9.list ++ [e_6.ls]))-1)))) x9.room))))
 (
  some (w64 ((len (x9.list ++ [e_6.ls]))-1),zP (zP (zP (zP (zP st i8 (gs x9.lo 15)) i8 (gs (gs x9.lo 15) 16)) i8 (gs (ZaF.lo {x9 with list:=x9.list ++ [e_6.ls]}) 16)) i8 (ZaF.lo {x9 with list:=x9.list ++ [e_6.ls],spots:=x9.spots ++ [behind_3.ls]})) i8 (ZaF.lo (ZaF.mk x9.rules (x9.list ++ [e_6.ls]) (x9.spots ++ [behind_3.ls]) (x9.places ++ [(zH .u8 32 e_6.Id,zI .i64 (w64 ((len (x9.list ++ [e_6.ls]))-1)))]) x9.room))))
def ZaN (N:Nat) (a_0:Option Nat) (h_1:Zaj) (ahead_2:Int) (behind_3:Zaz) (st:LL):Option (Int×LL):=
 Zbt (Zdb N h_1.Bits) fun x1=>
 if (ahead_2 != (-1))=true then
  Zbt a_0 fun i2=>
  Zds (st[i2]?) Zcb fun x3=>
  chk (0≤ahead_2)<|
  chk (ahead_2<(len x3.list))<|
  Zds (x3.list[0+(zE ahead_2)]?) ZeC fun x4=>
  Zbt (Zew N [[zH .u64 4 x4.Work],[zH .u64 4 x1]]) fun x5=>
  ZaN.p1 N (some i2) behind_3 (Zcy.mk h_1 behind_3.Prev ahead_2 (w64 (x4.Height+1)) x5) st
 else
 ZaN.p1 N a_0 behind_3 (Zcy.mk h_1 behind_3.Prev ahead_2 0 x1) st
def ZaN.p1.S (a_7:Option Nat) (behind_3:Zaz) (e_6:Zcy) (st:LL):S:=mkS 81 [(0,sP a_7),(7,sA 7),(9,sA 9)] [(7,.cells behind_3.ls),(9,.cells e_6.ls)] st
theorem ZaN.p1_ok {a_7 behind_3 e_6 st r} (h:ZaN.p1 N a_7 behind_3 e_6 st=some r) (hE:En Tryz.f23 g0 w0 (ZaN.rs r) r.2 R):At g0 w0 (ZaN.p1.S a_7 behind_3 e_6 st) (XK zF R [.c (Zbn ZaN.B [1,1,1])]):=by
 unfold ZaN.p1 at h
 obtain ⟨i8,rfl,h1⟩:=Zaf h
 obtain ⟨x9,c10,h2⟩:=ZbM h1
 obtain ⟨c11,c12,h3⟩:=ck2 h2
 let o1:List PS:=[.d {ds:=[(5,{oc:=x9.lo}),(8,{oe:=x9.lo}),(12,{oc:=gs x9.lo 15}),(15,{oe:=gs x9.lo 15}),(18,{oc:=gs (gs x9.lo 15) 16,mv:=[51]}),(21,{oc:=gs (ZaF.lo {x9 with list:=x9.list ++ [e_6.ls]}) 16,mv:=[58]})],hv:=2408832,Hs:=[128,384,16384,16512,16768,49536,311680,2408832],dh:=[(12,0,{oc:=x9.lo}),(12,128,{oc:=x9.lo}),(12,16384,{oc:=x9.lo}),(12,16512,{oc:=x9.lo})]}]
 have t1 {Q:Prop} (q:Q):=aO c10 c10 c10 c10 z0 (eN (zK x9.list)) c10 (aO z0 (eN (1)) c11 z0 (eN (zK x9.list)) c10 z0 (aO (eN (1)) c11 c10 c10 (Zaq c10 (gs x9.lo 15)) c10 c10 (aO (Zaq c10 (gs x9.lo 15)) z0 (eN (zK x9.spots)) (Zaq c10 (gs x9.lo 15)) z0 (eN (1)) c12 (aO (Zaq (Zaq c10 (gs x9.lo 15)) (gs (gs x9.lo 15) 16)) z0 (eN (zK (x9.list ++ [e_6.ls]))) (Zaq (Zaq (Zaq c10 (gs x9.lo 15)) (gs (gs x9.lo 15) 16)) (gs (ZaF.lo {x9 with list:=x9.list ++ [e_6.ls]}) 16)) z0 (eN (zK (x9.spots ++ [behind_3.ls]))) (Zaq (Zaq (Zaq (Zaq c10 (gs x9.lo 15)) (gs (gs x9.lo 15) 16)) (gs (ZaF.lo {x9 with list:=x9.list ++ [e_6.ls]}) 16)) (ZaF.lo {x9 with list:=x9.list ++ [e_6.ls],spots:=x9.spots ++ [behind_3.ls]})) (aI (Zaq (Zaq (Zaq (Zaq c10 (gs x9.lo 15)) (gs (gs x9.lo 15) 16)) (gs (ZaF.lo {x9 with list:=x9.list ++ [e_6.ls]}) 16)) (ZaF.lo {x9 with list:=x9.list ++ [e_6.ls],spots:=x9.spots ++ [behind_3.ls]})) q)))))
 rcases Zje h3 with ⟨j10,h7,c13,h4⟩ | ⟨c13,h5⟩
 ·obtain ⟨x11,h8,h6⟩:=Zgf h4
  obtain rfl:=ZgT h8
  obtain rfl:=Zac h6
  exact afd fol hE (o1 ++ [.d {ds:=[(3,{oc:=ZaF.lo {x9 with list:=x9.list ++ [e_6.ls],spots:=x9.spots ++ [behind_3.ls]}}),(9,{oc:=ZaF.lo {x9 with list:=x9.list ++ [e_6.ls],spots:=x9.spots ++ [behind_3.ls]}}),(12,{oc:=ZaF.lo {x9 with list:=x9.list ++ [e_6.ls],spots:=x9.spots ++ [behind_3.ls]},m:=j10})],hv:=4096,Hs:=[4096]},.r [(3,{oc:=ZaF.lo (ZaF.mk x9.rules (x9.list ++ [e_6.ls]) (x9.spots ++ [behind_3.ls]) (zP x9.places j10 (zH .u8 32 e_6.Id,zI .i64 (w64 ((len (x9.list ++ [e_6.ls]))-1)))) x9.room)})]]) [] 0 [] (t1 (aJ (ex_at c13) (Zaq (Zaq (Zaq (Zaq c10 (gs x9.lo 15)) (gs (gs x9.lo 15) 16)) (gs (ZaF.lo {x9 with list:=x9.list ++ [e_6.ls]}) 16)) (ZaF.lo {x9 with list:=x9.list ++ [e_6.ls],spots:=x9.spots ++ [behind_3.ls]})) (Zaq (Zaq (Zaq (Zaq (Zaq c10 (gs x9.lo 15)) (gs (gs x9.lo 15) 16)) (gs (ZaF.lo {x9 with list:=x9.list ++ [e_6.ls]}) 16)) (ZaF.lo {x9 with list:=x9.list ++ [e_6.ls],spots:=x9.spots ++ [behind_3.ls]})) (ZaF.lo (ZaF.mk x9.rules (x9.list ++ [e_6.ls]) (x9.spots ++ [behind_3.ls]) (zP x9.places j10 (zH .u8 32 e_6.Id,zI .i64 (w64 ((len (x9.list ++ [e_6.ls]))-1)))) x9.room)))))
 ·obtain rfl:=Zac h5
  exact afd fol hE (o1 ++ [.d {ds:=[(3,{oc:=ZaF.lo {x9 with list:=x9.list ++ [e_6.ls],spots:=x9.spots ++ [behind_3.ls]}}),(9,{oc:=ZaF.lo {x9 with list:=x9.list ++ [e_6.ls],spots:=x9.spots ++ [behind_3.ls]}}),(12,{oc:=ZaF.lo {x9 with list:=x9.list ++ [e_6.ls],spots:=x9.spots ++ [behind_3.ls]},yes:=false})],hv:=4096,Hs:=[4096]},.r [(3,{oc:=ZaF.lo (ZaF.mk x9.rules (x9.list ++ [e_6.ls]) (x9.spots ++ [behind_3.ls]) (x9.places ++ [(zH .u8 32 e_6.Id,zI .i64 (w64 ((len (x9.list ++ [e_6.ls]))-1)))]) x9.room)})]]) [] 0 [] (t1 (aJ c13 (Zaq (Zaq (Zaq (Zaq c10 (gs x9.lo 15)) (gs (gs x9.lo 15) 16)) (gs (ZaF.lo {x9 with list:=x9.list ++ [e_6.ls]}) 16)) (ZaF.lo {x9 with list:=x9.list ++ [e_6.ls],spots:=x9.spots ++ [behind_3.ls]})) (Zaq (Zaq (Zaq (Zaq (Zaq c10 (gs x9.lo 15)) (gs (gs x9.lo 15) 16)) (gs (ZaF.lo {x9 with list:=x9.list ++ [e_6.ls]}) 16)) (ZaF.lo {x9 with list:=x9.list ++ [e_6.ls],spots:=x9.spots ++ [behind_3.ls]})) (ZaF.lo (ZaF.mk x9.rules (x9.list ++ [e_6.ls]) (x9.spots ++ [behind_3.ls]) (x9.places ++ [(zH .u8 32 e_6.Id,zI .i64 (w64 ((len (x9.list ++ [e_6.ls]))-1)))]) x9.room)))))
theorem ZaN.snd {a_0:Option Nat} {h_1:Zaj} {ahead_2:Int} {behind_3:Zaz} {st:LL} {r:Int×LL} (h:ZaN N a_0 h_1 ahead_2 behind_3 st=some r):Snd zF 23 [.one (L.ptr a_0),.agg h_1.ls,oI ahead_2,.agg behind_3.ls] st (ZaN.rs r) r.2:=
 sO ZaN.B Tryz.func23 fun g0 w0 R hE=>by
  unfold ZaN at h
  obtain ⟨x1,c1,h9⟩:=Zaf h
  let o2:List PS:=[.r [],.d {ds:=[(6,q1 [.agg [zH .u64 4 x1]])],hv:=768,Hs:=[256,768]},.r []]
  have t2 {Q:Prop} (q:Q):=aJ (Zdb.snd c1) (Zdb.snd c1) q
  refine ZaY h9 (fun c2 h10=>?_) (fun c2 h11=>?_)
  ·obtain ⟨i2,rfl,h12⟩:=Zaf h10
   obtain ⟨x3,c4,h13⟩:=ZbM h12
   obtain ⟨c5,c6,h14⟩:=ck2 h13
   obtain ⟨x4,c7,h15⟩:=Zhy h14
   obtain ⟨x5,c8,h16⟩:=Zaf h15
   exact aqd fol (o2 ++ [.c true,.r [(3,{oc:=x3.lo}),(7,{oc:=x3.lo,oe:=x4.ls})],.d {ds:=[(3,{oc:=x3.lo}),(7,{oc:=x3.lo,oe:=x4.ls}),(11,{rs:=[.agg [zH .u64 4 x5]],m:=2})],hv:=9216,Hs:=[1024,9216]},.s 1]) [0,7,9] [7,9] (t2 (aO c2 c4 c5 c6 c7 c4 c4 (aN c5 c6 c7 c4 z0 (eN (2)) (Zew.snd c8)))) (ZaN.p1_ok h16 hE)
  ·exact aqd fol (o2 ++ [.c false,.s 1]) [0,7,9] [7,9] (t2 c2) (ZaN.p1_ok h11 hE)
def ZdA.B:Code:=Tryz.f7.body.getD .skip
def ZdA.rs (r:(Option Nat)×Int×LL):List CV:=[.one (L.ptr r.1),oI r.2.1]
def ZdA (N:Nat) (p_0:Zae) (room_1:Int) (st:LL):Option ((Option Nat)×Int×LL):=
 Zbt (Zbu N p_0) fun x1=>
 if (!x1)=true then
  some (none,1,st)
 else
 chk (zK ([]++p_0.Gates)*16≤140737488355328)<|
 chk (zK ([]++p_0.Checks)*40≤140737488355328)<|
 Zbt (ZdV N {p_0 with Gates:=[]++p_0.Gates,Checks:=[]++p_0.Checks}) fun x2=>
 Zbt (ZaN N (some (zK st)) p_0.Genesis (-1) x2 (st ++ [ZaF.lo (ZaF.mk {p_0 with Gates:=[]++p_0.Gates,Checks:=[]++p_0.Checks} [] [] [] (if (512:Int)<(if (1:Int)>room_1 then 1 else room_1) then 512 else (if (1:Int)>room_1 then 1 else room_1)))])) fun (x3,st4)=>
 some ((some (zK st)),0,st4)
theorem ZdA.snd {p_0:Zae} {room_1:Int} {st:LL} {r:(Option Nat)×Int×LL} (h:ZdA N p_0 room_1 st=some r):Snd zF 7 [.agg p_0.ls,oI room_1] st (ZdA.rs r) r.2.2:=
 sO ZdA.B Tryz.func7 fun g0 w0 R hE=>by
  unfold ZdA at h
  obtain ⟨x1,c1,h1⟩:=Zaf h
  let o1:List PS:=[.r [],.r [(1,q1 [oB x1])]]
  refine ZaY h1 (fun c2 h2=>?_) (fun c2 h3=>?_)
  ·obtain rfl:=Zac h2
   exact af fol hE (o1 ++ [.c true,.r []]) [] 0 [] (aI (Zbu.snd c1) c2)
  ·obtain ⟨c3,c4,h4⟩:=ck2 h3
   obtain ⟨x2,c5,h5⟩:=Zaf h4
   obtain ⟨⟨x3,st4⟩,c6,h6⟩:=Zaf h5
   obtain rfl:=Zac h6
   exact afd fol hE (o1 ++ [.c false,.d {ds:=[(7,{fz:=[12]}),(9,{fz:=[15]})],hv:=676,Hs:=[4,36,164,676]},.r [(5,{ns:=[15,16]}),(6,{m:=1})],.d {ds:=[(4,q1 [.agg x2.ls]),(5,{rs:=[oI x3],st:=st4})],hv:=32,Hs:=[32]},.r []]) [] 0 [] (aO (Zbu.snd c1) c2 c3 c4 z0 (eN (zK ([]++p_0.Gates))) z0 (aJ (eN (zK ([]++p_0.Checks))) (ZdV.snd c5) (ZaN.snd c6)))
def Zcg.B:Code:=Tryz.f16.body.getD .skip
def Zcg.rs (r:Int):List CV:=[oI r]
def Zcg (N:Nat) (a_0:ZaF):Option Int:=
 some (len a_0.list)
theorem Zcg.snd {a_0:ZaF} {r:Int} (h:Zcg N a_0=some r):Zde zF 16 [.one (L.bx 87 a_0.ls)] (Zcg.rs r):=fun st=>
 sO Zcg.B Tryz.func16 fun g0 w0 R hE=>by
  unfold Zcg at h
  obtain rfl:=Zac h
  exact af fol hE [.r [],.r [],.c false,.r [(3,{oe:=a_0.ls})]] [] 0 [] (aI eF (eO a_0.ls))
def Zch.B:Code:=Tryz.f17.body.getD .skip
def Zch.rs (r:Int):List CV:=[oI r]
def Zch (N:Nat) (a_0:ZaF):Option Int:=
 some a_0.room
theorem Zch.snd {a_0:ZaF} {r:Int} (h:Zch N a_0=some r):Zde zF 17 [.one (L.bx 87 a_0.ls)] (Zch.rs r):=fun st=>
 sO Zch.B Tryz.func17 fun g0 w0 R hE=>by
  unfold Zch at h
  obtain rfl:=Zac h
  exact af fol hE [.r [],.r [],.c false,.r [(3,{oe:=a_0.ls})]] [] 0 [] (aI eF (eO a_0.ls))
def Zcq.B:Code:=Tryz.f21.body.getD .skip
def Zcq.rs (r:Bool):List CV:=[oB r]
def Zcq (N:Nat) (h_0:Zaj):Option Bool:=
 if (decide (h_0.Version≥(-2147483648)))=true then
  if (decide (h_0.Version≤2147483647))=true then
   if (decide (h_0.Time≥0))=true then
    if (decide (h_0.Time<4294967296))=true then
     if (decide (h_0.Bits≥0))=true then
      if (decide (h_0.Bits<4294967296))=true then
       if (decide (h_0.Nonce≥0))=true then
        some (decide (h_0.Nonce<4294967296))
       else
       some false
      else
      some false
     else
     some false
    else
    some false
   else
   some false
  else
  some false
 else
 some false
theorem Zcq.snd {h_0:Zaj} {r:Bool} (h:Zcq N h_0=some r):Zde zF 21 [.agg h_0.ls] (Zcq.rs r):=fun st=>
 sO Zcq.B Tryz.func21 fun g0 w0 R hE=>by
  unfold Zcq at h
  let o1:List PS:=[.r [],.r []]
  refine ZaY h (fun c1 h1=>?_) (fun c1 h2=>?_)
  ·have t1 {Q:Prop} (q:Q):=aL c1 c1 c1 c1 q
   refine ZaY h1 (fun c2 h3=>?_) (fun c2 h4=>?_)
   ·have t2 {Q:Prop} (q:Q):=t1 (aL c2 c2 c2 c2 q)
    refine ZaY h3 (fun c3 h5=>?_) (fun c3 h6=>?_)
    ·have t3 {Q:Prop} (q:Q):=t2 (aM c3 c3 c3 c3 c3 q)
     refine ZaY h5 (fun c4 h7=>?_) (fun c4 h8=>?_)
     ·have t4 {Q:Prop} (q:Q):=t3 (aL c4 c4 c4 c4 q)
      refine ZaY h7 (fun c5 h9=>?_) (fun c5 h10=>?_)
      ·refine ZaY h9 (fun c6 h11=>?_) (fun c6 h12=>?_)
       ·refine ZaY h11 (fun c7 h13=>?_) (fun c7 h14=>?_)
        ·obtain rfl:=Zac h13
         exact af fol hE (o1 ++ [.r []]) [] 0 [] (t4 (aO c5 c5 c5 c5 c5 c6 c6 (aN c6 c6 c7 c7 c7 c7 c7)))
        ·obtain rfl:=Zac h14
         exact af fol hE (o1 ++ [.r [(36,wF),(37,wF),(38,wF),(39,wF),(40,yF)]]) [] 0 [] (t4 (aO c5 c5 c5 c5 c5 c6 c6 (aN c6 c6 c7 c7 c7 c7 c7)))
       ·obtain rfl:=Zac h12
        exact af fol hE (o1 ++ [.r [(31,wF),(32,wF),(33,wF),(34,yF),(36,wF),(37,wF),(38,wF),(39,wF),(40,yF)]]) [] 0 [] (t4 (aO c5 c5 c5 c5 c5 c6 c6 (aN c6 c6 eF eF eF eF eF)))
      ·obtain rfl:=Zac h10
       exact af fol hE (o1 ++ [.r [(25,wF),(26,wF),(27,wF),(28,wF),(29,yF),(31,wF),(32,wF),(33,wF),(34,yF),(36,wF),(37,wF),(38,wF),(39,wF),(40,yF)]]) [] 0 [] (t4 (aO c5 c5 c5 c5 c5 eF eF (aN eF eF eF eF eF eF eF)))
     ·obtain rfl:=Zac h8
      exact af fol hE (o1 ++ [.r [(20,wF),(21,wF),(22,wF),(23,yF),(25,wF),(26,wF),(27,wF),(28,wF),(29,yF),(31,wF),(32,wF),(33,wF),(34,yF),(36,wF),(37,wF),(38,wF),(39,wF),(40,yF)]]) [] 0 [] (t3 (aO c4 c4 c4 c4 eF eF eF (aO eF eF eF eF eF eF eF (aK eF eF eF eF))))
    ·obtain rfl:=Zac h6
     exact af fol hE (o1 ++ [.r [(14,wF),(15,wF),(16,wF),(17,wF),(18,yF),(20,wF),(21,wF),(22,wF),(23,yF),(25,wF),(26,wF),(27,wF),(28,wF),(29,yF),(31,wF),(32,wF),(33,wF),(34,yF),(36,wF),(37,wF),(38,wF),(39,wF),(40,yF)]]) [] 0 [] (t2 (aO c3 c3 c3 c3 c3 eF eF (aO eF eF eF eF eF eF eF (aO eF eF eF eF eF eF eF (aI eF eF)))))
   ·obtain rfl:=Zac h4
    exact af fol hE (o1 ++ [.r [(9,wF),(10,wF),(11,wF),(12,yF),(14,wF),(15,wF),(16,wF),(17,wF),(18,yF),(20,wF),(21,wF),(22,wF),(23,yF),(25,wF),(26,wF),(27,wF),(28,wF),(29,yF),(31,wF),(32,wF),(33,wF),(34,yF),(36,wF),(37,wF),(38,wF),(39,wF),(40,yF)]]) [] 0 [] (t1 (aO c2 c2 c2 c2 eF eF eF (aO eF eF eF eF eF eF eF (aO eF eF eF eF eF eF eF (aM eF eF eF eF eF eF)))))
  ·obtain rfl:=Zac h2
   exact af fol hE (o1 ++ [.r [(4,wF),(5,wF),(6,wF),(7,yF),(9,wF),(10,wF),(11,wF),(12,yF),(14,wF),(15,wF),(16,wF),(17,wF),(18,yF),(20,wF),(21,wF),(22,wF),(23,yF),(25,wF),(26,wF),(27,wF),(28,wF),(29,yF),(31,wF),(32,wF),(33,wF),(34,yF),(36,wF),(37,wF),(38,wF),(39,wF),(40,yF)]]) [] 0 [] (aO c1 c1 c1 c1 eF eF eF (aO eF eF eF eF eF eF eF (aO eF eF eF eF eF eF eF (aO eF eF eF eF eF eF eF (aJ eF eF eF)))))
def Zbb.B:Code:=Tryz.f60.body.getD .skip
def Zbb.rs (r:ByteArray):List CV:=[.one (wY r)]
def Zbb.p1 (N:Nat) (size_0:Int) (c1_:(Int×ByteArray×Int)→Option ByteArray):(Int×ByteArray×Int)→Option ByteArray:=fun (u_1,s_3,i_2)=>
 if (decide (i_2<(if (8:Int)<(if (1:Int)>size_0 then 1 else size_0) then 8 else (if (1:Int)>size_0 then 1 else size_0))))=true then
  chk (isB [[zI .u8 (v8 (zT u_1 256))]]=true)<|
  chk (zU s_3+zU (ZiZ (wX Zez [[zI .u8 (v8 (zT u_1 256))]]))≤9223372036854775807)<|
  c1_ (v64 (zN u_1 256),s_3++(ZiZ (wX Zez [[zI .u8 (v8 (zT u_1 256))]])),w64 (i_2+1))
 else
 some s_3
def Zbb (N:Nat) (size_0 n_1:Int):Option ByteArray:=
 loopN (Zbb.p1 N size_0) N (v64 (n_1),(xP #[]),0)
def Zbb.p1.S (size_0 u_1:Int) (s_3:ByteArray) (i_2:Int) (st:LL):S:=mkS 27 [(0,sI size_0),(5,.one (.l (zI .u64 u_1))),(6,.one (.l (wY s_3))),(7,sI i_2)] [] st
theorem Zbb.p1_ok {size_0 u_1 s_3 i_2 st r c1_ J1} (h:Zbb.p1 N size_0 c1_ (u_1,s_3,i_2)=some r) (hE:En Tryz.f60 g0 w0 (Zbb.rs r) st R) (hc1 : ∀u_1 s_3 i_2,c1_ (u_1,s_3,i_2)=some r→At g0 w0 (Zbb.p1.S size_0 u_1 s_3 i_2 st) J1):At g0 w0 (Zbb.p1.S size_0 u_1 s_3 i_2 st) (XK zF R (.c (Zbn Zbb.B [1,1,1,0,1,0,0]) :: .h J1 :: [.b 0,.c (Zbn Zbb.B [1,1,1,1])])):=by
 unfold Zbb.p1 at h
 refine ZaY h (fun c4 h1=>?_) (fun c4 h2=>?_)
 ·obtain ⟨c5,c6,h3⟩:=ck2 h1
  exact an fol [.r [],.c true,.r [],.r [],.r []] [0,5,6,7] [] (aN c4 (neI 256) z0 (eN (1)) c5 c6 (neI 256)) (hc1 (v64 (zN u_1 256)) (s_3++(ZiZ (wX Zez [[zI .u8 (v8 (zT u_1 256))]]))) (w64 (i_2+1)) h3)
 ·obtain rfl:=Zac h2
  exact af fol hE [.r [],.c false,.r []] [] 0 [] c4
theorem Zbb.snd {size_0 n_1:Int} {r:ByteArray} (h:Zbb N size_0 n_1=some r):Zde zF 60 [oI size_0,oI n_1] (Zbb.rs r):=fun st=>
 sO Zbb.B Tryz.func60 fun g0 w0 R hE=>by
  unfold Zbb at h
  exact aq fol [.r [],.r [],.r [],.r []] [0,5,6,7] [] trivial (At.loop N (At.loopN (fun y:Int×ByteArray×Int=>Zbb.p1.S size_0 y.1 y.2.1 y.2.2 st) (fun c J hc y h=>Zbb.p1_ok (u_1:=y.1) (s_3:=y.2.1) (i_2:=y.2.2) h hE (fun u_1 s_3 i_2=>hc (u_1,s_3,i_2))) N (v64 (n_1),(xP #[]),0) h))
def ZbJ.B:Code:=Tryz.f61.body.getD .skip
def ZbJ.rs (r:ByteArray):List CV:=[.one (wY r)]
def ZbJ.p1 (N:Nat) (h_0_0:List Int) (c1_:(ByteArray×Int)→Option ByteArray):(ByteArray×Int)→Option ByteArray:=fun (s_2,i_1)=>
 if (decide (i_1<32))=true then
  chk (0≤i_1)<|
  chk (isB [[zI .u8 (zD h_0_0 (zE i_1) 0)]]=true)<|
  chk (zU s_2+zU (ZiZ (wX Zez [[zI .u8 (zD h_0_0 (zE i_1) 0)]]))≤9223372036854775807)<|
  c1_ (s_2++(ZiZ (wX Zez [[zI .u8 (zD h_0_0 (zE i_1) 0)]])),w64 (i_1+1))
 else
 some s_2
def ZbJ (N:Nat) (h_0_0:List Int):Option ByteArray:=
 loopN (ZbJ.p1 N h_0_0) N ((xP #[]),0)
def ZbJ.p1.S (s_2:ByteArray) (i_1:Int) (h_0_0:List Int) (st:LL):S:=mkS 17 [(1,sA 1),(3,.one (.l (wY s_2))),(4,sI i_1)] [(1,.cells [zH .u8 32 h_0_0])] st
theorem ZbJ.p1_ok {s_2 i_1 h_0_0 st r c1_ J1} (h:ZbJ.p1 N h_0_0 c1_ (s_2,i_1)=some r) (hE:En Tryz.f61 g0 w0 (ZbJ.rs r) st R) (hc1 : ∀s_2 i_1,c1_ (s_2,i_1)=some r→At g0 w0 (ZbJ.p1.S s_2 i_1 h_0_0 st) J1):At g0 w0 (ZbJ.p1.S s_2 i_1 h_0_0 st) (XK zF R (.c (Zbn ZbJ.B [1,1,0,1,0,0]) :: .h J1 :: [.b 0,.c (Zbn ZbJ.B [1,1,1])])):=by
 unfold ZbJ.p1 at h
 refine ZaY h (fun c5 h1=>?_) (fun c5 h2=>?_)
 ·obtain ⟨c6,c7,c8,h3⟩:=ck3 h1
  exact an fol [.r [],.c true,.r [],.r []] [1,3,4] [1] (aN c5 c6 (oD c5) z0 (eN (1)) c7 c8) (hc1 (s_2++(ZiZ (wX Zez [[zI .u8 (zD h_0_0 (zE i_1) 0)]]))) (w64 (i_1+1)) h3)
 ·obtain rfl:=Zac h2
  exact af fol hE [.r [],.c false,.r []] [] 0 [] c5
theorem ZbJ.snd {h_0_0:List Int} {r:ByteArray} (h:ZbJ N h_0_0=some r):Zde zF 61 [.agg [zH .u8 32 h_0_0]] (ZbJ.rs r):=fun st=>
 sO ZbJ.B Tryz.func61 fun g0 w0 R hE=>by
  unfold ZbJ at h
  exact aq fol [.r [],.r [],.r []] [1,3,4] [1] trivial (At.loop N (At.loopN (fun y:ByteArray×Int=>ZbJ.p1.S y.1 y.2 h_0_0 st) (fun c J hc y h=>ZbJ.p1_ok (s_2:=y.1) (i_1:=y.2) h hE (fun s_2 i_1=>hc (s_2,i_1))) N ((xP #[]),0) h))
def ZcX.B:Code:=Tryz.f36.body.getD .skip
def ZcX.rs (r:ByteArray):List CV:=[.one (wY r)]
def ZcX (N:Nat) (h_0:Zaj):Option ByteArray:=
 Zbt (Zbb N 4 h_0.Version) fun x1=>
 Zbt (ZbJ N h_0.Prev) fun x2=>
 chk (zU x1+zU x2≤9223372036854775807)<|
 Zbt (ZbJ N h_0.Root) fun x3=>
 chk (zU (x1++x2)+zU x3≤9223372036854775807)<|
 Zbt (Zbb N 4 h_0.Time) fun x4=>
 chk (zU ((x1++x2)++x3)+zU x4≤9223372036854775807)<|
 Zbt (Zbb N 4 h_0.Bits) fun x5=>
 chk (zU (((x1++x2)++x3)++x4)+zU x5≤9223372036854775807)<|
 Zbt (Zbb N 4 h_0.Nonce) fun x6=>
 chk (zU ((((x1++x2)++x3)++x4)++x5)+zU x6≤9223372036854775807)<|
 some (((((x1++x2)++x3)++x4)++x5)++x6)
theorem ZcX.snd {h_0:Zaj} {r:ByteArray} (h:ZcX N h_0=some r):Zde zF 36 [.agg h_0.ls] (ZcX.rs r):=fun st=>
 sO ZcX.B Tryz.func36 fun g0 w0 R hE=>by
  unfold ZcX at h
  obtain ⟨x1,c1,h1⟩:=Zaf h
  obtain ⟨x2,c2,h2⟩:=Zaf h1
  obtain ⟨c3,h3⟩:=ZaP h2
  obtain ⟨x3,c4,h4⟩:=Zaf h3
  obtain ⟨c5,h5⟩:=ZaP h4
  obtain ⟨x4,c6,h6⟩:=Zaf h5
  obtain ⟨c7,h7⟩:=ZaP h6
  obtain ⟨x5,c8,h8⟩:=Zaf h7
  obtain ⟨c9,h9⟩:=ZaP h8
  obtain ⟨x6,c10,h10⟩:=Zaf h9
  obtain ⟨c11,h11⟩:=ZaP h10
  obtain rfl:=Zac h11
  exact afd fol hE [.r [],.d {ds:=[(2,q1 [.one (wY x1)]),(5,q1 [.one (wY x2)]),(9,q1 [.one (wY x3)])],hv:=0,Hs:=[]},.d {ds:=[(3,q1 [.one (wY x4)]),(7,q1 [.one (wY x5)]),(11,q1 [.one (wY x6)])],hv:=0,Hs:=[]}] [] 0 [] (aO (Zbb.snd c1) (ZbJ.snd c2) c3 (ZbJ.snd c4) c5 (Zbb.snd c6) c7 (aK (Zbb.snd c8) c9 (Zbb.snd c10) c11))
def ZaM.B:Code:=Tryz.f82.body.getD .skip
def ZaM.rs (r:ByteArray):List CV:=[.one (wY r)]
def ZaM.p2 (N:Nat) (s_4:ByteArray) (c2_:(Int×ByteArray×Int)→Option ByteArray):(Int×ByteArray×Int)→Option ByteArray:=fun (n_5,tail_7,i_6)=>
 if (decide (i_6<8))=true then
  chk (isB [[zI .u8 (v8 (zT n_5 256))]]=true)<|
  chk (zU (ZiZ (wX Zez [[zI .u8 (v8 (zT n_5 256))]]))+zU tail_7≤9223372036854775807)<|
  c2_ (w64 (zN n_5 256),(ZiZ (wX Zez [[zI .u8 (v8 (zT n_5 256))]]))++tail_7,w64 (i_6+1))
 else
 chk (zU s_4+zU tail_7≤9223372036854775807)<|
 some (s_4++tail_7)
def ZaM.p1 (N:Nat) (s_0:ByteArray) (c1_:ByteArray→Option ByteArray):ByteArray→Option ByteArray:=fun s_4=>
 if ((zT ((zU s_4:Nat):Int) 64) != 56)=true then
  chk (zU s_4+zU (xP #[0])≤9223372036854775807)<|
  c1_ (s_4++(xP #[0]))
 else
 loopN (ZaM.p2 N s_4) N (w64 (8*((zU s_0:Nat):Int)),(xP #[]),0)
def ZaM (N:Nat) (s_0:ByteArray):Option ByteArray:=
 chk (zU s_0+zU (xP #[128])≤9223372036854775807)<|
 loopN (ZaM.p1 N s_0) N (s_0++(xP #[128]))
def ZaM.p2.S (s_4:ByteArray) (n_5:Int) (tail_7:ByteArray) (i_6:Int) (st:LL):S:=mkS 34 [(0,.one (.l (wY s_4))),(3,sI n_5),(4,.one (.l (wY tail_7))),(5,sI i_6)] [] st
def ZaM.p1.S (s_4 s_0:ByteArray) (st:LL):S:=mkS 34 [(0,.one (.l (wY s_4))),(3,sI ((zU s_0:Nat):Int))] [] st
theorem ZaM.p2_ok {s_4 n_5 tail_7 i_6 st r c2_ J2} (h:ZaM.p2 N s_4 c2_ (n_5,tail_7,i_6)=some r) (hE:En Tryz.f82 g0 w0 (ZaM.rs r) st R) (hc2 : ∀n_5 tail_7 i_6,c2_ (n_5,tail_7,i_6)=some r→At g0 w0 (ZaM.p2.S s_4 n_5 tail_7 i_6 st) J2):At g0 w0 (ZaM.p2.S s_4 n_5 tail_7 i_6 st) (XK zF R (.c (Zbn ZaM.B [1,1,1,1,1,1,0,1,0,0]) :: .h J2 :: [.b 2,.c (Zbn ZaM.B [1,1,1,1,1,1,1])])):=by
 unfold ZaM.p2 at h
 refine ZaY h (fun c18 h1=>?_) (fun c18 h2=>?_)
 ·obtain ⟨c19,c20,h3⟩:=ck2 h1
  exact an fol [.r [],.c true,.r [],.r [],.r []] [0,3,4,5] [] (aN c18 (neI 256) z0 (eN (1)) c19 c20 (neI 256)) (hc2 (w64 (zN n_5 256)) ((ZiZ (wX Zez [[zI .u8 (v8 (zT n_5 256))]]))++tail_7) (w64 (i_6+1)) h3)
 ·obtain ⟨c21,h4⟩:=ZaP h2
  obtain rfl:=Zac h4
  exact af fol hE [.r [],.c false,.r []] [] 0 [] (aI c18 c21)
theorem ZaM.p1_ok {s_4 s_0 st r c1_ J1} (h:ZaM.p1 N s_0 c1_ s_4=some r) (hE:En Tryz.f82 g0 w0 (ZaM.rs r) st R) (hc1 : ∀s_4,c1_ s_4=some r→At g0 w0 (ZaM.p1.S s_4 s_0 st) J1):At g0 w0 (ZaM.p1.S s_4 s_0 st) (XK zF R (.c (Zbn ZaM.B [1,1,1,0,0,0]) :: .h J1 :: [.b 0,.c (Zbn ZaM.B [1,1,1,1])])):=by
 unfold ZaM.p1 at h
 refine ZaY h (fun c12 h5=>?_) (fun c12 h6=>?_)
 ·obtain ⟨c13,h7⟩:=ZaP h5
  exact an fol [.r [],.c true,.r []] [0,3] [] (aJ (neI 64) c12 c13) (hc1 (s_4++(xP #[0])) h7)
 ·exact aq fol [.r [],.c false,.r [],.r [],.r []] [0,3,4,5] [] (aI (neI 64) c12) (At.loop N (At.loopN (fun y:Int×ByteArray×Int=>ZaM.p2.S s_4 y.1 y.2.1 y.2.2 st) (fun c J hc y h=>ZaM.p2_ok (n_5:=y.1) (tail_7:=y.2.1) (i_6:=y.2.2) h hE (fun n_5 tail_7 i_6=>hc (n_5,tail_7,i_6))) N (w64 (8*((zU s_0:Nat):Int)),(xP #[]),0) h6))
theorem ZaM.snd {s_0:ByteArray} {r:ByteArray} (h:ZaM N s_0=some r):Zde zF 82 [.one (wY s_0)] (ZaM.rs r):=fun st=>
 sO ZaM.B Tryz.func82 fun g0 w0 R hE=>by
  unfold ZaM at h
  obtain ⟨c1,h8⟩:=ZaP h
  exact aq fol [.r [],.r [],.r []] [0,3] [] c1 (At.loop N (At.loopN (fun y:ByteArray=>ZaM.p1.S y s_0 st) (fun c J hc y h=>ZaM.p1_ok h hE (fun s_4=>hc s_4)) N (s_0++(xP #[128])) h8))
def ZaS.B:Code:=Tryz.f83.body.getD .skip
def ZaS.rs (r:Int):List CV:=[.one (zI .u32 r)]
def ZaS (N:Nat) (x_0 n_1:Int):Option Int:=
 chk (0≤n_1)<|
 chk (0≤(v64 (32-n_1)))<|
 some (v32 ((Zba .u32 x_0 n_1)+(Zbi .u32 x_0 (v64 (32-n_1)))))
theorem ZaS.snd {x_0 n_1:Int} {r:Int} (h:ZaS N x_0 n_1=some r):Zde zF 83 [.one (zI .u32 x_0),.one (zI .u64 n_1)] (ZaS.rs r):=fun st=>
 sO ZaS.B Tryz.func83 fun g0 w0 R hE=>by
  unfold ZaS at h
  obtain ⟨c1,c2,h1⟩:=ck2 h
  obtain rfl:=Zac h1
  exact af fol hE [.r [],.r []] [] 0 [] (aI c1 c2)
def ZeE.B:Code:=Tryz.f84.body.getD .skip
def ZeE.rs (r:Int):List CV:=[.one (zI .u32 r)]
def ZeE (N:Nat) (i_0:Int):Option Int:=
 chk (0≤i_0)<|
 chk (i_0<64)<|
 some (zD [1116352408,1899447441,3049323471,3921009573,961987163,1508970993,2453635748,2870763221,3624381080,310598401,607225278,1426881987,1925078388,2162078206,2614888103,3248222580,3835390401,4022224774,264347078,604807628,770255983,1249150122,1555081692,1996064986,2554220882,2821834349,2952996808,3210313671,3336571891,3584528711,113926993,338241895,666307205,773529912,1294757372,1396182291,1695183700,1986661051,2177026350,2456956037,2730485921,2820302411,3259730800,3345764771,3516065817,3600352804,4094571909,275423344,430227734,506948616,659060556,883997877,958139571,1322822218,1537002063,1747873779,1955562222,2024104815,2227730452,2361852424,2428436474,2756734187,3204031479,3329325298] (zE i_0) 0)
theorem ZeE.snd {i_0:Int} {r:Int} (h:ZeE N i_0=some r):Zde zF 84 [oI i_0] (ZeE.rs r):=fun st=>
 sO ZeE.B Tryz.func84 fun g0 w0 R hE=>by
  unfold ZeE at h
  obtain ⟨c1,c2,h1⟩:=ck2 h
  obtain rfl:=Zac h1
  exact af fol hE [.r [],.r [(0,{m:=3})]] [] 0 [] (aI c1 c2)
def Zao.B:Code:=Tryz.f59.body.getD .skip
def Zao.rs (r:(List Int)):List CV:=[.agg [zH .u8 32 r]]
def Zao.p3 (N:Nat) (c2_:(Int×(List Int))→Option (List Int)) (c1_:(Int×(List Int))→Option (List Int)) (x1:ByteArray) (at_2 i_112:Int) (h_111:List Int) (c3_:(Int×(List Int))→Option (List Int)):(Int×(List Int))→Option (List Int):=fun (j_166,w_167)=>
 if (decide (j_166<4))=true then
  chk (0≤i_112)<|
  chk (i_112<64)<|
  chk (0≤(w64 ((w64 (at_2+(w64 (4*i_112))))+j_166)))<|
  chk ((w64 ((w64 (at_2+(w64 (4*i_112))))+j_166))<((zU x1:Nat):Int))<|
  c3_ (w64 (j_166+1),zP w_167 (zE i_112) (v32 ((v32 ((zD w_167 (zE i_112) 0)*256))+(v32 (((UInt8.toNat (zD (rD (sJ x1)) (zE (w64 ((w64 (at_2+(w64 (4*i_112))))+j_166))) 0):Nat):Int))))))
 else
 c2_ (w64 (i_112+1),w_167)
def Zao.p6 (N:Nat) (c1_:(Int×(List Int))→Option (List Int)) (x1:ByteArray) (at_2:Int) (s_208:List Int) (c6_:(Int×(List Int))→Option (List Int)):(Int×(List Int))→Option (List Int):=fun (i_216,h_217)=>
 if (decide (i_216<8))=true then
  chk (0≤i_216)<|
  c6_ (w64 (i_216+1),zP h_217 (zE i_216) (v32 ((zD h_217 (zE i_216) 0)+(zD s_208 (zE i_216) 0))))
 else
 c1_ (w64 (at_2+64),h_217)
def Zao.p5 (N:Nat) (c1_:(Int×(List Int))→Option (List Int)) (x1:ByteArray) (at_2:Int) (h_111 w_193:List Int) (c5_:(Int×(List Int))→Option (List Int)):(Int×(List Int))→Option (List Int):=fun (i_198,s_208)=>
 if (decide (i_198<64))=true then
  Zbt (ZaS N (zD s_208 4 0) 6) fun x209=>
  Zbt (ZaS N (zD s_208 4 0) 11) fun x210=>
  Zbt (ZaS N (zD s_208 4 0) 25) fun x211=>
  Zbt (ZeE N i_198) fun x212=>
  chk (0≤i_198)<|
  Zbt (ZaS N (zD s_208 0 0) 2) fun x213=>
  Zbt (ZaS N (zD s_208 0 0) 13) fun x214=>
  Zbt (ZaS N (zD s_208 0 0) 22) fun x215=>
  c5_ (w64 (i_198+1),[v32 ((v32 ((v32 ((v32 ((v32 ((zD s_208 7 0)+(Zay .xor .u32 (Zay .xor .u32 x209 x210) x211)))+(Zay .or .u32 (Zay .and .u32 (zD s_208 4 0) (zD s_208 5 0)) (Zay .and .u32 (v32 (4294967295-(zD s_208 4 0))) (zD s_208 6 0)))))+x212))+(zD w_193 (zE i_198) 0)))+(v32 ((Zay .xor .u32 (Zay .xor .u32 x213 x214) x215)+(Zay .or .u32 (Zay .or .u32 (Zay .and .u32 (zD s_208 0 0) (zD s_208 1 0)) (Zay .and .u32 (zD s_208 0 0) (zD s_208 2 0))) (Zay .and .u32 (zD s_208 1 0) (zD s_208 2 0)))))),zD s_208 0 0,zD s_208 1 0,zD s_208 2 0,v32 ((zD s_208 3 0)+(v32 ((v32 ((v32 ((v32 ((zD s_208 7 0)+(Zay .xor .u32 (Zay .xor .u32 x209 x210) x211)))+(Zay .or .u32 (Zay .and .u32 (zD s_208 4 0) (zD s_208 5 0)) (Zay .and .u32 (v32 (4294967295-(zD s_208 4 0))) (zD s_208 6 0)))))+x212))+(zD w_193 (zE i_198) 0)))),zD s_208 4 0,zD s_208 5 0,zD s_208 6 0])
 else
 loopN (Zao.p6 N c1_ x1 at_2 s_208) N (0,h_111)
def Zao.p4 (N:Nat) (c1_:(Int×(List Int))→Option (List Int)) (x1:ByteArray) (at_2:Int) (h_111:List Int) (c4_:(Int×(List Int))→Option (List Int)):(Int×(List Int))→Option (List Int):=fun (i_168,w_193)=>
 if (decide (i_168<64))=true then
  chk (0≤(w64 (i_168-15)))<|
  chk ((w64 (i_168-15))<64)<|
  Zbt (ZaS N (zD w_193 (zE (w64 (i_168-15))) 0) 7) fun x194=>
  Zbt (ZaS N (zD w_193 (zE (w64 (i_168-15))) 0) 18) fun x195=>
  chk (0≤(w64 (i_168-2)))<|
  chk ((w64 (i_168-2))<64)<|
  Zbt (ZaS N (zD w_193 (zE (w64 (i_168-2))) 0) 17) fun x196=>
  Zbt (ZaS N (zD w_193 (zE (w64 (i_168-2))) 0) 19) fun x197=>
  chk (0≤(w64 (i_168-16)))<|
  chk ((w64 (i_168-16))<64)<|
  chk (0≤(w64 (i_168-7)))<|
  chk ((w64 (i_168-7))<64)<|
  chk (0≤i_168)<|
  c4_ (w64 (i_168+1),zP w_193 (zE i_168) (v32 ((v32 ((v32 ((zD w_193 (zE (w64 (i_168-16))) 0)+(Zay .xor .u32 (Zay .xor .u32 x194 x195) (v32 (zN (zD w_193 (zE (w64 (i_168-15))) 0) 8)))))+(zD w_193 (zE (w64 (i_168-7))) 0)))+(Zay .xor .u32 (Zay .xor .u32 x196 x197) (v32 (zN (zD w_193 (zE (w64 (i_168-2))) 0) 1024))))))
 else
 loopN (Zao.p5 N c1_ x1 at_2 h_111 w_193) N (0,h_111)
def Zao.p2 (N:Nat) (c1_:(Int×(List Int))→Option (List Int)) (x1:ByteArray) (at_2:Int) (h_111:List Int) (c2_:(Int×(List Int))→Option (List Int)):(Int×(List Int))→Option (List Int):=fun (i_112,w_165)=>
 if (decide (i_112<16))=true then
  loopN (Zao.p3 N c2_ c1_ x1 at_2 i_112 h_111) N (0,w_165)
 else
 loopN (Zao.p4 N c1_ x1 at_2 h_111) N (16,w_165)
def Zao.p7 (N:Nat) (h_111:List Int) (c7_:(Int×(List Int))→Option (List Int)):(Int×(List Int))→Option (List Int):=fun (i_218,out_219)=>
 if (decide (i_218<32))=true then
  chk (0≤(w64 (zN i_218 4)))<|
  chk ((w64 (zN i_218 4))<8)<|
  chk (0≤(v64 (w64 (24-(w64 (8*(zT i_218 4)))))))<|
  chk (0≤i_218)<|
  c7_ (w64 (i_218+1),zP out_219 (zE i_218) (v8 (zT (Zba .u32 (zD h_111 (zE (w64 (zN i_218 4))) 0) (v64 (w64 (24-(w64 (8*(zT i_218 4))))))) 256)))
 else
 some out_219
def Zao.p1 (N:Nat) (x1:ByteArray) (c1_:(Int×(List Int))→Option (List Int)):(Int×(List Int))→Option (List Int):=fun (at_2,h_111)=>
 if (decide (at_2<((zU x1:Nat):Int)))=true then
  loopN (Zao.p2 N c1_ x1 at_2 h_111) N (0,zB 64 0)
 else
 loopN (Zao.p7 N h_111) N (0,zB 32 0)
def Zao (N:Nat) (s_0:ByteArray):Option (List Int):=
 Zbt (ZaM N s_0) fun x1=>
 loopN (Zao.p1 N x1) N (0,[1779033703,3144134277,1013904242,2773480762,1359893119,2600822924,528734635,1541459225])
def Zao.p3.S (x1:ByteArray) (at_2 i_112 j_166:Int) (h_111 w_167:List Int) (st:LL):S:=mkS 225 [(2,sA 2),(3,sA 3),(4,.one (.l (wY x1))),(5,sI at_2),(6,sA 6),(7,sI i_112),(8,sI j_166)] [(2,.cells [zH .u8 32 (zB 32 0)]),(3,.cells [zH .u32 8 h_111]),(6,.cells [zH .u32 64 w_167])] st
def Zao.p6.S (x1:ByteArray) (at_2 i_216:Int) (h_217 s_208:List Int) (st:LL):S:=mkS 225 [(2,sA 2),(3,sA 3),(4,.one (.l (wY x1))),(5,sI at_2),(12,sA 12),(16,sI i_216)] [(2,.cells [zH .u8 32 (zB 32 0)]),(3,.cells [zH .u32 8 h_217]),(12,.cells [zH .u32 8 s_208])] st
def Zao.p5.S (x1:ByteArray) (at_2 i_198:Int) (h_111 w_193 s_208:List Int) (st:LL):S:=mkS 225 [(2,sA 2),(3,sA 3),(4,.one (.l (wY x1))),(5,sI at_2),(6,sA 6),(12,sA 12),(13,sI i_198)] [(2,.cells [zH .u8 32 (zB 32 0)]),(3,.cells [zH .u32 8 h_111]),(6,.cells [zH .u32 64 w_193]),(12,.cells [zH .u32 8 s_208])] st
def Zao.p4.S (x1:ByteArray) (at_2 i_168:Int) (h_111 w_193:List Int) (st:LL):S:=mkS 225 [(2,sA 2),(3,sA 3),(4,.one (.l (wY x1))),(5,sI at_2),(6,sA 6),(9,sI i_168)] [(2,.cells [zH .u8 32 (zB 32 0)]),(3,.cells [zH .u32 8 h_111]),(6,.cells [zH .u32 64 w_193])] st
def Zao.p2.S (x1:ByteArray) (at_2 i_112:Int) (h_111 w_165:List Int) (st:LL):S:=mkS 225 [(2,sA 2),(3,sA 3),(4,.one (.l (wY x1))),(5,sI at_2),(6,sA 6),(7,sI i_112)] [(2,.cells [zH .u8 32 (zB 32 0)]),(3,.cells [zH .u32 8 h_111]),(6,.cells [zH .u32 64 w_165])] st
def Zao.p7.S (i_218:Int) (h_111 out_219:List Int) (st:LL):S:=mkS 225 [(2,sA 2),(3,sA 3),(17,sA 17),(18,sI i_218)] [(2,.cells [zH .u8 32 (zB 32 0)]),(3,.cells [zH .u32 8 h_111]),(17,.cells [zH .u8 32 out_219])] st
def Zao.p1.S (x1:ByteArray) (at_2:Int) (h_111:List Int) (st:LL):S:=mkS 225 [(2,sA 2),(3,sA 3),(4,.one (.l (wY x1))),(5,sI at_2)] [(2,.cells [zH .u8 32 (zB 32 0)]),(3,.cells [zH .u32 8 h_111])] st
theorem Zao.p3_ok {x1 at_2 i_112 j_166 h_111 w_167 st r c2_ c1_ c3_ J2 J1 J3} (h:Zao.p3 N c2_ c1_ x1 at_2 i_112 h_111 c3_ (j_166,w_167)=some r) (hE:En Tryz.f59 g0 w0 (Zao.rs r) st R) (hc2 : ∀i_112 w_165,c2_ (i_112,w_165)=some r→At g0 w0 (Zao.p2.S x1 at_2 i_112 h_111 w_165 st) J2) (hc1 : ∀at_2 h_111,c1_ (at_2,h_111)=some r→At g0 w0 (Zao.p1.S x1 at_2 h_111 st) J1) (hc3 : ∀j_166 w_167,c3_ (j_166,w_167)=some r→At g0 w0 (Zao.p3.S x1 at_2 i_112 j_166 h_111 w_167 st) J3):At g0 w0 (Zao.p3.S x1 at_2 i_112 j_166 h_111 w_167 st) (XK zF R (.c (Zbn Zao.B [1,1,1,0,1,0,0,1,0,0,1,0,1,0,0,1,0,0,1,0,0]) :: .h J3 :: [.b 4,.b 3,.c (Zbn Zao.B [1,1,1,0,1,0,0,1,0,0,1,0,1,0,0,1,1]),.h J2,.b 2,.c (Zbn Zao.B [1,1,1,0,1,0,0,1,0,0,1,1]),.b 1,.c (Zbn Zao.B [1,1,1,0,1,0,0,1,1]),.h J1,.b 0,.c (Zbn Zao.B [1,1,1,1])])):=by
 unfold Zao.p3 at h
 refine ZaY h (fun c293 h1=>?_) (fun c293 h2=>?_)
 ·obtain ⟨c294,c295,c296,c297,h3⟩:=ck4 h1
  exact ZiS fol [.r [],.c true,.d {ds:=[],hv:=65536,Hs:=[65536]},.r []] [2,3,4,5,6,7,8] [2,3,6] (aN c293 c294 c295 c296 c297 c294 c295) (hc3 (w64 (j_166+1)) (zP w_167 (zE i_112) (v32 ((v32 ((zD w_167 (zE i_112) 0)*256))+(v32 (((UInt8.toNat (zD (rD (sJ x1)) (zE (w64 ((w64 (at_2+(w64 (4*i_112))))+j_166))) 0):Nat):Int)))))) h3)
 ·exact an fol [.r [],.c false,.r []] [2,3,4,5,6,7] [2,3,6] c293 (hc2 (w64 (i_112+1)) w_167 h2)
theorem Zao.p6_ok {x1 at_2 i_216 h_217 s_208 st r c1_ c6_ J1 J6} (h:Zao.p6 N c1_ x1 at_2 s_208 c6_ (i_216,h_217)=some r) (hE:En Tryz.f59 g0 w0 (Zao.rs r) st R) (hc1 : ∀at_2 h_111,c1_ (at_2,h_111)=some r→At g0 w0 (Zao.p1.S x1 at_2 h_111 st) J1) (hc6 : ∀i_216 h_217,c6_ (i_216,h_217)=some r→At g0 w0 (Zao.p6.S x1 at_2 i_216 h_217 s_208 st) J6):At g0 w0 (Zao.p6.S x1 at_2 i_216 h_217 s_208 st) (XK zF R (.c (Zbn Zao.B [1,1,1,0,1,0,0,1,0,0,1,1,1,1,1,1,0,0]) :: .h J6 :: [.b 10,.b 1,.c (Zbn Zao.B [1,1,1,0,1,0,0,1,1]),.h J1,.b 0,.c (Zbn Zao.B [1,1,1,1])])):=by
 unfold Zao.p6 at h
 refine ZaY h (fun c376 h4=>?_) (fun c376 h5=>?_)
 ·obtain ⟨c377,h6⟩:=ZaP h4
  exact ZiS fol [.r [],.c true,.d {ds:=[],hv:=512,Hs:=[512]},.r []] [2,3,4,5,12,16] [2,3,12] (aN c376 c377 (oD c376) c377 (oD c376) c377 (oD c376)) (hc6 (w64 (i_216+1)) (zP h_217 (zE i_216) (v32 ((zD h_217 (zE i_216) 0)+(zD s_208 (zE i_216) 0)))) h6)
 ·exact an fol [.r [],.c false,.r []] [2,3,4,5] [2,3] c376 (hc1 (w64 (at_2+64)) h_217 h5)
theorem Zao.p5_ok {x1 at_2 i_198 h_111 w_193 s_208 st r c1_ c5_ J1 J5} (h:Zao.p5 N c1_ x1 at_2 h_111 w_193 c5_ (i_198,s_208)=some r) (hE:En Tryz.f59 g0 w0 (Zao.rs r) st R) (hc1 : ∀at_2 h_111,c1_ (at_2,h_111)=some r→At g0 w0 (Zao.p1.S x1 at_2 h_111 st) J1) (hc5 : ∀i_198 s_208,c5_ (i_198,s_208)=some r→At g0 w0 (Zao.p5.S x1 at_2 i_198 h_111 w_193 s_208 st) J5):At g0 w0 (Zao.p5.S x1 at_2 i_198 h_111 w_193 s_208 st) (XK zF R (.c (Zbn Zao.B [1,1,1,0,1,0,0,1,0,0,1,1,1,1,0,1,0,0]) :: .h J5 :: [.b 8,.c (Zbn Zao.B [1,1,1,0,1,0,0,1,0,0,1,1,1,1,1]),.b 1,.c (Zbn Zao.B [1,1,1,0,1,0,0,1,1]),.h J1,.b 0,.c (Zbn Zao.B [1,1,1,1])])):=by
 unfold Zao.p5 at h
 refine ZaY h (fun c365 h7=>?_) (fun c365 h8=>?_)
 ·obtain ⟨x209,c366,h9⟩:=Zaf h7
  obtain ⟨x210,c367,h10⟩:=Zaf h9
  obtain ⟨x211,c368,h11⟩:=Zaf h10
  obtain ⟨x212,c369,h12⟩:=Zaf h11
  obtain ⟨c370,h13⟩:=ZaP h12
  obtain ⟨x213,c371,h14⟩:=Zaf h13
  obtain ⟨x214,c372,h15⟩:=Zaf h14
  obtain ⟨x215,c373,h16⟩:=Zaf h15
  exact ZiS fol [.r [],.c true,.d {ds:=[(4,q1 [.one (zI .u32 x209)]),(7,q1 [.one (zI .u32 x210)]),(11,q1 [.one (zI .u32 x211)]),(28,q1 [.one (zI .u32 x212)])],hv:=0,Hs:=[]},.d {ds:=[(2,q1 [.one (zI .u32 x213)]),(5,q1 [.one (zI .u32 x214)]),(9,q1 [.one (zI .u32 x215)])],hv:=0,Hs:=[]},.r [(19,{m:=3})],.r []] [2,3,4,5,6,12,13] [2,3,6,12] (aI c365 (ix 7 8 (ix 4 8 (aI (ZaS.snd c366) (ix 4 8 (aI (ZaS.snd c367) (ix 4 8 (aI (ZaS.snd c368) (ix 4 8 (ix 5 8 (ix 4 8 (ix 6 8 (aK (ZeE.snd c369) c370 (oD c365) (ix 0 8 (aI (ZaS.snd c371) (ix 0 8 (aI (ZaS.snd c372) (ix 0 8 (aI (ZaS.snd c373) (ix 0 8 (ix 1 8 (ix 0 8 (ix 2 8 (ix 1 8 (ix 2 8 (ix 0 8 (ix 1 8 (ix 2 8 (ix 3 8 (ix 4 8 (ix 5 8 (aI (leI 0 6) (ltI 6 8))))))))))))))))))))))))))))))))) (hc5 (w64 (i_198+1)) [v32 ((v32 ((v32 ((v32 ((v32 ((zD s_208 7 0)+(Zay .xor .u32 (Zay .xor .u32 x209 x210) x211)))+(Zay .or .u32 (Zay .and .u32 (zD s_208 4 0) (zD s_208 5 0)) (Zay .and .u32 (v32 (4294967295-(zD s_208 4 0))) (zD s_208 6 0)))))+x212))+(zD w_193 (zE i_198) 0)))+(v32 ((Zay .xor .u32 (Zay .xor .u32 x213 x214) x215)+(Zay .or .u32 (Zay .or .u32 (Zay .and .u32 (zD s_208 0 0) (zD s_208 1 0)) (Zay .and .u32 (zD s_208 0 0) (zD s_208 2 0))) (Zay .and .u32 (zD s_208 1 0) (zD s_208 2 0)))))),zD s_208 0 0,zD s_208 1 0,zD s_208 2 0,v32 ((zD s_208 3 0)+(v32 ((v32 ((v32 ((v32 ((zD s_208 7 0)+(Zay .xor .u32 (Zay .xor .u32 x209 x210) x211)))+(Zay .or .u32 (Zay .and .u32 (zD s_208 4 0) (zD s_208 5 0)) (Zay .and .u32 (v32 (4294967295-(zD s_208 4 0))) (zD s_208 6 0)))))+x212))+(zD w_193 (zE i_198) 0)))),zD s_208 4 0,zD s_208 5 0,zD s_208 6 0] h16)
 ·exact aq fol [.r [],.c false,.r []] [2,3,4,5,12,16] [2,3,12] c365 (At.loop N (At.loopN (fun y:Int×(List Int)=>Zao.p6.S x1 at_2 y.1 y.2 s_208 st) (fun c J hc y h=>Zao.p6_ok (i_216:=y.1) (h_217:=y.2) h hE hc1 (fun i_216 h_217=>hc (i_216,h_217))) N (0,h_111) h8))
theorem Zao.p4_ok {x1 at_2 i_168 h_111 w_193 st r c1_ c4_ J1 J4} (h:Zao.p4 N c1_ x1 at_2 h_111 c4_ (i_168,w_193)=some r) (hE:En Tryz.f59 g0 w0 (Zao.rs r) st R) (hc1 : ∀at_2 h_111,c1_ (at_2,h_111)=some r→At g0 w0 (Zao.p1.S x1 at_2 h_111 st) J1) (hc4 : ∀i_168 w_193,c4_ (i_168,w_193)=some r→At g0 w0 (Zao.p4.S x1 at_2 i_168 h_111 w_193 st) J4):At g0 w0 (Zao.p4.S x1 at_2 i_168 h_111 w_193 st) (XK zF R (.c (Zbn Zao.B [1,1,1,0,1,0,0,1,0,0,1,1,0,1,0,0]) :: .h J4 :: [.b 6,.c (Zbn Zao.B [1,1,1,0,1,0,0,1,0,0,1,1,1]),.b 1,.c (Zbn Zao.B [1,1,1,0,1,0,0,1,1]),.h J1,.b 0,.c (Zbn Zao.B [1,1,1,1])])):=by
 unfold Zao.p4 at h
 refine ZaY h (fun c338 h17=>?_) (fun c338 h18=>?_)
 ·obtain ⟨c339,c340,h19⟩:=ck2 h17
  obtain ⟨x194,c341,h20⟩:=Zaf h19
  obtain ⟨x195,c342,h21⟩:=Zaf h20
  obtain ⟨c343,c344,h22⟩:=ck2 h21
  obtain ⟨x196,c345,h23⟩:=Zaf h22
  obtain ⟨x197,c346,h24⟩:=Zaf h23
  obtain ⟨c347,c348,c349,c350,c351,h25⟩:=ck5 h24
  exact ZiS fol [.r [],.c true,.d {ds:=[(4,q1 [.one (zI .u32 x194)]),(9,q1 [.one (zI .u32 x195)])],hv:=0,Hs:=[]},.d {ds:=[(4,q1 [.one (zI .u32 x196)]),(9,q1 [.one (zI .u32 x197)])],hv:=0,Hs:=[]},.d {ds:=[],hv:=32768,Hs:=[32768]},.r []] [2,3,4,5,6,9] [2,3,6] (aO c338 c339 c340 (ZaS.snd c341) c339 c340 (ZaS.snd c342) (aO c339 c340 (neI 8) c343 c344 (ZaS.snd c345) c343 (aO c344 (ZaS.snd c346) c343 c344 (neI 1024) c347 c348 (aK c349 c350 c351 (oD c338))))) (hc4 (w64 (i_168+1)) (zP w_193 (zE i_168) (v32 ((v32 ((v32 ((zD w_193 (zE (w64 (i_168-16))) 0)+(Zay .xor .u32 (Zay .xor .u32 x194 x195) (v32 (zN (zD w_193 (zE (w64 (i_168-15))) 0) 8)))))+(zD w_193 (zE (w64 (i_168-7))) 0)))+(Zay .xor .u32 (Zay .xor .u32 x196 x197) (v32 (zN (zD w_193 (zE (w64 (i_168-2))) 0) 1024)))))) h25)
 ·exact aq fol [.r [],.c false,.r [],.r []] [2,3,4,5,6,12,13] [2,3,6,12] c338 (At.loop N (At.loopN (fun y:Int×(List Int)=>Zao.p5.S x1 at_2 y.1 h_111 w_193 y.2 st) (fun c J hc y h=>Zao.p5_ok (i_198:=y.1) (s_208:=y.2) h hE hc1 (fun i_198 s_208=>hc (i_198,s_208))) N (0,h_111) h18))
theorem Zao.p2_ok {x1 at_2 i_112 h_111 w_165 st r c1_ c2_ J1 J2} (h:Zao.p2 N c1_ x1 at_2 h_111 c2_ (i_112,w_165)=some r) (hE:En Tryz.f59 g0 w0 (Zao.rs r) st R) (hc1 : ∀at_2 h_111,c1_ (at_2,h_111)=some r→At g0 w0 (Zao.p1.S x1 at_2 h_111 st) J1) (hc2 : ∀i_112 w_165,c2_ (i_112,w_165)=some r→At g0 w0 (Zao.p2.S x1 at_2 i_112 h_111 w_165 st) J2):At g0 w0 (Zao.p2.S x1 at_2 i_112 h_111 w_165 st) (XK zF R (.c (Zbn Zao.B [1,1,1,0,1,0,0,1,0,0,1,0,1,0,0]) :: .h J2 :: [.b 2,.c (Zbn Zao.B [1,1,1,0,1,0,0,1,0,0,1,1]),.b 1,.c (Zbn Zao.B [1,1,1,0,1,0,0,1,1]),.h J1,.b 0,.c (Zbn Zao.B [1,1,1,1])])):=by
 unfold Zao.p2 at h
 refine ZaY h (fun c287 h26=>?_) (fun c287 h27=>?_)
 ·exact aq fol [.r [],.c true,.r []] [2,3,4,5,6,7,8] [2,3,6] c287 (At.loop N (At.loopN (fun y:Int×(List Int)=>Zao.p3.S x1 at_2 i_112 y.1 h_111 y.2 st) (fun c J hc y h=>Zao.p3_ok (j_166:=y.1) (w_167:=y.2) h hE hc2 hc1 (fun j_166 w_167=>hc (j_166,w_167))) N (0,w_165) h26))
 ·exact aq fol [.r [],.c false,.r []] [2,3,4,5,6,9] [2,3,6] c287 (At.loop N (At.loopN (fun y:Int×(List Int)=>Zao.p4.S x1 at_2 y.1 h_111 y.2 st) (fun c J hc y h=>Zao.p4_ok (i_168:=y.1) (w_193:=y.2) h hE hc1 (fun i_168 w_193=>hc (i_168,w_193))) N (16,w_165) h27))
theorem Zao.p7_ok {i_218 h_111 out_219 st r c7_ J7} (h:Zao.p7 N h_111 c7_ (i_218,out_219)=some r) (hE:En Tryz.f59 g0 w0 (Zao.rs r) st R) (hc7 : ∀i_218 out_219,c7_ (i_218,out_219)=some r→At g0 w0 (Zao.p7.S i_218 h_111 out_219 st) J7):At g0 w0 (Zao.p7.S i_218 h_111 out_219 st) (XK zF R (.c (Zbn Zao.B [1,1,1,1,1,0,1,0,0]) :: .h J7 :: [.b 12,.c (Zbn Zao.B [1,1,1,1,1,1])])):=by
 unfold Zao.p7 at h
 refine ZaY h (fun c383 h28=>?_) (fun c383 h29=>?_)
 ·obtain ⟨c384,c385,c386,c387,h30⟩:=ck4 h28
  exact an fol [.r [],.c true,.r [],.r []] [2,3,17,18] [2,3,17] (aO c383 (neI 4) c384 c385 (neI 4) c386 (neI 256) (aI c387 (oD c383))) (hc7 (w64 (i_218+1)) (zP out_219 (zE i_218) (v8 (zT (Zba .u32 (zD h_111 (zE (w64 (zN i_218 4))) 0) (v64 (w64 (24-(w64 (8*(zT i_218 4))))))) 256))) h30)
 ·obtain rfl:=Zac h29
  exact af fol hE [.r [],.c false,.r []] [] 0 [] c383
theorem Zao.p1_ok {x1 at_2 h_111 st r c1_ J1} (h:Zao.p1 N x1 c1_ (at_2,h_111)=some r) (hE:En Tryz.f59 g0 w0 (Zao.rs r) st R) (hc1 : ∀at_2 h_111,c1_ (at_2,h_111)=some r→At g0 w0 (Zao.p1.S x1 at_2 h_111 st) J1):At g0 w0 (Zao.p1.S x1 at_2 h_111 st) (XK zF R (.c (Zbn Zao.B [1,1,1,0,1,0,0]) :: .h J1 :: [.b 0,.c (Zbn Zao.B [1,1,1,1])])):=by
 unfold Zao.p1 at h
 refine ZaY h (fun c195 h31=>?_) (fun c195 h32=>?_)
 ·exact aq fol [.r [],.c true,.r [],.r []] [2,3,4,5,6,7] [2,3,6] c195 (At.loop N (At.loopN (fun y:Int×(List Int)=>Zao.p2.S x1 at_2 y.1 h_111 y.2 st) (fun c J hc y h=>Zao.p2_ok (i_112:=y.1) (w_165:=y.2) h hE hc1 (fun i_112 w_165=>hc (i_112,w_165))) N (0,zB 64 0) h31))
 ·exact aq fol [.r [],.c false,.r [],.r []] [2,3,17,18] [2,3,17] c195 (At.loop N (At.loopN (fun y:Int×(List Int)=>Zao.p7.S y.1 h_111 y.2 st) (fun c J hc y h=>Zao.p7_ok (i_218:=y.1) (out_219:=y.2) h hE (fun i_218 out_219=>hc (i_218,out_219))) N (0,zB 32 0) h32))
theorem Zao.snd {s_0:ByteArray} {r:(List Int)} (h:Zao N s_0=some r):Zde zF 59 [.one (wY s_0)] (Zao.rs r):=fun st=>
 sO Zao.B Tryz.func59 fun g0 w0 R hE=>by
  unfold Zao at h
  obtain ⟨x1,c1,h33⟩:=Zaf h
  exact aq fol [.r [],.r [(0,{m:=3})],.r [(1,q1 [.one (wY x1)])],.r []] [2,3,4,5] [2,3] (ZaM.snd c1) (At.loop N (At.loopN (fun y:Int×(List Int)=>Zao.p1.S x1 y.1 y.2 st) (fun c J hc y h=>Zao.p1_ok (at_2:=y.1) (h_111:=y.2) h hE (fun at_2 h_111=>hc (at_2,h_111))) N (0,[1779033703,3144134277,1013904242,2773480762,1359893119,2600822924,528734635,1541459225]) h33))
def Zbq.B:Code:=Tryz.f35.body.getD .skip
def Zbq.rs (r:(List Int)):List CV:=[.agg [zH .u8 32 r]]
def Zbq.p1 (N:Nat) (x1:List Int) (c1_:(ByteArray×Int)→Option (List Int)):(ByteArray×Int)→Option (List Int):=fun (b_4,i_2)=>
 if (decide (i_2<32))=true then
  chk (0≤i_2)<|
  chk (isB [[zI .u8 (zD x1 (zE i_2) 0)]]=true)<|
  chk (zU b_4+zU (ZiZ (wX Zez [[zI .u8 (zD x1 (zE i_2) 0)]]))≤9223372036854775807)<|
  c1_ (b_4++(ZiZ (wX Zez [[zI .u8 (zD x1 (zE i_2) 0)]])),w64 (i_2+1))
 else
 Zbt (Zao N b_4) fun x5=>
 some x5
def Zbq (N:Nat) (s_0:ByteArray):Option (List Int):=
 Zbt (Zao N s_0) fun x1=>
 loopN (Zbq.p1 N x1) N ((xP #[]),0)
def Zbq.p1.S (b_4:ByteArray) (i_2:Int) (x1:List Int) (st:LL):S:=mkS 21 [(2,sA 2),(3,sA 3),(4,.one (.l (wY b_4))),(5,sI i_2)] [(2,.cells [zH .u8 32 (zB 32 0)]),(3,.cells [zH .u8 32 x1])] st
theorem Zbq.p1_ok {b_4 i_2 x1 st r c1_ J1} (h:Zbq.p1 N x1 c1_ (b_4,i_2)=some r) (hE:En Tryz.f35 g0 w0 (Zbq.rs r) st R) (hc1 : ∀b_4 i_2,c1_ (b_4,i_2)=some r→At g0 w0 (Zbq.p1.S b_4 i_2 x1 st) J1):At g0 w0 (Zbq.p1.S b_4 i_2 x1 st) (XK zF R (.c (Zbn Zbq.B [1,1,1,0,1,0,0]) :: .h J1 :: [.b 0,.c (Zbn Zbq.B [1,1,1,1])])):=by
 unfold Zbq.p1 at h
 refine ZaY h (fun c7 h1=>?_) (fun c7 h2=>?_)
 ·obtain ⟨c8,c9,c10,h3⟩:=ck3 h1
  exact an fol [.r [],.c true,.r [],.r []] [2,3,4,5] [2,3] (aN c7 c8 (oD c7) z0 (eN (1)) c9 c10) (hc1 (b_4++(ZiZ (wX Zez [[zI .u8 (zD x1 (zE i_2) 0)]]))) (w64 (i_2+1)) h3)
 ·obtain ⟨x5,c11,h4⟩:=Zaf h2
  obtain rfl:=Zac h4
  exact af fol hE [.r [],.c false,.r [(1,q1 [.agg [zH .u8 32 x5]])]] [] 0 [] (aI c7 (Zao.snd c11))
theorem Zbq.snd {s_0:ByteArray} {r:(List Int)} (h:Zbq N s_0=some r):Zde zF 35 [.one (wY s_0)] (Zbq.rs r):=fun st=>
 sO Zbq.B Tryz.func35 fun g0 w0 R hE=>by
  unfold Zbq at h
  obtain ⟨x1,c1,h5⟩:=Zaf h
  exact aq fol [.r [],.r [(1,q1 [.agg [zH .u8 32 x1]])],.r [],.r []] [2,3,4,5] [2,3] (Zao.snd c1) (At.loop N (At.loopN (fun y:ByteArray×Int=>Zbq.p1.S y.1 y.2 x1 st) (fun c J hc y h=>Zbq.p1_ok (b_4:=y.1) (i_2:=y.2) h hE (fun b_4 i_2=>hc (b_4,i_2))) N ((xP #[]),0) h5))
def Zco.B:Code:=Tryz.f19.body.getD .skip
def Zco.rs (r:(List Int)):List CV:=[.agg [zH .u8 32 r]]
def Zco (N:Nat) (h_0:Zaj):Option (List Int):=
 Zbt (Zcq N h_0) fun x1=>
 if (!x1)=true then
  some (zB 32 0)
 else
 Zbt (ZcX N h_0) fun x2=>
 Zbt (Zbq N x2) fun x3=>
 some x3
theorem Zco.snd {h_0:Zaj} {r:(List Int)} (h:Zco N h_0=some r):Zde zF 19 [.agg h_0.ls] (Zco.rs r):=fun st=>
 sO Zco.B Tryz.func19 fun g0 w0 R hE=>by
  unfold Zco at h
  obtain ⟨x1,c1,h1⟩:=Zaf h
  let o1:List PS:=[.r [],.r [(1,q1 [oB x1])]]
  refine ZaY h1 (fun c2 h2=>?_) (fun c2 h3=>?_)
  ·obtain rfl:=Zac h2
   exact af fol hE (o1 ++ [.c true,.r []]) [] 0 [] (aI (Zcq.snd c1) c2)
  ·obtain ⟨x2,c3,h4⟩:=Zaf h3
   obtain ⟨x3,c4,h5⟩:=Zaf h4
   obtain rfl:=Zac h5
   exact af fol hE (o1 ++ [.c false,.r [(1,q1 [.one (wY x2)]),(2,q1 [.agg [zH .u8 32 x3]])]]) [] 0 [] (aK (Zcq.snd c1) c2 (ZcX.snd c3) (Zbq.snd c4))
def Zcc.B:Code:=Tryz.f18.body.getD .skip
def Zcc.rs (r:Int):List CV:=[oI r]
def Zcc (N:Nat) (a_0:ZaF) (id_1_0:List Int):Option Int:=
 optM (Zgp a_0.places (zH .u8 32 id_1_0)) (fun j1 e=>Zdq [e] fun x2=>
  some x2)
 (
  some (-1))
theorem Zcc.snd {a_0:ZaF} {id_1_0:List Int} {r:Int} (h:Zcc N a_0 id_1_0=some r):Zde zF 18 [.one (L.bx 87 a_0.ls),.agg [zH .u8 32 id_1_0]] (Zcc.rs r):=fun st=>
 sO Zcc.B Tryz.func18 fun g0 w0 R hE=>by
  unfold Zcc at h
  rcases Zje h with ⟨j1,h4,c1,h1⟩ | ⟨c1,h2⟩
  ·obtain ⟨x2,h5,h3⟩:=Zgf h1
   obtain rfl:=ZgT h5
   obtain rfl:=Zac h3
   exact afd fol hE [.r [],.r [],.c false,.d {ds:=[(3,{oe:=a_0.ls}),(5,{oe:=[zI .i64 x2]})],hv:=0,Hs:=[]},.r [],.c true,.r []] [] 0 [] (aK eF (eO a_0.ls) (ZnR c1) eT)
  ·obtain rfl:=Zac h2
   exact afd fol hE [.r [],.r [],.c false,.d {ds:=[(3,{oe:=a_0.ls}),(5,yF)],hv:=0,Hs:=[]},.r [],.c false,.r []] [] 0 [] (aK eF (eO a_0.ls) c1 eF)
def ZcY.B:Code:=Tryz.f4.body.getD .skip
def ZcY.rs (r:Bool×LL):List CV:=[oB r.1]
def ZcY (N:Nat) (st:LL):Option (Bool×LL):=
 Zbt (ZdA N (Zae.mk 545259519 4 10 0 false [] [] (zB 4 0) (zB 4 0) (Zaj.mk 0 (zB 32 0) (zB 32 0) 0 0 0)) 5 st) fun (x1,x2,st3)=>
 if (x2==0)=true then
  Zbt x1 fun i4=>
  Zds (st3[i4]?) Zcb fun x5=>
  Zbt (Zcg N x5) fun x6=>
  if (x6==1)=true then
   Zbt (Zch N x5) fun x7=>
   if (x7==5)=true then
    Zbt (Zco N (Zaj.mk 0 (zB 32 0) (zB 32 0) 0 0 0)) fun x8=>
    Zbt (Zcc N x5 x8) fun x9=>
    some (x9==0,st3)
   else
   some (false,st3)
  else
  some (false,st3)
 else
 some (false,st3)
theorem ZcY.snd {st:LL} {r:Bool×LL} (h:ZcY N st=some r):Snd zF 4 [] st (ZcY.rs r) r.2:=
 sO ZcY.B Tryz.func4 fun g0 w0 R hE=>by
  unfold ZcY at h
  obtain ⟨⟨x1,x2,st3⟩,c1,h1⟩:=Zaf h
  have t1 {Q:Prop} (q:Q):=aI (ZdA.snd c1) q
  refine ZaY h1 (fun c2 h2=>?_) (fun c2 h3=>?_)
  ·obtain ⟨i4,rfl,h4⟩:=Zaf h2
   obtain ⟨x5,c4,h5⟩:=ZbM h4
   obtain ⟨x6,c5,h6⟩:=Zaf h5
   let o1:List PS:=[.r [],.r [(1,{rs:=[.one (L.ptr (some i4)),oI x2],st:=st3})]]
   have t2 {Q:Prop} (q:Q):=t1 (aN c2 c2 (bO 87 c4 (ZaF.bv x5)) (Zcg.snd c5) c2 c2 q)
   refine ZaY h6 (fun c6 h7=>?_) (fun c6 h8=>?_)
   ·obtain ⟨x7,c7,h9⟩:=Zaf h7
    have t3 {Q:Prop} (q:Q):=t2 (aN c6 c6 (bO 87 c4 (ZaF.bv x5)) (Zch.snd c7) c6 c6 q)
    refine ZaY h9 (fun c8 h10=>?_) (fun c8 h11=>?_)
    ·obtain ⟨x8,c9,h12⟩:=Zaf h10
     obtain ⟨x9,c10,h13⟩:=Zaf h12
     obtain rfl:=Zac h13
     exact af fol hE (o1 ++ [.r [(4,{rs:=[oI x6],m:=10,cv:=[.one (L.bx 87 x5.ls)]}),(9,{rs:=[oI x7],m:=10,cv:=[.one (L.bx 87 x5.ls)]}),(15,q1 [.agg [zH .u8 32 x8]]),(16,{rs:=[oI x9],m:=10,cv:=[.one (L.bx 87 x5.ls)]})]]) [] 0 [] (t3 (aO c8 c8 c8 (Zco.snd c9) c8 (bO 87 c4 (ZaF.bv x5)) (Zcc.snd c10) (aI c8 c8)))
    ·obtain rfl:=Zac h11
     exact af fol hE (o1 ++ [.r [(4,{rs:=[oI x6],m:=10,cv:=[.one (L.bx 87 x5.ls)]}),(9,{rs:=[oI x7],m:=10,cv:=[.one (L.bx 87 x5.ls)]}),(13,wF),(14,wF),(15,wF),(16,wF),(17,wF),(18,yF)]]) [] 0 [] (t3 (aM c8 c8 c8 c8 c8 c8))
   ·obtain rfl:=Zac h8
    exact af fol hE (o1 ++ [.r [(4,{rs:=[oI x6],m:=10,cv:=[.one (L.bx 87 x5.ls)]}),(8,wF),(9,wF),(10,wF),(11,yF),(13,wF),(14,wF),(15,wF),(16,wF),(17,wF),(18,yF)]]) [] 0 [] (t2 (aO c6 c6 c6 c6 eF eF eF (aJ eF eF eF)))
  ·obtain rfl:=Zac h3
   exact af fol hE [.r [],.r [(1,{rs:=[.one (L.ptr x1),oI x2],st:=st3})],.r [(3,wF),(4,wF),(5,wF),(6,yF),(8,wF),(9,wF),(10,wF),(11,yF),(13,wF),(14,wF),(15,wF),(16,wF),(17,wF),(18,yF)]] [] 0 [] (t1 (aO c2 c2 c2 c2 eF eF eF (aN eF eF eF eF eF eF eF)))
def ZbD.B:Code:=Tryz.f5.body.getD .skip
def ZbD.rs (r:Bool):List CV:=[oB r]
def ZbD.p1 (N:Nat) (list_1:LL) (p_0:Zae) (c1_:Int→Option Bool):Int→Option Bool:=fun v1=>
 if (decide (v1<(len list_1)))=true then
  chk (0≤v1)<|
  Zds (list_1[zE v1]?) ZcJ fun x2=>
  if (decide (x2.Now<0))=true then
   some true
  else
  c1_ (w64 (v1+1))
 else
 if (decide ((len p_0.Gates)>20))=true then
  some true
 else
 if (decide ((len p_0.Checks)>20))=true then
  some true
 else
 some (decide ((len list_1)>40))
def ZbD (N:Nat) (p_0:Zae) (list_1:LL):Option Bool:=
 loopN (ZbD.p1 N list_1 p_0) N 0
def ZbD.p1.S (list_1:LL) (v1:Int) (p_0:Zae) (st:LL):S:=mkS 32 [(1,sV 69 list_1),(2,sA 2),(7,sV 69 list_1),(8,sI (len list_1)),(9,sI v1)] [(2,.cells p_0.ls)] st
theorem ZbD.p1_ok {list_1 v1 p_0 st r c1_ J1} (h:ZbD.p1 N list_1 p_0 c1_ v1=some r) (hE:En Tryz.f5 g0 w0 (ZbD.rs r) st R) (hc1 : ∀v1,c1_ v1=some r→At g0 w0 (ZbD.p1.S list_1 v1 p_0 st) J1):At g0 w0 (ZbD.p1.S list_1 v1 p_0 st) (XK zF R (.c (Zbn ZbD.B [1,0,1,0,0]) :: .h J1 :: [.b 0,.c (Zbn ZbD.B [1,1])])):=by
 unfold ZbD.p1 at h
 refine ZaY h (fun c1 h1=>?_) (fun c1 h2=>?_)
 ·obtain ⟨c2,h3⟩:=ZaP h1
  obtain ⟨x2,c3,h4⟩:=Zea h3
  let o1:List PS:=[.r [],.c true,.r [(1,{oe:=x2.ls})],.r []]
  refine ZaY h4 (fun c4 h5=>?_) (fun c4 h6=>?_)
  ·obtain rfl:=Zac h5
   exact af fol hE (o1 ++ [.c true,.r []]) [] 0 [] (aL c1 c2 (oD c1) c3 c4)
  ·exact an fol (o1 ++ [.c false,.r []]) [1,2,7,8,9] [2] (aL c1 c2 (oD c1) c3 c4) (hc1 (w64 (v1+1)) h6)
 ·refine ZaY h2 (fun c5 h7=>?_) (fun c5 h8=>?_)
  ·obtain rfl:=Zac h7
   exact af fol hE [.r [],.c false,.r [(5,wF),(6,wF),(7,wF),(8,wF),(11,wF),(12,wF),(13,wF)]] [] 0 [] (aO c1 c5 c5 c5 c5 c5 eT (aJ eT eT eT))
  ·refine ZaY h8 (fun c6 h9=>?_) (fun c6 h10=>?_)
   ·obtain rfl:=Zac h9
    exact af fol hE [.r [],.c false,.r [(9,yF),(11,wF),(12,wF),(13,wF)]] [] 0 [] (aO c1 c5 c5 c5 c5 c5 c6 (aJ c6 c6 c6))
   ·obtain rfl:=Zac h10
    exact af fol hE [.r [],.c false,.r [(9,yF),(14,yF)]] [] 0 [] (aO c1 c5 c5 c5 c5 c5 c6 (aJ c6 c6 c6))
theorem ZbD.snd {p_0:Zae} {list_1:LL} {r:Bool} (h:ZbD N p_0 list_1=some r):Zde zF 5 [.agg p_0.ls,.one (vK 69 list_1)] (ZbD.rs r):=fun st=>
 sO ZbD.B Tryz.func5 fun g0 w0 R hE=>by
  unfold ZbD at h
  exact aq fol [.r [],.r []] [1,2,7,8,9] [2] trivial (At.loop N (At.loopN (fun y:Int=>ZbD.p1.S list_1 y p_0 st) (fun c J hc y h=>ZbD.p1_ok h hE (fun v1=>hc v1)) N 0 h))
def Zam.B:Code:=Tryz.f69.body.getD .skip
def Zam.rs (r:(List Int)):List CV:=[.agg [zH .u64 4 r]]
def Zam.p4 (N:Nat) (c3_:(Int×(List Int))→Option (List Int)) (n_13 i_19:Int) (a_18 out_22:List Int):Option (List Int):=
 c3_ (w64 (i_19+1),out_22)
def Zam.p3 (N:Nat) (n_13:Int) (a_18:List Int) (c3_:(Int×(List Int))→Option (List Int)):(Int×(List Int))→Option (List Int):=fun (i_19,out_21)=>
 if (decide (i_19<4))=true then
  if (decide (n_13>0))=true then
   chk (0≤i_19)<|
   chk (0≤(v64 (n_13)))<|
   if (decide (i_19>0))=true then
    chk (0≤(w64 (i_19-1)))<|
    chk ((w64 (i_19-1))<4)<|
    chk (0≤(v64 (w64 (64-n_13))))<|
    Zam.p4 N c3_ n_13 i_19 a_18 (zP (zP out_21 (zE i_19) (Zbi .u64 (zD a_18 (zE i_19) 0) (v64 (n_13)))) (zE i_19) (v64 ((zD (zP out_21 (zE i_19) (Zbi .u64 (zD a_18 (zE i_19) 0) (v64 (n_13)))) (zE i_19) 0)+(Zba .u64 (zD a_18 (zE (w64 (i_19-1))) 0) (v64 (w64 (64-n_13)))))))
   else
   Zam.p4 N c3_ n_13 i_19 a_18 (zP out_21 (zE i_19) (Zbi .u64 (zD a_18 (zE i_19) 0) (v64 (n_13))))
  else
  chk (0≤i_19)<|
  chk (0≤(v64 (w64 (0-n_13))))<|
  if (decide (i_19<3))=true then
   chk (0≤(w64 (i_19+1)))<|
   chk ((w64 (i_19+1))<4)<|
   chk (0≤(v64 (w64 (64+n_13))))<|
   Zam.p4 N c3_ n_13 i_19 a_18 (zP (zP out_21 (zE i_19) (Zba .u64 (zD a_18 (zE i_19) 0) (v64 (w64 (0-n_13))))) (zE i_19) (v64 ((zD (zP out_21 (zE i_19) (Zba .u64 (zD a_18 (zE i_19) 0) (v64 (w64 (0-n_13))))) (zE i_19) 0)+(Zbi .u64 (zD a_18 (zE (w64 (i_19+1))) 0) (v64 (w64 (64+n_13)))))))
  else
  Zam.p4 N c3_ n_13 i_19 a_18 (zP out_21 (zE i_19) (Zba .u64 (zD a_18 (zE i_19) 0) (v64 (w64 (0-n_13)))))
 else
 some out_21
def Zam.p2 (N:Nat) (c2_:(Int×(List Int))→Option (List Int)):(Int×(List Int))→Option (List Int):=fun (n_13,a_18)=>
 if (decide (n_13≤(-64)))=true then
  c2_ (w64 (n_13+64),[zD a_18 1 0,zD a_18 2 0,zD a_18 3 0,0])
 else
 if (n_13==0)=true then
  some a_18
 else
 loopN (Zam.p3 N n_13 a_18) N (0,zB 4 0)
def Zam.p1 (N:Nat) (c1_:(Int×(List Int))→Option (List Int)):(Int×(List Int))→Option (List Int):=fun (n_1,a_12)=>
 if (decide (n_1≥64))=true then
  c1_ (w64 (n_1-64),[0,zD a_12 0 0,zD a_12 1 0,zD a_12 2 0])
 else
 loopN (Zam.p2 N) N (n_1,a_12)
def Zam (N:Nat) (a_0_0:List Int) (n_1:Int):Option (List Int):=
 if (decide (n_1≤(-256)))=true then
  some (zB 4 0)
 else
 if (decide (n_1≥256))=true then
  some (zB 4 0)
 else
 loopN (Zam.p1 N) N (n_1,a_0_0)
def Zam.p4.S (n_13 i_19:Int) (a_18 out_22:List Int) (st:LL):S:=mkS 96 [(1,sI n_13),(2,sA 2),(4,sA 4),(5,sA 5),(6,sI i_19)] [(2,.cells [zH .u64 4 a_18]),(4,.cells [zH .u64 4 (zB 4 0)]),(5,.cells [zH .u64 4 out_22])] st
def Zam.p3.S (n_13 i_19:Int) (a_18 out_21:List Int) (st:LL):S:=mkS 96 [(1,sI n_13),(2,sA 2),(4,sA 4),(5,sA 5),(6,sI i_19)] [(2,.cells [zH .u64 4 a_18]),(4,.cells [zH .u64 4 (zB 4 0)]),(5,.cells [zH .u64 4 out_21])] st
def Zam.p2.S (n_13:Int) (a_18:List Int) (st:LL):S:=mkS 96 [(1,sI n_13),(2,sA 2),(4,sA 4),(5,sA 5)] [(2,.cells [zH .u64 4 a_18]),(4,.cells [zH .u64 4 (zB 4 0)]),(5,.cells [zH .u64 4 (zB 4 0)])] st
def Zam.p1.S (n_1:Int) (a_12:List Int) (st:LL):S:=mkS 96 [(1,sI n_1),(2,sA 2),(4,sA 4),(5,sA 5)] [(2,.cells [zH .u64 4 a_12]),(4,.cells [zH .u64 4 (zB 4 0)]),(5,.cells [zH .u64 4 (zB 4 0)])] st
theorem Zam.p4_ok {n_13 i_19 a_18 out_22 st r c3_ J3} (h:Zam.p4 N c3_ n_13 i_19 a_18 out_22=some r) (hE:En Tryz.f69 g0 w0 (Zam.rs r) st R) (hc3 : ∀i_19 out_21,c3_ (i_19,out_21)=some r→At g0 w0 (Zam.p3.S n_13 i_19 a_18 out_21 st) J3):At g0 w0 (Zam.p4.S n_13 i_19 a_18 out_22 st) (XK zF R [.c (Zbn Zam.B [1,1,1,1,1,1,0,1,0,0,1,1]),.h J3,.b 4,.c (Zbn Zam.B [1,1,1,1,1,1,1])]):=by
 unfold Zam.p4 at h
 exact an fol [.r []] [1,2,4,5,6] [2,4,5] trivial (hc3 (w64 (i_19+1)) out_22 h)
theorem Zam.p3_ok {n_13 i_19 a_18 out_21 st r c3_ J3} (h:Zam.p3 N n_13 a_18 c3_ (i_19,out_21)=some r) (hE:En Tryz.f69 g0 w0 (Zam.rs r) st R) (hc3 : ∀i_19 out_21,c3_ (i_19,out_21)=some r→At g0 w0 (Zam.p3.S n_13 i_19 a_18 out_21 st) J3):At g0 w0 (Zam.p3.S n_13 i_19 a_18 out_21 st) (XK zF R (.c (Zbn Zam.B [1,1,1,1,1,1,0,1,0,0]) :: .h J3 :: [.b 4,.c (Zbn Zam.B [1,1,1,1,1,1,1])])):=by
 unfold Zam.p3 at h
 refine ZaY h (fun c111 h1=>?_) (fun c111 h2=>?_)
 ·let o1:List PS:=[.r [],.c true,.r []]
  refine ZaY h1 (fun c112 h3=>?_) (fun c112 h4=>?_)
  ·obtain ⟨c113,c114,h5⟩:=ck2 h3
   have t1 {Q:Prop} (q:Q):=aO c111 c112 c113 (oD c111) c114 c113 (oD c111) q
   refine ZaY h5 (fun c115 h6=>?_) (fun c115 h7=>?_)
   ·obtain ⟨c116,c117,c118,h8⟩:=ck3 h6
    exact aqd fol (o1 ++ [.c true,.r [],.r [],.c true,.d {ds:=[],hv:=16384,Hs:=[16384]},.s 4]) [1,2,4,5,6] [2,4,5] (t1 (aO c115 c113 (oD c111) c116 c117 c118 c113 (oD c111))) (Zam.p4_ok h8 hE hc3)
   ·exact aq fol (o1 ++ [.c true,.r [],.r [],.c false,.s 4]) [1,2,4,5,6] [2,4,5] (t1 c115) (Zam.p4_ok h7 hE hc3)
  ·obtain ⟨c119,c120,h9⟩:=ck2 h4
   have t2 {Q:Prop} (q:Q):=aO c111 c112 c119 (oD c111) c120 c119 (oD c111) q
   refine ZaY h9 (fun c121 h10=>?_) (fun c121 h11=>?_)
   ·obtain ⟨c122,c123,c124,h12⟩:=ck3 h10
    exact aqd fol (o1 ++ [.c false,.r [],.r [],.c true,.d {ds:=[],hv:=16384,Hs:=[16384]},.s 4]) [1,2,4,5,6] [2,4,5] (t2 (aO c121 c119 (oD c111) c122 c123 c124 c119 (oD c111))) (Zam.p4_ok h12 hE hc3)
   ·exact aq fol (o1 ++ [.c false,.r [],.r [],.c false,.s 4]) [1,2,4,5,6] [2,4,5] (t2 c121) (Zam.p4_ok h11 hE hc3)
 ·obtain rfl:=Zac h2
  exact af fol hE [.r [],.c false,.r []] [] 0 [] c111
theorem Zam.p2_ok {n_13 a_18 st r c2_ J2} (h:Zam.p2 N c2_ (n_13,a_18)=some r) (hE:En Tryz.f69 g0 w0 (Zam.rs r) st R) (hc2 : ∀n_13 a_18,c2_ (n_13,a_18)=some r→At g0 w0 (Zam.p2.S n_13 a_18 st) J2):At g0 w0 (Zam.p2.S n_13 a_18 st) (XK zF R (.c (Zbn Zam.B [1,1,1,1,0,0,0]) :: .h J2 :: [.b 2,.c (Zbn Zam.B [1,1,1,1,1])])):=by
 unfold Zam.p2 at h
 refine ZaY h (fun c95 h13=>?_) (fun c95 h14=>?_)
 ·exact an fol [.r [],.c true,.r [(6,{m:=3})],.r []] [1,2,4,5] [2,4,5] (aI c95 (ix 1 4 (ix 2 4 (aI (leI 0 3) (ltI 3 4))))) (hc2 (w64 (n_13+64)) [zD a_18 1 0,zD a_18 2 0,zD a_18 3 0,0] h13)
 ·refine ZaY h14 (fun c96 h15=>?_) (fun c96 h16=>?_)
  ·obtain rfl:=Zac h15
   exact af fol hE [.r [],.c false,.r [],.c true,.r []] [] 0 [] (aI c95 c96)
  ·exact aq fol [.r [],.c false,.r [],.c false,.r []] [1,2,4,5,6] [2,4,5] (aI c95 c96) (At.loop N (At.loopN (fun y:Int×(List Int)=>Zam.p3.S n_13 y.1 a_18 y.2 st) (fun c J hc y h=>Zam.p3_ok (i_19:=y.1) (out_21:=y.2) h hE (fun i_19 out_21=>hc (i_19,out_21))) N (0,zB 4 0) h16))
theorem Zam.p1_ok {n_1 a_12 st r c1_ J1} (h:Zam.p1 N c1_ (n_1,a_12)=some r) (hE:En Tryz.f69 g0 w0 (Zam.rs r) st R) (hc1 : ∀n_1 a_12,c1_ (n_1,a_12)=some r→At g0 w0 (Zam.p1.S n_1 a_12 st) J1):At g0 w0 (Zam.p1.S n_1 a_12 st) (XK zF R (.c (Zbn Zam.B [1,1,1,0,0,0]) :: .h J1 :: [.b 0,.c (Zbn Zam.B [1,1,1,1])])):=by
 unfold Zam.p1 at h
 refine ZaY h (fun c64 h17=>?_) (fun c64 h18=>?_)
 ·exact an fol [.r [],.c true,.r [(6,{m:=3})],.r []] [1,2,4,5] [2,4,5] (aI c64 (ix 0 4 (ix 1 4 (aI (leI 0 2) (ltI 2 4))))) (hc1 (w64 (n_1-64)) [0,zD a_12 0 0,zD a_12 1 0,zD a_12 2 0] h17)
 ·exact aq fol [.r [],.c false] [1,2,4,5] [2,4,5] c64 (At.loop N (At.loopN (fun y:Int×(List Int)=>Zam.p2.S y.1 y.2 st) (fun c J hc y h=>Zam.p2_ok (n_13:=y.1) (a_18:=y.2) h hE (fun n_13 a_18=>hc (n_13,a_18))) N (n_1,a_12) h18))
theorem Zam.snd {a_0_0:List Int} {n_1:Int} {r:(List Int)} (h:Zam N a_0_0 n_1=some r):Zde zF 69 [.agg [zH .u64 4 a_0_0],oI n_1] (Zam.rs r):=fun st=>
 sO Zam.B Tryz.func69 fun g0 w0 R hE=>by
  unfold Zam at h
  refine ZaY h (fun c1 h19=>?_) (fun c1 h20=>?_)
  ·obtain rfl:=Zac h19
   exact af fol hE [.r [],.r [],.r [(3,wF),(4,wF)],.c true,.r []] [] 0 [] (aK c1 c1 c1 eT)
  ·let o2:List PS:=[.r [],.r [],.r [(5,yF)]]
   refine ZaY h20 (fun c2 h21=>?_) (fun c2 h22=>?_)
   ·obtain rfl:=Zac h21
    exact af fol hE (o2 ++ [.c true,.r []]) [] 0 [] (aK c1 c1 c1 c2)
   ·exact aq fol (o2 ++ [.c false]) [1,2,4,5] [2,4,5] (aK c1 c1 c1 c2) (At.loop N (At.loopN (fun y:Int×(List Int)=>Zam.p1.S y.1 y.2 st) (fun c J hc y h=>Zam.p1_ok (n_1:=y.1) (a_12:=y.2) h hE (fun n_1 a_12=>hc (n_1,a_12))) N (n_1,a_0_0) h22))
def ZaG.B:Code:=Tryz.f41.body.getD .skip
def ZaG.rs (r:(List Int)×Bool×Bool):List CV:=[.agg [zH .u64 4 r.1],oB r.2.1,oB r.2.2]
def ZaG.p1 (N:Nat) (bits_0:Int) (over_2:Bool) (x1:List Int):Option ((List Int)×Bool×Bool):=
 if (decide ((zT bits_0 8388608)>0))=true then
  some (x1,(zT (w64 (zN bits_0 8388608)) 2)==1,over_2)
 else
 some (x1,false,over_2)
def ZaG (N:Nat) (bits_0:Int):Option ((List Int)×Bool×Bool):=
 if (decide (bits_0<0))=true then
  some (zB 4 0,false,false)
 else
 if (decide (bits_0>4294967295))=true then
  some (zB 4 0,false,false)
 else
 Zbt (Zam N [v64 (zT bits_0 8388608),0,0,0] (w64 (8*(w64 ((w64 (zN bits_0 16777216))-3))))) fun x1=>
 if (decide ((zT bits_0 8388608)>0))=true then
  if (decide ((w64 (zN bits_0 16777216))>34))=true then
   ZaG.p1 N bits_0 true x1
  else
  if (decide ((zT bits_0 8388608)>255))=true then
   if (decide ((w64 (zN bits_0 16777216))>33))=true then
    ZaG.p1 N bits_0 true x1
   else
   if (decide ((zT bits_0 8388608)>65535))=true then
    ZaG.p1 N bits_0 (decide ((w64 (zN bits_0 16777216))>32)) x1
   else
   ZaG.p1 N bits_0 false x1
  else
  if (decide ((zT bits_0 8388608)>65535))=true then
   ZaG.p1 N bits_0 (decide ((w64 (zN bits_0 16777216))>32)) x1
  else
  ZaG.p1 N bits_0 false x1
 else
 if (decide ((zT bits_0 8388608)>255))=true then
  if (decide ((w64 (zN bits_0 16777216))>33))=true then
   ZaG.p1 N bits_0 true x1
  else
  if (decide ((zT bits_0 8388608)>65535))=true then
   ZaG.p1 N bits_0 (decide ((w64 (zN bits_0 16777216))>32)) x1
  else
  ZaG.p1 N bits_0 false x1
 else
 if (decide ((zT bits_0 8388608)>65535))=true then
  ZaG.p1 N bits_0 (decide ((w64 (zN bits_0 16777216))>32)) x1
 else
 ZaG.p1 N bits_0 false x1
def ZaG.p1.S (bits_0:Int) (over_2:Bool) (x1:List Int) (st:LL):S:=mkS 61 [(2,sA 2),(6,sI (zT bits_0 8388608)),(7,.one (.l (uA ((zT (w64 (zN bits_0 8388608)) 2)==1)))),(8,sA 8),(9,.one (.l (uA over_2)))] [(2,.cells [zH .u64 4 (zB 4 0)]),(8,.cells [zH .u64 4 x1])] st
theorem ZaG.p1_ok {bits_0 over_2 x1 st r} (h:ZaG.p1 N bits_0 over_2 x1=some r) (hE:En Tryz.f41 g0 w0 (ZaG.rs r) st R):At g0 w0 (ZaG.p1.S bits_0 over_2 x1 st) (XK zF R [.c (Zbn ZaG.B [1,1,1,1,1,1,1])]):=by
 unfold ZaG.p1 at h
 refine ZaY h (fun c14 h1=>?_) (fun c14 h2=>?_)
 ·obtain rfl:=Zac h1
  exact af fol hE [.r []] [] 0 [] (aI c14 c14)
 ·obtain rfl:=Zac h2
  exact af fol hE [.r [(4,wF),(5,yF)]] [] 0 [] (aI c14 c14)
theorem ZaG.snd {bits_0:Int} {r:(List Int)×Bool×Bool} (h:ZaG N bits_0=some r):Zde zF 41 [oI bits_0] (ZaG.rs r):=fun st=>
 sO ZaG.B Tryz.func41 fun g0 w0 R hE=>by
  unfold ZaG at h
  refine ZaY h (fun c1 h3=>?_) (fun c1 h4=>?_)
  ·obtain rfl:=Zac h3
   exact af fol hE [.r [],.r [(3,wF),(4,wF)],.c true,.r []] [] 0 [] (aK c1 c1 c1 eT)
  ·let o1:List PS:=[.r [],.r [(5,yF)]]
   have t1 {Q:Prop} (q:Q):=aK c1 c1 c1 q
   refine ZaY h4 (fun c2 h5=>?_) (fun c2 h6=>?_)
   ·obtain rfl:=Zac h5
    exact af fol hE (o1 ++ [.c true,.r []]) [] 0 [] (t1 c2)
   ·obtain ⟨x1,c3,h7⟩:=Zaf h6
    let o2:List PS:=o1 ++ [.c false,.r [],.r [],.r [],.r [(2,{m:=3}),(6,q1 [.agg [zH .u64 4 x1]])]]
    have t2 {Q:Prop} (q:Q):=t1 (aN c2 (neI 16777216) (neI 8388608) (neI 8388608) (neI 2) (Zam.snd c3) q)
    refine ZaY h7 (fun c4 h8=>?_) (fun c4 h9=>?_)
    ·have t3 {Q:Prop} (q:Q):=t2 (aK c4 c4 c4 q)
     refine ZaY h8 (fun c5 h10=>?_) (fun c5 h11=>?_)
     ·exact aq fol (o2 ++ [.r [(7,wF),(8,wF),(9,wF),(12,wF),(15,wF),(16,wF),(17,wF),(20,wF)],.s 1]) [2,6,7,8,9] [2,8] (t3 (aO c5 c5 c5 c5 c5 eT eT (aJ eT eT eT))) (ZaG.p1_ok h10 hE)
     ·have t4 {Q:Prop} (q:Q):=t3 (aK c5 c5 c5 q)
      refine ZaY h11 (fun c6 h12=>?_) (fun c6 h13=>?_)
      ·refine ZaY h12 (fun c7 h14=>?_) (fun c7 h15=>?_)
       ·exact aq fol (o2 ++ [.r [(13,yF),(15,wF),(16,wF),(17,wF),(20,wF)],.s 1]) [2,6,7,8,9] [2,8] (t4 (aO c6 c6 c5 c6 c5 c7 c7 (aJ c7 c7 c7))) (ZaG.p1_ok h14 hE)
       ·refine ZaY h15 (fun c8 h16=>?_) (fun c8 h17=>?_)
        ·exact aq fol (o2 ++ [.r [(13,yF),(21,yF)],.s 1]) [2,6,7,8,9] [2,8] (t4 (aO c6 c6 c5 c6 c5 c7 c7 (aM c7 c8 c8 c7 c8 c7))) (ZaG.p1_ok h16 hE)
        ·exact aq fol (o2 ++ [.r [(13,yF),(18,wF),(19,wF),(20,yF),(21,yF)],.s 1]) [2,6,7,8,9] [2,8] (t4 (aO c6 c6 c5 c6 c5 c7 c7 (aM c7 c8 c8 c7 c8 c7))) (ZaG.p1_ok h17 hE)
      ·have t5 {Q:Prop} (q:Q):=t4 (aO c6 c6 c5 c6 c5 eF eF (aI eF q))
       refine ZaY h13 (fun c9 h18=>?_) (fun c9 h19=>?_)
       ·exact aq fol (o2 ++ [.r [(10,wF),(11,wF),(12,yF),(13,yF),(21,yF)],.s 1]) [2,6,7,8,9] [2,8] (t5 (aL c9 c9 eF c9 eF)) (ZaG.p1_ok h18 hE)
       ·exact aq fol (o2 ++ [.r [(10,wF),(11,wF),(12,yF),(13,yF),(18,wF),(19,wF),(20,yF),(21,yF)],.s 1]) [2,6,7,8,9] [2,8] (t5 (aL c9 c9 eF c9 eF)) (ZaG.p1_ok h19 hE)
    ·have t6 {Q:Prop} (q:Q):=t2 (aN c4 c4 c4 eF eF eF q)
     refine ZaY h9 (fun c10 h20=>?_) (fun c10 h21=>?_)
     ·have t7 {Q:Prop} (q:Q):=t6 (aM c10 c10 eF c10 eF q)
      refine ZaY h20 (fun c11 h22=>?_) (fun c11 h23=>?_)
      ·exact aq fol (o2 ++ [.r [(3,wF),(4,wF),(5,yF),(13,yF),(15,wF),(16,wF),(17,wF),(20,wF)],.s 1]) [2,6,7,8,9] [2,8] (t7 (aL c11 c11 c11 c11 c11)) (ZaG.p1_ok h22 hE)
      ·refine ZaY h23 (fun c12 h24=>?_) (fun c12 h25=>?_)
       ·exact aq fol (o2 ++ [.r [(3,wF),(4,wF),(5,yF),(13,yF),(21,yF)],.s 1]) [2,6,7,8,9] [2,8] (t7 (aO c11 c11 c11 c12 c12 c11 c12 c11)) (ZaG.p1_ok h24 hE)
       ·exact aq fol (o2 ++ [.r [(3,wF),(4,wF),(5,yF),(13,yF),(18,wF),(19,wF),(20,yF),(21,yF)],.s 1]) [2,6,7,8,9] [2,8] (t7 (aO c11 c11 c11 c12 c12 c11 c12 c11)) (ZaG.p1_ok h25 hE)
     ·have t8 {Q:Prop} (q:Q):=t6 (aO c10 c10 eF c10 eF eF eF (aI eF q))
      refine ZaY h21 (fun c13 h26=>?_) (fun c13 h27=>?_)
      ·exact aq fol (o2 ++ [.r [(3,wF),(4,wF),(5,yF),(10,wF),(11,wF),(12,yF),(13,yF),(21,yF)],.s 1]) [2,6,7,8,9] [2,8] (t8 (aL c13 c13 eF c13 eF)) (ZaG.p1_ok h26 hE)
      ·exact aq fol (o2 ++ [.r [(3,wF),(4,wF),(5,yF),(10,wF),(11,wF),(12,yF),(13,yF),(18,wF),(19,wF),(20,yF),(21,yF)],.s 1]) [2,6,7,8,9] [2,8] (t8 (aL c13 c13 eF c13 eF)) (ZaG.p1_ok h27 hE)
def Zcj.B:Code:=Tryz.f79.body.getD .skip
def Zcj.rs (r:Int):List CV:=[oI r]
def Zcj (N:Nat) (a_0_0:List Int) (i_1:Int):Option Int:=
 if (decide (i_1<0))=true then
  some 0
 else
 if (decide (i_1>255))=true then
  some 0
 else
 chk (0≤(w64 (zN i_1 64)))<|
 chk ((w64 (zN i_1 64))<4)<|
 chk (0≤(v64 (zT i_1 64)))<|
 some (w64 (zT (Zba .u64 (zD a_0_0 (zE (w64 (zN i_1 64))) 0) (v64 (zT i_1 64))) 2))
theorem Zcj.snd {a_0_0:List Int} {i_1:Int} {r:Int} (h:Zcj N a_0_0 i_1=some r):Zde zF 79 [.agg [zH .u64 4 a_0_0],oI i_1] (Zcj.rs r):=fun st=>
 sO Zcj.B Tryz.func79 fun g0 w0 R hE=>by
  unfold Zcj at h
  refine ZaY h (fun c1 h1=>?_) (fun c1 h2=>?_)
  ·obtain rfl:=Zac h1
   exact af fol hE [.r [],.r [(3,wF),(4,wF)],.c true,.r []] [] 0 [] (aK c1 c1 c1 eT)
  ·refine ZaY h2 (fun c2 h3=>?_) (fun c2 h4=>?_)
   ·obtain rfl:=Zac h3
    exact af fol hE [.r [],.r [(5,yF)],.c true,.r []] [] 0 [] (aK c1 c1 c1 c2)
   ·obtain ⟨c3,c4,c5,h5⟩:=ck3 h4
    obtain rfl:=Zac h5
    exact af fol hE [.r [],.r [(5,yF)],.c false,.r []] [] 0 [] (aO c1 c1 c1 c2 (neI 64) c3 c4 (aJ (neI 64) c5 (neI 2)))
def Zbe.B:Code:=Tryz.f62.body.getD .skip
def Zbe.rs (r:Bool):List CV:=[oB r]
def Zbe.p1 (N:Nat) (a_0_0 b_1_0:List Int) (c1_:Int→Option Bool):Int→Option Bool:=fun i_1=>
 if (decide (i_1≥0))=true then
  Zbt (Zcj N a_0_0 i_1) fun x2=>
  Zbt (Zcj N b_1_0 i_1) fun x3=>
  if (x2 != x3)=true then
   some (decide (x2<x3))
  else
  c1_ (w64 (i_1-1))
 else
 some false
def Zbe (N:Nat) (a_0_0 b_1_0:List Int):Option Bool:=
 loopN (Zbe.p1 N a_0_0 b_1_0) N 255
def Zbe.p1.S (i_1:Int) (a_0_0 b_1_0:List Int) (st:LL):S:=mkS 24 [(2,sA 2),(3,sA 3),(5,sI i_1)] [(2,.cells [zH .u64 4 a_0_0]),(3,.cells [zH .u64 4 b_1_0])] st
theorem Zbe.p1_ok {i_1 a_0_0 b_1_0 st r c1_ J1} (h:Zbe.p1 N a_0_0 b_1_0 c1_ i_1=some r) (hE:En Tryz.f62 g0 w0 (Zbe.rs r) st R) (hc1 : ∀i_1,c1_ i_1=some r→At g0 w0 (Zbe.p1.S i_1 a_0_0 b_1_0 st) J1):At g0 w0 (Zbe.p1.S i_1 a_0_0 b_1_0 st) (XK zF R (.c (Zbn Zbe.B [1,0,1,0,0]) :: .h J1 :: [.b 0,.c (Zbn Zbe.B [1,1])])):=by
 unfold Zbe.p1 at h
 refine ZaY h (fun c1 h1=>?_) (fun c1 h2=>?_)
 ·obtain ⟨x2,c2,h3⟩:=Zaf h1
  obtain ⟨x3,c3,h4⟩:=Zaf h3
  let o1:List PS:=[.r [],.c true,.d {ds:=[(2,q1 [oI x2]),(5,q1 [oI x3])],hv:=0,Hs:=[]}]
  have t1 {Q:Prop} (q:Q):=aK c1 (Zcj.snd c2) (Zcj.snd c3) q
  refine ZaY h4 (fun c4 h5=>?_) (fun c4 h6=>?_)
  ·obtain rfl:=Zac h5
   exact afd fol hE (o1 ++ [.c true,.d {ds:=[(2,q1 [oI x2]),(5,q1 [oI x3])],hv:=0,Hs:=[]}]) [] 0 [] (t1 (aJ c4 (Zcj.snd c2) (Zcj.snd c3)))
  ·exact ZiS fol (o1 ++ [.c false,.r []]) [2,3,5] [2,3] (t1 c4) (hc1 (w64 (i_1-1)) h6)
 ·obtain rfl:=Zac h2
  exact af fol hE [.r [],.c false,.r []] [] 0 [] c1
theorem Zbe.snd {a_0_0 b_1_0:List Int} {r:Bool} (h:Zbe N a_0_0 b_1_0=some r):Zde zF 62 [.agg [zH .u64 4 a_0_0],.agg [zH .u64 4 b_1_0]] (Zbe.rs r):=fun st=>
 sO Zbe.B Tryz.func62 fun g0 w0 R hE=>by
  unfold Zbe at h
  exact aq fol [.r [],.r []] [2,3,5] [2,3] trivial (At.loop N (At.loopN (fun y:Int=>Zbe.p1.S y a_0_0 b_1_0 st) (fun c J hc y h=>Zbe.p1_ok h hE (fun i_1=>hc i_1)) N 255 h))
def ZbZ.B:Code:=Tryz.f37.body.getD .skip
def ZbZ.rs (r:(List Int)×Bool):List CV:=[.agg [zH .u64 4 r.1],oB r.2]
def ZbZ (N:Nat) (bits_0 limit_1:Int):Option ((List Int)×Bool):=
 Zbt (ZaG N bits_0) fun (x1,x2,x3)=>
 Zbt (ZaG N limit_1) fun (x4,x5,x6)=>
 if x2=true then
  some (zB 4 0,false)
 else
 if x3=true then
  some (zB 4 0,false)
 else
 if x5=true then
  some (zB 4 0,false)
 else
 if x6=true then
  some (zB 4 0,false)
 else
 if (x1==(zB 4 0))=true then
  some (zB 4 0,false)
 else
 Zbt (Zbe N x4 x1) fun x7=>
 if x7=true then
  some (zB 4 0,false)
 else
 some (x1,true)
theorem ZbZ.snd {bits_0 limit_1:Int} {r:(List Int)×Bool} (h:ZbZ N bits_0 limit_1=some r):Zde zF 37 [oI bits_0,oI limit_1] (ZbZ.rs r):=fun st=>
 sO ZbZ.B Tryz.func37 fun g0 w0 R hE=>by
  unfold ZbZ at h
  obtain ⟨⟨x1,x2,x3⟩,c1,h1⟩:=Zaf h
  obtain ⟨⟨x4,x5,x6⟩,c2,h2⟩:=Zaf h1
  let o1:List PS:=[.r [],.r [(1,q1 [.agg [zH .u64 4 x1],oB x2,oB x3])],.r [(1,q1 [.agg [zH .u64 4 x4],oB x5,oB x6])]]
  have t1 {Q:Prop} (q:Q):=aJ (ZaG.snd c1) (ZaG.snd c2) q
  refine ZaY h2 (fun c3 h3=>?_) (fun c3 h4=>?_)
  ·obtain rfl:=Zac h3
   exact af fol hE (o1 ++ [.r [(2,wF),(5,wF),(8,wF),(11,wF),(12,wF),(13,wF),(16,wF),(17,wF),(18,wF)],.c true,.r []]) [] 0 [] (t1 (aO c3 c3 eT eT eT eT eT (aO eT eT eT eT eT eT eT eT)))
  ·refine ZaY h4 (fun c4 h5=>?_) (fun c4 h6=>?_)
   ·obtain rfl:=Zac h5
    exact af fol hE (o1 ++ [.r [(3,yF),(5,wF),(8,wF),(11,wF),(12,wF),(13,wF),(16,wF),(17,wF),(18,wF)],.c true,.r []]) [] 0 [] (t1 (aO c3 c3 c4 c4 eT eT eT (aO eT eT eT eT eT eT eT eT)))
   ·have t2 {Q:Prop} (q:Q):=t1 (aL c3 c3 c4 c4 q)
    refine ZaY h6 (fun c5 h7=>?_) (fun c5 h8=>?_)
    ·obtain rfl:=Zac h7
     exact af fol hE (o1 ++ [.r [(3,yF),(6,yF),(8,wF),(11,wF),(12,wF),(13,wF),(16,wF),(17,wF),(18,wF)],.c true,.r []]) [] 0 [] (t2 (aO c5 c5 eT eT eT eT eT (aK eT eT eT eT)))
    ·refine ZaY h8 (fun c6 h9=>?_) (fun c6 h10=>?_)
     ·obtain rfl:=Zac h9
      exact af fol hE (o1 ++ [.r [(3,yF),(6,yF),(9,yF),(11,wF),(12,wF),(13,wF),(16,wF),(17,wF),(18,wF)],.c true,.r []]) [] 0 [] (t2 (aO c5 c5 c6 c6 c6 c6 eT (aK eT eT eT eT)))
     ·have t3 {Q:Prop} (q:Q):=t2 (aN c5 c5 c6 c6 c6 c6 q)
      refine ZaY h10 (fun c7 h11=>?_) (fun c7 h12=>?_)
      ·obtain rfl:=Zac h11
       exact af fol hE (o1 ++ [.r [(3,yF),(6,yF),(9,yF),(14,yF),(16,wF),(17,wF),(18,wF)],.c true,.r []]) [] 0 [] (t3 (aL c7 c7 c7 c7 eT))
      ·obtain ⟨x7,c8,h13⟩:=Zaf h12
       let o2:List PS:=o1 ++ [.r [(3,yF),(6,yF),(9,yF),(14,yF),(18,q1 [oB x7]),(19,yF)]]
       refine ZaY h13 (fun c9 h14=>?_) (fun c9 h15=>?_)
       ·obtain rfl:=Zac h14
        exact af fol hE (o2 ++ [.c true,.r []]) [] 0 [] (t3 (aM c7 c7 c7 (Zbe.snd c8) c7 c9))
       ·obtain rfl:=Zac h15
        exact af fol hE (o2 ++ [.c false,.r []]) [] 0 [] (t3 (aM c7 c7 c7 (Zbe.snd c8) c7 c9))
def ZcS.B:Code:=Tryz.f20.body.getD .skip
def ZcS.rs (r:Bool):List CV:=[oB r]
def ZcS (N:Nat) (p_0:Zae):Option Bool:=
 Zbt (ZbZ N p_0.Limit p_0.Limit) fun (x1,x2)=>
 if x2=true then
  if (decide (p_0.Interval≥2))=true then
   if (decide (p_0.Interval≤64))=true then
    if (decide (p_0.Spacing≥1))=true then
     if (decide (p_0.Spacing≤10000))=true then
      if (decide (p_0.Future≥0))=true then
       some (decide (p_0.Future<4294967296))
      else
      some false
     else
     some false
    else
    some false
   else
   some false
  else
  some false
 else
 some false
theorem ZcS.snd {p_0:Zae} {r:Bool} (h:ZcS N p_0=some r):Zde zF 20 [.agg p_0.ls] (ZcS.rs r):=fun st=>
 sO ZcS.B Tryz.func20 fun g0 w0 R hE=>by
  unfold ZcS at h
  obtain ⟨⟨x1,x2⟩,c1,h1⟩:=Zaf h
  let o1:List PS:=[.r [],.r [(4,q1 [.agg [zH .u64 4 x1],oB x2])]]
  have t1 {Q:Prop} (q:Q):=aI (ZbZ.snd c1) q
  refine ZaY h1 (fun c2 h2=>?_) (fun c2 h3=>?_)
  ·have t2 {Q:Prop} (q:Q):=t1 (aL c2 c2 c2 c2 q)
   refine ZaY h2 (fun c3 h4=>?_) (fun c3 h5=>?_)
   ·have t3 {Q:Prop} (q:Q):=t2 (aL c3 c3 c3 c3 q)
    refine ZaY h4 (fun c4 h6=>?_) (fun c4 h7=>?_)
    ·have t4 {Q:Prop} (q:Q):=t3 (aL c4 c4 c4 c4 q)
     refine ZaY h6 (fun c5 h8=>?_) (fun c5 h9=>?_)
     ·refine ZaY h8 (fun c6 h10=>?_) (fun c6 h11=>?_)
      ·refine ZaY h10 (fun c7 h12=>?_) (fun c7 h13=>?_)
       ·obtain rfl:=Zac h12
        exact af fol hE (o1 ++ [.r []]) [] 0 [] (t4 (aO c5 c5 c5 c5 c6 c6 c6 (aL c6 c7 c7 c7 c7)))
       ·obtain rfl:=Zac h13
        exact af fol hE (o1 ++ [.r [(27,wF),(28,wF),(29,wF),(30,yF)]]) [] 0 [] (t4 (aO c5 c5 c5 c5 c6 c6 c6 (aL c6 c7 c7 c7 c7)))
      ·obtain rfl:=Zac h11
       exact af fol hE (o1 ++ [.r [(22,wF),(23,wF),(24,wF),(25,yF),(27,wF),(28,wF),(29,wF),(30,yF)]]) [] 0 [] (t4 (aO c5 c5 c5 c5 c6 c6 c6 (aL c6 eF eF eF eF)))
     ·obtain rfl:=Zac h9
      exact af fol hE (o1 ++ [.r [(17,wF),(18,wF),(19,wF),(20,yF),(22,wF),(23,wF),(24,wF),(25,yF),(27,wF),(28,wF),(29,wF),(30,yF)]]) [] 0 [] (t4 (aO c5 c5 c5 c5 eF eF eF (aL eF eF eF eF eF)))
    ·obtain rfl:=Zac h7
     exact af fol hE (o1 ++ [.r [(12,wF),(13,wF),(14,wF),(15,yF),(17,wF),(18,wF),(19,wF),(20,yF),(22,wF),(23,wF),(24,wF),(25,yF),(27,wF),(28,wF),(29,wF),(30,yF)]]) [] 0 [] (t3 (aO c4 c4 c4 c4 eF eF eF (aO eF eF eF eF eF eF eF (aI eF eF))))
   ·obtain rfl:=Zac h5
    exact af fol hE (o1 ++ [.r [(7,wF),(8,wF),(9,wF),(10,yF),(12,wF),(13,wF),(14,wF),(15,yF),(17,wF),(18,wF),(19,wF),(20,yF),(22,wF),(23,wF),(24,wF),(25,yF),(27,wF),(28,wF),(29,wF),(30,yF)]]) [] 0 [] (t2 (aO c3 c3 c3 c3 eF eF eF (aO eF eF eF eF eF eF eF (aM eF eF eF eF eF eF))))
  ·obtain rfl:=Zac h3
   exact af fol hE (o1 ++ [.r [(2,wF),(3,wF),(4,wF),(5,yF),(7,wF),(8,wF),(9,wF),(10,yF),(12,wF),(13,wF),(14,wF),(15,yF),(17,wF),(18,wF),(19,wF),(20,yF),(22,wF),(23,wF),(24,wF),(25,yF),(27,wF),(28,wF),(29,wF),(30,yF)]]) [] 0 [] (t1 (aO c2 c2 c2 c2 eF eF eF (aO eF eF eF eF eF eF eF (aO eF eF eF eF eF eF eF (aJ eF eF eF)))))
def ZaW.B:Code:=Tryz.f6.body.getD .skip
def ZaW.rs (r:Bool):List CV:=[oB r]
def ZaW.p2 (N:Nat) (p_0:Zae) (c2_:(Int×Int)→Option Bool):(Int×Int)→Option Bool:=fun (last_6,v7)=>
 if (decide (v7<(len p_0.Checks)))=true then
  chk (0≤v7)<|
  Zds (p_0.Checks[zE v7]?) Zdz fun x8=>
  if (decide (x8.Height≤last_6))=true then
   some false
  else
  c2_ (x8.Height,w64 (v7+1))
 else
 some true
def ZaW.p1 (N:Nat) (p_0:Zae) (c1_:(Int×Int)→Option Bool):(Int×Int)→Option Bool:=fun (last_3,v4)=>
 if (decide (v4<(len p_0.Gates)))=true then
  chk (0≤v4)<|
  Zds (p_0.Gates[zE v4]?) ZcW fun x5=>
  if (decide (x5.Height≤last_3))=true then
   some false
  else
  c1_ (x5.Height,w64 (v4+1))
 else
 loopN (ZaW.p2 N p_0) N (0,0)
def ZaW (N:Nat) (p_0:Zae):Option Bool:=
 Zbt (ZcS N p_0) fun x1=>
 if (!x1)=true then
  some false
 else
 Zbt (Zcq N p_0.Genesis) fun x2=>
 if (!x2)=true then
  some false
 else
 loopN (ZaW.p1 N p_0) N ((-1),0)
def ZaW.p2.S (last_6:Int) (p_0:Zae) (v7:Int) (st:LL):S:=mkS 45 [(3,sI last_6),(32,sV 33 p_0.Checks),(33,sI (len p_0.Checks)),(34,sI v7)] [] st
def ZaW.p1.S (last_3:Int) (p_0:Zae) (v4:Int) (st:LL):S:=mkS 45 [(1,sA 1),(3,sI last_3),(18,sV 2 p_0.Gates),(19,sI (len p_0.Gates)),(20,sI v4)] [(1,.cells p_0.ls)] st
theorem ZaW.p2_ok {last_6 p_0 v7 st r c2_ J2} (h:ZaW.p2 N p_0 c2_ (last_6,v7)=some r) (hE:En Tryz.f6 g0 w0 (ZaW.rs r) st R) (hc2 : ∀last_6 v7,c2_ (last_6,v7)=some r→At g0 w0 (ZaW.p2.S last_6 p_0 v7 st) J2):At g0 w0 (ZaW.p2.S last_6 p_0 v7 st) (XK zF R (.c (Zbn ZaW.B [1,1,1,1,1,0,1,0,0]) :: .h J2 :: [.b 2,.c (Zbn ZaW.B [1,1,1,1,1,1])])):=by
 unfold ZaW.p2 at h
 refine ZaY h (fun c9 h1=>?_) (fun c9 h2=>?_)
 ·obtain ⟨c10,h3⟩:=ZaP h1
  obtain ⟨x8,c11,h4⟩:=ZdI h3
  let o1:List PS:=[.r [],.c true,.r [(1,{oe:=x8.ls})],.r []]
  refine ZaY h4 (fun c12 h5=>?_) (fun c12 h6=>?_)
  ·obtain rfl:=Zac h5
   exact af fol hE (o1 ++ [.c true,.r []]) [] 0 [] (aL c9 c10 (oD c9) c11 c12)
  ·exact an fol (o1 ++ [.c false,.r [],.r []]) [3,32,33,34] [] (aL c9 c10 (oD c9) c11 c12) (hc2 x8.Height (w64 (v7+1)) h6)
 ·obtain rfl:=Zac h2
  exact af fol hE [.r [],.c false,.r []] [] 0 [] c9
theorem ZaW.p1_ok {last_3 p_0 v4 st r c1_ J1} (h:ZaW.p1 N p_0 c1_ (last_3,v4)=some r) (hE:En Tryz.f6 g0 w0 (ZaW.rs r) st R) (hc1 : ∀last_3 v4,c1_ (last_3,v4)=some r→At g0 w0 (ZaW.p1.S last_3 p_0 v4 st) J1):At g0 w0 (ZaW.p1.S last_3 p_0 v4 st) (XK zF R (.c (Zbn ZaW.B [1,1,1,0,1,0,0]) :: .h J1 :: [.b 0,.c (Zbn ZaW.B [1,1,1,1])])):=by
 unfold ZaW.p1 at h
 refine ZaY h (fun c5 h7=>?_) (fun c5 h8=>?_)
 ·obtain ⟨c6,h9⟩:=ZaP h7
  obtain ⟨x5,c7,h10⟩:=ZcO h9
  let o2:List PS:=[.r [],.c true,.r [(1,{oe:=x5.ls})],.r []]
  refine ZaY h10 (fun c8 h11=>?_) (fun c8 h12=>?_)
  ·obtain rfl:=Zac h11
   exact af fol hE (o2 ++ [.c true,.r []]) [] 0 [] (aL c5 c6 (oD c5) c7 c8)
  ·exact an fol (o2 ++ [.c false,.r [],.r []]) [1,3,18,19,20] [1] (aL c5 c6 (oD c5) c7 c8) (hc1 x5.Height (w64 (v4+1)) h12)
 ·exact aq fol [.r [],.c false,.r [],.r []] [3,32,33,34] [] c5 (At.loop N (At.loopN (fun y:Int×Int=>ZaW.p2.S y.1 p_0 y.2 st) (fun c J hc y h=>ZaW.p2_ok (last_6:=y.1) (v7:=y.2) h hE (fun last_6 v7=>hc (last_6,v7))) N (0,0) h8))
theorem ZaW.snd {p_0:Zae} {r:Bool} (h:ZaW N p_0=some r):Zde zF 6 [.agg p_0.ls] (ZaW.rs r):=fun st=>
 sO ZaW.B Tryz.func6 fun g0 w0 R hE=>by
  unfold ZaW at h
  obtain ⟨x1,c1,h13⟩:=Zaf h
  have t1 {Q:Prop} (q:Q):=aI (ZcS.snd c1) q
  refine ZaY h13 (fun c2 h14=>?_) (fun c2 h15=>?_)
  ·obtain rfl:=Zac h14
   exact af fol hE [.r [],.r [(1,q1 [oB x1]),(4,wF),(5,wF),(6,wF),(7,wF)],.c true,.r []] [] 0 [] (t1 (aM (not_false (ZbB c2)) (not_false (ZbB c2)) (not_false (ZbB c2)) (not_false (ZbB c2)) (not_false (ZbB c2)) eT))
  ·obtain ⟨x2,c3,h16⟩:=Zaf h15
   let o3:List PS:=[.r [],.r [(1,q1 [oB x1]),(6,q1 [oB x2]),(8,yF)]]
   have t2 {Q:Prop} (q:Q):=t1 (aN (not_true (ZbC c2)) (not_true (ZbC c2)) (not_true (ZbC c2)) (Zcq.snd c3) (not_true (ZbC c2)) (not_true (ZbC c2)) q)
   refine ZaY h16 (fun c4 h17=>?_) (fun c4 h18=>?_)
   ·obtain rfl:=Zac h17
    exact af fol hE (o3 ++ [.c true,.r []]) [] 0 [] (t2 c4)
   ·exact aq fol (o3 ++ [.c false,.r [],.r []]) [1,3,18,19,20] [1] (t2 c4) (At.loop N (At.loopN (fun y:Int×Int=>ZaW.p1.S y.1 p_0 y.2 st) (fun c J hc y h=>ZaW.p1_ok (last_3:=y.1) (v4:=y.2) h hE (fun last_3 v4=>hc (last_3,v4))) N ((-1),0) h18))
def Zdl.B:Code:=Tryz.f80.body.getD .skip
def Zdl.rs (r:(List Int)):List CV:=[.agg [zH .u64 4 r]]
def Zdl (N:Nat) (a_0_0:List Int) (i_1:Int):Option (List Int):=
 chk (0≤(w64 (zN i_1 64)))<|
 chk ((w64 (zN i_1 64))<4)<|
 chk (0≤(v64 (zT i_1 64)))<|
 some (zP a_0_0 (zE (w64 (zN i_1 64))) (Zay .or .u64 (zD a_0_0 (zE (w64 (zN i_1 64))) 0) (Zbi .u64 1 (v64 (zT i_1 64)))))
theorem Zdl.snd {a_0_0:List Int} {i_1:Int} {r:(List Int)} (h:Zdl N a_0_0 i_1=some r):Zde zF 80 [.agg [zH .u64 4 a_0_0],oI i_1] (Zdl.rs r):=fun st=>
 sO Zdl.B Tryz.func80 fun g0 w0 R hE=>by
  unfold Zdl at h
  obtain ⟨c1,c2,c3,h1⟩:=ck3 h
  obtain rfl:=Zac h1
  exact af fol hE [.r [],.r [],.r []] [] 0 [] (aO (neI 64) (neI 64) c1 c2 (neI 64) c3 c1 c2)
def ZaQ.B:Code:=Tryz.f56.body.getD .skip
def ZaQ.rs (r:(List Int)×Bool):List CV:=[.agg [zH .u64 4 r.1],oB r.2]
def ZaQ.p2 (N:Nat) (c1_:(Int×Int×(List Int))→Option ((List Int)×Bool)) (i_2 x8 x9 c_1:Int) (a_0_0 b_1_0 out_11:List Int):Option ((List Int)×Bool):=
 c1_ (w64 (zN (w64 ((w64 (x8+x9))+c_1)) 2),w64 (i_2+1),out_11)
def ZaQ.p1 (N:Nat) (a_0_0 b_1_0:List Int) (c1_:(Int×Int×(List Int))→Option ((List Int)×Bool)):(Int×Int×(List Int))→Option ((List Int)×Bool):=fun (c_1,i_2,out_7)=>
 if (decide (i_2<256))=true then
  Zbt (Zcj N a_0_0 i_2) fun x8=>
  Zbt (Zcj N b_1_0 i_2) fun x9=>
  if ((zT (w64 ((w64 (x8+x9))+c_1)) 2)==1)=true then
   Zbt (Zdl N out_7 i_2) fun x10=>
   ZaQ.p2 N c1_ i_2 x8 x9 c_1 a_0_0 b_1_0 x10
  else
  ZaQ.p2 N c1_ i_2 x8 x9 c_1 a_0_0 b_1_0 out_7
 else
 some (out_7,c_1==1)
def ZaQ (N:Nat) (a_0_0 b_1_0:List Int):Option ((List Int)×Bool):=
 loopN (ZaQ.p1 N a_0_0 b_1_0) N (0,0,zB 4 0)
def ZaQ.p2.S (i_2 x8 x9 c_1:Int) (a_0_0 b_1_0 out_11:List Int) (st:LL):S:=mkS 35 [(2,sA 2),(3,sA 3),(4,sA 4),(6,sA 6),(8,sI i_2),(9,sI (w64 ((w64 (x8+x9))+c_1)))] [(2,.cells [zH .u64 4 a_0_0]),(3,.cells [zH .u64 4 b_1_0]),(4,.cells [zH .u64 4 (zB 4 0)]),(6,.cells [zH .u64 4 out_11])] st
def ZaQ.p1.S (c_1 i_2:Int) (a_0_0 b_1_0 out_7:List Int) (st:LL):S:=mkS 35 [(2,sA 2),(3,sA 3),(4,sA 4),(6,sA 6),(7,sI c_1),(8,sI i_2)] [(2,.cells [zH .u64 4 a_0_0]),(3,.cells [zH .u64 4 b_1_0]),(4,.cells [zH .u64 4 (zB 4 0)]),(6,.cells [zH .u64 4 out_7])] st
theorem ZaQ.p2_ok {i_2 x8 x9 c_1 a_0_0 b_1_0 out_11 st r c1_ J1} (h:ZaQ.p2 N c1_ i_2 x8 x9 c_1 a_0_0 b_1_0 out_11=some r) (hE:En Tryz.f56 g0 w0 (ZaQ.rs r) st R) (hc1 : ∀c_1 i_2 out_7,c1_ (c_1,i_2,out_7)=some r→At g0 w0 (ZaQ.p1.S c_1 i_2 a_0_0 b_1_0 out_7 st) J1):At g0 w0 (ZaQ.p2.S i_2 x8 x9 c_1 a_0_0 b_1_0 out_11 st) (XK zF R [.c (Zbn ZaQ.B [1,1,1,0,1,0,0,1,0,0,1,1]),.b 1,.c (Zbn ZaQ.B [1,1,1,0,1,0,0,1,1]),.h J1,.b 0,.c (Zbn ZaQ.B [1,1,1,1])]):=by
 unfold ZaQ.p2 at h
 exact an fol [.r [],.r []] [2,3,4,6,7,8] [2,3,4,6] (neI 2) (hc1 (w64 (zN (w64 ((w64 (x8+x9))+c_1)) 2)) (w64 (i_2+1)) out_11 h)
theorem ZaQ.p1_ok {c_1 i_2 a_0_0 b_1_0 out_7 st r c1_ J1} (h:ZaQ.p1 N a_0_0 b_1_0 c1_ (c_1,i_2,out_7)=some r) (hE:En Tryz.f56 g0 w0 (ZaQ.rs r) st R) (hc1 : ∀c_1 i_2 out_7,c1_ (c_1,i_2,out_7)=some r→At g0 w0 (ZaQ.p1.S c_1 i_2 a_0_0 b_1_0 out_7 st) J1):At g0 w0 (ZaQ.p1.S c_1 i_2 a_0_0 b_1_0 out_7 st) (XK zF R (.c (Zbn ZaQ.B [1,1,1,0,1,0,0]) :: .h J1 :: [.b 0,.c (Zbn ZaQ.B [1,1,1,1])])):=by
 unfold ZaQ.p1 at h
 refine ZaY h (fun c6 h1=>?_) (fun c6 h2=>?_)
 ·obtain ⟨x8,c7,h3⟩:=Zaf h1
  obtain ⟨x9,c8,h4⟩:=Zaf h3
  let o1:List PS:=[.r [],.c true,.d {ds:=[(2,q1 [oI x8]),(5,q1 [oI x9])],hv:=0,Hs:=[]},.r []]
  have t1 {Q:Prop} (q:Q):=aL c6 (Zcj.snd c7) (Zcj.snd c8) (neI 2) q
  refine ZaY h4 (fun c9 h5=>?_) (fun c9 h6=>?_)
  ·obtain ⟨x10,c10,h7⟩:=Zaf h5
   exact aqd fol (o1 ++ [.c true,.r [(2,q1 [.agg [zH .u64 4 x10]])],.s 6]) [2,3,4,6,8,9] [2,3,4,6] (t1 (aI c9 (Zdl.snd c10))) (ZaQ.p2_ok h7 hE hc1)
  ·exact aqd fol (o1 ++ [.c false,.s 6]) [2,3,4,6,8,9] [2,3,4,6] (t1 c9) (ZaQ.p2_ok h6 hE hc1)
 ·obtain rfl:=Zac h2
  exact af fol hE [.r [],.c false,.r []] [] 0 [] c6
theorem ZaQ.snd {a_0_0 b_1_0:List Int} {r:(List Int)×Bool} (h:ZaQ N a_0_0 b_1_0=some r):Zde zF 56 [.agg [zH .u64 4 a_0_0],.agg [zH .u64 4 b_1_0]] (ZaQ.rs r):=fun st=>
 sO ZaQ.B Tryz.func56 fun g0 w0 R hE=>by
  unfold ZaQ at h
  exact aq fol [.r [],.r [],.r [],.r []] [2,3,4,6,7,8] [2,3,4,6] trivial (At.loop N (At.loopN (fun y:Int×Int×(List Int)=>ZaQ.p1.S y.1 y.2.1 a_0_0 b_1_0 y.2.2 st) (fun c J hc y h=>ZaQ.p1_ok (c_1:=y.1) (i_2:=y.2.1) (out_7:=y.2.2) h hE (fun c_1 i_2 out_7=>hc (c_1,i_2,out_7))) N (0,0,zB 4 0) h))
def Zbd.B:Code:=Tryz.f81.body.getD .skip
def Zbd.rs (r:(List Int)):List CV:=[.agg [zH .u64 4 r]]
def Zbd.p2 (N:Nat) (c1_:(Int×(List Int))→Option (List Int)) (i_1:Int) (a_0_0 out_8:List Int):Option (List Int):=
 c1_ (w64 (i_1+1),out_8)
def Zbd.p1 (N:Nat) (a_0_0:List Int) (c1_:(Int×(List Int))→Option (List Int)):(Int×(List Int))→Option (List Int):=fun (i_1,out_5)=>
 if (decide (i_1<256))=true then
  Zbt (Zcj N a_0_0 i_1) fun x6=>
  if (x6==0)=true then
   Zbt (Zdl N out_5 i_1) fun x7=>
   Zbd.p2 N c1_ i_1 a_0_0 x7
  else
  Zbd.p2 N c1_ i_1 a_0_0 out_5
 else
 some out_5
def Zbd (N:Nat) (a_0_0:List Int):Option (List Int):=
 loopN (Zbd.p1 N a_0_0) N (0,zB 4 0)
def Zbd.p2.S (i_1:Int) (a_0_0 out_8:List Int) (st:LL):S:=mkS 18 [(1,sA 1),(2,sA 2),(3,sA 3),(4,sI i_1)] [(1,.cells [zH .u64 4 a_0_0]),(2,.cells [zH .u64 4 (zB 4 0)]),(3,.cells [zH .u64 4 out_8])] st
def Zbd.p1.S (i_1:Int) (a_0_0 out_5:List Int) (st:LL):S:=mkS 18 [(1,sA 1),(2,sA 2),(3,sA 3),(4,sI i_1)] [(1,.cells [zH .u64 4 a_0_0]),(2,.cells [zH .u64 4 (zB 4 0)]),(3,.cells [zH .u64 4 out_5])] st
theorem Zbd.p2_ok {i_1 a_0_0 out_8 st r c1_ J1} (h:Zbd.p2 N c1_ i_1 a_0_0 out_8=some r) (hE:En Tryz.f81 g0 w0 (Zbd.rs r) st R) (hc1 : ∀i_1 out_5,c1_ (i_1,out_5)=some r→At g0 w0 (Zbd.p1.S i_1 a_0_0 out_5 st) J1):At g0 w0 (Zbd.p2.S i_1 a_0_0 out_8 st) (XK zF R [.c (Zbn Zbd.B [1,1,0,1,0,0,1,1]),.h J1,.b 0,.c (Zbn Zbd.B [1,1,1])]):=by
 unfold Zbd.p2 at h
 exact an fol [.r []] [1,2,3,4] [1,2,3] trivial (hc1 (w64 (i_1+1)) out_8 h)
theorem Zbd.p1_ok {i_1 a_0_0 out_5 st r c1_ J1} (h:Zbd.p1 N a_0_0 c1_ (i_1,out_5)=some r) (hE:En Tryz.f81 g0 w0 (Zbd.rs r) st R) (hc1 : ∀i_1 out_5,c1_ (i_1,out_5)=some r→At g0 w0 (Zbd.p1.S i_1 a_0_0 out_5 st) J1):At g0 w0 (Zbd.p1.S i_1 a_0_0 out_5 st) (XK zF R (.c (Zbn Zbd.B [1,1,0,1,0,0]) :: .h J1 :: [.b 0,.c (Zbn Zbd.B [1,1,1])])):=by
 unfold Zbd.p1 at h
 refine ZaY h (fun c5 h1=>?_) (fun c5 h2=>?_)
 ·obtain ⟨x6,c6,h3⟩:=Zaf h1
  let o1:List PS:=[.r [],.c true,.r [(2,q1 [oI x6])]]
  refine ZaY h3 (fun c7 h4=>?_) (fun c7 h5=>?_)
  ·obtain ⟨x7,c8,h6⟩:=Zaf h4
   exact aq fol (o1 ++ [.c true,.r [(2,q1 [.agg [zH .u64 4 x7]])],.s 4]) [1,2,3,4] [1,2,3] (aK c5 (Zcj.snd c6) c7 (Zdl.snd c8)) (Zbd.p2_ok h6 hE hc1)
  ·exact aq fol (o1 ++ [.c false,.s 4]) [1,2,3,4] [1,2,3] (aJ c5 (Zcj.snd c6) c7) (Zbd.p2_ok h5 hE hc1)
 ·obtain rfl:=Zac h2
  exact af fol hE [.r [],.c false,.r []] [] 0 [] c5
theorem Zbd.snd {a_0_0:List Int} {r:(List Int)} (h:Zbd N a_0_0=some r):Zde zF 81 [.agg [zH .u64 4 a_0_0]] (Zbd.rs r):=fun st=>
 sO Zbd.B Tryz.func81 fun g0 w0 R hE=>by
  unfold Zbd at h
  exact aq fol [.r [],.r [],.r []] [1,2,3,4] [1,2,3] trivial (At.loop N (At.loopN (fun y:Int×(List Int)=>Zbd.p1.S y.1 a_0_0 y.2 st) (fun c J hc y h=>Zbd.p1_ok (i_1:=y.1) (out_5:=y.2) h hE (fun i_1 out_5=>hc (i_1,out_5))) N (0,zB 4 0) h))
def Zcv.B:Code:=Tryz.f57.body.getD .skip
def Zcv.rs (r:(List Int)):List CV:=[.agg [zH .u64 4 r]]
def Zcv (N:Nat):Option (List Int):=
 Zbt (Zbd N (zB 4 0)) fun x1=>
 some x1
theorem Zcv.snd {r:(List Int)} (h:Zcv N=some r):Zde zF 57 [] (Zcv.rs r):=fun st=>
 sO Zcv.B Tryz.func57 fun g0 w0 R hE=>by
  unfold Zcv at h
  obtain ⟨x1,c1,h1⟩:=Zaf h
  obtain rfl:=Zac h1
  exact af fol hE [.r [],.r [(1,q1 [.agg [zH .u64 4 x1]])]] [] 0 [] (Zbd.snd c1)
def Zdm.B:Code:=Tryz.f70.body.getD .skip
def Zdm.rs (r:(List Int)×Bool):List CV:=[.agg [zH .u64 4 r.1],oB r.2]
def Zdm (N:Nat) (a_0_0 b_1_0:List Int):Option ((List Int)×Bool):=
 Zbt (Zbd N b_1_0) fun x1=>
 Zbt (ZaQ N a_0_0 x1) fun (x2,x3)=>
 Zbt (ZaQ N x2 [1,0,0,0]) fun (x4,x5)=>
 Zbt (Zbe N a_0_0 b_1_0) fun x6=>
 some (x4,x6)
theorem Zdm.snd {a_0_0 b_1_0:List Int} {r:(List Int)×Bool} (h:Zdm N a_0_0 b_1_0=some r):Zde zF 70 [.agg [zH .u64 4 a_0_0],.agg [zH .u64 4 b_1_0]] (Zdm.rs r):=fun st=>
 sO Zdm.B Tryz.func70 fun g0 w0 R hE=>by
  unfold Zdm at h
  obtain ⟨x1,c1,h1⟩:=Zaf h
  obtain ⟨⟨x2,x3⟩,c2,h2⟩:=Zaf h1
  obtain ⟨⟨x4,x5⟩,c3,h3⟩:=Zaf h2
  obtain ⟨x6,c4,h4⟩:=Zaf h3
  obtain rfl:=Zac h4
  exact afd fol hE [.r [],.d {ds:=[(2,q1 [.agg [zH .u64 4 x1]]),(3,q1 [.agg [zH .u64 4 x2],oB x3])],hv:=384,Hs:=[128,384]},.r [(1,{m:=3}),(2,q1 [.agg [zH .u64 4 x4],oB x5])],.d {ds:=[(3,q1 [oB x6])],hv:=16,Hs:=[16]}] [] 0 [] (aM (Zbd.snd c1) (Zbd.snd c1) (ZaQ.snd c2) (ZaQ.snd c2) (ZaQ.snd c3) (Zbe.snd c4))
def ZaX.B:Code:=Tryz.f42.body.getD .skip
def ZaX.rs (r:(List Int)):List CV:=[.agg [zH .u64 4 r]]
def ZaX.p2 (N:Nat) (c1_:(Int×(List Int)×(List Int))→Option (List Int)) (i_5:Int) (target_0_0 x1 out_36 rest_37:List Int):Option (List Int):=
 c1_ (w64 (i_5-1),out_36,rest_37)
def ZaX.p3 (N:Nat) (out_41:List Int):Option (List Int):=
 some out_41
def ZaX.p1 (N:Nat) (target_0_0 x1:List Int) (c1_:(Int×(List Int)×(List Int))→Option (List Int)):(Int×(List Int)×(List Int))→Option (List Int):=fun (i_5,out_23,rest_24)=>
 if (decide (i_5≥0))=true then
  Zbt (Zam N x1 i_5) fun x25=>
  Zbt (Zam N x25 (w64 (0-i_5))) fun x26=>
  if (!(x26==x1))=true then
   ZaX.p2 N c1_ i_5 target_0_0 x1 out_23 rest_24
  else
  Zbt (Zdm N x25 [1,0,0,0]) fun (x27,x28)=>
  Zbt (Zbe N rest_24 x27) fun x29=>
  if (!x29)=true then
   Zbt (Zdm N rest_24 x25) fun (x30,x31)=>
   Zbt (Zam N [1,0,0,0] i_5) fun x32=>
   Zbt (ZaQ N out_23 x32) fun (x33,x34)=>
   Zbt (Zcv N ) fun x35=>
   if (x30==x35)=true then
    some x33
   else
   ZaX.p2 N c1_ i_5 target_0_0 x1 x33 x30
  else
  ZaX.p2 N c1_ i_5 target_0_0 x1 out_23 rest_24
 else
 Zbt (Zbe N rest_24 target_0_0) fun x38=>
 if (!x38)=true then
  Zbt (ZaQ N out_23 [1,0,0,0]) fun (x39,x40)=>
  ZaX.p3 N x39
 else
 ZaX.p3 N out_23
def ZaX (N:Nat) (target_0_0:List Int):Option (List Int):=
 Zbt (ZaQ N target_0_0 [1,0,0,0]) fun (x1,x2)=>
 if x2=true then
  some [1,0,0,0]
 else
 if (target_0_0==(zB 4 0))=true then
  Zbt (Zcv N ) fun x3=>
  some x3
 else
 Zbt (Zcv N ) fun x4=>
 loopN (ZaX.p1 N target_0_0 x1) N (255,zB 4 0,x4)
def ZaX.p2.S (i_5:Int) (target_0_0 x1 out_36 rest_37:List Int) (st:LL):S:=mkS 79 [(1,sA 1),(2,sA 2),(3,sA 3),(4,sA 4),(6,sA 6),(7,sA 7),(8,sI i_5)] [(1,.cells [zH .u64 4 target_0_0]),(2,.cells [zH .u64 4 (zB 4 0)]),(3,.cells [zH .u64 4 [1,0,0,0]]),(4,.cells [zH .u64 4 x1]),(6,.cells [zH .u64 4 out_36]),(7,.cells [zH .u64 4 rest_37])] st
def ZaX.p3.S (out_41:List Int) (st:LL):S:=mkS 79 [(2,sA 2),(6,sA 6)] [(2,.cells [zH .u64 4 (zB 4 0)]),(6,.cells [zH .u64 4 out_41])] st
def ZaX.p1.S (i_5:Int) (target_0_0 x1 out_23 rest_24:List Int) (st:LL):S:=mkS 79 [(1,sA 1),(2,sA 2),(3,sA 3),(4,sA 4),(6,sA 6),(7,sA 7),(8,sI i_5)] [(1,.cells [zH .u64 4 target_0_0]),(2,.cells [zH .u64 4 (zB 4 0)]),(3,.cells [zH .u64 4 [1,0,0,0]]),(4,.cells [zH .u64 4 x1]),(6,.cells [zH .u64 4 out_23]),(7,.cells [zH .u64 4 rest_24])] st
theorem ZaX.p2_ok {i_5 target_0_0 x1 out_36 rest_37 st r c1_ J1} (h:ZaX.p2 N c1_ i_5 target_0_0 x1 out_36 rest_37=some r) (hE:En Tryz.f42 g0 w0 (ZaX.rs r) st R) (hc1 : ∀i_5 out_23 rest_24,c1_ (i_5,out_23,rest_24)=some r→At g0 w0 (ZaX.p1.S i_5 target_0_0 x1 out_23 rest_24 st) J1):At g0 w0 (ZaX.p2.S i_5 target_0_0 x1 out_36 rest_37 st) (XK zF R [.c (Zbn ZaX.B [1,1,1,1,1,1,1,0,1,0,0,1,1]),.h J1,.b 0,.c (Zbn ZaX.B [1,1,1,1,1,1,1,1])]):=by
 unfold ZaX.p2 at h
 exact an fol [.r []] [1,2,3,4,6,7,8] [1,2,3,4,6,7] trivial (hc1 (w64 (i_5-1)) out_36 rest_37 h)
theorem ZaX.p3_ok {out_41 st r} (h:ZaX.p3 N out_41=some r) (hE:En Tryz.f42 g0 w0 (ZaX.rs r) st R):At g0 w0 (ZaX.p3.S out_41 st) (XK zF R [.c (Zbn ZaX.B [1,1,1,1,1,1,1,1,1])]):=by
 unfold ZaX.p3 at h
 obtain rfl:=Zac h
 exact af fol hE [.r []] [] 0 [] trivial
theorem ZaX.p1_ok {i_5 target_0_0 x1 out_23 rest_24 st r c1_ J1} (h:ZaX.p1 N target_0_0 x1 c1_ (i_5,out_23,rest_24)=some r) (hE:En Tryz.f42 g0 w0 (ZaX.rs r) st R) (hc1 : ∀i_5 out_23 rest_24,c1_ (i_5,out_23,rest_24)=some r→At g0 w0 (ZaX.p1.S i_5 target_0_0 x1 out_23 rest_24 st) J1):At g0 w0 (ZaX.p1.S i_5 target_0_0 x1 out_23 rest_24 st) (XK zF R (.c (Zbn ZaX.B [1,1,1,1,1,1,1,0,1,0,0]) :: .h J1 :: [.b 0,.c (Zbn ZaX.B [1,1,1,1,1,1,1,1])])):=by
 unfold ZaX.p1 at h
 refine ZaY h (fun c21 h1=>?_) (fun c21 h2=>?_)
 ·obtain ⟨x25,c22,h3⟩:=Zaf h1
  obtain ⟨x26,c23,h4⟩:=Zaf h3
  let o1:List PS:=[.r [],.c true,.r [(2,q1 [.agg [zH .u64 4 x25]])],.d {ds:=[(3,q1 [.agg [zH .u64 4 x26]])],hv:=0,Hs:=[]}]
  have t1 {Q:Prop} (q:Q):=aK c21 (Zam.snd c22) (Zam.snd c23) q
  refine ZaY h4 (fun c24 h5=>?_) (fun c24 h6=>?_)
  ·exact aqd fol (o1 ++ [.c true,.s 4]) [1,2,3,4,6,7,8] [1,2,3,4,6,7] (t1 c24) (ZaX.p2_ok h5 hE hc1)
  ·obtain ⟨⟨x27,x28⟩,c25,h7⟩:=Zaf h6
   obtain ⟨x29,c26,h8⟩:=Zaf h7
   let o2:List PS:=o1 ++ [.c false,.r [(2,q1 [.agg [zH .u64 4 x27],oB x28])],.r [(2,q1 [oB x29])]]
   have t2 {Q:Prop} (q:Q):=t1 (aK c24 (Zdm.snd c25) (Zbe.snd c26) q)
   refine ZaY h8 (fun c27 h9=>?_) (fun c27 h10=>?_)
   ·obtain ⟨⟨x30,x31⟩,c28,h11⟩:=Zaf h9
    obtain ⟨x32,c29,h12⟩:=Zaf h11
    obtain ⟨⟨x33,x34⟩,c30,h13⟩:=Zaf h12
    obtain ⟨x35,c31,h14⟩:=Zaf h13
    let o3:List PS:=o2 ++ [.c true,.r [(2,q1 [.agg [zH .u64 4 x30],oB x31])],.d {ds:=[(3,q1 [.agg [zH .u64 4 x32]]),(4,q1 [.agg [zH .u64 4 x33],oB x34])],hv:=256,Hs:=[256]},.d {ds:=[(1,q1 [.agg [zH .u64 4 x35]])],hv:=0,Hs:=[]}]
    have t3 {Q:Prop} (q:Q):=t2 (aM c27 (Zdm.snd c28) (Zam.snd c29) (ZaQ.snd c30) (Zcv.snd c31) q)
    refine ZaY h14 (fun c32 h15=>?_) (fun c32 h16=>?_)
    ·obtain rfl:=Zac h15
     exact afd fol hE (o3 ++ [.c true,.r []]) [] 0 [] (t3 c32)
    ·exact aqd fol (o3 ++ [.c false,.s 4]) [1,2,3,4,6,7,8] [1,2,3,4,6,7] (t3 c32) (ZaX.p2_ok h16 hE hc1)
   ·exact aqd fol (o2 ++ [.c false,.s 4]) [1,2,3,4,6,7,8] [1,2,3,4,6,7] (t2 c27) (ZaX.p2_ok h10 hE hc1)
 ·obtain ⟨x38,c33,h17⟩:=Zaf h2
  let o4:List PS:=[.r [],.c false,.r [(2,q1 [oB x38])]]
  refine ZaY h17 (fun c34 h18=>?_) (fun c34 h19=>?_)
  ·obtain ⟨⟨x39,x40⟩,c35,h20⟩:=Zaf h18
   exact aq fol (o4 ++ [.c true,.r [(2,q1 [.agg [zH .u64 4 x39],oB x40])],.s 1]) [2,6] [2,6] (aK c21 (Zbe.snd c33) c34 (ZaQ.snd c35)) (ZaX.p3_ok h20 hE)
  ·exact aq fol (o4 ++ [.c false,.s 1]) [2,6] [2,6] (aJ c21 (Zbe.snd c33) c34) (ZaX.p3_ok h19 hE)
theorem ZaX.snd {target_0_0:List Int} {r:(List Int)} (h:ZaX N target_0_0=some r):Zde zF 42 [.agg [zH .u64 4 target_0_0]] (ZaX.rs r):=fun st=>
 sO ZaX.B Tryz.func42 fun g0 w0 R hE=>by
  unfold ZaX at h
  obtain ⟨⟨x1,x2⟩,c1,h21⟩:=Zaf h
  let o5:List PS:=[.r [],.r [(0,{m:=3})],.r [(2,q1 [.agg [zH .u64 4 x1],oB x2])],.r []]
  have t4 {Q:Prop} (q:Q):=aI (ZaQ.snd c1) q
  refine ZaY h21 (fun c2 h22=>?_) (fun c2 h23=>?_)
  ·obtain rfl:=Zac h22
   exact af fol hE (o5 ++ [.c true,.r []]) [] 0 [] (t4 c2)
  ·refine ZaY h23 (fun c3 h24=>?_) (fun c3 h25=>?_)
   ·obtain ⟨x3,c4,h26⟩:=Zaf h24
    obtain rfl:=Zac h26
    exact af fol hE (o5 ++ [.c false,.r [],.c true,.r [(0,q1 [.agg [zH .u64 4 x3]])]]) [] 0 [] (t4 (aJ c2 c3 (Zcv.snd c4)))
   ·obtain ⟨x4,c5,h27⟩:=Zaf h25
    exact aq fol (o5 ++ [.c false,.r [],.c false,.r [],.r [(0,q1 [.agg [zH .u64 4 x4]])],.r []]) [1,2,3,4,6,7,8] [1,2,3,4,6,7] (t4 (aJ c2 c3 (Zcv.snd c5))) (At.loop N (At.loopN (fun y:Int×(List Int)×(List Int)=>ZaX.p1.S y.1 target_0_0 x1 y.2.1 y.2.2 st) (fun c J hc y h=>ZaX.p1_ok (i_5:=y.1) (out_23:=y.2.1) (rest_24:=y.2.2) h hE (fun i_5 out_23 rest_24=>hc (i_5,out_23,rest_24))) N (255,zB 4 0,x4) h27))
def ZbN.B:Code:=Tryz.f24.body.getD .skip
def ZbN.rs (r:(List Int)):List CV:=[.agg [zH .u64 4 r]]
def ZbN (N:Nat) (bits_0:Int):Option (List Int):=
 Zbt (ZaG N bits_0) fun (x1,x2,x3)=>
 if x2=true then
  some (zB 4 0)
 else
 if x3=true then
  some (zB 4 0)
 else
 if (x1==(zB 4 0))=true then
  some (zB 4 0)
 else
 Zbt (ZaX N x1) fun x4=>
 some x4
theorem ZbN.snd {bits_0:Int} {r:(List Int)} (h:ZbN N bits_0=some r):Zde zF 24 [oI bits_0] (ZbN.rs r):=fun st=>
 sO ZbN.B Tryz.func24 fun g0 w0 R hE=>by
  unfold ZbN at h
  obtain ⟨⟨x1,x2,x3⟩,c1,h1⟩:=Zaf h
  let o1:List PS:=[.r [],.r [(1,q1 [.agg [zH .u64 4 x1],oB x2,oB x3])]]
  have t1 {Q:Prop} (q:Q):=aI (ZaG.snd c1) q
  refine ZaY h1 (fun c2 h2=>?_) (fun c2 h3=>?_)
  ·obtain rfl:=Zac h2
   exact af fol hE (o1 ++ [.r [(2,wF),(5,wF),(6,wF),(7,wF)],.c true,.r []]) [] 0 [] (t1 (aN c2 c2 eT eT eT eT eT))
  ·refine ZaY h3 (fun c3 h4=>?_) (fun c3 h5=>?_)
   ·obtain rfl:=Zac h4
    exact af fol hE (o1 ++ [.r [(3,yF),(5,wF),(6,wF),(7,wF)],.c true,.r []]) [] 0 [] (t1 (aN c2 c2 c3 c3 c3 c3 eT))
   ·let o2:List PS:=o1 ++ [.r [(3,yF),(8,yF)]]
    refine ZaY h5 (fun c4 h6=>?_) (fun c4 h7=>?_)
    ·obtain rfl:=Zac h6
     exact af fol hE (o2 ++ [.c true,.r []]) [] 0 [] (t1 (aN c2 c2 c3 c3 c3 c3 c4))
    ·obtain ⟨x4,c5,h8⟩:=Zaf h7
     obtain rfl:=Zac h8
     exact af fol hE (o2 ++ [.c false,.r [(1,q1 [.agg [zH .u64 4 x4]])]]) [] 0 [] (t1 (aO c2 c2 c3 c3 c3 c3 c4 (ZaX.snd c5)))
def ZdJ.B:Code:=Tryz.f8.body.getD .skip
def ZdJ.rs (r:(Option Nat)×LL):List CV:=[.one (L.ptr r.1)]
def ZdJ (N:Nat) (p_0:Zae) (room_1:Int) (st:LL):Option ((Option Nat)×LL):=
 Zbt (Zco N p_0.Genesis) fun x1=>
 Zbt (ZbN N p_0.Genesis.Bits) fun x2=>
 some ((some (zK st)),st ++ [Zaa.lo (Zaa.mk p_0 [p_0.Genesis.ls] [[zH .u8 32 x1]] [[zI .i64 (-1)]] [[zH .u64 4 x2]] (if (512:Int)<(if (1:Int)>room_1 then 1 else room_1) then 512 else (if (1:Int)>room_1 then 1 else room_1)))])
theorem ZdJ.snd {p_0:Zae} {room_1:Int} {st:LL} {r:(Option Nat)×LL} (h:ZdJ N p_0 room_1 st=some r):Snd zF 8 [.agg p_0.ls,oI room_1] st (ZdJ.rs r) r.2:=
 sO ZdJ.B Tryz.func8 fun g0 w0 R hE=>by
  unfold ZdJ at h
  obtain ⟨x1,c1,h1⟩:=Zaf h
  obtain ⟨x2,c2,h2⟩:=Zaf h1
  obtain rfl:=Zac h2
  exact afd fol hE [.r [],.d {ds:=[(6,q1 [.agg [zH .u8 32 x1]]),(12,q1 [.agg [zH .u64 4 x2]]),(17,{mv:=[15,16,17,18]}),(18,{m:=1,mv:=[8,12,13,18],fz:=[8,12,13,18]})],hv:=270728,Hs:=[8,128,136,256,264,384,392,8192,8200,8320,8328,8448,8456,8576,8584,270728]}] [] 0 [] (aO (Zco.snd c1) (Zco.snd c1) (Zco.snd c1) (Zco.snd c1) (ZbN.snd c2) (ZbN.snd c2) (ZbN.snd c2) (aO (ZbN.snd c2) (ZbN.snd c2) (ZbN.snd c2) (ZbN.snd c2) (ZbN.snd c2) z0 (eN (1)) (aM z0 (eN (1)) z0 (eN (1)) z0 (eN (1)))))
def ZdX.B:Code:=Tryz.f97.body.getD .skip
def ZdX.rs (r:Int):List CV:=[oI r]
def ZdX (N:Nat) (p_0:Zae) (from_1 to_2:Int):Option Int:=
 some (if (w64 ((w64 (p_0.Interval*p_0.Spacing))*4))<(if (w64 (zN (w64 (p_0.Interval*p_0.Spacing)) 4))>(w64 (to_2-from_1)) then (w64 (zN (w64 (p_0.Interval*p_0.Spacing)) 4)) else (w64 (to_2-from_1))) then (w64 ((w64 (p_0.Interval*p_0.Spacing))*4)) else (if (w64 (zN (w64 (p_0.Interval*p_0.Spacing)) 4))>(w64 (to_2-from_1)) then (w64 (zN (w64 (p_0.Interval*p_0.Spacing)) 4)) else (w64 (to_2-from_1))))
theorem ZdX.snd {p_0:Zae} {from_1 to_2:Int} {r:Int} (h:ZdX N p_0 from_1 to_2=some r):Zde zF 97 [.agg p_0.ls,oI from_1,oI to_2] (ZdX.rs r):=fun st=>
 sO ZdX.B Tryz.func97 fun g0 w0 R hE=>by
  unfold ZdX at h
  obtain rfl:=Zac h
  exact af fol hE [.r [],.r [],.r []] [] 0 [] (neI 4)
def Zbv.B:Code:=Tryz.f118.body.getD .skip
def Zbv.rs (r:Int):List CV:=[oI r]
def Zbv (N:Nat) (x_0:Int):Option Int:=
 Zbt (Zau N x_0) fun x1=>
 some (w64 (64-x1))
theorem Zbv.snd {x_0:Int} {r:Int} (h:Zbv N x_0=some r):Zde zF 118 [.one (zI .u64 x_0)] (Zbv.rs r):=fun st=>
 sO Zbv.B Tryz.func118 fun g0 w0 R hE=>by
  unfold Zbv at h
  obtain ⟨x1,c1,h1⟩:=Zaf h
  obtain rfl:=Zac h1
  exact af fol hE [.r [],.r [(1,q1 [oI x1])]] [] 0 [] (Zau.snd c1)
def Zah.B:Code:=Tryz.f109.body.getD .skip
def Zah.rs (r:Int×Int):List CV:=[.one (zI .u64 r.1),.one (zI .u64 r.2)]
def Zah.p6 (N:Nat) (y_2 x1 lo_1 q1_4 hi_0 q0_7:Int):Option (Int×Int):=
 chk (0≤(v64 (x1)))<|
 some (v64 ((v64 (q1_4*4294967296))+q0_7),Zba .u64 (v64 ((v64 ((v64 ((v64 ((v64 ((v64 ((Zay .or .u64 (Zbi .u64 hi_0 (v64 (x1))) (Zba .u64 lo_1 (v64 (64-(v64 (x1))))))*4294967296))+(Zba .u64 (Zbi .u64 lo_1 (v64 (x1))) 32)))-(v64 (q1_4*(Zbi .u64 y_2 (v64 (x1)))))))*4294967296))+(Zay .and .u64 (Zbi .u64 lo_1 (v64 (x1))) 4294967295)))-(v64 (q0_7*(Zbi .u64 y_2 (v64 (x1))))))) (v64 (x1)))
def Zah.p5 (N:Nat) (c4_:(Int×Int)→Option (Int×Int)) (y_2 x1 lo_1 q1_4 rhat_5 hi_0 q0_6:Int):Option (Int×Int):=
 if (decide ((v64 (rhat_5+(Zba .u64 (Zbi .u64 y_2 (v64 (x1))) 32)))≥4294967296))=true then
  Zah.p6 N y_2 x1 lo_1 q1_4 hi_0 (v64 (q0_6-1))
 else
 c4_ (v64 (rhat_5+(Zba .u64 (Zbi .u64 y_2 (v64 (x1))) 32)),v64 (q0_6-1))
def Zah.p4 (N:Nat) (y_2 x1 lo_1 q1_4 hi_0:Int) (c4_:(Int×Int)→Option (Int×Int)):(Int×Int)→Option (Int×Int):=fun (rhat_5,q0_6)=>
 if (decide (q0_6≥4294967296))=true then
  Zah.p5 N c4_ y_2 x1 lo_1 q1_4 rhat_5 hi_0 q0_6
 else
 if (decide ((v64 (q0_6*(Zay .and .u64 (Zbi .u64 y_2 (v64 (x1))) 4294967295)))>(v64 ((v64 (4294967296*rhat_5))+(Zay .and .u64 (Zbi .u64 lo_1 (v64 (x1))) 4294967295)))))=true then
  Zah.p5 N c4_ y_2 x1 lo_1 q1_4 rhat_5 hi_0 q0_6
 else
 Zah.p6 N y_2 x1 lo_1 q1_4 hi_0 q0_6
def Zah.p3 (N:Nat) (y_2 x1 hi_0 lo_1 q1_4:Int):Option (Int×Int):=
 chk ((Zba .u64 (Zbi .u64 y_2 (v64 (x1))) 32)≠0)<|
 loopN (Zah.p4 N y_2 x1 lo_1 q1_4 hi_0) N (v64 ((v64 ((v64 ((v64 ((Zay .or .u64 (Zbi .u64 hi_0 (v64 (x1))) (Zba .u64 lo_1 (v64 (64-(v64 (x1))))))*4294967296))+(Zba .u64 (Zbi .u64 lo_1 (v64 (x1))) 32)))-(v64 (q1_4*(Zbi .u64 y_2 (v64 (x1)))))))-(v64 ((v64 (zN (v64 ((v64 ((v64 ((Zay .or .u64 (Zbi .u64 hi_0 (v64 (x1))) (Zba .u64 lo_1 (v64 (64-(v64 (x1))))))*4294967296))+(Zba .u64 (Zbi .u64 lo_1 (v64 (x1))) 32)))-(v64 (q1_4*(Zbi .u64 y_2 (v64 (x1))))))) (Zba .u64 (Zbi .u64 y_2 (v64 (x1))) 32)))*(Zba .u64 (Zbi .u64 y_2 (v64 (x1))) 32)))),v64 (zN (v64 ((v64 ((v64 ((Zay .or .u64 (Zbi .u64 hi_0 (v64 (x1))) (Zba .u64 lo_1 (v64 (64-(v64 (x1))))))*4294967296))+(Zba .u64 (Zbi .u64 lo_1 (v64 (x1))) 32)))-(v64 (q1_4*(Zbi .u64 y_2 (v64 (x1))))))) (Zba .u64 (Zbi .u64 y_2 (v64 (x1))) 32)))
def Zah.p2 (N:Nat) (c1_:(Int×Int)→Option (Int×Int)) (y_2 x1 hi_0 lo_1 q1_2 rhat_3:Int):Option (Int×Int):=
 if (decide ((v64 (rhat_3+(Zba .u64 (Zbi .u64 y_2 (v64 (x1))) 32)))≥4294967296))=true then
  Zah.p3 N y_2 x1 hi_0 lo_1 (v64 (q1_2-1))
 else
 c1_ (v64 (q1_2-1),v64 (rhat_3+(Zba .u64 (Zbi .u64 y_2 (v64 (x1))) 32)))
def Zah.p1 (N:Nat) (y_2 x1 hi_0 lo_1:Int) (c1_:(Int×Int)→Option (Int×Int)):(Int×Int)→Option (Int×Int):=fun (q1_2,rhat_3)=>
 if (decide (q1_2≥4294967296))=true then
  Zah.p2 N c1_ y_2 x1 hi_0 lo_1 q1_2 rhat_3
 else
 if (decide ((v64 (q1_2*(Zay .and .u64 (Zbi .u64 y_2 (v64 (x1))) 4294967295)))>(v64 ((v64 (4294967296*rhat_3))+(Zba .u64 (Zbi .u64 lo_1 (v64 (x1))) 32)))))=true then
  Zah.p2 N c1_ y_2 x1 hi_0 lo_1 q1_2 rhat_3
 else
 Zah.p3 N y_2 x1 hi_0 lo_1 q1_2
def Zah (N:Nat) (hi_0 lo_1 y_2:Int):Option (Int×Int):=
 if (y_2==0)=true then
  none
 else
 if (decide (y_2≤hi_0))=true then
  none
 else
 if (hi_0==0)=true then
  chk (y_2≠0)<|
  some (v64 (zN lo_1 y_2),zT lo_1 y_2)
 else
 Zbt (Zbv N y_2) fun x1=>
 chk (0≤(v64 (x1)))<|
 chk (0≤(v64 (64-(v64 (x1)))))<|
 chk ((Zba .u64 (Zbi .u64 y_2 (v64 (x1))) 32)≠0)<|
 loopN (Zah.p1 N y_2 x1 hi_0 lo_1) N (v64 (zN (Zay .or .u64 (Zbi .u64 hi_0 (v64 (x1))) (Zba .u64 lo_1 (v64 (64-(v64 (x1)))))) (Zba .u64 (Zbi .u64 y_2 (v64 (x1))) 32)),v64 ((Zay .or .u64 (Zbi .u64 hi_0 (v64 (x1))) (Zba .u64 lo_1 (v64 (64-(v64 (x1))))))-(v64 ((v64 (zN (Zay .or .u64 (Zbi .u64 hi_0 (v64 (x1))) (Zba .u64 lo_1 (v64 (64-(v64 (x1)))))) (Zba .u64 (Zbi .u64 y_2 (v64 (x1))) 32)))*(Zba .u64 (Zbi .u64 y_2 (v64 (x1))) 32)))))
def Zah.p6.S (y_2 x1 lo_1 q1_4 hi_0 q0_7:Int) (st:LL):S:=mkS 135 [(2,.one (.l (zI .u64 (Zbi .u64 y_2 (v64 (x1)))))),(8,.one (.l (zI .u64 (v64 (x1))))),(14,.one (.l (zI .u64 (Zay .and .u64 (Zbi .u64 lo_1 (v64 (x1))) 4294967295)))),(15,.one (.l (zI .u64 q1_4))),(17,.one (.l (zI .u64 (v64 ((v64 ((v64 ((Zay .or .u64 (Zbi .u64 hi_0 (v64 (x1))) (Zba .u64 lo_1 (v64 (64-(v64 (x1))))))*4294967296))+(Zba .u64 (Zbi .u64 lo_1 (v64 (x1))) 32)))-(v64 (q1_4*(Zbi .u64 y_2 (v64 (x1)))))))))),(18,.one (.l (zI .u64 q0_7)))] [] st
def Zah.p5.S (y_2 x1 lo_1 q1_4 rhat_5 hi_0 q0_6:Int) (st:LL):S:=mkS 135 [(2,.one (.l (zI .u64 (Zbi .u64 y_2 (v64 (x1)))))),(8,.one (.l (zI .u64 (v64 (x1))))),(9,.one (.l (zI .u64 (Zba .u64 (Zbi .u64 y_2 (v64 (x1))) 32)))),(10,.one (.l (zI .u64 (Zay .and .u64 (Zbi .u64 y_2 (v64 (x1))) 4294967295)))),(14,.one (.l (zI .u64 (Zay .and .u64 (Zbi .u64 lo_1 (v64 (x1))) 4294967295)))),(15,.one (.l (zI .u64 q1_4))),(16,.one (.l (zI .u64 rhat_5))),(17,.one (.l (zI .u64 (v64 ((v64 ((v64 ((Zay .or .u64 (Zbi .u64 hi_0 (v64 (x1))) (Zba .u64 lo_1 (v64 (64-(v64 (x1))))))*4294967296))+(Zba .u64 (Zbi .u64 lo_1 (v64 (x1))) 32)))-(v64 (q1_4*(Zbi .u64 y_2 (v64 (x1)))))))))),(18,.one (.l (zI .u64 q0_6)))] [] st
def Zah.p4.S (y_2 x1 lo_1 q1_4 rhat_5 hi_0 q0_6:Int) (st:LL):S:=mkS 135 [(2,.one (.l (zI .u64 (Zbi .u64 y_2 (v64 (x1)))))),(8,.one (.l (zI .u64 (v64 (x1))))),(9,.one (.l (zI .u64 (Zba .u64 (Zbi .u64 y_2 (v64 (x1))) 32)))),(10,.one (.l (zI .u64 (Zay .and .u64 (Zbi .u64 y_2 (v64 (x1))) 4294967295)))),(14,.one (.l (zI .u64 (Zay .and .u64 (Zbi .u64 lo_1 (v64 (x1))) 4294967295)))),(15,.one (.l (zI .u64 q1_4))),(16,.one (.l (zI .u64 rhat_5))),(17,.one (.l (zI .u64 (v64 ((v64 ((v64 ((Zay .or .u64 (Zbi .u64 hi_0 (v64 (x1))) (Zba .u64 lo_1 (v64 (64-(v64 (x1))))))*4294967296))+(Zba .u64 (Zbi .u64 lo_1 (v64 (x1))) 32)))-(v64 (q1_4*(Zbi .u64 y_2 (v64 (x1)))))))))),(18,.one (.l (zI .u64 q0_6)))] [] st
def Zah.p3.S (y_2 x1 hi_0 lo_1 q1_4:Int) (st:LL):S:=mkS 135 [(2,.one (.l (zI .u64 (Zbi .u64 y_2 (v64 (x1)))))),(8,.one (.l (zI .u64 (v64 (x1))))),(9,.one (.l (zI .u64 (Zba .u64 (Zbi .u64 y_2 (v64 (x1))) 32)))),(10,.one (.l (zI .u64 (Zay .and .u64 (Zbi .u64 y_2 (v64 (x1))) 4294967295)))),(11,.one (.l (zI .u64 (Zay .or .u64 (Zbi .u64 hi_0 (v64 (x1))) (Zba .u64 lo_1 (v64 (64-(v64 (x1))))))))),(13,.one (.l (zI .u64 (Zba .u64 (Zbi .u64 lo_1 (v64 (x1))) 32)))),(14,.one (.l (zI .u64 (Zay .and .u64 (Zbi .u64 lo_1 (v64 (x1))) 4294967295)))),(15,.one (.l (zI .u64 q1_4)))] [] st
def Zah.p2.S (y_2 x1 hi_0 lo_1 q1_2 rhat_3:Int) (st:LL):S:=mkS 135 [(2,.one (.l (zI .u64 (Zbi .u64 y_2 (v64 (x1)))))),(8,.one (.l (zI .u64 (v64 (x1))))),(9,.one (.l (zI .u64 (Zba .u64 (Zbi .u64 y_2 (v64 (x1))) 32)))),(10,.one (.l (zI .u64 (Zay .and .u64 (Zbi .u64 y_2 (v64 (x1))) 4294967295)))),(11,.one (.l (zI .u64 (Zay .or .u64 (Zbi .u64 hi_0 (v64 (x1))) (Zba .u64 lo_1 (v64 (64-(v64 (x1))))))))),(13,.one (.l (zI .u64 (Zba .u64 (Zbi .u64 lo_1 (v64 (x1))) 32)))),(14,.one (.l (zI .u64 (Zay .and .u64 (Zbi .u64 lo_1 (v64 (x1))) 4294967295)))),(15,.one (.l (zI .u64 q1_2))),(16,.one (.l (zI .u64 rhat_3)))] [] st
def Zah.p1.S (y_2 x1 hi_0 lo_1 q1_2 rhat_3:Int) (st:LL):S:=mkS 135 [(2,.one (.l (zI .u64 (Zbi .u64 y_2 (v64 (x1)))))),(8,.one (.l (zI .u64 (v64 (x1))))),(9,.one (.l (zI .u64 (Zba .u64 (Zbi .u64 y_2 (v64 (x1))) 32)))),(10,.one (.l (zI .u64 (Zay .and .u64 (Zbi .u64 y_2 (v64 (x1))) 4294967295)))),(11,.one (.l (zI .u64 (Zay .or .u64 (Zbi .u64 hi_0 (v64 (x1))) (Zba .u64 lo_1 (v64 (64-(v64 (x1))))))))),(13,.one (.l (zI .u64 (Zba .u64 (Zbi .u64 lo_1 (v64 (x1))) 32)))),(14,.one (.l (zI .u64 (Zay .and .u64 (Zbi .u64 lo_1 (v64 (x1))) 4294967295)))),(15,.one (.l (zI .u64 q1_2))),(16,.one (.l (zI .u64 rhat_3)))] [] st
theorem Zah.p6_ok {y_2 x1 lo_1 q1_4 hi_0 q0_7 st r} (h:Zah.p6 N y_2 x1 lo_1 q1_4 hi_0 q0_7=some r) (hE:En Tryz.f109 g0 w0 (Zah.rs r) st R):At g0 w0 (Zah.p6.S y_2 x1 lo_1 q1_4 hi_0 q0_7 st) (XK zF R [.c (Zbn Zah.B [1,1,1,1,1,1,1,1,1,1,1,1,1,1,1,1,1,1,1])]):=by
 unfold Zah.p6 at h
 obtain ⟨c16,h1⟩:=ZaP h
 obtain rfl:=Zac h1
 exact af fol hE [.r []] [] 0 [] c16
theorem Zah.p5_ok {y_2 x1 lo_1 q1_4 rhat_5 hi_0 q0_6 st r c4_ J4} (h:Zah.p5 N c4_ y_2 x1 lo_1 q1_4 rhat_5 hi_0 q0_6=some r) (hE:En Tryz.f109 g0 w0 (Zah.rs r) st R) (hc4 : ∀rhat_5 q0_6,c4_ (rhat_5,q0_6)=some r→At g0 w0 (Zah.p4.S y_2 x1 lo_1 q1_4 rhat_5 hi_0 q0_6 st) J4):At g0 w0 (Zah.p5.S y_2 x1 lo_1 q1_4 rhat_5 hi_0 q0_6 st) (XK zF R [.c (Zbn Zah.B [1,1,1,1,1,1,1,1,1,1,1,1,1,1,1,1,1,1,0,0,0,1]),.h J4,.b 2,.c (Zbn Zah.B [1,1,1,1,1,1,1,1,1,1,1,1,1,1,1,1,1,1,1])]):=by
 unfold Zah.p5 at h
 refine ZaY h (fun c15 h2=>?_) (fun c15 h3=>?_)
 ·exact aq fol [.r [],.r [],.r [],.c true,.s 1] [2,8,14,15,17,18] [] c15 (Zah.p6_ok h2 hE)
 ·exact an fol [.r [],.r [],.r [],.c false] [2,8,9,10,14,15,16,17,18] [] c15 (hc4 (v64 (rhat_5+(Zba .u64 (Zbi .u64 y_2 (v64 (x1))) 32))) (v64 (q0_6-1)) h3)
theorem Zah.p4_ok {y_2 x1 lo_1 q1_4 rhat_5 hi_0 q0_6 st r c4_ J4} (h:Zah.p4 N y_2 x1 lo_1 q1_4 hi_0 c4_ (rhat_5,q0_6)=some r) (hE:En Tryz.f109 g0 w0 (Zah.rs r) st R) (hc4 : ∀rhat_5 q0_6,c4_ (rhat_5,q0_6)=some r→At g0 w0 (Zah.p4.S y_2 x1 lo_1 q1_4 rhat_5 hi_0 q0_6 st) J4):At g0 w0 (Zah.p4.S y_2 x1 lo_1 q1_4 rhat_5 hi_0 q0_6 st) (XK zF R (.c (Zbn Zah.B [1,1,1,1,1,1,1,1,1,1,1,1,1,1,1,1,1,1,0,0,0]) :: .h J4 :: [.b 2,.c (Zbn Zah.B [1,1,1,1,1,1,1,1,1,1,1,1,1,1,1,1,1,1,1])])):=by
 unfold Zah.p4 at h
 refine ZaY h (fun c13 h4=>?_) (fun c13 h5=>?_)
 ·exact aq fol [.r [(3,wF),(4,wF),(5,wF),(6,wF),(7,wF),(8,wF),(9,wF),(10,wF)],.c true,.s 4] [2,8,9,10,14,15,16,17,18] [] (aO c13 c13 c13 c13 c13 c13 c13 (aJ c13 c13 eT)) (Zah.p5_ok h4 hE hc4)
 ·have t1 {Q:Prop} (q:Q):=aO c13 c13 c13 c13 c13 c13 c13 (aJ c13 c13 q)
  refine ZaY h5 (fun c14 h6=>?_) (fun c14 h7=>?_)
  ·exact aq fol [.r [(11,yF)],.c true,.s 4] [2,8,9,10,14,15,16,17,18] [] (t1 c14) (Zah.p5_ok h6 hE hc4)
  ·exact aq fol [.r [(11,yF)],.c false,.s 1] [2,8,14,15,17,18] [] (t1 c14) (Zah.p6_ok h7 hE)
theorem Zah.p3_ok {y_2 x1 hi_0 lo_1 q1_4 st r} (h:Zah.p3 N y_2 x1 hi_0 lo_1 q1_4=some r) (hE:En Tryz.f109 g0 w0 (Zah.rs r) st R):At g0 w0 (Zah.p3.S y_2 x1 hi_0 lo_1 q1_4 st) (XK zF R [.c (Zbn Zah.B [1,1,1,1,1,1,1,1,1,1,1,1,1,1,1])]):=by
 unfold Zah.p3 at h
 obtain ⟨c12,h8⟩:=ZaP h
 exact aq fol [.r [],.r [],.r []] [2,8,9,10,14,15,16,17,18] [] c12 (At.loop N (At.loopN (fun y:Int×Int=>Zah.p4.S y_2 x1 lo_1 q1_4 y.1 hi_0 y.2 st) (fun c J hc y h=>Zah.p4_ok (rhat_5:=y.1) (q0_6:=y.2) h hE (fun rhat_5 q0_6=>hc (rhat_5,q0_6))) N (v64 ((v64 ((v64 ((v64 ((Zay .or .u64 (Zbi .u64 hi_0 (v64 (x1))) (Zba .u64 lo_1 (v64 (64-(v64 (x1))))))*4294967296))+(Zba .u64 (Zbi .u64 lo_1 (v64 (x1))) 32)))-(v64 (q1_4*(Zbi .u64 y_2 (v64 (x1)))))))-(v64 ((v64 (zN (v64 ((v64 ((v64 ((Zay .or .u64 (Zbi .u64 hi_0 (v64 (x1))) (Zba .u64 lo_1 (v64 (64-(v64 (x1))))))*4294967296))+(Zba .u64 (Zbi .u64 lo_1 (v64 (x1))) 32)))-(v64 (q1_4*(Zbi .u64 y_2 (v64 (x1))))))) (Zba .u64 (Zbi .u64 y_2 (v64 (x1))) 32)))*(Zba .u64 (Zbi .u64 y_2 (v64 (x1))) 32)))),v64 (zN (v64 ((v64 ((v64 ((Zay .or .u64 (Zbi .u64 hi_0 (v64 (x1))) (Zba .u64 lo_1 (v64 (64-(v64 (x1))))))*4294967296))+(Zba .u64 (Zbi .u64 lo_1 (v64 (x1))) 32)))-(v64 (q1_4*(Zbi .u64 y_2 (v64 (x1))))))) (Zba .u64 (Zbi .u64 y_2 (v64 (x1))) 32))) h8))
theorem Zah.p2_ok {y_2 x1 hi_0 lo_1 q1_2 rhat_3 st r c1_ J1} (h:Zah.p2 N c1_ y_2 x1 hi_0 lo_1 q1_2 rhat_3=some r) (hE:En Tryz.f109 g0 w0 (Zah.rs r) st R) (hc1 : ∀q1_2 rhat_3,c1_ (q1_2,rhat_3)=some r→At g0 w0 (Zah.p1.S y_2 x1 hi_0 lo_1 q1_2 rhat_3 st) J1):At g0 w0 (Zah.p2.S y_2 x1 hi_0 lo_1 q1_2 rhat_3 st) (XK zF R [.c (Zbn Zah.B [1,1,1,1,1,1,1,1,1,1,1,1,1,1,0,0,0,1]),.h J1,.b 0,.c (Zbn Zah.B [1,1,1,1,1,1,1,1,1,1,1,1,1,1,1])]):=by
 unfold Zah.p2 at h
 refine ZaY h (fun c11 h9=>?_) (fun c11 h10=>?_)
 ·exact aq fol [.r [],.r [],.r [],.c true,.s 1] [2,8,9,10,11,13,14,15] [] c11 (Zah.p3_ok h9 hE)
 ·exact an fol [.r [],.r [],.r [],.c false] [2,8,9,10,11,13,14,15,16] [] c11 (hc1 (v64 (q1_2-1)) (v64 (rhat_3+(Zba .u64 (Zbi .u64 y_2 (v64 (x1))) 32))) h10)
theorem Zah.p1_ok {y_2 x1 hi_0 lo_1 q1_2 rhat_3 st r c1_ J1} (h:Zah.p1 N y_2 x1 hi_0 lo_1 c1_ (q1_2,rhat_3)=some r) (hE:En Tryz.f109 g0 w0 (Zah.rs r) st R) (hc1 : ∀q1_2 rhat_3,c1_ (q1_2,rhat_3)=some r→At g0 w0 (Zah.p1.S y_2 x1 hi_0 lo_1 q1_2 rhat_3 st) J1):At g0 w0 (Zah.p1.S y_2 x1 hi_0 lo_1 q1_2 rhat_3 st) (XK zF R (.c (Zbn Zah.B [1,1,1,1,1,1,1,1,1,1,1,1,1,1,0,0,0]) :: .h J1 :: [.b 0,.c (Zbn Zah.B [1,1,1,1,1,1,1,1,1,1,1,1,1,1,1])])):=by
 unfold Zah.p1 at h
 refine ZaY h (fun c9 h11=>?_) (fun c9 h12=>?_)
 ·exact aq fol [.r [(3,wF),(4,wF),(5,wF),(6,wF),(7,wF),(8,wF),(9,wF),(10,wF)],.c true,.s 4] [2,8,9,10,11,13,14,15,16] [] (aO c9 c9 c9 c9 c9 c9 c9 (aJ c9 c9 eT)) (Zah.p2_ok h11 hE hc1)
 ·refine ZaY h12 (fun c10 h13=>?_) (fun c10 h14=>?_)
  ·exact aq fol [.r [(11,yF)],.c true,.s 4] [2,8,9,10,11,13,14,15,16] [] (aO c9 c9 c9 c9 c9 c9 c9 (aJ c9 c9 c10)) (Zah.p2_ok h13 hE hc1)
  ·exact aq fol [.r [(11,yF)],.c false,.s 1] [2,8,9,10,11,13,14,15] [] (aO c9 c9 c9 c9 c9 c9 c9 (aJ c9 c9 c10)) (Zah.p3_ok h14 hE)
theorem Zah.snd {hi_0 lo_1 y_2:Int} {r:Int×Int} (h:Zah N hi_0 lo_1 y_2=some r):Zde zF 109 [.one (zI .u64 hi_0),.one (zI .u64 lo_1),.one (zI .u64 y_2)] (Zah.rs r):=fun st=>
 sO Zah.B Tryz.func109 fun g0 w0 R hE=>by
  unfold Zah at h
  let o1:List PS:=[.r [],.r [],.c false,.r [],.c false,.r []]
  refine ZaY h (fun c1 h15=>?_) (fun c1 h16=>?_)
  ·cases h15
  ·refine ZaY h16 (fun c2 h17=>?_) (fun c2 h18=>?_)
   ·cases h17
   ·refine ZaY h18 (fun c3 h19=>?_) (fun c3 h20=>?_)
    ·obtain ⟨c4,h21⟩:=ZaP h19
     obtain rfl:=Zac h21
     exact afd fol hE (o1 ++ [.c true,.d {ds:=[],hv:=0,Hs:=[]}]) [] 0 [] (aL c1 c2 c3 c4 c4)
    ·obtain ⟨x1,c5,h22⟩:=Zaf h20
     obtain ⟨c6,c7,c8,h23⟩:=ck3 h22
     exact aq fol (o1 ++ [.c false,.r [(1,q1 [oI x1])],.r [],.r [],.r [],.r [],.r [],.r [],.r [],.r [],.r []]) [2,8,9,10,11,13,14,15,16] [] (aO c1 c2 c3 (Zbv.snd c5) c6 (leI 0 32) c6 (aK c7 c6 (leI 0 32) c8)) (At.loop N (At.loopN (fun y:Int×Int=>Zah.p1.S y_2 x1 hi_0 lo_1 y.1 y.2 st) (fun c J hc y h=>Zah.p1_ok (q1_2:=y.1) (rhat_3:=y.2) h hE (fun q1_2 rhat_3=>hc (q1_2,rhat_3))) N (v64 (zN (Zay .or .u64 (Zbi .u64 hi_0 (v64 (x1))) (Zba .u64 lo_1 (v64 (64-(v64 (x1)))))) (Zba .u64 (Zbi .u64 y_2 (v64 (x1))) 32)),v64 ((Zay .or .u64 (Zbi .u64 hi_0 (v64 (x1))) (Zba .u64 lo_1 (v64 (64-(v64 (x1))))))-(v64 ((v64 (zN (Zay .or .u64 (Zbi .u64 hi_0 (v64 (x1))) (Zba .u64 lo_1 (v64 (64-(v64 (x1)))))) (Zba .u64 (Zbi .u64 y_2 (v64 (x1))) 32)))*(Zba .u64 (Zbi .u64 y_2 (v64 (x1))) 32))))) h23))
def ZbT.B:Code:=Tryz.f98.body.getD .skip
def ZbT.rs (r:(List Int)×Int):List CV:=[.agg [zH .u64 4 r.1],.one (zI .u64 r.2)]
def ZbT.p1 (N:Nat) (by_1:Int) (c1_:(Int×Int×(List Int))→Option ((List Int)×Int)):(Int×Int×(List Int))→Option ((List Int)×Int):=fun (r_1,i_2,a_5)=>
 if (decide (i_2≥0))=true then
  chk (0≤i_2)<|
  chk (i_2<4)<|
  Zbt (Zah N r_1 (zD a_5 (zE i_2) 0) by_1) fun (x6,x7)=>
  c1_ (x7,w64 (i_2-1),zP a_5 (zE i_2) x6)
 else
 some (a_5,r_1)
def ZbT (N:Nat) (a_0_0:List Int) (by_1:Int):Option ((List Int)×Int):=
 if (by_1==0)=true then
  some (zB 4 0,0)
 else
 loopN (ZbT.p1 N by_1) N (0,3,a_0_0)
def ZbT.p1.S (by_1 r_1 i_2:Int) (a_5:List Int) (st:LL):S:=mkS 28 [(1,.one (.l (zI .u64 by_1))),(2,sA 2),(4,sA 4),(6,.one (.l (zI .u64 r_1))),(7,sI i_2)] [(2,.cells [zH .u64 4 a_5]),(4,.cells [zH .u64 4 (zB 4 0)])] st
theorem ZbT.p1_ok {by_1 r_1 i_2 a_5 st r c1_ J1} (h:ZbT.p1 N by_1 c1_ (r_1,i_2,a_5)=some r) (hE:En Tryz.f98 g0 w0 (ZbT.rs r) st R) (hc1 : ∀r_1 i_2 a_5,c1_ (r_1,i_2,a_5)=some r→At g0 w0 (ZbT.p1.S by_1 r_1 i_2 a_5 st) J1):At g0 w0 (ZbT.p1.S by_1 r_1 i_2 a_5 st) (XK zF R (.c (Zbn ZbT.B [1,1,1,0,1,0,0]) :: .h J1 :: [.b 0,.c (Zbn ZbT.B [1,1,1,1])])):=by
 unfold ZbT.p1 at h
 refine ZaY h (fun c6 h1=>?_) (fun c6 h2=>?_)
 ·obtain ⟨c7,c8,h3⟩:=ck2 h1
  obtain ⟨⟨x6,x7⟩,c9,h4⟩:=Zaf h3
  exact an fol [.r [],.c true,.r [(6,q1 [.one (zI .u64 x6),.one (zI .u64 x7)])],.r []] [1,2,4,6,7] [2,4] (aM c6 c7 c8 (Zah.snd c9) c7 c8) (hc1 x7 (w64 (i_2-1)) (zP a_5 (zE i_2) x6) h4)
 ·obtain rfl:=Zac h2
  exact af fol hE [.r [],.c false,.r []] [] 0 [] c6
theorem ZbT.snd {a_0_0:List Int} {by_1:Int} {r:(List Int)×Int} (h:ZbT N a_0_0 by_1=some r):Zde zF 98 [.agg [zH .u64 4 a_0_0],.one (zI .u64 by_1)] (ZbT.rs r):=fun st=>
 sO ZbT.B Tryz.func98 fun g0 w0 R hE=>by
  unfold ZbT at h
  refine ZaY h (fun c1 h5=>?_) (fun c1 h6=>?_)
  ·obtain rfl:=Zac h5
   exact af fol hE [.r [],.r [],.c true,.r []] [] 0 [] c1
  ·exact aq fol [.r [],.r [],.c false,.r [],.r []] [1,2,4,6,7] [2,4] c1 (At.loop N (At.loopN (fun y:Int×Int×(List Int)=>ZbT.p1.S by_1 y.1 y.2.1 y.2.2 st) (fun c J hc y h=>ZbT.p1_ok (r_1:=y.1) (i_2:=y.2.1) (a_5:=y.2.2) h hE (fun r_1 i_2 a_5=>hc (r_1,i_2,a_5))) N (0,3,a_0_0) h6))
def Zcf.B:Code:=Tryz.f110.body.getD .skip
def Zcf.rs (r:Int×Int):List CV:=[.one (zI .u64 r.1),.one (zI .u64 r.2)]
def Zcf (N:Nat) (x_0 y_1:Int):Option (Int×Int):=
 some (v64 ((v64 ((v64 ((Zba .u64 x_0 32)*(Zba .u64 y_1 32)))+(Zba .u64 (v64 ((v64 ((Zba .u64 x_0 32)*(Zay .and .u64 y_1 4294967295)))+(Zba .u64 (v64 ((Zay .and .u64 x_0 4294967295)*(Zay .and .u64 y_1 4294967295))) 32))) 32)))+(Zba .u64 (v64 ((Zay .and .u64 (v64 ((v64 ((Zba .u64 x_0 32)*(Zay .and .u64 y_1 4294967295)))+(Zba .u64 (v64 ((Zay .and .u64 x_0 4294967295)*(Zay .and .u64 y_1 4294967295))) 32))) 4294967295)+(v64 ((Zay .and .u64 x_0 4294967295)*(Zba .u64 y_1 32))))) 32)),v64 (x_0*y_1))
theorem Zcf.snd {x_0 y_1:Int} {r:Int×Int} (h:Zcf N x_0 y_1=some r):Zde zF 110 [.one (zI .u64 x_0),.one (zI .u64 y_1)] (Zcf.rs r):=fun st=>
 sO Zcf.B Tryz.func110 fun g0 w0 R hE=>by
  unfold Zcf at h
  obtain rfl:=Zac h
  exact af fol hE [.r [],.r [],.r [],.r [],.r [],.r [],.r [],.r [],.r [],.r [],.r [],.r []] [] 0 [] (aL (leI 0 32) (leI 0 32) (leI 0 32) (leI 0 32) (leI 0 32))
def ZbF.B:Code:=Tryz.f99.body.getD .skip
def ZbF.rs (r:(List Int)×Bool):List CV:=[.agg [zH .u64 4 r.1],oB r.2]
def ZbF.p1 (N:Nat) (by_1:Int) (c1_:(Int×Int×(List Int))→Option ((List Int)×Bool)):(Int×Int×(List Int))→Option ((List Int)×Bool):=fun (c_1,v2,a_7)=>
 if (decide (v2<4))=true then
  chk (0≤v2)<|
  Zbt (Zcf N (zD a_7 (zE v2) 0) by_1) fun (x8,x9)=>
  Zbt (Zdk N x9 c_1 0) fun (x10,x11)=>
  c1_ (v64 (x8+x11),w64 (v2+1),zP a_7 (zE v2) x10)
 else
 some (a_7,c_1 != 0)
def ZbF (N:Nat) (a_0_0:List Int) (by_1:Int):Option ((List Int)×Bool):=
 loopN (ZbF.p1 N by_1) N (0,0,a_0_0)
def ZbF.p1.S (by_1 c_1 v2:Int) (a_7:List Int) (st:LL):S:=mkS 37 [(1,.one (.l (zI .u64 by_1))),(2,sA 2),(4,sA 4),(6,.one (.l (zI .u64 c_1))),(11,sI v2)] [(2,.cells [zH .u64 4 a_7]),(4,.cells [zH .u64 4 (zB 4 0)])] st
theorem ZbF.p1_ok {by_1 c_1 v2 a_7 st r c1_ J1} (h:ZbF.p1 N by_1 c1_ (c_1,v2,a_7)=some r) (hE:En Tryz.f99 g0 w0 (ZbF.rs r) st R) (hc1 : ∀c_1 v2 a_7,c1_ (c_1,v2,a_7)=some r→At g0 w0 (ZbF.p1.S by_1 c_1 v2 a_7 st) J1):At g0 w0 (ZbF.p1.S by_1 c_1 v2 a_7 st) (XK zF R (.c (Zbn ZbF.B [1,1,0,1,0,0]) :: .h J1 :: [.b 0,.c (Zbn ZbF.B [1,1,1])])):=by
 unfold ZbF.p1 at h
 refine ZaY h (fun c5 h1=>?_) (fun c5 h2=>?_)
 ·obtain ⟨c6,h3⟩:=ZaP h1
  obtain ⟨⟨x8,x9⟩,c7,h4⟩:=Zaf h3
  obtain ⟨⟨x10,x11⟩,c8,h5⟩:=Zaf h4
  exact an fol [.r [],.c true,.r [],.r [(4,q1 [.one (zI .u64 x8),.one (zI .u64 x9)])],.r [],.r [(3,{rs:=[.one (zI .u64 x10),.one (zI .u64 x11)],m:=4})],.r [],.r []] [1,2,4,6,11] [2,4] (aN c5 c6 (oD c5) (Zcf.snd c7) (Zdk.snd c8) c6 (oD c5)) (hc1 (v64 (x8+x11)) (w64 (v2+1)) (zP a_7 (zE v2) x10) h5)
 ·obtain rfl:=Zac h2
  exact af fol hE [.r [],.c false,.r []] [] 0 [] c5
theorem ZbF.snd {a_0_0:List Int} {by_1:Int} {r:(List Int)×Bool} (h:ZbF N a_0_0 by_1=some r):Zde zF 99 [.agg [zH .u64 4 a_0_0],.one (zI .u64 by_1)] (ZbF.rs r):=fun st=>
 sO ZbF.B Tryz.func99 fun g0 w0 R hE=>by
  unfold ZbF at h
  exact aq fol [.r [],.r [],.r []] [1,2,4,6,11] [2,4] trivial (At.loop N (At.loopN (fun y:Int×Int×(List Int)=>ZbF.p1.S by_1 y.1 y.2.1 y.2.2 st) (fun c J hc y h=>ZbF.p1_ok (c_1:=y.1) (v2:=y.2.1) (a_7:=y.2.2) h hE (fun c_1 v2 a_7=>hc (c_1,v2,a_7))) N (0,0,a_0_0) h))
def ZaK.B:Code:=Tryz.f100.body.getD .skip
def ZaK.rs (r:Int):List CV:=[oI r]
def ZaK.p2 (N:Nat) (size_5 word_6:Int):Option Int:=
 some (Zay .or .i64 (Zbi .i64 size_5 24) word_6)
def ZaK.p1 (N:Nat) (x1 word_4:Int):Option Int:=
 if ((Zay .and .i64 word_4 8388608) != 0)=true then
  ZaK.p2 N (w64 ((w64 (zN (w64 (x1+7)) 8))+1)) (Zba .i64 word_4 8)
 else
 ZaK.p2 N (w64 (zN (w64 (x1+7)) 8)) word_4
def ZaK (N:Nat) (n_0_0:List Int):Option Int:=
 Zbt (ZbX N n_0_0) fun x1=>
 if (decide ((w64 (zN (w64 (x1+7)) 8))≤3))=true then
  Zbt (Zbr N n_0_0 (w64 (8*(w64 (3-(w64 (zN (w64 (x1+7)) 8))))))) fun x2=>
  ZaK.p1 N x1 (w64 (zD x2 0 0))
 else
 Zbt (ZaU N n_0_0 (w64 (8*(w64 ((w64 (zN (w64 (x1+7)) 8))-3))))) fun x3=>
 ZaK.p1 N x1 (w64 (zD x3 0 0))
def ZaK.p2.S (size_5 word_6:Int) (st:LL):S:=mkS 36 [(3,sI size_5),(4,sI word_6)] [] st
def ZaK.p1.S (x1 word_4:Int) (st:LL):S:=mkS 36 [(3,sI (w64 (zN (w64 (x1+7)) 8))),(4,sI word_4)] [] st
theorem ZaK.p2_ok {size_5 word_6 st r} (h:ZaK.p2 N size_5 word_6=some r) (hE:En Tryz.f100 g0 w0 (ZaK.rs r) st R):At g0 w0 (ZaK.p2.S size_5 word_6 st) (XK zF R [.c (Zbn ZaK.B [1,1,1,1,1])]):=by
 unfold ZaK.p2 at h
 obtain rfl:=Zac h
 exact af fol hE [.r []] [] 0 [] (leI 0 24)
theorem ZaK.p1_ok {x1 word_4 st r} (h:ZaK.p1 N x1 word_4=some r) (hE:En Tryz.f100 g0 w0 (ZaK.rs r) st R):At g0 w0 (ZaK.p1.S x1 word_4 st) (XK zF R [.c (Zbn ZaK.B [1,1,1,1])]):=by
 unfold ZaK.p1 at h
 refine ZaY h (fun c5 h1=>?_) (fun c5 h2=>?_)
 ·exact aq fol [.r [],.c true,.r [],.r [],.s 1] [3,4] [] (aI c5 (leI 0 8)) (ZaK.p2_ok h1 hE)
 ·exact aq fol [.r [],.c false,.s 1] [3,4] [] c5 (ZaK.p2_ok h2 hE)
theorem ZaK.snd {n_0_0:List Int} {r:Int} (h:ZaK N n_0_0=some r):Zde zF 100 [.agg [zH .u64 4 n_0_0]] (ZaK.rs r):=fun st=>
 sO ZaK.B Tryz.func100 fun g0 w0 R hE=>by
  unfold ZaK at h
  obtain ⟨x1,c1,h3⟩:=Zaf h
  let o1:List PS:=[.r [],.r [(1,q1 [oI x1])],.r [],.r []]
  refine ZaY h3 (fun c2 h4=>?_) (fun c2 h5=>?_)
  ·obtain ⟨x2,c3,h6⟩:=Zaf h4
   exact aq fol (o1 ++ [.c true,.r [(4,q1 [.agg [zH .u64 4 x2]])],.s 1]) [3,4] [] (aM (ZbX.snd c1) (neI 8) c2 (Zbr.snd c3) (leI 0 0) (ltI 0 4)) (ZaK.p1_ok h6 hE)
  ·obtain ⟨x3,c4,h7⟩:=Zaf h5
   exact aq fol (o1 ++ [.c false,.r [(4,q1 [.agg [zH .u64 4 x3]])],.s 1]) [3,4] [] (aM (ZbX.snd c1) (neI 8) c2 (ZaU.snd c4) (leI 0 0) (ltI 0 4)) (ZaK.p1_ok h7 hE)
def Zbm.B:Code:=Tryz.f74.body.getD .skip
def Zbm.rs (r:Int):List CV:=[oI r]
def Zbm.p1 (N:Nat) (n_17:List Int):Option Int:=
 Zbt (ZaK N n_17) fun x18=>
 some x18
def Zbm (N:Nat) (p_0:Zae) (bits_1 from_2 to_3:Int):Option Int:=
 Zbt (ZbV N bits_1 p_0.Limit) fun (x1,x2)=>
 Zbt (ZdE N p_0) fun x3=>
 if (!x3)=true then
  some p_0.Limit
 else
 if (!x2)=true then
  some p_0.Limit
 else
 Zbt (ZdX N p_0 from_2 to_3) fun x4=>
 Zbt (ZbT N x1 (v64 (w64 (p_0.Interval*p_0.Spacing)))) fun (x5,x6)=>
 Zbt (ZbF N x5 (v64 (x4))) fun (x7,x8)=>
 chk ((v64 (w64 (p_0.Interval*p_0.Spacing)))≠0)<|
 Zbt (ZcH N (v64 (zN (v64 (x6*(v64 (x4)))) (v64 (w64 (p_0.Interval*p_0.Spacing)))))) fun x9=>
 Zbt (Zby N x7 x9) fun (x10,x11)=>
 Zbt (ZbV N p_0.Limit p_0.Limit) fun (x12,x13)=>
 if x8=true then
  some p_0.Limit
 else
 if x11=true then
  some p_0.Limit
 else
 Zbt (Zcz N x12 x10) fun x14=>
 if x14=true then
  some p_0.Limit
 else
 Zbt (Zcs N x10) fun x15=>
 if x15=true then
  Zbt (ZcH N 1) fun x16=>
  Zbm.p1 N x16
 else
 Zbm.p1 N x10
def Zbm.p1.S (n_17:List Int) (st:LL):S:=mkS 94 [(15,sA 15)] [(15,.cells [zH .u64 4 n_17])] st
theorem Zbm.p1_ok {n_17 st r} (h:Zbm.p1 N n_17=some r) (hE:En Tryz.f74 g0 w0 (Zbm.rs r) st R):At g0 w0 (Zbm.p1.S n_17 st) (XK zF R [.c (Zbn Zbm.B [1,1,1,1,1,1,1,1,1,1,1])]):=by
 unfold Zbm.p1 at h
 obtain ⟨x18,c19,h1⟩:=Zaf h
 obtain rfl:=Zac h1
 exact af fol hE [.r [(1,q1 [oI x18])]] [] 0 [] (ZaK.snd c19)
theorem Zbm.snd {p_0:Zae} {bits_1 from_2 to_3:Int} {r:Int} (h:Zbm N p_0 bits_1 from_2 to_3=some r):Zde zF 74 [.agg p_0.ls,oI bits_1,oI from_2,oI to_3] (Zbm.rs r):=fun st=>
 sO Zbm.B Tryz.func74 fun g0 w0 R hE=>by
  unfold Zbm at h
  obtain ⟨⟨x1,x2⟩,c1,h2⟩:=Zaf h
  obtain ⟨x3,c2,h3⟩:=Zaf h2
  let o1:List PS:=[.r [],.r [(3,q1 [.agg [zH .u64 4 x1],oB x2])]]
  have t1 {Q:Prop} (q:Q):=aJ (ZbV.snd c1) (ZdE.snd c2) q
  refine ZaY h3 (fun c3 h4=>?_) (fun c3 h5=>?_)
  ·obtain rfl:=Zac h4
   exact af fol hE (o1 ++ [.r [(1,q1 [oB x3]),(4,wF),(5,wF)],.c true,.r []]) [] 0 [] (t1 (aK (not_false (ZbB c3)) (not_false (ZbB c3)) (not_false (ZbB c3)) eT))
  ·let o2:List PS:=o1 ++ [.r [(1,q1 [oB x3]),(6,yF)]]
   have t2 {Q:Prop} (q:Q):=t1 (aK (not_true (ZbC c3)) (not_true (ZbC c3)) (not_true (ZbC c3)) q)
   refine ZaY h5 (fun c4 h6=>?_) (fun c4 h7=>?_)
   ·obtain rfl:=Zac h6
    exact af fol hE (o2 ++ [.c true,.r []]) [] 0 [] (t2 c4)
   ·obtain ⟨x4,c5,h8⟩:=Zaf h7
    obtain ⟨⟨x5,x6⟩,c6,h9⟩:=Zaf h8
    obtain ⟨⟨x7,x8⟩,c7,h10⟩:=Zaf h9
    obtain ⟨c8,h11⟩:=ZaP h10
    obtain ⟨x9,c9,h12⟩:=Zaf h11
    obtain ⟨⟨x10,x11⟩,c10,h13⟩:=Zaf h12
    obtain ⟨⟨x12,x13⟩,c11,h14⟩:=Zaf h13
    let o3:List PS:=o2 ++ [.c false,.r [],.r [(3,q1 [oI x4])],.r [(2,q1 [.agg [zH .u64 4 x5],.one (zI .u64 x6)])],.r [(2,q1 [.agg [zH .u64 4 x7],oB x8])],.d {ds:=[(6,q1 [.agg [zH .u64 4 x9]]),(7,q1 [.agg [zH .u64 4 x10],oB x11])],hv:=2048,Hs:=[2048]},.r [(4,q1 [.agg [zH .u64 4 x12],oB x13])]]
    have t3 {Q:Prop} (q:Q):=t2 (aO c4 (ZdX.snd c5) (ZbT.snd c6) (ZbF.snd c7) c8 (ZcH.snd c9) (Zby.snd c10) (aI (ZbV.snd c11) q))
    refine ZaY h14 (fun c12 h15=>?_) (fun c12 h16=>?_)
    ·obtain rfl:=Zac h15
     exact afd fol hE (o3 ++ [.r [(2,wF),(5,wF),(6,wF),(7,wF)],.c true,.r []]) [] 0 [] (t3 (aN c12 c12 eT eT eT eT eT))
    ·refine ZaY h16 (fun c13 h17=>?_) (fun c13 h18=>?_)
     ·obtain rfl:=Zac h17
      exact afd fol hE (o3 ++ [.r [(3,yF),(5,wF),(6,wF),(7,wF)],.c true,.r []]) [] 0 [] (t3 (aN c12 c12 c13 c13 c13 c13 eT))
     ·obtain ⟨x14,c14,h19⟩:=Zaf h18
      let o4:List PS:=o3 ++ [.r [(3,yF),(7,q1 [oB x14]),(8,yF)]]
      have t4 {Q:Prop} (q:Q):=t3 (aO c12 c12 c13 c13 c13 (Zcz.snd c14) c13 q)
      refine ZaY h19 (fun c15 h20=>?_) (fun c15 h21=>?_)
      ·obtain rfl:=Zac h20
       exact afd fol hE (o4 ++ [.c true,.r []]) [] 0 [] (t4 c15)
      ·obtain ⟨x15,c16,h22⟩:=Zaf h21
       let o5:List PS:=o4 ++ [.c false,.r [(1,q1 [oB x15])]]
       refine ZaY h22 (fun c17 h23=>?_) (fun c17 h24=>?_)
       ·obtain ⟨x16,c18,h25⟩:=Zaf h23
        exact aqd fol (o5 ++ [.c true,.r [(0,q1 [.agg [zH .u64 4 x16]])],.s 1]) [15] [15] (t4 (aK c15 (Zcs.snd c16) c17 (ZcH.snd c18))) (Zbm.p1_ok h25 hE)
       ·exact aqd fol (o5 ++ [.c false,.s 1]) [15] [15] (t4 (aJ c15 (Zcs.snd c16) c17)) (Zbm.p1_ok h24 hE)
def ZdY.B:Code:=Tryz.f46.body.getD .skip
def ZdY.rs (r:Int):List CV:=[oI r]
def ZdY (N:Nat) (p_0:Zae) (at_1:ZcN) (time_2:Int):Option Int:=
 if (decide (at_1.Height≤0))=true then
  some p_0.Limit
 else
 Zbt (ZcB N p_0 at_1.Height) fun x1=>
 if x1=true then
  Zbt (Zbm N p_0 at_1.Bits at_1.First at_1.Time) fun x2=>
  some x2
 else
 if (!p_0.Easy)=true then
  some at_1.Bits
 else
 if (decide ((w64 (time_2-at_1.Time))>(w64 (2*p_0.Spacing))))=true then
  some p_0.Limit
 else
 some at_1.Hard
theorem ZdY.snd {p_0:Zae} {at_1:ZcN} {time_2:Int} {r:Int} (h:ZdY N p_0 at_1 time_2=some r):Zde zF 46 [.agg p_0.ls,.agg at_1.ls,oI time_2] (ZdY.rs r):=fun st=>
 sO ZdY.B Tryz.func46 fun g0 w0 R hE=>by
  unfold ZdY at h
  refine ZaY h (fun c1 h1=>?_) (fun c1 h2=>?_)
  ·obtain rfl:=Zac h1
   exact af fol hE [.r [],.r [],.c true,.r []] [] 0 [] c1
  ·obtain ⟨x1,c2,h3⟩:=Zaf h2
   let o1:List PS:=[.r [],.r [],.c false,.r [(3,q1 [oB x1])]]
   have t1 {Q:Prop} (q:Q):=aJ c1 (ZcB.snd c2) q
   refine ZaY h3 (fun c3 h4=>?_) (fun c3 h5=>?_)
   ·obtain ⟨x2,c4,h6⟩:=Zaf h4
    obtain rfl:=Zac h6
    exact af fol hE (o1 ++ [.c true,.r [(7,q1 [oI x2])]]) [] 0 [] (t1 (aI c3 (Zbm.snd c4)))
   ·refine ZaY h5 (fun c5 h7=>?_) (fun c5 h8=>?_)
    ·obtain rfl:=Zac h7
     exact af fol hE (o1 ++ [.c false,.r [],.c true,.r []]) [] 0 [] (t1 (aI c3 c5))
    ·refine ZaY h8 (fun c6 h9=>?_) (fun c6 h10=>?_)
     ·obtain rfl:=Zac h9
      exact af fol hE (o1 ++ [.c false,.r [],.c false,.r [],.c true,.r []]) [] 0 [] (t1 (aJ c3 c5 c6))
     ·obtain rfl:=Zac h10
      exact af fol hE (o1 ++ [.c false,.r [],.c false,.r [],.c false,.r []]) [] 0 [] (t1 (aJ c3 c5 c6))
def Zbj.B:Code:=Tryz.f101.body.getD .skip
def Zbj.rs (r:(List Int)):List CV:=[.agg [zH .u64 4 r]]
def Zbj.p1 (N:Nat) (h_0_0:List Int) (c1_:(Int×(List Int))→Option (List Int)):(Int×(List Int))→Option (List Int):=fun (v1,out_2)=>
 if (decide (v1<32))=true then
  chk (0≤v1)<|
  chk (0≤(w64 (zN v1 8)))<|
  chk ((w64 (zN v1 8))<4)<|
  chk (0≤(w64 (8*(zT v1 8))))<|
  c1_ (w64 (v1+1),zP out_2 (zE (w64 (zN v1 8))) (Zay .or .u64 (zD out_2 (zE (w64 (zN v1 8))) 0) (Zbi .u64 (v64 (zD h_0_0 (zE v1) 0)) (w64 (8*(zT v1 8))))))
 else
 some out_2
def Zbj (N:Nat) (h_0_0:List Int):Option (List Int):=
 loopN (Zbj.p1 N h_0_0) N (0,zB 4 0)
def Zbj.p1.S (h_0_0:List Int) (v1:Int) (out_2:List Int) (st:LL):S:=mkS 25 [(2,sA 2),(3,sA 3),(6,.agg [.l (zH .u8 32 h_0_0)]),(7,sI v1)] [(2,.cells [zH .u64 4 (zB 4 0)]),(3,.cells [zH .u64 4 out_2])] st
theorem Zbj.p1_ok {h_0_0 v1 out_2 st r c1_ J1} (h:Zbj.p1 N h_0_0 c1_ (v1,out_2)=some r) (hE:En Tryz.f101 g0 w0 (Zbj.rs r) st R) (hc1 : ∀v1 out_2,c1_ (v1,out_2)=some r→At g0 w0 (Zbj.p1.S h_0_0 v1 out_2 st) J1):At g0 w0 (Zbj.p1.S h_0_0 v1 out_2 st) (XK zF R (.c (Zbn Zbj.B [1,1,0,1,0,0]) :: .h J1 :: [.b 0,.c (Zbn Zbj.B [1,1,1])])):=by
 unfold Zbj.p1 at h
 refine ZaY h (fun c6 h1=>?_) (fun c6 h2=>?_)
 ·obtain ⟨c7,c8,c9,c10,h3⟩:=ck4 h1
  exact ZiS fol [.r [],.c true,.r [],.d {ds:=[],hv:=4096,Hs:=[4096]},.r []] [2,3,6,7] [2,3] (aO c6 c7 (oD c6) (neI 8) c8 c9 (neI 8) (aJ c10 c8 c9)) (hc1 (w64 (v1+1)) (zP out_2 (zE (w64 (zN v1 8))) (Zay .or .u64 (zD out_2 (zE (w64 (zN v1 8))) 0) (Zbi .u64 (v64 (zD h_0_0 (zE v1) 0)) (w64 (8*(zT v1 8)))))) h3)
 ·obtain rfl:=Zac h2
  exact af fol hE [.r [],.c false,.r []] [] 0 [] c6
theorem Zbj.snd {h_0_0:List Int} {r:(List Int)} (h:Zbj N h_0_0=some r):Zde zF 101 [.agg [zH .u8 32 h_0_0]] (Zbj.rs r):=fun st=>
 sO Zbj.B Tryz.func101 fun g0 w0 R hE=>by
  unfold Zbj at h
  exact aq fol [.r [],.r [],.r []] [2,3,6,7] [2,3] trivial (At.loop N (At.loopN (fun y:Int×(List Int)=>Zbj.p1.S h_0_0 y.1 y.2 st) (fun c J hc y h=>Zbj.p1_ok (v1:=y.1) (out_2:=y.2) h hE (fun v1 out_2=>hc (v1,out_2))) N (0,zB 4 0) h))
def ZcL.B:Code:=Tryz.f75.body.getD .skip
def ZcL.rs (r:Bool):List CV:=[oB r]
def ZcL (N:Nat) (h_0_0 target_1_0:List Int):Option Bool:=
 Zbt (Zbj N h_0_0) fun x1=>
 Zbt (Zcz N target_1_0 x1) fun x2=>
 some (!x2)
theorem ZcL.snd {h_0_0 target_1_0:List Int} {r:Bool} (h:ZcL N h_0_0 target_1_0=some r):Zde zF 75 [.agg [zH .u8 32 h_0_0],.agg [zH .u64 4 target_1_0]] (ZcL.rs r):=fun st=>
 sO ZcL.B Tryz.func75 fun g0 w0 R hE=>by
  unfold ZcL at h
  obtain ⟨x1,c1,h1⟩:=Zaf h
  obtain ⟨x2,c2,h2⟩:=Zaf h1
  obtain rfl:=Zac h2
  exact afd fol hE [.r [],.d {ds:=[(2,q1 [.agg [zH .u64 4 x1]]),(3,q1 [oB x2])],hv:=0,Hs:=[]}] [] 0 [] (aI (Zbj.snd c1) (Zcz.snd c2))
def Zdo.B:Code:=Tryz.f47.body.getD .skip
def Zdo.rs (r:Int):List CV:=[oI r]
def Zdo (N:Nat) (p_0:Zae) (h_1:Zaj):Option Int:=
 Zbt (ZbY N h_1) fun x1=>
 if (!x1)=true then
  some 1
 else
 Zbt (ZbV N h_1.Bits p_0.Limit) fun (x2,x3)=>
 if (!x3)=true then
  some 4
 else
 Zbt (Zdi N h_1) fun x4=>
 Zbt (ZcL N x4 x2) fun x5=>
 if (!x5)=true then
  some 4
 else
 some 0
theorem Zdo.snd {p_0:Zae} {h_1:Zaj} {r:Int} (h:Zdo N p_0 h_1=some r):Zde zF 47 [.agg p_0.ls,.agg h_1.ls] (Zdo.rs r):=fun st=>
 sO Zdo.B Tryz.func47 fun g0 w0 R hE=>by
  unfold Zdo at h
  obtain ⟨x1,c1,h1⟩:=Zaf h
  let o1:List PS:=[.r [],.r [(1,q1 [oB x1])]]
  have t1 {Q:Prop} (q:Q):=aI (ZbY.snd c1) q
  refine ZaY h1 (fun c2 h2=>?_) (fun c2 h3=>?_)
  ·obtain rfl:=Zac h2
   exact af fol hE (o1 ++ [.c true,.r []]) [] 0 [] (t1 c2)
  ·obtain ⟨⟨x2,x3⟩,c3,h4⟩:=Zaf h3
   let o2:List PS:=o1 ++ [.c false,.r [(4,q1 [.agg [zH .u64 4 x2],oB x3])]]
   have t2 {Q:Prop} (q:Q):=t1 (aJ c2 (ZbV.snd c3) q)
   refine ZaY h4 (fun c4 h5=>?_) (fun c4 h6=>?_)
   ·obtain rfl:=Zac h5
    exact afd fol hE (o2 ++ [.d {ds:=[(3,wF),(4,wF),(5,wF),(6,wF),(7,wF)],hv:=0,Hs:=[]},.c true,.r []]) [] 0 [] (t2 (aN (not_false (ZbB c4)) (not_false (ZbB c4)) (not_false (ZbB c4)) (not_false (ZbB c4)) (not_false (ZbB c4)) (not_false (ZbB c4)) eT))
   ·obtain ⟨x4,c5,h7⟩:=Zaf h6
    obtain ⟨x5,c6,h8⟩:=Zaf h7
    let o3:List PS:=o2 ++ [.d {ds:=[(4,q1 [.agg [zH .u8 32 x4]]),(6,q1 [oB x5]),(8,yF)],hv:=0,Hs:=[]}]
    have t3 {Q:Prop} (q:Q):=t2 (aO (not_true (ZbC c4)) (not_true (ZbC c4)) (Zdi.snd c5) (not_true (ZbC c4)) (not_true (ZbC c4)) (ZcL.snd c6) (not_true (ZbC c4)) (aI (not_true (ZbC c4)) q))
    refine ZaY h8 (fun c7 h9=>?_) (fun c7 h10=>?_)
    ·obtain rfl:=Zac h9
     exact afd fol hE (o3 ++ [.c true,.r []]) [] 0 [] (t3 c7)
    ·obtain rfl:=Zac h10
     exact afd fol hE (o3 ++ [.c false,.r []]) [] 0 [] (t3 c7)
end Go.Dn.F
end
