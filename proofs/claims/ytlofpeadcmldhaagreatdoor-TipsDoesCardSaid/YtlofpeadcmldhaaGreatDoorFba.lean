import Derived.Test.YtlofpeadcmldhaaGreatDoorFa
import Derived.Test.YtlofpeadcmldhaaGreatDoorFaP
import Derived.Test.YtlofpeadcmldhaaGreatDoorIns
set_option linter.all false
open Array renaming toList→qG
open ByteArray renaming size→yC,mk→wK,data→rO
open Go.Dn.L renaming int→zM,arr→zK,bool→xP,sl→vR,own→yT,bx→wJ,ptr→yN,str→vO
open Go.Proofs.Tryz renaming prog→zE
open Int renaming tdiv→zR,tmod→yA,toNat→zC
open List renaming set→zQ,getD→zF,replicate→zB,length→zG,map→vN
noncomputable section
set_option maxRecDepth 100000
namespace Go.Dn.F
open Go.Proofs
variable {N:Nat} {g0:G} {w0:World} {R:Exit→Act→World→Prop}
structure Zcy where
  Height:Int
  Version:Int
def Zcy.ls (x:Zcy):List L:=[zM .i64 x.Height,zM .i64 x.Version]
def Zez {α:Type} (l:List L) (k:Zcy→Option α):Option α:=match l with | [zM .i64 x0,zM .i64 x1]=>k ⟨x0,x1⟩ | _=>none
theorem ZeE {α:Type} {o:Option (List L)} {k:Zcy→Option α} {r:α} (h:ZcS o Zez k=some r) : ∃x:Zcy,o=some x.ls∧k x=some r:=by
  obtain ⟨l,e,k1⟩:=Zae h;subst e;unfold Zez at k1;split at k1
  · exact ⟨_,rfl,k1⟩
  cases k1
@[simp] theorem ZeX {α:Type} (x:Zcy) (k:Zcy→Option α):Zez x.ls k=k x:=rfl
theorem Zcy.bv {st:LL} (x:Zcy):BVs st x.ls x.ls:=(bP (bP bN))
structure Zcb where
  Height:Int
  Id:List Int
def Zcb.ls (x:Zcb):List L:=[zM .i64 x.Height,zK .u8 32 x.Id]
def Zeo {α:Type} (l:List L) (k:Zcb→Option α):Option α:=match l with | [zM .i64 x0,zK .u8 32 x1]=>k ⟨x0,x1⟩ | _=>none
theorem Zev {α:Type} {o:Option (List L)} {k:Zcb→Option α} {r:α} (h:ZcS o Zeo k=some r) : ∃x:Zcb,o=some x.ls∧k x=some r:=by
  obtain ⟨l,e,k1⟩:=Zae h;subst e;unfold Zeo at k1;split at k1
  · exact ⟨_,rfl,k1⟩
  cases k1
@[simp] theorem ZeF {α:Type} (x:Zcb) (k:Zcb→Option α):Zeo x.ls k=k x:=rfl
theorem Zcb.bv {st:LL} (x:Zcb):BVs st x.ls x.ls:=(bP (bP bN))
structure ZaF where
  rules:Zah
  list:LL
  spots:LL
  places:LM
  room:Int
def ZaF.lo (x:ZaF):List L:=[zM .i64 x.rules.Limit,zM .i64 x.rules.Interval,zM .i64 x.rules.Spacing,zM .i64 x.rules.Future,xP x.rules.Easy,vR 2 x.rules.Gates,vR 33 x.rules.Checks,zK .u64 4 x.rules.MinWork,zK .u64 4 x.rules.Margin,zM .i64 x.rules.Genesis.Version,zK .u8 32 x.rules.Genesis.Prev,zK .u8 32 x.rules.Genesis.Root,zM .i64 x.rules.Genesis.Time,zM .i64 x.rules.Genesis.Bits,zM .i64 x.rules.Genesis.Nonce,yT true 106 x.list,yT true 38 x.spots,L.mp x.places,zM .i64 x.room]
def Zby {α:Type} (l:List L) (k:ZaF→Option α):Option α:=match l with | [zM .i64 x0,zM .i64 x1,zM .i64 x2,zM .i64 x3,xP x4,vR 2 x5,vR 33 x6,zK .u64 4 x7,zK .u64 4 x8,zM .i64 x9,zK .u8 32 x10,zK .u8 32 x11,zM .i64 x12,zM .i64 x13,zM .i64 x14,yT true 106 x15,yT true 38 x16,L.mp x17,zM .i64 x18]=>k ⟨⟨x0,x1,x2,x3,x4,x5,x6,x7,x8,⟨x9,x10,x11,x12,x13,x14⟩⟩,x15,x16,x17,x18⟩ | _=>none
theorem Zbl {α:Type} {o:Option (List L)} {k:ZaF→Option α} {r:α} (h:ZcS o Zby k=some r) : ∃x:ZaF,o=some x.lo∧k x=some r:=by
  obtain ⟨l,e,k1⟩:=Zae h;subst e;unfold Zby at k1;split at k1
  · exact ⟨_,rfl,k1⟩
  cases k1
@[simp] theorem ZbK {α:Type} (x:ZaF) (k:ZaF→Option α):Zby x.lo k=k x:=rfl
def ZaF.ls (x:ZaF):List L:=[zM .i64 x.rules.Limit,zM .i64 x.rules.Interval,zM .i64 x.rules.Spacing,zM .i64 x.rules.Future,xP x.rules.Easy,vR 2 x.rules.Gates,vR 33 x.rules.Checks,zK .u64 4 x.rules.MinWork,zK .u64 4 x.rules.Margin,zM .i64 x.rules.Genesis.Version,zK .u8 32 x.rules.Genesis.Prev,zK .u8 32 x.rules.Genesis.Root,zM .i64 x.rules.Genesis.Time,zM .i64 x.rules.Genesis.Bits,zM .i64 x.rules.Genesis.Nonce,vR 106 x.list,vR 38 x.spots,L.mz x.places,zM .i64 x.room]
theorem ZaF.bv {st:LL} (x:ZaF):BVs st x.lo x.ls:=(bP (bP (bP (bP (bP (bS (bS (bP (bP (bP (bP (bP (bP (bP (bP (bW (bW (bM (bP bN)))))))))))))))))))
structure ZbY where
  Header:Zal
  Id:List Int
  Ahead:Int
  Height:Int
  Work:List Int
def ZbY.ls (x:ZbY):List L:=[zM .i64 x.Header.Version,zK .u8 32 x.Header.Prev,zK .u8 32 x.Header.Root,zM .i64 x.Header.Time,zM .i64 x.Header.Bits,zM .i64 x.Header.Nonce,zK .u8 32 x.Id,zM .i64 x.Ahead,zM .i64 x.Height,zK .u64 4 x.Work]
def Zed {α:Type} (l:List L) (k:ZbY→Option α):Option α:=match l with | [zM .i64 x0,zK .u8 32 x1,zK .u8 32 x2,zM .i64 x3,zM .i64 x4,zM .i64 x5,zK .u8 32 x6,zM .i64 x7,zM .i64 x8,zK .u64 4 x9]=>k ⟨⟨x0,x1,x2,x3,x4,x5⟩,x6,x7,x8,x9⟩ | _=>none
theorem ZeD {α:Type} {o:Option (List L)} {k:ZbY→Option α} {r:α} (h:ZcS o Zed k=some r) : ∃x:ZbY,o=some x.ls∧k x=some r:=by
  obtain ⟨l,e,k1⟩:=Zae h;subst e;unfold Zed at k1;split at k1
  · exact ⟨_,rfl,k1⟩
  cases k1
@[simp] theorem ZeQ {α:Type} (x:ZbY) (k:ZbY→Option α):Zed x.ls k=k x:=rfl
theorem ZbY.bv {st:LL} (x:ZbY):BVs st x.ls x.ls:=(bP (bP (bP (bP (bP (bP (bP (bP (bP (bP bN))))))))))
structure Zau where
  store:ZaF
  leaps:LL
def Zau.ls (x:Zau):List L:=[wJ 87 x.store.ls,vR 1 x.leaps]
structure ZaS where
  tree:Zau
  list:LL
def ZaS.ls (x:ZaS):List L:=[wJ 2 x.tree.ls,vR 1 x.list]
structure ZaI where
  Kind:Int
  Header:Zal
  Now:Int
  N:Int
def ZaI.ls (x:ZaI):List L:=[zM .i64 x.Kind,zM .i64 x.Header.Version,zK .u8 32 x.Header.Prev,zK .u8 32 x.Header.Root,zM .i64 x.Header.Time,zM .i64 x.Header.Bits,zM .i64 x.Header.Nonce,zM .i64 x.Now,zM .i64 x.N]
def Zdv {α:Type} (l:List L) (k:ZaI→Option α):Option α:=match l with | [zM .i64 x0,zM .i64 x1,zK .u8 32 x2,zK .u8 32 x3,zM .i64 x4,zM .i64 x5,zM .i64 x6,zM .i64 x7,zM .i64 x8]=>k ⟨x0,⟨x1,x2,x3,x4,x5,x6⟩,x7,x8⟩ | _=>none
theorem Zfh {α:Type} {o:Option (List L)} {k:ZaI→Option α} {r:α} (h:ZcS o Zdv k=some r) : ∃x:ZaI,o=some x.ls∧k x=some r:=by
  obtain ⟨l,e,k1⟩:=Zae h;subst e;unfold Zdv at k1;split at k1
  · exact ⟨_,rfl,k1⟩
  cases k1
@[simp] theorem Zfk {α:Type} (x:ZaI) (k:ZaI→Option α):Zdv x.ls k=k x:=rfl
theorem ZaI.bv {st:LL} (x:ZaI):BVs st x.ls x.ls:=(bP (bP (bP (bP (bP (bP (bP (bP (bP bN)))))))))
structure Zac where
  Rules:Zah
  List_:LL
  Ids:LL
  Ahead:LL
  Works:LL
  Room:Int
def Zac.lo (x:Zac):List L:=[zM .i64 x.Rules.Limit,zM .i64 x.Rules.Interval,zM .i64 x.Rules.Spacing,zM .i64 x.Rules.Future,xP x.Rules.Easy,vR 2 x.Rules.Gates,vR 33 x.Rules.Checks,zK .u64 4 x.Rules.MinWork,zK .u64 4 x.Rules.Margin,zM .i64 x.Rules.Genesis.Version,zK .u8 32 x.Rules.Genesis.Prev,zK .u8 32 x.Rules.Genesis.Root,zM .i64 x.Rules.Genesis.Time,zM .i64 x.Rules.Genesis.Bits,zM .i64 x.Rules.Genesis.Nonce,yT false 68 x.List_,yT false 32 x.Ids,yT false 1 x.Ahead,yT false 4 x.Works,zM .i64 x.Room]
def ZbL {α:Type} (l:List L) (k:Zac→Option α):Option α:=match l with | [zM .i64 x0,zM .i64 x1,zM .i64 x2,zM .i64 x3,xP x4,vR 2 x5,vR 33 x6,zK .u64 4 x7,zK .u64 4 x8,zM .i64 x9,zK .u8 32 x10,zK .u8 32 x11,zM .i64 x12,zM .i64 x13,zM .i64 x14,yT false 68 x15,yT false 32 x16,yT false 1 x17,yT false 4 x18,zM .i64 x19]=>k ⟨⟨x0,x1,x2,x3,x4,x5,x6,x7,x8,⟨x9,x10,x11,x12,x13,x14⟩⟩,x15,x16,x17,x18,x19⟩ | _=>none
theorem Zch {α:Type} {o:Option (List L)} {k:Zac→Option α} {r:α} (h:ZcS o ZbL k=some r) : ∃x:Zac,o=some x.lo∧k x=some r:=by
  obtain ⟨l,e,k1⟩:=Zae h;subst e;unfold ZbL at k1;split at k1
  · exact ⟨_,rfl,k1⟩
  cases k1
@[simp] theorem Zcm {α:Type} (x:Zac) (k:Zac→Option α):ZbL x.lo k=k x:=rfl
def Zac.ls (x:Zac):List L:=[zM .i64 x.Rules.Limit,zM .i64 x.Rules.Interval,zM .i64 x.Rules.Spacing,zM .i64 x.Rules.Future,xP x.Rules.Easy,vR 2 x.Rules.Gates,vR 33 x.Rules.Checks,zK .u64 4 x.Rules.MinWork,zK .u64 4 x.Rules.Margin,zM .i64 x.Rules.Genesis.Version,zK .u8 32 x.Rules.Genesis.Prev,zK .u8 32 x.Rules.Genesis.Root,zM .i64 x.Rules.Genesis.Time,zM .i64 x.Rules.Genesis.Bits,zM .i64 x.Rules.Genesis.Nonce,vR 68 x.List_,vR 32 x.Ids,vR 1 x.Ahead,vR 4 x.Works,zM .i64 x.Room]
theorem Zac.bv {st:LL} (x:Zac):BVs st x.lo x.ls:=(bP (bP (bP (bP (bP (bS (bS (bP (bP (bP (bP (bP (bP (bP (bP (bW (bW (bW (bW (bP bN))))))))))))))))))))
def ZgX {α:Type} (l:List L) (k:(List Int)→Option α):Option α:=match l with | [zK .u64 4 x0]=>k x0 | _=>none
theorem Zhp {α:Type} {o:Option (List L)} {k:(List Int)→Option α} {r:α} (h:ZcS o ZgX k=some r) : ∃x0,o=some [zK .u64 4 x0]∧k x0=some r:=by
  obtain ⟨l,e,k1⟩:=Zae h;subst e;unfold ZgX at k1;split at k1
  · exact ⟨_,rfl,k1⟩
  cases k1
@[simp] theorem Zib {α:Type} (x0:List Int) (k:(List Int)→Option α):ZgX [zK .u64 4 x0] k=k x0:=rfl
def Zbw {α:Type} (l:List L) (k:(Option Nat)→LL→Option α):Option α:=match l with | [yN x0,yT true 1 x1]=>k x0 x1 | _=>none
theorem Zbe {α:Type} {o:Option (List L)} {k:(Option Nat)→LL→Option α} {r:α} (h:ZcS o Zbw k=some r) : ∃x0 x1,o=some [yN x0,yT true 1 x1]∧k x0 x1=some r:=by
  obtain ⟨l,e,k1⟩:=Zae h;subst e;unfold Zbw at k1;split at k1
  · exact ⟨_,_,rfl,k1⟩
  cases k1
@[simp] theorem ZcP {α:Type} (x0:Option Nat) (x1:LL) (k:(Option Nat)→LL→Option α):Zbw [yN x0,yT true 1 x1] k=k x0 x1:=rfl
def ZnD {α:Type} (l:List L) (k:Bool→Option α):Option α:=match l with | [xP x0]=>k x0 | _=>none
theorem Zie {α:Type} {o:Option (List L)} {k:Bool→Option α} {r:α} (h:ZcS o ZnD k=some r) : ∃x0,o=some [xP x0]∧k x0=some r:=by
  obtain ⟨l,e,k1⟩:=Zae h;subst e;unfold ZnD at k1;split at k1
  · exact ⟨_,rfl,k1⟩
  cases k1
@[simp] theorem dec_b_ls {α:Type} (x0:Bool) (k:Bool→Option α):ZnD [xP x0] k=k x0:=rfl
theorem slices_Insert_int.snd:InsC zE 32:=slices_Insert_int.holds
theorem slices_Sort_int.snd:SortC zE 137:=slices_Sort_int.holds
theorem ZdW.snd {x y z:Int} {r:Int×Int} (h:ZdW N x y z=some r):ExtI zE 140 [(.u64,x),(.u64,y),(.u64,z)] [(.u64,r.1),(.u64,r.2)]:=ZlZ Tryz.func140 aG aG aG aG h
theorem Zfe.snd {x y z:Int} {r:Int×Int} (h:Zfe N x y z=some r):ExtI zE 149 [(.u64,x),(.u64,y),(.u64,z)] [(.u64,r.1),(.u64,r.2)]:=ZlY Tryz.func149 aG aG aG aG h
def Zdp.B:Code:=Tryz.f121.body.getD .skip
def Zdp.rs (r:(List Int)):List CV:=[.agg [zK .u64 4 r]]
def Zdp (N:Nat) (A0:Int):Option (List Int):= some [A0,0,0,0]
theorem Zdp.snd {A0:Int} {r:(List Int)} (h:Zdp N A0=some r):Zdo zE 121 [.one (zM .u64 A0)] (Zdp.rs r):=fun st=>
 sO Zdp.B Tryz.func121 fun g0 w0 R hE=>by
  unfold Zdp at h;exact xS fol h hE [rZ,.r [(1,{m:=3})]] trivial
def Zbk.B:Code:=Tryz.f122.body.getD .skip
def Zbk.rs (r:(List Int)):List CV:=[.agg [zK .u64 4 r]]
def Zbk.p2 (N:Nat) (c1_:(Int×(List Int))→Option (List Int)) (F1 v1:Int) (A0_0 A4:List Int):Option (List Int):= c1_ (w64 (v1+1),A4)
def Zbk.p1 (N:Nat) (F1:Int) (A0_0:List Int) (c1_:(Int×(List Int))→Option (List Int)):(Int×(List Int))→Option (List Int):=fun (v1,A3)=> if (decide (v1<(w64 (4-(w64 (zR (if (0:Int)>F1 then 0 else F1) 64))))))=true then chk (0≤(w64 (v1+(w64 (zR (if (0:Int)>F1 then 0 else F1) 64)))))<| chk ((w64 (v1+(w64 (zR (if (0:Int)>F1 then 0 else F1) 64))))<4)<| chk (0≤(yA (if (0:Int)>F1 then 0 else F1) 64))<| chk (0≤v1)<| chk (v1<4)<| if (decide ((w64 ((w64 (v1+(w64 (zR (if (0:Int)>F1 then 0 else F1) 64))))+1))<4))=true then chk (0≤(w64 ((w64 (v1+(w64 (zR (if (0:Int)>F1 then 0 else F1) 64))))+1)))<| chk (0≤(w64 (64-(yA (if (0:Int)>F1 then 0 else F1) 64))))<| Zbk.p2 N c1_ F1 v1 A0_0 (zQ (zQ A3 (zC v1) (Zbn .u64 (zF A0_0 (zC (w64 (v1+(w64 (zR (if (0:Int)>F1 then 0 else F1) 64))))) 0) (yA (if (0:Int)>F1 then 0 else F1) 64))) (zC v1) (ZaG .or .u64 (zF (zQ A3 (zC v1) (Zbn .u64 (zF A0_0 (zC (w64 (v1+(w64 (zR (if (0:Int)>F1 then 0 else F1) 64))))) 0) (yA (if (0:Int)>F1 then 0 else F1) 64))) (zC v1) 0) (ZbB .u64 (zF A0_0 (zC (w64 ((w64 (v1+(w64 (zR (if (0:Int)>F1 then 0 else F1) 64))))+1))) 0) (w64 (64-(yA (if (0:Int)>F1 then 0 else F1) 64)))))) else Zbk.p2 N c1_ F1 v1 A0_0 (zQ A3 (zC v1) (Zbn .u64 (zF A0_0 (zC (w64 (v1+(w64 (zR (if (0:Int)>F1 then 0 else F1) 64))))) 0) (yA (if (0:Int)>F1 then 0 else F1) 64))) else some A3
def Zbk (N:Nat) (A0_0:List Int) (F1:Int):Option (List Int):= if (decide (F1≥256))=true then some (zB 4 0) else loopN (Zbk.p1 N F1 A0_0) N (0,zB 4 0)
def Zbk.p2.S (F1 v1:Int) (A0_0 A4:List Int) (st:LL):S:=mkS 53 [(2,sA 2),(4,sA 4),(5,sA 5),(6,sI (w64 (zR (if (0:Int)>F1 then 0 else F1) 64))),(7,sI (yA (if (0:Int)>F1 then 0 else F1) 64)),(19,sI (w64 (4-(w64 (zR (if (0:Int)>F1 then 0 else F1) 64))))),(20,sI v1)] [(2,.cells [zK .u64 4 A0_0]),(4,.cells [zK .u64 4 (zB 4 0)]),(5,.cells [zK .u64 4 A4])] st
def Zbk.p1.S (F1 v1:Int) (A0_0 A3:List Int) (st:LL):S:=mkS 53 [(2,sA 2),(4,sA 4),(5,sA 5),(6,sI (w64 (zR (if (0:Int)>F1 then 0 else F1) 64))),(7,sI (yA (if (0:Int)>F1 then 0 else F1) 64)),(19,sI (w64 (4-(w64 (zR (if (0:Int)>F1 then 0 else F1) 64))))),(20,sI v1)] [(2,.cells [zK .u64 4 A0_0]),(4,.cells [zK .u64 4 (zB 4 0)]),(5,.cells [zK .u64 4 A3])] st
theorem Zbk.p2_ok {F1 v1 A0_0 A4 st r c1_ J1} (h:Zbk.p2 N c1_ F1 v1 A0_0 A4=some r) (hE:En Tryz.f122 g0 w0 (Zbk.rs r) st R) (hc1 : ∀v1 A3,c1_ (v1,A3)=some r→At g0 w0 (Zbk.p1.S F1 v1 A0_0 A3 st) J1):At g0 w0 (Zbk.p2.S F1 v1 A0_0 A4 st) (XK zE R [cK Zbk.B [1,1,1,1,0,1,0,0,1,1,1],.h J1,.b 0,cK Zbk.B [1,1,1,1,1]]):=by
 unfold Zbk.p2 at h;exact an fol [rZ] [2,4,5,6,7,19,20] [2,4,5] trivial (hc1 (w64 (v1+1)) A4 h)
theorem Zbk.p1_ok {F1 v1 A0_0 A3 st r c1_ J1} (h:Zbk.p1 N F1 A0_0 c1_ (v1,A3)=some r) (hE:En Tryz.f122 g0 w0 (Zbk.rs r) st R) (hc1 : ∀v1 A3,c1_ (v1,A3)=some r→At g0 w0 (Zbk.p1.S F1 v1 A0_0 A3 st) J1):At g0 w0 (Zbk.p1.S F1 v1 A0_0 A3 st) (XK zE R (cK Zbk.B [1,1,1,1,0,1,0,0] :: .h J1 :: [.b 0,cK Zbk.B [1,1,1,1,1]])):=by
 unfold Zbk.p1 at h;refine Zba h (fun c11 h1=>?_) (fun c11 h2=>?_)
 ·obtain ⟨c12,c13,c14,c15,c16,h3⟩:=ck5 h1;let o1:List PS:=[rZ,cT,rZ,rZ,rZ]
  refine Zba h3 (fun c17 h4=>?_) (fun c17 h5=>?_)
  ·obtain ⟨c18,c19,h6⟩:=ck2 h4;exact aqd fol (o1++[cT,.d {ds:=[],hv:=16384,Hs:=[16384]},.s 4]) [2,4,5,6,7,19,20] [2,4,5] (aO c11 c12 c13 c14 c15 c16 c17 (aN c15 c16 c18 (oD c17) c19 c15 c16)) (Zbk.p2_ok h6 hE hc1)
  exact aq fol (o1++[cF,.s 4]) [2,4,5,6,7,19,20] [2,4,5] (aN c11 c12 c13 c14 c15 c16 c17) (Zbk.p2_ok h5 hE hc1)
 exact xS fol h2 hE [rZ,cF,rZ] c11
theorem Zbk.snd {A0_0:List Int} {F1:Int} {r:(List Int)} (h:Zbk N A0_0 F1=some r):Zdo zE 122 [.agg [zK .u64 4 A0_0],oI F1] (Zbk.rs r):=fun st=>
 sO Zbk.B Tryz.func122 fun g0 w0 R hE=>by
  unfold Zbk at h;refine Zba h (fun c1 h7=>?_) (fun c1 h8=>?_)
  ·exact xS fol h7 hE [rZ,rZ,cT,rZ] c1
  exact aq fol [rZ,rZ,cF,rZ,rZ,rZ] [2,4,5,6,7,19,20] [2,4,5] (aJ c1 (neI 64) (neI 64)) (At.loop N (At.loopN (fun y:Int×(List Int)=>Zbk.p1.S F1 y.1 A0_0 y.2 st) (fun c J hc y h=>Zbk.p1_ok (v1:=y.1) (A3:=y.2) h hE (fun v1 A3=>hc (v1,A3))) N (0,zB 4 0) h8))
def ZbI.B:Code:=Tryz.f123.body.getD .skip
def ZbI.rs (r:(List Int)):List CV:=[.agg [zK .u64 4 r]]
def ZbI.p2 (N:Nat) (c1_:(Int×(List Int))→Option (List Int)) (F1 A1:Int) (A0_0 A4:List Int):Option (List Int):= c1_ (w64 (A1+1),A4)
def ZbI.p1 (N:Nat) (F1:Int) (A0_0:List Int) (c1_:(Int×(List Int))→Option (List Int)):(Int×(List Int))→Option (List Int):=fun (A1,A3)=> if (decide (A1<4))=true then chk (0≤(w64 (A1-(w64 (zR (if (0:Int)>F1 then 0 else F1) 64)))))<| chk ((w64 (A1-(w64 (zR (if (0:Int)>F1 then 0 else F1) 64))))<4)<| chk (0≤(yA (if (0:Int)>F1 then 0 else F1) 64))<| chk (0≤A1)<| if (decide (A1>(w64 (zR (if (0:Int)>F1 then 0 else F1) 64))))=true then chk (0≤(w64 ((w64 (A1-(w64 (zR (if (0:Int)>F1 then 0 else F1) 64))))-1)))<| chk ((w64 ((w64 (A1-(w64 (zR (if (0:Int)>F1 then 0 else F1) 64))))-1))<4)<| chk (0≤(w64 (64-(yA (if (0:Int)>F1 then 0 else F1) 64))))<| ZbI.p2 N c1_ F1 A1 A0_0 (zQ (zQ A3 (zC A1) (ZbB .u64 (zF A0_0 (zC (w64 (A1-(w64 (zR (if (0:Int)>F1 then 0 else F1) 64))))) 0) (yA (if (0:Int)>F1 then 0 else F1) 64))) (zC A1) (ZaG .or .u64 (zF (zQ A3 (zC A1) (ZbB .u64 (zF A0_0 (zC (w64 (A1-(w64 (zR (if (0:Int)>F1 then 0 else F1) 64))))) 0) (yA (if (0:Int)>F1 then 0 else F1) 64))) (zC A1) 0) (Zbn .u64 (zF A0_0 (zC (w64 ((w64 (A1-(w64 (zR (if (0:Int)>F1 then 0 else F1) 64))))-1))) 0) (w64 (64-(yA (if (0:Int)>F1 then 0 else F1) 64)))))) else ZbI.p2 N c1_ F1 A1 A0_0 (zQ A3 (zC A1) (ZbB .u64 (zF A0_0 (zC (w64 (A1-(w64 (zR (if (0:Int)>F1 then 0 else F1) 64))))) 0) (yA (if (0:Int)>F1 then 0 else F1) 64))) else some A3
def ZbI (N:Nat) (A0_0:List Int) (F1:Int):Option (List Int):= if (decide (F1≥256))=true then some (zB 4 0) else loopN (ZbI.p1 N F1 A0_0) N (w64 (zR (if (0:Int)>F1 then 0 else F1) 64),zB 4 0)
def ZbI.p2.S (F1 A1:Int) (A0_0 A4:List Int) (st:LL):S:=mkS 50 [(2,sA 2),(4,sA 4),(5,sA 5),(6,sI (w64 (zR (if (0:Int)>F1 then 0 else F1) 64))),(7,sI (yA (if (0:Int)>F1 then 0 else F1) 64)),(8,sI A1)] [(2,.cells [zK .u64 4 A0_0]),(4,.cells [zK .u64 4 (zB 4 0)]),(5,.cells [zK .u64 4 A4])] st
def ZbI.p1.S (F1 A1:Int) (A0_0 A3:List Int) (st:LL):S:=mkS 50 [(2,sA 2),(4,sA 4),(5,sA 5),(6,sI (w64 (zR (if (0:Int)>F1 then 0 else F1) 64))),(7,sI (yA (if (0:Int)>F1 then 0 else F1) 64)),(8,sI A1)] [(2,.cells [zK .u64 4 A0_0]),(4,.cells [zK .u64 4 (zB 4 0)]),(5,.cells [zK .u64 4 A3])] st
theorem ZbI.p2_ok {F1 A1 A0_0 A4 st r c1_ J1} (h:ZbI.p2 N c1_ F1 A1 A0_0 A4=some r) (hE:En Tryz.f123 g0 w0 (ZbI.rs r) st R) (hc1 : ∀A1 A3,c1_ (A1,A3)=some r→At g0 w0 (ZbI.p1.S F1 A1 A0_0 A3 st) J1):At g0 w0 (ZbI.p2.S F1 A1 A0_0 A4 st) (XK zE R [cK ZbI.B [1,1,1,1,0,1,0,0,1,1],.h J1,.b 0,cK ZbI.B [1,1,1,1,1]]):=by
 unfold ZbI.p2 at h;exact an fol [rZ] [2,4,5,6,7,8] [2,4,5] trivial (hc1 (w64 (A1+1)) A4 h)
theorem ZbI.p1_ok {F1 A1 A0_0 A3 st r c1_ J1} (h:ZbI.p1 N F1 A0_0 c1_ (A1,A3)=some r) (hE:En Tryz.f123 g0 w0 (ZbI.rs r) st R) (hc1 : ∀A1 A3,c1_ (A1,A3)=some r→At g0 w0 (ZbI.p1.S F1 A1 A0_0 A3 st) J1):At g0 w0 (ZbI.p1.S F1 A1 A0_0 A3 st) (XK zE R (cK ZbI.B [1,1,1,1,0,1,0,0] :: .h J1 :: [.b 0,cK ZbI.B [1,1,1,1,1]])):=by
 unfold ZbI.p1 at h;refine Zba h (fun c11 h1=>?_) (fun c11 h2=>?_)
 ·obtain ⟨c12,c13,c14,c15,h3⟩:=ck4 h1;refine Zba h3 (fun c16 h4=>?_) (fun c16 h5=>?_)
  ·obtain ⟨c17,c18,c19,h6⟩:=ck3 h4;exact aqd fol [rZ,cT,rZ,rZ,cT,.d {ds:=[],hv:=16384,Hs:=[16384]},.s 4] [2,4,5,6,7,8] [2,4,5] (aO c11 c12 c13 c14 c15 (oD c11) c16 (aN c15 (oD c11) c17 c18 c19 c15 (oD c11))) (ZbI.p2_ok h6 hE hc1)
  exact aq fol [rZ,cT,rZ,rZ,cF,.s 4] [2,4,5,6,7,8] [2,4,5] (aN c11 c12 c13 c14 c15 (oD c11) c16) (ZbI.p2_ok h5 hE hc1)
 exact xS fol h2 hE [rZ,cF,rZ] c11
theorem ZbI.snd {A0_0:List Int} {F1:Int} {r:(List Int)} (h:ZbI N A0_0 F1=some r):Zdo zE 123 [.agg [zK .u64 4 A0_0],oI F1] (ZbI.rs r):=fun st=>
 sO ZbI.B Tryz.func123 fun g0 w0 R hE=>by
  unfold ZbI at h;refine Zba h (fun c1 h7=>?_) (fun c1 h8=>?_)
  ·exact xS fol h7 hE [rZ,rZ,cT,rZ] c1
  exact aq fol [rZ,rZ,cF,rZ,rZ,rZ] [2,4,5,6,7,8] [2,4,5] (aJ c1 (neI 64) (neI 64)) (At.loop N (At.loopN (fun y:Int×(List Int)=>ZbI.p1.S F1 y.1 A0_0 y.2 st) (fun c J hc y h=>ZbI.p1_ok (A1:=y.1) (A3:=y.2) h hE (fun A1 A3=>hc (A1,A3))) N (w64 (zR (if (0:Int)>F1 then 0 else F1) 64),zB 4 0) h8))
def ZaO.B:Code:=Tryz.f104.body.getD .skip
def ZaO.rs (r:(List Int)×Bool×Bool):List CV:=[.agg [zK .u64 4 r.1],oB r.2.1,oB r.2.2]
def ZaO.p2 (N:Nat) (A0:Int) (A6:Bool) (A5:List Int):Option ((List Int)×Bool×Bool):= if ((ZaG .and .i64 A0 8388607) != 0)=true then if (decide ((Zbn .i64 A0 24)>34))=true then some (A5,A6,true) else if (decide ((ZaG .and .i64 A0 8388607)>255))=true then if (decide ((Zbn .i64 A0 24)>33))=true then some (A5,A6,true) else if (decide ((ZaG .and .i64 A0 8388607)>65535))=true then some (A5,A6,decide ((Zbn .i64 A0 24)>32)) else some (A5,A6,false) else if (decide ((ZaG .and .i64 A0 8388607)>65535))=true then some (A5,A6,decide ((Zbn .i64 A0 24)>32)) else some (A5,A6,false) else some (A5,A6,false)
def ZaO.p1 (N:Nat) (A0:Int) (A5:List Int):Option ((List Int)×Bool×Bool):= if ((ZaG .and .i64 A0 8388607) != 0)=true then ZaO.p2 N A0 ((ZaG .and .i64 A0 8388608) != 0) A5 else ZaO.p2 N A0 false A5
def ZaO (N:Nat) (A0:Int):Option ((List Int)×Bool×Bool):= Zbj (Zdn N A0) fun x1=> if (!x1)=true then some (zB 4 0,false,false) else Zbj (Zdp N (v64 (ZaG .and .i64 A0 8388607))) fun x2=> if (decide ((Zbn .i64 A0 24)≤3))=true then Zbj (Zbk N x2 (w64 (8*(w64 (3-(Zbn .i64 A0 24)))))) fun x3=> ZaO.p1 N A0 x3 else Zbj (ZbI N x2 (w64 (8*(w64 ((Zbn .i64 A0 24)-3))))) fun x4=> ZaO.p1 N A0 x4
def ZaO.p2.S (A0:Int) (A6:Bool) (A5:List Int) (st:LL):S:=mkS 65 [(2,sA 2),(5,sI (Zbn .i64 A0 24)),(6,sI (ZaG .and .i64 A0 8388607)),(7,sA 7),(8,.one (.l (xP A6)))] [(2,.cells [zK .u64 4 (zB 4 0)]),(7,.cells [zK .u64 4 A5])] st
def ZaO.p1.S (A0:Int) (A5:List Int) (st:LL):S:=mkS 65 [(0,sI A0),(2,sA 2),(5,sI (Zbn .i64 A0 24)),(6,sI (ZaG .and .i64 A0 8388607)),(7,sA 7)] [(2,.cells [zK .u64 4 (zB 4 0)]),(7,.cells [zK .u64 4 A5])] st
theorem ZaO.p2_ok {A0 A6 A5 st r} (h:ZaO.p2 N A0 A6 A5=some r) (hE:En Tryz.f104 g0 w0 (ZaO.rs r) st R):At g0 w0 (ZaO.p2.S A0 A6 A5 st) (XK zE R [cK ZaO.B [1,1,1,1,1,1]]):=by
 unfold ZaO.p2 at h;refine Zba h (fun c8 h1=>?_) (fun c8 h2=>?_)
 ·have t1 {Q:Prop} (q:Q):=aK c8 c8 c8 q;refine Zba h1 (fun c9 h3=>?_) (fun c9 h4=>?_)
  ·exact xS fol h3 hE [.r [(6,wF),(7,wF),(8,wF),(11,wF),(14,wF),(15,wF),(16,wF),(19,wF)],rZ] (t1 (aO c9 c9 c9 c9 c8 c9 c8 (aN eT eT eT eT c8 eT c8)))
  have t2 {Q:Prop} (q:Q):=t1 (aK c9 c9 c9 q);refine Zba h4 (fun c10 h5=>?_) (fun c10 h6=>?_)
  ·have t3 {Q:Prop} (q:Q):=t2 (aO c10 c10 c9 c10 c8 c9 c8 q);refine Zba h5 (fun c11 h7=>?_) (fun c11 h8=>?_)
   ·exact xS fol h7 hE [.r [(12,yF),(14,wF),(15,wF),(16,wF),(19,wF)],rZ] (t3 (aN c11 c11 c11 c11 c8 c11 c8))
   refine Zba h8 (fun c12 h9=>?_) (fun c12 h10=>?_)
   ·exact xS fol h9 hE [.r [(12,yF),(20,yF)],rZ] (t3 (aO c11 c11 c11 c12 c12 c11 c12 (aJ c8 c11 c8)))
   exact xS fol h10 hE [.r [(12,yF),(17,wF),(18,wF),(19,yF),(20,yF)],rZ] (t3 (aO c11 c11 c11 c12 c12 c11 c12 (aJ c8 c11 c8)))
  have t4 {Q:Prop} (q:Q):=t2 (aO c10 c10 c9 c10 c8 c9 c8 (aK eF eF eF q));refine Zba h6 (fun c13 h11=>?_) (fun c13 h12=>?_)
  ·exact xS fol h11 hE [.r [(9,wF),(10,wF),(11,yF),(12,yF),(20,yF)],rZ] (t4 (aN c13 c13 eF c13 c8 eF c8))
  exact xS fol h12 hE [.r [(9,wF),(10,wF),(11,yF),(12,yF),(17,wF),(18,wF),(19,yF),(20,yF)],rZ] (t4 (aN c13 c13 eF c13 c8 eF c8))
 exact xS fol h2 hE [.r [(3,wF),(4,wF),(5,wF),(12,wF),(13,wF),(20,wF),(21,yF)],rZ] (aN c8 c8 c8 c8 c8 c8 c8)
theorem ZaO.p1_ok {A0 A5 st r} (h:ZaO.p1 N A0 A5=some r) (hE:En Tryz.f104 g0 w0 (ZaO.rs r) st R):At g0 w0 (ZaO.p1.S A0 A5 st) (XK zE R [cK ZaO.B [1,1,1,1,1]]):=by
 unfold ZaO.p1 at h;refine Zba h (fun c7 h13=>?_) (fun c7 h14=>?_)
 ·exact aq fol [rZ,.s 1] [2,5,6,7,8] [2,7] (aK c7 c7 c7 c7) (ZaO.p2_ok h13 hE)
 exact aq fol [.r [(3,wF),(4,wF),(5,wF),(6,yF)],.s 1] [2,5,6,7,8] [2,7] (aK c7 c7 c7 c7) (ZaO.p2_ok h14 hE)
theorem ZaO.snd {A0:Int} {r:(List Int)×Bool×Bool} (h:ZaO N A0=some r):Zdo zE 104 [oI A0] (ZaO.rs r):=fun st=>
 sO ZaO.B Tryz.func104 fun g0 w0 R hE=>by
  unfold ZaO at h;obtain ⟨x1,c1,h15⟩:=Zae h;let o1:List PS:=[rZ,.r [(1,q1 [oB x1])]]
  have t5 {Q:Prop} (q:Q):=aI (Zdn.snd c1) q;refine Zba h15 (fun c2 h16=>?_) (fun c2 h17=>?_)
  ·exact xS fol h16 hE (o1++[cT,rZ]) (t5 c2)
  obtain ⟨x2,c3,h18⟩:=Zae h17;let o2:List PS:=o1++[cF,rZ,.r [(2,q1 [.agg [zK .u64 4 x2]])],rZ]
  refine Zba h18 (fun c4 h19=>?_) (fun c4 h20=>?_)
  ·obtain ⟨x3,c5,h21⟩:=Zae h19;exact aq fol (o2++[cT,.r [(4,q1 [.agg [zK .u64 4 x3]])],.s 1]) [0,2,5,6,7] [2,7] (t5 (aL c2 (leI 0 24) (Zdp.snd c3) c4 (Zbk.snd c5))) (ZaO.p1_ok h21 hE)
  obtain ⟨x4,c6,h22⟩:=Zae h20;exact aq fol (o2++[cF,.r [(4,q1 [.agg [zK .u64 4 x4]])],.s 1]) [0,2,5,6,7] [2,7] (t5 (aL c2 (leI 0 24) (Zdp.snd c3) c4 (ZbI.snd c6))) (ZaO.p1_ok h22 hE)
def ZcT.B:Code:=Tryz.f105.body.getD .skip
def ZcT.rs (r:Bool):List CV:=[oB r]
def ZcT (N:Nat) (A0_0:List Int):Option Bool:= some (A0_0==(zB 4 0))
theorem ZcT.snd {A0_0:List Int} {r:Bool} (h:ZcT N A0_0=some r):Zdo zE 105 [.agg [zK .u64 4 A0_0]] (ZcT.rs r):=fun st=>
 sO ZcT.B Tryz.func105 fun g0 w0 R hE=>by
  unfold ZcT at h;exact xS fol h hE [rZ,rZ] trivial
def Zbv.B:Code:=Tryz.f65.body.getD .skip
def Zbv.rs (r:Int):List CV:=[oI r]
def Zbv.p1 (N:Nat) (A0_0 A1_0:List Int) (c1_:Int→Option Int):Int→Option Int:=fun A1=> if (decide (A1≥0))=true then chk (0≤A1)<| chk (A1<4)<| if (decide ((zF A0_0 (zC A1) 0)<(zF A1_0 (zC A1) 0)))=true then some (-1) else if (decide ((zF A0_0 (zC A1) 0)>(zF A1_0 (zC A1) 0)))=true then some 1 else c1_ (w64 (A1-1)) else some 0
def Zbv (N:Nat) (A0_0 A1_0:List Int):Option Int:= loopN (Zbv.p1 N A0_0 A1_0) N 3
def Zbv.p1.S (A1:Int) (A0_0 A1_0:List Int) (st:LL):S:=mkS 26 [(2,sA 2),(3,sA 3),(5,sI A1)] [(2,.cells [zK .u64 4 A0_0]),(3,.cells [zK .u64 4 A1_0])] st
theorem Zbv.p1_ok {A1 A0_0 A1_0 st r c1_ J1} (h:Zbv.p1 N A0_0 A1_0 c1_ A1=some r) (hE:En Tryz.f65 g0 w0 (Zbv.rs r) st R) (hc1 : ∀A1,c1_ A1=some r→At g0 w0 (Zbv.p1.S A1 A0_0 A1_0 st) J1):At g0 w0 (Zbv.p1.S A1 A0_0 A1_0 st) (XK zE R (cK Zbv.B [1,0,1,0,0] :: .h J1 :: [.b 0,cK Zbv.B [1,1]])):=by
 unfold Zbv.p1 at h;refine Zba h (fun c1 h1=>?_) (fun c1 h2=>?_)
 ·obtain ⟨c2,c3,h3⟩:=ck2 h1;let o1:List PS:=[rZ,cT,.d {ds:=[],hv:=0,Hs:=[]}]
  refine Zba h3 (fun c4 h4=>?_) (fun c4 h5=>?_)
  ·exact xSd fol h4 hE (o1++[cT,rZ]) (aM c1 c2 c3 c2 c3 c4)
  let o2:List PS:=o1++[cF,.d {ds:=[],hv:=0,Hs:=[]}]
  refine Zba h5 (fun c5 h6=>?_) (fun c5 h7=>?_)
  ·exact xSd fol h6 hE (o2++[cT,rZ]) (aO c1 c2 c3 c2 c3 c4 c2 (aK c3 c2 c3 c5))
  exact ZkD fol (o2++[cF,rZ]) [2,3,5] [2,3] (aO c1 c2 c3 c2 c3 c4 c2 (aK c3 c2 c3 c5)) (hc1 (w64 (A1-1)) h7)
 exact xS fol h2 hE [rZ,cF,rZ] c1
theorem Zbv.snd {A0_0 A1_0:List Int} {r:Int} (h:Zbv N A0_0 A1_0=some r):Zdo zE 65 [.agg [zK .u64 4 A0_0],.agg [zK .u64 4 A1_0]] (Zbv.rs r):=fun st=>
 sO Zbv.B Tryz.func65 fun g0 w0 R hE=>by
  unfold Zbv at h;exact aq fol [rZ,rZ] [2,3,5] [2,3] trivial (At.loop N (At.loopN (fun y:Int=>Zbv.p1.S y A0_0 A1_0 st) (fun c J hc y h=>Zbv.p1_ok h hE (fun A1=>hc A1)) N 3 h))
def Zdf.B:Code:=Tryz.f120.body.getD .skip
def Zdf.rs (r:Bool):List CV:=[oB r]
def Zdf (N:Nat) (A0_0 A1_0:List Int):Option Bool:= Zbj (Zbv N A0_0 A1_0) fun x1=> some (decide (x1<0))
theorem Zdf.snd {A0_0 A1_0:List Int} {r:Bool} (h:Zdf N A0_0 A1_0=some r):Zdo zE 120 [.agg [zK .u64 4 A0_0],.agg [zK .u64 4 A1_0]] (Zdf.rs r):=fun st=>
 sO Zdf.B Tryz.func120 fun g0 w0 R hE=>by
  unfold Zdf at h;obtain ⟨x1,c1,h1⟩:=Zae h;exact xS fol h1 hE [rZ,.r [(2,q1 [oI x1])]] (Zbv.snd c1)
def Zcu.B:Code:=Tryz.f103.body.getD .skip
def Zcu.rs (r:(List Int)×Bool):List CV:=[.agg [zK .u64 4 r.1],oB r.2]
def Zcu (N:Nat) (A0 A1:Int):Option ((List Int)×Bool):= Zbj (ZaO N A0) fun (x1,x2,x3)=> Zbj (ZaO N A1) fun (x4,x5,x6)=> if x2=true then some (zB 4 0,false) else if x3=true then some (zB 4 0,false) else if x5=true then some (zB 4 0,false) else if x6=true then some (zB 4 0,false) else Zbj (ZcT N x1) fun x7=> if x7=true then some (zB 4 0,false) else Zbj (Zdf N x4 x1) fun x8=> if x8=true then some (zB 4 0,false) else some (x1,true)
theorem Zcu.snd {A0 A1:Int} {r:(List Int)×Bool} (h:Zcu N A0 A1=some r):Zdo zE 103 [oI A0,oI A1] (Zcu.rs r):=fun st=>
 sO Zcu.B Tryz.func103 fun g0 w0 R hE=>by
  unfold Zcu at h;obtain ⟨⟨x1,x2,x3⟩,c1,h1⟩:=Zae h;obtain ⟨⟨x4,x5,x6⟩,c2,h2⟩:=Zae h1;let o1:List PS:=[rZ,.r [(1,q1 [.agg [zK .u64 4 x1],oB x2,oB x3])],.r [(1,q1 [.agg [zK .u64 4 x4],oB x5,oB x6])]]
  have t1 {Q:Prop} (q:Q):=aJ (ZaO.snd c1) (ZaO.snd c2) q;refine Zba h2 (fun c3 h3=>?_) (fun c3 h4=>?_)
  ·exact xS fol h3 hE (o1++[.r [(2,wF),(5,wF),(8,wF),(11,wF),(12,wF),(15,wF),(16,wF),(17,wF)],cT,rZ]) (t1 (aO c3 c3 eT eT eT eT eT (aN eT eT eT eT eT eT eT)))
  refine Zba h4 (fun c4 h5=>?_) (fun c4 h6=>?_)
  ·exact xS fol h5 hE (o1++[.r [(3,yF),(5,wF),(8,wF),(11,wF),(12,wF),(15,wF),(16,wF),(17,wF)],cT,rZ]) (t1 (aO c3 c3 c4 c4 eT eT eT (aN eT eT eT eT eT eT eT)))
  have t2 {Q:Prop} (q:Q):=t1 (aL c3 c3 c4 c4 q);refine Zba h6 (fun c5 h7=>?_) (fun c5 h8=>?_)
  ·exact xS fol h7 hE (o1++[.r [(3,yF),(6,yF),(8,wF),(11,wF),(12,wF),(15,wF),(16,wF),(17,wF)],cT,rZ]) (t2 (aO c5 c5 eT eT eT eT eT (aJ eT eT eT)))
  refine Zba h8 (fun c6 h9=>?_) (fun c6 h10=>?_)
  ·exact xS fol h9 hE (o1++[.r [(3,yF),(6,yF),(9,yF),(11,wF),(12,wF),(15,wF),(16,wF),(17,wF)],cT,rZ]) (t2 (aO c5 c5 c6 c6 c6 eT eT (aJ eT eT eT)))
  obtain ⟨x7,c7,h11⟩:=Zae h10;have t3 {Q:Prop} (q:Q):=t2 (aN c5 c5 c6 c6 (ZcT.snd c7) c6 q);refine Zba h11 (fun c8 h12=>?_) (fun c8 h13=>?_)
  ·exact xS fol h12 hE (o1++[.r [(3,yF),(6,yF),(9,yF),(12,q1 [oB x7]),(13,yF),(15,wF),(16,wF),(17,wF)],cT,rZ]) (t3 (aL c8 c8 c8 c8 eT))
  obtain ⟨x8,c9,h14⟩:=Zae h13;let o2:List PS:=o1++[.r [(3,yF),(6,yF),(9,yF),(12,q1 [oB x7]),(13,yF),(17,q1 [oB x8]),(18,yF)]]
  refine Zba h14 (fun c10 h15=>?_) (fun c10 h16=>?_)
  ·exact xS fol h15 hE (o2++[cT,rZ]) (t3 (aM c8 c8 c8 (Zdf.snd c9) c8 c10))
  exact xS fol h16 hE (o2++[cF,rZ]) (t3 (aM c8 c8 c8 (Zdf.snd c9) c8 c10))
def Zeq.B:Code:=Tryz.f78.body.getD .skip
def Zeq.rs (r:Bool):List CV:=[oB r]
def Zeq (N:Nat) (A0:Zah):Option Bool:= Zbj (Zcu N A0.Limit A0.Limit) fun (x1,x2)=> if x2=true then if (decide (A0.Interval≥2))=true then if (decide (A0.Interval≤64))=true then if (decide (A0.Spacing≥1))=true then if (decide (A0.Spacing≤10000))=true then if (decide (A0.Future≥0))=true then some (decide (A0.Future<4294967296)) else some false else some false else some false else some false else some false else some false
theorem Zeq.snd {A0:Zah} {r:Bool} (h:Zeq N A0=some r):Zdo zE 78 [.agg A0.ls] (Zeq.rs r):=fun st=>
 sO Zeq.B Tryz.func78 fun g0 w0 R hE=>by
  unfold Zeq at h;obtain ⟨⟨x1,x2⟩,c1,h1⟩:=Zae h;let o1:List PS:=[rZ,.r [(4,q1 [.agg [zK .u64 4 x1],oB x2])]]
  have t1 {Q:Prop} (q:Q):=aI (Zcu.snd c1) q;refine Zba h1 (fun c2 h2=>?_) (fun c2 h3=>?_)
  ·have t2 {Q:Prop} (q:Q):=t1 (aL c2 c2 c2 c2 q);refine Zba h2 (fun c3 h4=>?_) (fun c3 h5=>?_)
   ·have t3 {Q:Prop} (q:Q):=t2 (aL c3 c3 c3 c3 q);refine Zba h4 (fun c4 h6=>?_) (fun c4 h7=>?_)
    ·have t4 {Q:Prop} (q:Q):=t3 (aL c4 c4 c4 c4 q);refine Zba h6 (fun c5 h8=>?_) (fun c5 h9=>?_)
     ·refine Zba h8 (fun c6 h10=>?_) (fun c6 h11=>?_)
      ·refine Zba h10 (fun c7 h12=>?_) (fun c7 h13=>?_)
       ·exact xS fol h12 hE (o1++[rZ]) (t4 (aO c5 c5 c5 c5 c6 c6 c6 (aL c6 c7 c7 c7 c7)))
       exact xS fol h13 hE (o1++[.r [(27,wF),(28,wF),(29,wF),(30,yF)]]) (t4 (aO c5 c5 c5 c5 c6 c6 c6 (aL c6 c7 c7 c7 c7)))
      exact xS fol h11 hE (o1++[.r [(22,wF),(23,wF),(24,wF),(25,yF),(27,wF),(28,wF),(29,wF),(30,yF)]]) (t4 (aO c5 c5 c5 c5 c6 c6 c6 (aL c6 eF eF eF eF)))
     exact xS fol h9 hE (o1++[.r [(17,wF),(18,wF),(19,wF),(20,yF),(22,wF),(23,wF),(24,wF),(25,yF),(27,wF),(28,wF),(29,wF),(30,yF)]]) (t4 (aO c5 c5 c5 c5 eF eF eF (aL eF eF eF eF eF)))
    exact xS fol h7 hE (o1++[.r [(12,wF),(13,wF),(14,wF),(15,yF),(17,wF),(18,wF),(19,wF),(20,yF),(22,wF),(23,wF),(24,wF),(25,yF),(27,wF),(28,wF),(29,wF),(30,yF)]]) (t3 (aO c4 c4 c4 c4 eF eF eF (aO eF eF eF eF eF eF eF (aI eF eF))))
   exact xS fol h5 hE (o1++[.r [(7,wF),(8,wF),(9,wF),(10,yF),(12,wF),(13,wF),(14,wF),(15,yF),(17,wF),(18,wF),(19,wF),(20,yF),(22,wF),(23,wF),(24,wF),(25,yF),(27,wF),(28,wF),(29,wF),(30,yF)]]) (t2 (aO c3 c3 c3 c3 eF eF eF (aO eF eF eF eF eF eF eF (aM eF eF eF eF eF eF))))
  exact xS fol h3 hE (o1++[.r [(2,wF),(3,wF),(4,wF),(5,yF),(7,wF),(8,wF),(9,wF),(10,yF),(12,wF),(13,wF),(14,wF),(15,yF),(17,wF),(18,wF),(19,wF),(20,yF),(22,wF),(23,wF),(24,wF),(25,yF),(27,wF),(28,wF),(29,wF),(30,yF)]]) (t1 (aO c2 c2 c2 c2 eF eF eF (aO eF eF eF eF eF eF eF (aO eF eF eF eF eF eF eF (aJ eF eF eF)))))
def ZbM.B:Code:=Tryz.f49.body.getD .skip
def ZbM.rs (r:Bool):List CV:=[oB r]
def ZbM.p2 (N:Nat) (A0:Zah) (c2_:Int→Option Bool):Int→Option Bool:=fun v6=> if (decide (v6<(len A0.Checks)))=true then chk (0≤v6)<| ZcS (A0.Checks[zC v6]?) Zeo fun x7=> if (decide (x7.Height<1))=true then some false else if (decide (v6>0))=true then chk (0≤(w64 (v6-1)))<| chk ((w64 (v6-1))<(len A0.Checks))<| ZcS (A0.Checks[zC (w64 (v6-1))]?) Zeo fun x8=> if (decide (x7.Height≤x8.Height))=true then some false else c2_ (w64 (v6+1)) else c2_ (w64 (v6+1)) else some true
def ZbM.p1 (N:Nat) (A0:Zah) (c1_:Int→Option Bool):Int→Option Bool:=fun v3=> if (decide (v3<(len A0.Gates)))=true then chk (0≤v3)<| ZcS (A0.Gates[zC v3]?) Zez fun x4=> if (decide (x4.Height<0))=true then some false else if (decide (v3>0))=true then chk (0≤(w64 (v3-1)))<| chk ((w64 (v3-1))<(len A0.Gates))<| ZcS (A0.Gates[zC (w64 (v3-1))]?) Zez fun x5=> if (decide (x4.Height≤x5.Height))=true then some false else c1_ (w64 (v3+1)) else c1_ (w64 (v3+1)) else loopN (ZbM.p2 N A0) N 0
def ZbM (N:Nat) (A0:Zah):Option Bool:= Zbj (Zeq N A0) fun x1=> if (!x1)=true then some false else Zbj (Zcx N A0.Genesis) fun x2=> if (!x2)=true then some false else loopN (ZbM.p1 N A0) N 0
def ZbM.p2.S (A0:Zah) (v6:Int) (st:LL):S:=mkS 72 [(1,sA 1),(45,sV 33 A0.Checks),(46,sI (len A0.Checks)),(47,sI v6)] [(1,.cells A0.ls)] st
def ZbM.p1.S (A0:Zah) (v3:Int) (st:LL):S:=mkS 72 [(1,sA 1),(17,sV 2 A0.Gates),(18,sI (len A0.Gates)),(19,sI v3)] [(1,.cells A0.ls)] st
theorem ZbM.p2_ok {A0 v6 st r c2_ J2} (h:ZbM.p2 N A0 c2_ v6=some r) (hE:En Tryz.f49 g0 w0 (ZbM.rs r) st R) (hc2 : ∀v6,c2_ v6=some r→At g0 w0 (ZbM.p2.S A0 v6 st) J2):At g0 w0 (ZbM.p2.S A0 v6 st) (XK zE R (cK ZbM.B [1,1,1,0,1,0,0] :: .h J2 :: [.b 2,cK ZbM.B [1,1,1,1]])):=by
 unfold ZbM.p2 at h;refine Zba h (fun c14 h1=>?_) (fun c14 h2=>?_)
 ·obtain ⟨c15,h3⟩:=ZaW h1;obtain ⟨x7,c16,h4⟩:=Zev h3;let o1:List PS:=[rZ,cT,.r [(2,{oe:=x7.ls})]]
  have t1 {Q:Prop} (q:Q):=aL c14 c15 (oD c14) c16 q;refine Zba h4 (fun c17 h5=>?_) (fun c17 h6=>?_)
  ·exact xSd fol h5 hE (o1++[.d {ds:=[(4,wF),(5,wF),(6,wF),(17,wF)],hv:=0,Hs:=[]},cT,rZ]) (t1 (aM c17 c17 c17 c17 c17 eT))
  refine Zba h6 (fun c18 h7=>?_) (fun c18 h8=>?_)
  ·obtain ⟨c19,c20,h9⟩:=ck2 h7;obtain ⟨x8,c21,h10⟩:=Zev h9;let o2:List PS:=o1++[.d {ds:=[(15,{oe:=x8.ls}),(18,yF)],hv:=0,Hs:=[]}]
   have t2 {Q:Prop} (q:Q):=t1 (aO c17 c17 c17 c18 c18 c18 c18 (aO c18 c18 c18 c19 c20 c18 c18 (aM c21 c18 c17 c18 c17 q)));refine Zba h10 (fun c22 h11=>?_) (fun c22 h12=>?_)
   ·exact xSd fol h11 hE (o2++[cT,rZ]) (t2 c22)
   exact ZkD fol (o2++[cF,rZ]) [1,45,46,47] [1] (t2 c22) (hc2 (w64 (v6+1)) h12)
  exact ZkD fol (o1++[.d {ds:=[(7,wF),(8,wF),(9,wF),(10,wF),(11,wF),(12,wF),(13,wF),(14,wF),(15,wF),(16,wF),(17,yF),(18,yF)],hv:=0,Hs:=[]},cF,rZ]) [1,45,46,47] [1] (t1 (aO c17 c17 c17 c18 c18 c18 c18 (aO c18 c18 c18 c18 c18 c18 c17 (aJ c18 c17 eF)))) (hc2 (w64 (v6+1)) h8)
 exact xS fol h2 hE [rZ,cF,rZ] c14
theorem ZbM.p1_ok {A0 v3 st r c1_ J1} (h:ZbM.p1 N A0 c1_ v3=some r) (hE:En Tryz.f49 g0 w0 (ZbM.rs r) st R) (hc1 : ∀v3,c1_ v3=some r→At g0 w0 (ZbM.p1.S A0 v3 st) J1):At g0 w0 (ZbM.p1.S A0 v3 st) (XK zE R (cK ZbM.B [1,1,0,1,0,0] :: .h J1 :: [.b 0,cK ZbM.B [1,1,1]])):=by
 unfold ZbM.p1 at h;refine Zba h (fun c5 h13=>?_) (fun c5 h14=>?_)
 ·obtain ⟨c6,h15⟩:=ZaW h13;obtain ⟨x4,c7,h16⟩:=ZeE h15;let o3:List PS:=[rZ,cT,.r [(2,{oe:=x4.ls})]]
  have t3 {Q:Prop} (q:Q):=aL c5 c6 (oD c5) c7 q;refine Zba h16 (fun c8 h17=>?_) (fun c8 h18=>?_)
  ·exact xSd fol h17 hE (o3++[.d {ds:=[(4,wF),(5,wF),(6,wF),(17,wF)],hv:=0,Hs:=[]},cT,rZ]) (t3 (aM c8 c8 c8 c8 c8 eT))
  refine Zba h18 (fun c9 h19=>?_) (fun c9 h20=>?_)
  ·obtain ⟨c10,c11,h21⟩:=ck2 h19;obtain ⟨x5,c12,h22⟩:=ZeE h21;let o4:List PS:=o3++[.d {ds:=[(15,{oe:=x5.ls}),(18,yF)],hv:=0,Hs:=[]}]
   have t4 {Q:Prop} (q:Q):=t3 (aO c8 c8 c8 c9 c9 c9 c9 (aO c9 c9 c9 c10 c11 c9 c9 (aM c12 c9 c8 c9 c8 q)));refine Zba h22 (fun c13 h23=>?_) (fun c13 h24=>?_)
   ·exact xSd fol h23 hE (o4++[cT,rZ]) (t4 c13)
   exact ZkD fol (o4++[cF,rZ]) [1,17,18,19] [1] (t4 c13) (hc1 (w64 (v3+1)) h24)
  exact ZkD fol (o3++[.d {ds:=[(7,wF),(8,wF),(9,wF),(10,wF),(11,wF),(12,wF),(13,wF),(14,wF),(15,wF),(16,wF),(17,yF),(18,yF)],hv:=0,Hs:=[]},cF,rZ]) [1,17,18,19] [1] (t3 (aO c8 c8 c8 c9 c9 c9 c9 (aO c9 c9 c9 c9 c9 c9 c8 (aJ c9 c8 eF)))) (hc1 (w64 (v3+1)) h20)
 exact aq fol [rZ,cF,rZ] [1,45,46,47] [1] c5 (At.loop N (At.loopN (fun y:Int=>ZbM.p2.S A0 y st) (fun c J hc y h=>ZbM.p2_ok h hE (fun v6=>hc v6)) N 0 h14))
theorem ZbM.snd {A0:Zah} {r:Bool} (h:ZbM N A0=some r):Zdo zE 49 [.agg A0.ls] (ZbM.rs r):=fun st=>
 sO ZbM.B Tryz.func49 fun g0 w0 R hE=>by
  unfold ZbM at h;obtain ⟨x1,c1,h25⟩:=Zae h;have t5 {Q:Prop} (q:Q):=aI (Zeq.snd c1) q;refine Zba h25 (fun c2 h26=>?_) (fun c2 h27=>?_)
  ·exact xS fol h26 hE [rZ,.r [(1,q1 [oB x1]),(4,wF),(5,wF),(6,wF),(7,wF)],cT,rZ] (t5 (aM (not_false (ZbN c2)) (not_false (ZbN c2)) (not_false (ZbN c2)) (not_false (ZbN c2)) (not_false (ZbN c2)) eT))
  obtain ⟨x2,c3,h28⟩:=Zae h27;let o5:List PS:=[rZ,.r [(1,q1 [oB x1]),(6,q1 [oB x2]),(8,yF)]]
  have t6 {Q:Prop} (q:Q):=t5 (aN (not_true (ZbO c2)) (not_true (ZbO c2)) (not_true (ZbO c2)) (Zcx.snd c3) (not_true (ZbO c2)) (not_true (ZbO c2)) q);refine Zba h28 (fun c4 h29=>?_) (fun c4 h30=>?_)
  ·exact xS fol h29 hE (o5++[cT,rZ]) (t6 c4)
  exact aq fol (o5++[cF,rZ]) [1,17,18,19] [1] (t6 c4) (At.loop N (At.loopN (fun y:Int=>ZbM.p1.S A0 y st) (fun c J hc y h=>ZbM.p1_ok h hE (fun v3=>hc v3)) N 0 h30))
def ZbT.B:Code:=Tryz.f124.body.getD .skip
def ZbT.rs (r:(List Int)×Bool):List CV:=[.agg [zK .u64 4 r.1],oB r.2]
def ZbT.p1 (N:Nat) (A1_0:List Int) (c1_:(Int×Int×(List Int))→Option ((List Int)×Bool)):(Int×Int×(List Int))→Option ((List Int)×Bool):=fun (A1,v2,A5)=> if (decide (v2<4))=true then chk (0≤v2)<| Zbj (ZdW N (zF A5 (zC v2) 0) (zF A1_0 (zC v2) 0) A1) fun (x6,x7)=> c1_ (x7,w64 (v2+1),zQ A5 (zC v2) x6) else some (A5,A1 != 0)
def ZbT (N:Nat) (A0_0 A1_0:List Int):Option ((List Int)×Bool):= loopN (ZbT.p1 N A1_0) N (0,0,A0_0)
def ZbT.p1.S (A1 v2:Int) (A5 A1_0:List Int) (st:LL):S:=mkS 28 [(2,sA 2),(3,sA 3),(4,sA 4),(6,.one (.l (zM .u64 A1))),(8,sI v2)] [(2,.cells [zK .u64 4 A5]),(3,.cells [zK .u64 4 A1_0]),(4,.cells [zK .u64 4 (zB 4 0)])] st
theorem ZbT.p1_ok {A1 v2 A5 A1_0 st r c1_ J1} (h:ZbT.p1 N A1_0 c1_ (A1,v2,A5)=some r) (hE:En Tryz.f124 g0 w0 (ZbT.rs r) st R) (hc1 : ∀A1 v2 A5,c1_ (A1,v2,A5)=some r→At g0 w0 (ZbT.p1.S A1 v2 A5 A1_0 st) J1):At g0 w0 (ZbT.p1.S A1 v2 A5 A1_0 st) (XK zE R (cK ZbT.B [1,1,0,1,0,0] :: .h J1 :: [.b 0,cK ZbT.B [1,1,1]])):=by
 unfold ZbT.p1 at h;refine Zba h (fun c4 h1=>?_) (fun c4 h2=>?_)
 ·obtain ⟨c5,h3⟩:=ZaW h1;obtain ⟨⟨x6,x7⟩,c6,h4⟩:=Zae h3;exact ZkD fol [rZ,cT,rZ,.d {ds:=[(8,{rs:=[.one (zM .u64 x6),.one (zM .u64 x7)],m:=4})],hv:=8192,Hs:=[8192]},rZ] [2,3,4,6,8] [2,3,4] (aO c4 c5 (oD c4) c5 (oD c4) (ZdW.snd c6) c5 (oD c4)) (hc1 x7 (w64 (v2+1)) (zQ A5 (zC v2) x6) h4)
 exact xS fol h2 hE [rZ,cF,rZ] c4
theorem ZbT.snd {A0_0 A1_0:List Int} {r:(List Int)×Bool} (h:ZbT N A0_0 A1_0=some r):Zdo zE 124 [.agg [zK .u64 4 A0_0],.agg [zK .u64 4 A1_0]] (ZbT.rs r):=fun st=>
 sO ZbT.B Tryz.func124 fun g0 w0 R hE=>by
  unfold ZbT at h;exact aq fol [rZ,rZ,rZ] [2,3,4,6,8] [2,3,4] trivial (At.loop N (At.loopN (fun y:Int×Int×(List Int)=>ZbT.p1.S y.1 y.2.1 y.2.2 A1_0 st) (fun c J hc y h=>ZbT.p1_ok (A1:=y.1) (v2:=y.2.1) (A5:=y.2.2) h hE (fun A1 v2 A5=>hc (A1,v2,A5))) N (0,0,A0_0) h))
def Zcq.B:Code:=Tryz.f126.body.getD .skip
def Zcq.rs (r:(List Int)):List CV:=[.agg [zK .u64 4 r]]
def Zcq.p1 (N:Nat) (c1_:(Int×(List Int))→Option (List Int)):(Int×(List Int))→Option (List Int):=fun (v1,A2)=> if (decide (v1<4))=true then chk (0≤v1)<| c1_ (w64 (v1+1),zQ A2 (zC v1) (ZaG .xor .u64 (IntKind.max IntKind.u64) (zF A2 (zC v1) 0))) else some A2
def Zcq (N:Nat) (A0_0:List Int):Option (List Int):= loopN (Zcq.p1 N) N (0,A0_0)
def Zcq.p1.S (v1:Int) (A2:List Int) (st:LL):S:=mkS 15 [(1,sA 1),(2,sA 2),(4,sI v1)] [(1,.cells [zK .u64 4 A2]),(2,.cells [zK .u64 4 (zB 4 0)])] st
theorem Zcq.p1_ok {v1 A2 st r c1_ J1} (h:Zcq.p1 N c1_ (v1,A2)=some r) (hE:En Tryz.f126 g0 w0 (Zcq.rs r) st R) (hc1 : ∀v1 A2,c1_ (v1,A2)=some r→At g0 w0 (Zcq.p1.S v1 A2 st) J1):At g0 w0 (Zcq.p1.S v1 A2 st) (XK zE R (cK Zcq.B [1,0,1,0,0] :: .h J1 :: [.b 0,cK Zcq.B [1,1]])):=by
 unfold Zcq.p1 at h;refine Zba h (fun c3 h1=>?_) (fun c3 h2=>?_)
 ·obtain ⟨c4,h3⟩:=ZaW h1;exact an fol [rZ,cT,rZ,rZ,rZ] [1,2,4] [1,2] (aL c3 c4 (oD c3) c4 (oD c3)) (hc1 (w64 (v1+1)) (zQ A2 (zC v1) (ZaG .xor .u64 (IntKind.max IntKind.u64) (zF A2 (zC v1) 0))) h3)
 exact xS fol h2 hE [rZ,cF,rZ] c3
theorem Zcq.snd {A0_0:List Int} {r:(List Int)} (h:Zcq N A0_0=some r):Zdo zE 126 [.agg [zK .u64 4 A0_0]] (Zcq.rs r):=fun st=>
 sO Zcq.B Tryz.func126 fun g0 w0 R hE=>by
  unfold Zcq at h;exact aq fol [rZ,rZ] [1,2,4] [1,2] trivial (At.loop N (At.loopN (fun y:Int×(List Int)=>Zcq.p1.S y.1 y.2 st) (fun c J hc y h=>Zcq.p1_ok (v1:=y.1) (A2:=y.2) h hE (fun v1 A2=>hc (v1,A2))) N (0,A0_0) h))
def ZaB.B:Code:=Tryz.f148.body.getD .skip
def ZaB.rs (r:Int):List CV:=[oI r]
def ZaB.p3 (N:Nat) (A5 A6:Int):Option Int:= chk (0≤(v8 (A5)))<| chk ((v8 (A5))<((yC (wK #[0,1,2,2,3,3,3,3,4,4,4,4,4,4,4,4,5,5,5,5,5,5,5,5,5,5,5,5,5,5,5,5,6,6,6,6,6,6,6,6,6,6,6,6,6,6,6,6,6,6,6,6,6,6,6,6,6,6,6,6,6,6,6,6,7,7,7,7,7,7,7,7,7,7,7,7,7,7,7,7,7,7,7,7,7,7,7,7,7,7,7,7,7,7,7,7,7,7,7,7,7,7,7,7,7,7,7,7,7,7,7,7,7,7,7,7,7,7,7,7,7,7,7,7,7,7,7,7,8,8,8,8,8,8,8,8,8,8,8,8,8,8,8,8,8,8,8,8,8,8,8,8,8,8,8,8,8,8,8,8,8,8,8,8,8,8,8,8,8,8,8,8,8,8,8,8,8,8,8,8,8,8,8,8,8,8,8,8,8,8,8,8,8,8,8,8,8,8,8,8,8,8,8,8,8,8,8,8,8,8,8,8,8,8,8,8,8,8,8,8,8,8,8,8,8,8,8,8,8,8,8,8,8,8,8,8,8,8,8,8,8,8,8,8,8,8,8,8,8,8,8,8,8,8,8,8]):Nat):Int))<| some (w64 (A6+(w64 (((UInt8.toNat (zF (qG (rO (wK #[0,1,2,2,3,3,3,3,4,4,4,4,4,4,4,4,5,5,5,5,5,5,5,5,5,5,5,5,5,5,5,5,6,6,6,6,6,6,6,6,6,6,6,6,6,6,6,6,6,6,6,6,6,6,6,6,6,6,6,6,6,6,6,6,7,7,7,7,7,7,7,7,7,7,7,7,7,7,7,7,7,7,7,7,7,7,7,7,7,7,7,7,7,7,7,7,7,7,7,7,7,7,7,7,7,7,7,7,7,7,7,7,7,7,7,7,7,7,7,7,7,7,7,7,7,7,7,7,8,8,8,8,8,8,8,8,8,8,8,8,8,8,8,8,8,8,8,8,8,8,8,8,8,8,8,8,8,8,8,8,8,8,8,8,8,8,8,8,8,8,8,8,8,8,8,8,8,8,8,8,8,8,8,8,8,8,8,8,8,8,8,8,8,8,8,8,8,8,8,8,8,8,8,8,8,8,8,8,8,8,8,8,8,8,8,8,8,8,8,8,8,8,8,8,8,8,8,8,8,8,8,8,8,8,8,8,8,8,8,8,8,8,8,8,8,8,8,8,8,8,8,8,8,8,8,8]))) (zC (v8 (A5))) 0):Nat):Int)))))
def ZaB.p2 (N:Nat) (A3 A4:Int):Option Int:= if (decide (A3≥256))=true then ZaB.p3 N (Zbn .u64 A3 8) (w64 (A4+8)) else ZaB.p3 N A3 A4
def ZaB.p1 (N:Nat) (A1 A2:Int):Option Int:= if (decide (A1≥65536))=true then ZaB.p2 N (Zbn .u64 A1 16) (w64 (A2+16)) else ZaB.p2 N A1 A2
def ZaB (N:Nat) (A0:Int):Option Int:= if (decide (A0≥4294967296))=true then ZaB.p1 N (Zbn .u64 A0 32) 32 else ZaB.p1 N A0 0
def ZaB.p3.S (A5 A6:Int) (st:LL):S:=mkS 25 [(0,.one (.l (zM .u64 A5))),(2,sI A6)] [] st
def ZaB.p2.S (A3 A4:Int) (st:LL):S:=mkS 25 [(0,.one (.l (zM .u64 A3))),(2,sI A4)] [] st
def ZaB.p1.S (A1 A2:Int) (st:LL):S:=mkS 25 [(0,.one (.l (zM .u64 A1))),(2,sI A2)] [] st
theorem ZaB.p3_ok {A5 A6 st r} (h:ZaB.p3 N A5 A6=some r) (hE:En Tryz.f148 g0 w0 (ZaB.rs r) st R):At g0 w0 (ZaB.p3.S A5 A6 st) (XK zE R [cK ZaB.B [1,1,1,1]]):=by
 unfold ZaB.p3 at h;obtain ⟨c4,c5,h1⟩:=ck2 h;exact xS fol h1 hE [rZ] (aI c4 c5)
theorem ZaB.p2_ok {A3 A4 st r} (h:ZaB.p2 N A3 A4=some r) (hE:En Tryz.f148 g0 w0 (ZaB.rs r) st R):At g0 w0 (ZaB.p2.S A3 A4 st) (XK zE R [cK ZaB.B [1,1,1]]):=by
 unfold ZaB.p2 at h;refine Zba h (fun c3 h2=>?_) (fun c3 h3=>?_)
 ·exact aq fol [rZ,cT,rZ,rZ,.s 1] [0,2] [] (aI c3 (leI 0 8)) (ZaB.p3_ok h2 hE)
 exact aq fol [rZ,cF,.s 1] [0,2] [] c3 (ZaB.p3_ok h3 hE)
theorem ZaB.p1_ok {A1 A2 st r} (h:ZaB.p1 N A1 A2=some r) (hE:En Tryz.f148 g0 w0 (ZaB.rs r) st R):At g0 w0 (ZaB.p1.S A1 A2 st) (XK zE R [cK ZaB.B [1,1]]):=by
 unfold ZaB.p1 at h;refine Zba h (fun c2 h4=>?_) (fun c2 h5=>?_)
 ·exact aq fol [rZ,cT,rZ,rZ,.s 1] [0,2] [] (aI c2 (leI 0 16)) (ZaB.p2_ok h4 hE)
 exact aq fol [rZ,cF,.s 1] [0,2] [] c2 (ZaB.p2_ok h5 hE)
theorem ZaB.snd {A0:Int} {r:Int} (h:ZaB N A0=some r):Zdo zE 148 [.one (zM .u64 A0)] (ZaB.rs r):=fun st=>
 sO ZaB.B Tryz.func148 fun g0 w0 R hE=>by
  unfold ZaB at h;refine Zba h (fun c1 h6=>?_) (fun c1 h7=>?_)
  ·exact aq fol [rZ,rZ,cT,rZ,rZ,.s 1] [0,2] [] (aI c1 (leI 0 32)) (ZaB.p1_ok h6 hE)
  exact aq fol [rZ,rZ,cF,.s 1] [0,2] [] c1 (ZaB.p1_ok h7 hE)
def Zcw.B:Code:=Tryz.f141.body.getD .skip
def Zcw.rs (r:Int):List CV:=[oI r]
def Zcw.p1 (N:Nat) (A0_0:List Int) (c1_:Int→Option Int):Int→Option Int:=fun A1=> if (decide (A1≥0))=true then chk (0≤A1)<| chk (A1<4)<| if ((zF A0_0 (zC A1) 0) != 0)=true then Zbj (ZaB N (zF A0_0 (zC A1) 0)) fun x2=> some (w64 ((w64 (64*A1))+x2)) else c1_ (w64 (A1-1)) else some 0
def Zcw (N:Nat) (A0_0:List Int):Option Int:= loopN (Zcw.p1 N A0_0) N 3
def Zcw.p1.S (A1:Int) (A0_0:List Int) (st:LL):S:=mkS 19 [(1,sA 1),(3,sI A1)] [(1,.cells [zK .u64 4 A0_0])] st
theorem Zcw.p1_ok {A1 A0_0 st r c1_ J1} (h:Zcw.p1 N A0_0 c1_ A1=some r) (hE:En Tryz.f141 g0 w0 (Zcw.rs r) st R) (hc1 : ∀A1,c1_ A1=some r→At g0 w0 (Zcw.p1.S A1 A0_0 st) J1):At g0 w0 (Zcw.p1.S A1 A0_0 st) (XK zE R (cK Zcw.B [1,0,1,0,0] :: .h J1 :: [.b 0,cK Zcw.B [1,1]])):=by
 unfold Zcw.p1 at h;refine Zba h (fun c1 h1=>?_) (fun c1 h2=>?_)
 ·obtain ⟨c2,c3,h3⟩:=ck2 h1;refine Zba h3 (fun c4 h4=>?_) (fun c4 h5=>?_)
  ·obtain ⟨x2,c5,h6⟩:=Zae h4;exact xS fol h6 hE [rZ,cT,rZ,cT,.r [(5,q1 [oI x2])]] (aN c1 c2 c3 c4 c2 c3 (ZaB.snd c5))
  exact an fol [rZ,cT,rZ,cF,rZ] [1,3] [1] (aK c1 c2 c3 c4) (hc1 (w64 (A1-1)) h5)
 exact xS fol h2 hE [rZ,cF,rZ] c1
theorem Zcw.snd {A0_0:List Int} {r:Int} (h:Zcw N A0_0=some r):Zdo zE 141 [.agg [zK .u64 4 A0_0]] (Zcw.rs r):=fun st=>
 sO Zcw.B Tryz.func141 fun g0 w0 R hE=>by
  unfold Zcw at h;exact aq fol [rZ,rZ] [1,3] [1] trivial (At.loop N (At.loopN (fun y:Int=>Zcw.p1.S y A0_0 st) (fun c J hc y h=>Zcw.p1_ok h hE (fun A1=>hc A1)) N 3 h))
def ZcB.B:Code:=Tryz.f142.body.getD .skip
def ZcB.rs (r:(List Int)×Bool):List CV:=[.agg [zK .u64 4 r.1],oB r.2]
def ZcB.p1 (N:Nat) (A1_0:List Int) (c1_:(Int×Int×(List Int))→Option ((List Int)×Bool)):(Int×Int×(List Int))→Option ((List Int)×Bool):=fun (A1,v2,A5)=> if (decide (v2<4))=true then chk (0≤v2)<| Zbj (Zfe N (zF A5 (zC v2) 0) (zF A1_0 (zC v2) 0) A1) fun (x6,x7)=> c1_ (x7,w64 (v2+1),zQ A5 (zC v2) x6) else some (A5,A1 != 0)
def ZcB (N:Nat) (A0_0 A1_0:List Int):Option ((List Int)×Bool):= loopN (ZcB.p1 N A1_0) N (0,0,A0_0)
def ZcB.p1.S (A1 v2:Int) (A5 A1_0:List Int) (st:LL):S:=mkS 28 [(2,sA 2),(3,sA 3),(4,sA 4),(6,.one (.l (zM .u64 A1))),(8,sI v2)] [(2,.cells [zK .u64 4 A5]),(3,.cells [zK .u64 4 A1_0]),(4,.cells [zK .u64 4 (zB 4 0)])] st
theorem ZcB.p1_ok {A1 v2 A5 A1_0 st r c1_ J1} (h:ZcB.p1 N A1_0 c1_ (A1,v2,A5)=some r) (hE:En Tryz.f142 g0 w0 (ZcB.rs r) st R) (hc1 : ∀A1 v2 A5,c1_ (A1,v2,A5)=some r→At g0 w0 (ZcB.p1.S A1 v2 A5 A1_0 st) J1):At g0 w0 (ZcB.p1.S A1 v2 A5 A1_0 st) (XK zE R (cK ZcB.B [1,1,0,1,0,0] :: .h J1 :: [.b 0,cK ZcB.B [1,1,1]])):=by
 unfold ZcB.p1 at h;refine Zba h (fun c4 h1=>?_) (fun c4 h2=>?_)
 ·obtain ⟨c5,h3⟩:=ZaW h1;obtain ⟨⟨x6,x7⟩,c6,h4⟩:=Zae h3;exact ZkD fol [rZ,cT,rZ,.d {ds:=[(8,{rs:=[.one (zM .u64 x6),.one (zM .u64 x7)],m:=4})],hv:=8192,Hs:=[8192]},rZ] [2,3,4,6,8] [2,3,4] (aO c4 c5 (oD c4) c5 (oD c4) (Zfe.snd c6) c5 (oD c4)) (hc1 x7 (w64 (v2+1)) (zQ A5 (zC v2) x6) h4)
 exact xS fol h2 hE [rZ,cF,rZ] c4
theorem ZcB.snd {A0_0 A1_0:List Int} {r:(List Int)×Bool} (h:ZcB N A0_0 A1_0=some r):Zdo zE 142 [.agg [zK .u64 4 A0_0],.agg [zK .u64 4 A1_0]] (ZcB.rs r):=fun st=>
 sO ZcB.B Tryz.func142 fun g0 w0 R hE=>by
  unfold ZcB at h;exact aq fol [rZ,rZ,rZ] [2,3,4,6,8] [2,3,4] trivial (At.loop N (At.loopN (fun y:Int×Int×(List Int)=>ZcB.p1.S y.1 y.2.1 y.2.2 A1_0 st) (fun c J hc y h=>ZcB.p1_ok (A1:=y.1) (v2:=y.2.1) (A5:=y.2.2) h hE (fun A1 v2 A5=>hc (A1,v2,A5))) N (0,0,A0_0) h))
def ZbD.B:Code:=Tryz.f125.body.getD .skip
def ZbD.rs (r:(List Int)×(List Int)):List CV:=[.agg [zK .u64 4 r.1],.agg [zK .u64 4 r.2]]
def ZbD.p2 (N:Nat) (c1_:(Int×(List Int)×(List Int))→Option ((List Int)×(List Int))) (A3:Int) (A0_0 A1_0 A21 A20:List Int):Option ((List Int)×(List Int)):= c1_ (w64 (A3-1),A21,A20)
def ZbD.p1 (N:Nat) (A0_0 A1_0:List Int) (c1_:(Int×(List Int)×(List Int))→Option ((List Int)×(List Int))):(Int×(List Int)×(List Int))→Option ((List Int)×(List Int)):=fun (A3,A12,A13)=> if (decide (A3≥0))=true then Zbj (ZbI N A13 1) fun x14=> chk (0≤(w64 (zR A3 64)))<| chk ((w64 (zR A3 64))<4)<| chk (0≤(yA A3 64))<| if ((Zbn .u64 (zF A13 3 0) 63)==1)=true then Zbj (ZcB N (zQ x14 0 (ZaG .or .u64 (zF x14 0 0) (ZaG .and .u64 (Zbn .u64 (zF A0_0 (zC (w64 (zR A3 64))) 0) (yA A3 64)) 1))) A1_0) fun (x15,x16)=> ZbD.p2 N c1_ A3 A0_0 A1_0 (zQ A12 (zC (w64 (zR A3 64))) (ZaG .or .u64 (zF A12 (zC (w64 (zR A3 64))) 0) (ZbB .u64 1 (yA A3 64)))) x15 else Zbj (Zdf N (zQ x14 0 (ZaG .or .u64 (zF x14 0 0) (ZaG .and .u64 (Zbn .u64 (zF A0_0 (zC (w64 (zR A3 64))) 0) (yA A3 64)) 1))) A1_0) fun x17=> if (!x17)=true then Zbj (ZcB N (zQ x14 0 (ZaG .or .u64 (zF x14 0 0) (ZaG .and .u64 (Zbn .u64 (zF A0_0 (zC (w64 (zR A3 64))) 0) (yA A3 64)) 1))) A1_0) fun (x18,x19)=> ZbD.p2 N c1_ A3 A0_0 A1_0 (zQ A12 (zC (w64 (zR A3 64))) (ZaG .or .u64 (zF A12 (zC (w64 (zR A3 64))) 0) (ZbB .u64 1 (yA A3 64)))) x18 else ZbD.p2 N c1_ A3 A0_0 A1_0 A12 (zQ x14 0 (ZaG .or .u64 (zF x14 0 0) (ZaG .and .u64 (Zbn .u64 (zF A0_0 (zC (w64 (zR A3 64))) 0) (yA A3 64)) 1))) else some (A12,A13)
def ZbD (N:Nat) (A0_0 A1_0:List Int):Option ((List Int)×(List Int)):= Zbj (ZcT N A1_0) fun x1=> if x1=true then some (zB 4 0,zB 4 0) else Zbj (Zcw N A0_0) fun x2=> loopN (ZbD.p1 N A0_0 A1_0) N (w64 (x2-1),zB 4 0,zB 4 0)
def ZbD.p2.S (A3:Int) (A0_0 A1_0 A21 A20:List Int) (st:LL):S:=mkS 63 [(2,sA 2),(3,sA 3),(4,sA 4),(5,sA 5),(6,sA 6),(7,sA 7),(8,sI A3)] [(2,.cells [zK .u64 4 A0_0]),(3,.cells [zK .u64 4 A1_0]),(4,.cells [zK .u64 4 (zB 4 0)]),(5,.cells [zK .u64 4 (zB 4 0)]),(6,.cells [zK .u64 4 A21]),(7,.cells [zK .u64 4 A20])] st
def ZbD.p1.S (A3:Int) (A0_0 A1_0 A12 A13:List Int) (st:LL):S:=mkS 63 [(2,sA 2),(3,sA 3),(4,sA 4),(5,sA 5),(6,sA 6),(7,sA 7),(8,sI A3)] [(2,.cells [zK .u64 4 A0_0]),(3,.cells [zK .u64 4 A1_0]),(4,.cells [zK .u64 4 (zB 4 0)]),(5,.cells [zK .u64 4 (zB 4 0)]),(6,.cells [zK .u64 4 A12]),(7,.cells [zK .u64 4 A13])] st
theorem ZbD.p2_ok {A3 A0_0 A1_0 A21 A20 st r c1_ J1} (h:ZbD.p2 N c1_ A3 A0_0 A1_0 A21 A20=some r) (hE:En Tryz.f125 g0 w0 (ZbD.rs r) st R) (hc1 : ∀A3 A12 A13,c1_ (A3,A12,A13)=some r→At g0 w0 (ZbD.p1.S A3 A0_0 A1_0 A12 A13 st) J1):At g0 w0 (ZbD.p2.S A3 A0_0 A1_0 A21 A20 st) (XK zE R [cK ZbD.B [1,1,1,0,1,0,0,1,1],.h J1,.b 0,cK ZbD.B [1,1,1,1]]):=by
 unfold ZbD.p2 at h;exact an fol [rZ] [2,3,4,5,6,7,8] [2,3,4,5,6,7] trivial (hc1 (w64 (A3-1)) A21 A20 h)
theorem ZbD.p1_ok {A3 A0_0 A1_0 A12 A13 st r c1_ J1} (h:ZbD.p1 N A0_0 A1_0 c1_ (A3,A12,A13)=some r) (hE:En Tryz.f125 g0 w0 (ZbD.rs r) st R) (hc1 : ∀A3 A12 A13,c1_ (A3,A12,A13)=some r→At g0 w0 (ZbD.p1.S A3 A0_0 A1_0 A12 A13 st) J1):At g0 w0 (ZbD.p1.S A3 A0_0 A1_0 A12 A13 st) (XK zE R (cK ZbD.B [1,1,1,0,1,0,0] :: .h J1 :: [.b 0,cK ZbD.B [1,1,1,1]])):=by
 unfold ZbD.p1 at h;refine Zba h (fun c14 h1=>?_) (fun c14 h2=>?_)
 ·obtain ⟨x14,c15,h3⟩:=Zae h1;obtain ⟨c16,c17,c18,h4⟩:=ck3 h3;let o1:List PS:=[rZ,cT,rZ,.r [(1,q1 [.agg [zK .u64 4 x14]])],.d {ds:=[],hv:=4096,Hs:=[4096]}]
  have t1 {Q:Prop} (q:Q):=aI c14 (ix 3 4 (aJ (leI 0 63) (ZbI.snd c15) (ix 0 4 (aM (neI 64) c16 c17 (neI 64) c18 (ix 0 4 q)))));refine Zba h4 (fun c19 h5=>?_) (fun c19 h6=>?_)
  ·obtain ⟨⟨x15,x16⟩,c20,h7⟩:=Zae h5;exact aqd fol (o1++[.r [(2,wF),(3,wF),(4,wF),(5,wF)],cT,.r [(2,q1 [.agg [zK .u64 4 x15],oB x16])],.d {ds:=[],hv:=512,Hs:=[512]},.s 4]) [2,3,4,5,6,7,8] [2,3,4,5,6,7] (t1 (aO c19 c19 c19 c19 c19 eT (ZcB.snd c20) (aN (neI 64) c16 c17 (neI 64) c18 c16 c17))) (ZbD.p2_ok h7 hE hc1)
  obtain ⟨x17,c21,h8⟩:=Zae h6;let o2:List PS:=o1++[.r [(4,q1 [oB x17]),(6,yF)]]
  have t2 {Q:Prop} (q:Q):=t1 (aN c19 c19 c19 (Zdf.snd c21) c19 c19 q);refine Zba h8 (fun c22 h9=>?_) (fun c22 h10=>?_)
  ·obtain ⟨⟨x18,x19⟩,c23,h11⟩:=Zae h9;exact aqd fol (o2++[cT,.r [(2,q1 [.agg [zK .u64 4 x18],oB x19])],.d {ds:=[],hv:=512,Hs:=[512]},.s 4]) [2,3,4,5,6,7,8] [2,3,4,5,6,7] (t2 (aO c22 (ZcB.snd c23) (neI 64) c16 c17 (neI 64) c18 (aI c16 c17))) (ZbD.p2_ok h11 hE hc1)
  exact aqd fol (o2++[cF,.s 4]) [2,3,4,5,6,7,8] [2,3,4,5,6,7] (t2 c22) (ZbD.p2_ok h10 hE hc1)
 exact xSd fol h2 hE [rZ,cF,.d {ds:=[],hv:=12,Hs:=[4,12]}] c14
theorem ZbD.snd {A0_0 A1_0:List Int} {r:(List Int)×(List Int)} (h:ZbD N A0_0 A1_0=some r):Zdo zE 125 [.agg [zK .u64 4 A0_0],.agg [zK .u64 4 A1_0]] (ZbD.rs r):=fun st=>
 sO ZbD.B Tryz.func125 fun g0 w0 R hE=>by
  unfold ZbD at h;obtain ⟨x1,c1,h12⟩:=Zae h;let o3:List PS:=[rZ,rZ,.r [(1,q1 [oB x1])]]
  refine Zba h12 (fun c2 h13=>?_) (fun c2 h14=>?_)
  ·exact xSd fol h13 hE (o3++[cT,.d {ds:=[],hv:=12,Hs:=[4,12]}]) (aI (ZcT.snd c1) c2)
  obtain ⟨x2,c3,h15⟩:=Zae h14;exact aq fol (o3++[cF,.r [(1,q1 [oI x2])]]) [2,3,4,5,6,7,8] [2,3,4,5,6,7] (aJ (ZcT.snd c1) c2 (Zcw.snd c3)) (At.loop N (At.loopN (fun y:Int×(List Int)×(List Int)=>ZbD.p1.S y.1 A0_0 A1_0 y.2.1 y.2.2 st) (fun c J hc y h=>ZbD.p1_ok (A3:=y.1) (A12:=y.2.1) (A13:=y.2.2) h hE (fun A3 A12 A13=>hc (A3,A12,A13))) N (w64 (x2-1),zB 4 0,zB 4 0) h15))
def ZdS.B:Code:=Tryz.f108.body.getD .skip
def ZdS.rs (r:(List Int)):List CV:=[.agg [zK .u64 4 r]]
def ZdS (N:Nat):Option (List Int):= Zbj (Zcq N (zB 4 0)) fun x1=> some x1
theorem ZdS.snd {r:(List Int)} (h:ZdS N=some r):Zdo zE 108 [] (ZdS.rs r):=fun st=>
 sO ZdS.B Tryz.func108 fun g0 w0 R hE=>by
  unfold ZdS at h;obtain ⟨x1,c1,h1⟩:=Zae h;exact xS fol h1 hE [rZ,.r [(1,q1 [.agg [zK .u64 4 x1]])]] (Zcq.snd c1)
def Zgl.B:Code:=Tryz.f106.body.getD .skip
def Zgl.rs (r:(List Int)):List CV:=[.agg [zK .u64 4 r]]
def Zgl (N:Nat) (A0_0:List Int):Option (List Int):= Zbj (Zdp N 1) fun x1=> Zbj (ZbT N A0_0 x1) fun (x2,x3)=> if x3=true then some x1 else Zbj (Zcq N A0_0) fun x4=> Zbj (ZbD N x4 x2) fun (x5,x6)=> Zbj (ZbT N x5 x1) fun (x7,x8)=> if x8=true then Zbj (ZdS N ) fun x9=> some x9 else some x7
theorem Zgl.snd {A0_0:List Int} {r:(List Int)} (h:Zgl N A0_0=some r):Zdo zE 106 [.agg [zK .u64 4 A0_0]] (Zgl.rs r):=fun st=>
 sO Zgl.B Tryz.func106 fun g0 w0 R hE=>by
  unfold Zgl at h;obtain ⟨x1,c1,h1⟩:=Zae h;obtain ⟨⟨x2,x3⟩,c2,h2⟩:=Zae h1;let o1:List PS:=[rZ,.d {ds:=[(1,q1 [.agg [zK .u64 4 x1]]),(2,q1 [.agg [zK .u64 4 x2],oB x3])],hv:=192,Hs:=[64,192]},rZ]
  have t1 {Q:Prop} (q:Q):=aL (Zdp.snd c1) (Zdp.snd c1) (ZbT.snd c2) (ZbT.snd c2) q;refine Zba h2 (fun c3 h3=>?_) (fun c3 h4=>?_)
  ·exact xSd fol h3 hE (o1++[cT,.r [(0,q1 [.agg [zK .u64 4 x1]])]]) (t1 (aI c3 (Zdp.snd c1)))
  obtain ⟨x4,c4,h5⟩:=Zae h4;obtain ⟨⟨x5,x6⟩,c5,h6⟩:=Zae h5;obtain ⟨⟨x7,x8⟩,c6,h7⟩:=Zae h6;let o2:List PS:=o1++[cF,.d {ds:=[(1,q1 [.agg [zK .u64 4 x4]]),(3,q1 [.agg [zK .u64 4 x5],.agg [zK .u64 4 x6]])],hv:=1920,Hs:=[128,256,384,896,1920]},.d {ds:=[(1,q1 [.agg [zK .u64 4 x1]]),(2,q1 [.agg [zK .u64 4 x7],oB x8])],hv:=192,Hs:=[64,192]},rZ]
  have t2 {Q:Prop} (q:Q):=t1 (aO c3 (Zcq.snd c4) (Zcq.snd c4) (Zcq.snd c4) (Zcq.snd c4) (ZbD.snd c5) (ZbD.snd c5) (aN (ZbD.snd c5) (ZbD.snd c5) (Zdp.snd c1) (Zdp.snd c1) (ZbT.snd c6) (ZbT.snd c6) q));refine Zba h7 (fun c7 h8=>?_) (fun c7 h9=>?_)
  ·obtain ⟨x9,c8,h10⟩:=Zae h8;exact xSd fol h10 hE (o2++[cT,.r [(0,q1 [.agg [zK .u64 4 x9]])]]) (t2 (aI c7 (ZdS.snd c8)))
  exact xSd fol h9 hE (o2++[cF,rZ]) (t2 c7)
def ZdJ.B:Code:=Tryz.f79.body.getD .skip
def ZdJ.rs (r:(List Int)):List CV:=[.agg [zK .u64 4 r]]
def ZdJ (N:Nat) (A0:Int):Option (List Int):= Zbj (ZaO N A0) fun (x1,x2,x3)=> if x2=true then some (zB 4 0) else if x3=true then some (zB 4 0) else Zbj (ZcT N x1) fun x4=> if x4=true then some (zB 4 0) else Zbj (Zgl N x1) fun x5=> some x5
theorem ZdJ.snd {A0:Int} {r:(List Int)} (h:ZdJ N A0=some r):Zdo zE 79 [oI A0] (ZdJ.rs r):=fun st=>
 sO ZdJ.B Tryz.func79 fun g0 w0 R hE=>by
  unfold ZdJ at h;obtain ⟨⟨x1,x2,x3⟩,c1,h1⟩:=Zae h;let o1:List PS:=[rZ,.r [(1,q1 [.agg [zK .u64 4 x1],oB x2,oB x3])]]
  have t1 {Q:Prop} (q:Q):=aI (ZaO.snd c1) q;refine Zba h1 (fun c2 h2=>?_) (fun c2 h3=>?_)
  ·exact xS fol h2 hE (o1++[.r [(2,wF),(5,wF),(6,wF)],cT,rZ]) (t1 (aM c2 c2 eT eT eT eT))
  refine Zba h3 (fun c3 h4=>?_) (fun c3 h5=>?_)
  ·exact xS fol h4 hE (o1++[.r [(3,yF),(5,wF),(6,wF)],cT,rZ]) (t1 (aM c2 c2 c3 c3 c3 eT))
  obtain ⟨x4,c4,h6⟩:=Zae h5;let o2:List PS:=o1++[.r [(3,yF),(6,q1 [oB x4]),(7,yF)]]
  refine Zba h6 (fun c5 h7=>?_) (fun c5 h8=>?_)
  ·exact xS fol h7 hE (o2++[cT,rZ]) (t1 (aN c2 c2 c3 c3 (ZcT.snd c4) c3 c5))
  obtain ⟨x5,c6,h9⟩:=Zae h8;exact xS fol h9 hE (o2++[cF,.r [(1,q1 [.agg [zK .u64 4 x5]])]]) (t1 (aO c2 c2 c3 c3 (ZcT.snd c4) c3 c5 (Zgl.snd c6)))
def Zcv.B:Code:=Tryz.f107.body.getD .skip
def Zcv.rs (r:(List Int)×Bool):List CV:=[.agg [zK .u64 4 r.1],oB r.2]
def Zcv.p1 (N:Nat) (A0:LL) (c1_:(Bool×Int×(List Int))→Option ((List Int)×Bool)):(Bool×Int×(List Int))→Option ((List Int)×Bool):=fun (A1,v2,A6)=> if (decide (v2<(len A0)))=true then chk (0≤v2)<| ZcS (A0[zC v2]?) ZgX fun x7=> Zbj (ZbT N A6 x7) fun (x8,x9)=> if A1=true then c1_ (true,w64 (v2+1),x8) else c1_ (x9,w64 (v2+1),x8) else some (A6,A1)
def Zcv (N:Nat) (A0:LL):Option ((List Int)×Bool):= loopN (Zcv.p1 N A0) N (false,0,zB 4 0)
def Zcv.p1.S (A1:Bool) (A0:LL) (v2:Int) (A6:List Int) (st:LL):S:=mkS 28 [(2,sA 2),(4,sA 4),(5,.one (.l (xP A1))),(9,sV 4 A0),(10,sI (len A0)),(11,sI v2)] [(2,.cells [zK .u64 4 (zB 4 0)]),(4,.cells [zK .u64 4 A6])] st
theorem Zcv.p1_ok {A1 A0 v2 A6 st r c1_ J1} (h:Zcv.p1 N A0 c1_ (A1,v2,A6)=some r) (hE:En Tryz.f107 g0 w0 (Zcv.rs r) st R) (hc1 : ∀A1 v2 A6,c1_ (A1,v2,A6)=some r→At g0 w0 (Zcv.p1.S A1 A0 v2 A6 st) J1):At g0 w0 (Zcv.p1.S A1 A0 v2 A6 st) (XK zE R (cK Zcv.B [1,1,1,0,1,0,0] :: .h J1 :: [.b 0,cK Zcv.B [1,1,1,1]])):=by
 unfold Zcv.p1 at h;refine Zba h (fun c6 h1=>?_) (fun c6 h2=>?_)
 ·obtain ⟨c7,h3⟩:=ZaW h1;obtain ⟨x7,c8,h4⟩:=Zhp h3;obtain ⟨⟨x8,x9⟩,c9,h5⟩:=Zae h4;let o1:List PS:=[rZ,cT,.r [(1,{oe:=[zK .u64 4 x7]})],rZ,.r [(2,q1 [.agg [zK .u64 4 x8],oB x9])]]
  refine Zba h5 (fun c10 h6=>?_) (fun c10 h7=>?_)
  ·exact an fol (o1++[.r [(2,wF)],rZ]) [2,4,5,9,10,11] [2,4] (aN c6 c7 (oD c6) c8 (ZbT.snd c9) c10 c10) (hc1 true (w64 (v2+1)) x8 h6)
  exact an fol (o1++[.r [(3,yF)],rZ]) [2,4,5,9,10,11] [2,4] (aN c6 c7 (oD c6) c8 (ZbT.snd c9) c10 c10) (hc1 x9 (w64 (v2+1)) x8 h7)
 exact xS fol h2 hE [rZ,cF,rZ] c6
theorem Zcv.snd {A0:LL} {r:(List Int)×Bool} (h:Zcv N A0=some r):Zdo zE 107 [.one (vR 4 A0)] (Zcv.rs r):=fun st=>
 sO Zcv.B Tryz.func107 fun g0 w0 R hE=>by
  unfold Zcv at h;exact aq fol [rZ,rZ,rZ,rZ] [2,4,5,9,10,11] [2,4] trivial (At.loop N (At.loopN (fun y:Bool×Int×(List Int)=>Zcv.p1.S y.1 A0 y.2.1 y.2.2 st) (fun c J hc y h=>Zcv.p1_ok (A1:=y.1) (v2:=y.2.1) (A6:=y.2.2) h hE (fun A1 v2 A6=>hc (A1,v2,A6))) N (false,0,zB 4 0) h))
def Zft.B:Code:=Tryz.f80.body.getD .skip
def Zft.rs (r:(List Int)):List CV:=[.agg [zK .u64 4 r]]
def Zft (N:Nat) (A0:LL):Option (List Int):= Zbj (Zcv N A0) fun (x1,x2)=> if x2=true then Zbj (ZdS N ) fun x3=> some x3 else some x1
theorem Zft.snd {A0:LL} {r:(List Int)} (h:Zft N A0=some r):Zdo zE 80 [.one (vR 4 A0)] (Zft.rs r):=fun st=>
 sO Zft.B Tryz.func80 fun g0 w0 R hE=>by
  unfold Zft at h;obtain ⟨⟨x1,x2⟩,c1,h1⟩:=Zae h;let o1:List PS:=[rZ,.r [(1,q1 [.agg [zK .u64 4 x1],oB x2])],rZ]
  refine Zba h1 (fun c2 h2=>?_) (fun c2 h3=>?_)
  ·obtain ⟨x3,c3,h4⟩:=Zae h2;exact xS fol h4 hE (o1++[cT,.r [(0,q1 [.agg [zK .u64 4 x3]])]]) (aJ (Zcv.snd c1) c2 (ZdS.snd c3))
  exact xS fol h3 hE (o1++[cF,rZ]) (aI (Zcv.snd c1) c2)
def ZaZ.B:Code:=Tryz.f50.body.getD .skip
def ZaZ.rs (r:Int×LL):List CV:=[oI r.1]
def ZaZ.p1 (N:Nat) (A7:Option Nat) (A3:ZaT) (A6:ZbY) (st:LL):Option (Int×LL):= Zbj A7 fun i8=> ZcS (st[i8]?) Zby fun x9=> chk (zG (x9.list++[A6.ls])*176≤140737488355328)<| chk (zG (x9.spots++[A3.ls])*96≤140737488355328)<| optM (ZhT x9.places (zK .u8 32 A6.Id)) (fun j10 e=>ZcW [e] fun x11=> some (w64 ((len (x9.list++[A6.ls]))-1),zQ (zQ (zQ (zQ (zQ st i8 (gs x9.lo 15)) i8 (gs (gs x9.lo 15) 16)) i8 (gs (ZaF.lo {x9 with list:=x9.list++[A6.ls]}) 16)) i8 (ZaF.lo {x9 with list:=x9.list++[A6.ls],spots:=x9.spots++[A3.ls]})) i8 (ZaF.lo (ZaF.mk x9.rules (x9.list++[A6.ls]) (x9.spots++[A3.ls]) (zQ x9.places j10 (zK .u8 32 A6.Id,zM .i64 (w64 ((len (x9.list++[A6.ls]))-1)))) x9.room)))) ( some (w64 ((len (x9.list++[A6.ls]))-1),zQ (zQ (zQ (zQ (zQ st i8 (gs x9.lo 15)) i8 (gs (gs x9.lo 15) 16)) i8 (gs (ZaF.lo {x9 with list:=x9.list++[A6.ls]}) 16)) i8 (ZaF.lo {x9 with list:=x9.list++[A6.ls],spots:=x9.spots++[A3.ls]})) i8 (ZaF.lo (ZaF.mk x9.rules (x9.list++[A6.ls]) (x9.spots++[A3.ls]) (x9.places++[(zK .u8 32 A6.Id,zM .i64 (w64 ((len (x9.list++[A6.ls]))-1)))]) x9.room))))
def ZaZ (N:Nat) (A0:Option Nat) (A1:Zal) (A2:Int) (A3:ZaT) (st:LL):Option (Int×LL):= Zbj (ZdJ N A1.Bits) fun x1=> if (A2 != (-1))=true then Zbj A0 fun i2=> ZcS (st[i2]?) Zby fun x3=> chk (0≤A2)<| chk (A2<(len x3.list))<| ZcS (x3.list[0+(zC A2)]?) Zed fun x4=> Zbj (Zft N [[zK .u64 4 x4.Work],[zK .u64 4 x1]]) fun x5=> ZaZ.p1 N (some i2) A3 (ZbY.mk A1 A3.Prev A2 (w64 (x4.Height+1)) x5) st else ZaZ.p1 N A0 A3 (ZbY.mk A1 A3.Prev A2 0 x1) st
def ZaZ.p1.S (A7:Option Nat) (A3:ZaT) (A6:ZbY) (st:LL):S:=mkS 81 [(0,sP A7),(7,sA 7),(9,sA 9)] [(7,.cells A3.ls),(9,.cells A6.ls)] st
theorem ZaZ.p1_ok {A7 A3 A6 st r} (h:ZaZ.p1 N A7 A3 A6 st=some r) (hE:En Tryz.f50 g0 w0 (ZaZ.rs r) r.2 R):At g0 w0 (ZaZ.p1.S A7 A3 A6 st) (XK zE R [cK ZaZ.B [1,1,1]]):=by
 unfold ZaZ.p1 at h;obtain ⟨i8,rfl,h1⟩:=Zae h;obtain ⟨x9,c10,h2⟩:=Zbl h1;obtain ⟨c11,c12,h3⟩:=ck2 h2;let o1:List PS:=[.d {ds:=[(5,{oc:=x9.lo}),(8,{oe:=x9.lo}),(12,{oc:=gs x9.lo 15}),(15,{oe:=gs x9.lo 15}),(18,{oc:=gs (gs x9.lo 15) 16,mv:=[51]}),(21,{oc:=gs (ZaF.lo {x9 with list:=x9.list++[A6.ls]}) 16,mv:=[58]})],hv:=2408832,Hs:=[128,384,16384,16512,16768,49536,311680,2408832],dh:=[(12,0,{oc:=x9.lo}),(12,128,{oc:=x9.lo}),(12,16384,{oc:=x9.lo}),(12,16512,{oc:=x9.lo})]}]
 have t1 {Q:Prop} (q:Q):=aO c10 c10 c10 c10 z0 (eN (zG x9.list)) c10 (aO z0 (eN (1)) c11 z0 (eN (zG x9.list)) c10 z0 (aO (eN (1)) c11 c10 c10 (Zap c10 (gs x9.lo 15)) c10 c10 (aO (Zap c10 (gs x9.lo 15)) z0 (eN (zG x9.spots)) (Zap c10 (gs x9.lo 15)) z0 (eN (1)) c12 (aO (Zap (Zap c10 (gs x9.lo 15)) (gs (gs x9.lo 15) 16)) z0 (eN (zG (x9.list++[A6.ls]))) (Zap (Zap (Zap c10 (gs x9.lo 15)) (gs (gs x9.lo 15) 16)) (gs (ZaF.lo {x9 with list:=x9.list++[A6.ls]}) 16)) z0 (eN (zG (x9.spots++[A3.ls]))) (Zap (Zap (Zap (Zap c10 (gs x9.lo 15)) (gs (gs x9.lo 15) 16)) (gs (ZaF.lo {x9 with list:=x9.list++[A6.ls]}) 16)) (ZaF.lo {x9 with list:=x9.list++[A6.ls],spots:=x9.spots++[A3.ls]})) (aI (Zap (Zap (Zap (Zap c10 (gs x9.lo 15)) (gs (gs x9.lo 15) 16)) (gs (ZaF.lo {x9 with list:=x9.list++[A6.ls]}) 16)) (ZaF.lo {x9 with list:=x9.list++[A6.ls],spots:=x9.spots++[A3.ls]})) q)))));rcases Znh h3 with ⟨j10,h7,c13,h4⟩ | ⟨c13,h5⟩
 ·obtain ⟨x11,h8,h6⟩:=ZiP h4;obtain rfl:=ZjO h8;exact xTd fol h6 hE (o1++[.d {ds:=[(3,{oc:=ZaF.lo {x9 with list:=x9.list++[A6.ls],spots:=x9.spots++[A3.ls]}}),(9,{oc:=ZaF.lo {x9 with list:=x9.list++[A6.ls],spots:=x9.spots++[A3.ls]}}),(12,{oc:=ZaF.lo {x9 with list:=x9.list++[A6.ls],spots:=x9.spots++[A3.ls]},m:=j10})],hv:=4096,Hs:=[4096]},.r [(3,{oc:=ZaF.lo (ZaF.mk x9.rules (x9.list++[A6.ls]) (x9.spots++[A3.ls]) (zQ x9.places j10 (zK .u8 32 A6.Id,zM .i64 (w64 ((len (x9.list++[A6.ls]))-1)))) x9.room)})]]) (t1 (aJ (ex_at c13) (Zap (Zap (Zap (Zap c10 (gs x9.lo 15)) (gs (gs x9.lo 15) 16)) (gs (ZaF.lo {x9 with list:=x9.list++[A6.ls]}) 16)) (ZaF.lo {x9 with list:=x9.list++[A6.ls],spots:=x9.spots++[A3.ls]})) (Zap (Zap (Zap (Zap (Zap c10 (gs x9.lo 15)) (gs (gs x9.lo 15) 16)) (gs (ZaF.lo {x9 with list:=x9.list++[A6.ls]}) 16)) (ZaF.lo {x9 with list:=x9.list++[A6.ls],spots:=x9.spots++[A3.ls]})) (ZaF.lo (ZaF.mk x9.rules (x9.list++[A6.ls]) (x9.spots++[A3.ls]) (zQ x9.places j10 (zK .u8 32 A6.Id,zM .i64 (w64 ((len (x9.list++[A6.ls]))-1)))) x9.room)))))
 exact xTd fol h5 hE (o1++[.d {ds:=[(3,{oc:=ZaF.lo {x9 with list:=x9.list++[A6.ls],spots:=x9.spots++[A3.ls]}}),(9,{oc:=ZaF.lo {x9 with list:=x9.list++[A6.ls],spots:=x9.spots++[A3.ls]}}),(12,{oc:=ZaF.lo {x9 with list:=x9.list++[A6.ls],spots:=x9.spots++[A3.ls]},yes:=false})],hv:=4096,Hs:=[4096]},.r [(3,{oc:=ZaF.lo (ZaF.mk x9.rules (x9.list++[A6.ls]) (x9.spots++[A3.ls]) (x9.places++[(zK .u8 32 A6.Id,zM .i64 (w64 ((len (x9.list++[A6.ls]))-1)))]) x9.room)})]]) (t1 (aJ c13 (Zap (Zap (Zap (Zap c10 (gs x9.lo 15)) (gs (gs x9.lo 15) 16)) (gs (ZaF.lo {x9 with list:=x9.list++[A6.ls]}) 16)) (ZaF.lo {x9 with list:=x9.list++[A6.ls],spots:=x9.spots++[A3.ls]})) (Zap (Zap (Zap (Zap (Zap c10 (gs x9.lo 15)) (gs (gs x9.lo 15) 16)) (gs (ZaF.lo {x9 with list:=x9.list++[A6.ls]}) 16)) (ZaF.lo {x9 with list:=x9.list++[A6.ls],spots:=x9.spots++[A3.ls]})) (ZaF.lo (ZaF.mk x9.rules (x9.list++[A6.ls]) (x9.spots++[A3.ls]) (x9.places++[(zK .u8 32 A6.Id,zM .i64 (w64 ((len (x9.list++[A6.ls]))-1)))]) x9.room)))))
theorem ZaZ.snd {A0:Option Nat} {A1:Zal} {A2:Int} {A3:ZaT} {st:LL} {r:Int×LL} (h:ZaZ N A0 A1 A2 A3 st=some r):Snd zE 50 [.one (yN A0),.agg A1.ls,oI A2,.agg A3.ls] st (ZaZ.rs r) r.2:=
 sO ZaZ.B Tryz.func50 fun g0 w0 R hE=>by
  unfold ZaZ at h;obtain ⟨x1,c1,h9⟩:=Zae h;let o2:List PS:=[rZ,.d {ds:=[(6,q1 [.agg [zK .u64 4 x1]])],hv:=768,Hs:=[256,768]},rZ]
  have t2 {Q:Prop} (q:Q):=aJ (ZdJ.snd c1) (ZdJ.snd c1) q;refine Zba h9 (fun c2 h10=>?_) (fun c2 h11=>?_)
  ·obtain ⟨i2,rfl,h12⟩:=Zae h10;obtain ⟨x3,c4,h13⟩:=Zbl h12;obtain ⟨c5,c6,h14⟩:=ck2 h13;obtain ⟨x4,c7,h15⟩:=ZeD h14;obtain ⟨x5,c8,h16⟩:=Zae h15;exact aqd fol (o2++[cT,.r [(3,{oc:=x3.lo}),(7,{oc:=x3.lo,oe:=x4.ls})],.d {ds:=[(3,{oc:=x3.lo}),(7,{oc:=x3.lo,oe:=x4.ls}),(11,{rs:=[.agg [zK .u64 4 x5]],m:=2})],hv:=9216,Hs:=[1024,9216]},.s 1]) [0,7,9] [7,9] (t2 (aO c2 c4 c5 c6 c7 c4 c4 (aN c5 c6 c7 c4 z0 (eN (2)) (Zft.snd c8)))) (ZaZ.p1_ok h16 hE)
  exact aqd fol (o2++[cF,.s 1]) [0,7,9] [7,9] (t2 c2) (ZaZ.p1_ok h11 hE)
def ZeG.B:Code:=Tryz.f25.body.getD .skip
def ZeG.rs (r:(Option Nat)×Int×LL):List CV:=[.one (yN r.1),oI r.2.1]
def ZeG (N:Nat) (A0:Zah) (A1:Int) (st:LL):Option ((Option Nat)×Int×LL):= Zbj (ZbM N A0) fun x1=> if (!x1)=true then some (none,1,st) else chk (zG ([]++A0.Gates)*16≤140737488355328)<| chk (zG ([]++A0.Checks)*40≤140737488355328)<| Zbj (ZfF N {A0 with Gates:=[]++A0.Gates,Checks:=[]++A0.Checks}) fun x2=> Zbj (ZaZ N (some (zG st)) A0.Genesis (-1) x2 (st++[ZaF.lo (ZaF.mk {A0 with Gates:=[]++A0.Gates,Checks:=[]++A0.Checks} [] [] [] (if (512:Int)<(if (1:Int)>A1 then 1 else A1) then 512 else (if (1:Int)>A1 then 1 else A1)))])) fun (x3,st4)=> some ((some (zG st)),0,st4)
theorem ZeG.snd {A0:Zah} {A1:Int} {st:LL} {r:(Option Nat)×Int×LL} (h:ZeG N A0 A1 st=some r):Snd zE 25 [.agg A0.ls,oI A1] st (ZeG.rs r) r.2.2:=
 sO ZeG.B Tryz.func25 fun g0 w0 R hE=>by
  unfold ZeG at h;obtain ⟨x1,c1,h1⟩:=Zae h;let o1:List PS:=[rZ,.r [(1,q1 [oB x1])]]
  refine Zba h1 (fun c2 h2=>?_) (fun c2 h3=>?_)
  ·exact xU fol h2 hE (o1++[cT,rZ]) (aI (ZbM.snd c1) c2)
  obtain ⟨c3,c4,h4⟩:=ck2 h3;obtain ⟨x2,c5,h5⟩:=Zae h4;obtain ⟨⟨x3,st4⟩,c6,h6⟩:=Zae h5;exact xUd fol h6 hE (o1++[cF,.d {ds:=[(7,{fz:=[12]}),(9,{fz:=[15]})],hv:=676,Hs:=[4,36,164,676]},.r [(5,{ns:=[15,16]}),(6,{m:=1})],.d {ds:=[(4,q1 [.agg x2.ls]),(5,{rs:=[oI x3],st:=st4})],hv:=32,Hs:=[32]},rZ]) (aO (ZbM.snd c1) c2 c3 c4 z0 (eN (zG ([]++A0.Gates))) z0 (aJ (eN (zG ([]++A0.Checks))) (ZfF.snd c5) (ZaZ.snd c6)))
def Zfb.B:Code:=Tryz.f8.body.getD .skip
def Zfb.rs (r:(Option Nat)×Int×LL):List CV:=[.one (yN r.1),oI r.2.1]
def Zfb (N:Nat) (A0:Zah) (A1:Int) (st:LL):Option ((Option Nat)×Int×LL):= Zbj (ZeG N A0 A1 st) fun (x1,x2,st3)=> if (x2 != 0)=true then some (none,x2,st3) else some ((some (zG st3)),0,st3++[[yN x1,yT true 1 [[zM .i64 (-1)]]]])
theorem Zfb.snd {A0:Zah} {A1:Int} {st:LL} {r:(Option Nat)×Int×LL} (h:Zfb N A0 A1 st=some r):Snd zE 8 [.agg A0.ls,oI A1] st (Zfb.rs r) r.2.2:=
 sO Zfb.B Tryz.func8 fun g0 w0 R hE=>by
  unfold Zfb at h;obtain ⟨⟨x1,x2,st3⟩,c1,h1⟩:=Zae h;let o1:List PS:=[rZ,.r [(2,{rs:=[.one (yN x1),oI x2],st:=st3})],rZ]
  refine Zba h1 (fun c2 h2=>?_) (fun c2 h3=>?_)
  ·exact xU fol h2 hE (o1++[cT,rZ]) (aI (ZeG.snd c1) c2)
  exact xU fol h3 hE (o1++[cF,.r [(2,{ns:=[1]}),(3,{m:=1,mv:=[18]})]]) (aK (ZeG.snd c1) c2 z0 (eN (1)))
def ZeA.B:Code:=Tryz.f10.body.getD .skip
def ZeA.rs (r:(Option Nat)×LL):List CV:=[.one (yN r.1)]
def ZeA (N:Nat) (A0:Option Nat) (st:LL):Option ((Option Nat)×LL):= some ((some (zG st)),st++[[yN A0,yT true 1 []]])
theorem ZeA.snd {A0:Option Nat} {st:LL} {r:(Option Nat)×LL} (h:ZeA N A0 st=some r):Snd zE 10 [.one (yN A0)] st (ZeA.rs r) r.2:=
 sO ZeA.B Tryz.func10 fun g0 w0 R hE=>by
  unfold ZeA at h;exact xT fol h hE [rZ,.r [(1,{ns:=[1]}),(2,{m:=1})]] trivial
def ZcK.B:Code:=Tryz.f38.body.getD .skip
def ZcK.rs (r:Int):List CV:=[oI r]
def ZcK (N:Nat) (A0:ZaF):Option Int:= some (len A0.list)
theorem ZcK.snd {A0:ZaF} {r:Int} (h:ZcK N A0=some r):Zdo zE 38 [.one (wJ 87 A0.ls)] (ZcK.rs r):=fun st=>
 sO ZcK.B Tryz.func38 fun g0 w0 R hE=>by
  unfold ZcK at h;exact xS fol h hE [rZ,rZ,cF,.r [(3,{oe:=A0.ls})]] (aI eF (eO A0.ls))
def Zdj.B:Code:=Tryz.f17.body.getD .skip
def Zdj.rs (r:Int×LL):List CV:=[oI r.1]
def Zdj (N:Nat) (A0:Option Nat) (st:LL):Option (Int×LL):= if (Option.isNone A0)=true then some (0,st) else Zbj A0 fun i1=> ZcS (st[i1]?) Zbw fun x2 x3=> Zbj x2 fun i4=> ZcS (st[i4]?) Zby fun x5=> Zbj (ZcK N x5) fun x6=> some (x6,st)
theorem Zdj.snd {A0:Option Nat} {st:LL} {r:Int×LL} (h:Zdj N A0 st=some r):Snd zE 17 [.one (yN A0)] st (Zdj.rs r) r.2:=
 sO Zdj.B Tryz.func17 fun g0 w0 R hE=>by
  unfold Zdj at h;refine Zba h (fun c1 h1=>?_) (fun c1 h2=>?_)
  ·exact xT fol h1 hE [rZ,rZ,cT,rZ] c1
  obtain ⟨i1,rfl,h3⟩:=Zae h2;obtain ⟨x2,x3,c3,h4⟩:=Zbe h3;obtain ⟨i4,rfl,h5⟩:=Zae h4;obtain ⟨x5,c5,h6⟩:=Zbl h5;obtain ⟨x6,c6,h7⟩:=Zae h6;exact xT fol h7 hE [rZ,rZ,cF,.r [(3,{oc:=[yN (some i4),yT true 1 x3]}),(4,{rs:=[oI x6],m:=10,cv:=[.one (wJ 87 x5.ls)]})]] (aK c1 c3 (bO 87 c5 (ZaF.bv x5)) (ZcK.snd c6))
def Zcl.B:Code:=Tryz.f30.body.getD .skip
def Zcl.rs (r:Bool×LL):List CV:=[oB r.1]
def Zcl (N:Nat) (A0:Option Nat) (A1:Int) (st:LL):Option (Bool×LL):= if (!(Option.isNone A0))=true then if (decide (A1≥0))=true then Zbj A0 fun i1=> ZcS (st[i1]?) Zbw fun x2 x3=> Zbj (Zdj N x2 st) fun (x4,st5)=> some (decide (A1<x4),st5) else some (false,st) else some (false,st)
theorem Zcl.snd {A0:Option Nat} {A1:Int} {st:LL} {r:Bool×LL} (h:Zcl N A0 A1 st=some r):Snd zE 30 [.one (yN A0),oI A1] st (Zcl.rs r) r.2:=
 sO Zcl.B Tryz.func30 fun g0 w0 R hE=>by
  unfold Zcl at h;refine Zba h (fun c1 h1=>?_) (fun c1 h2=>?_)
  ·refine Zba h1 (fun c2 h3=>?_) (fun c2 h4=>?_)
   ·obtain ⟨i1,rfl,h5⟩:=Zae h3;obtain ⟨x2,x3,c4,h6⟩:=Zbe h5;obtain ⟨⟨x4,st5⟩,c5,h7⟩:=Zae h6;exact xT fol h7 hE [rZ,.r [(11,{oc:=[yN x2,yT true 1 x3]}),(12,{rs:=[oI x4],st:=st5})]] (aO eT eT eT c2 c2 c2 c2 (aM c2 c4 c2 (Zdj.snd c5) c2 c2))
   exact xT fol h4 hE [rZ,.r [(7,wF),(8,wF),(9,wF),(10,wF),(11,wF),(12,wF),(13,wF),(14,yF)]] (aO c1 c1 c1 c2 c2 c2 c2 (aK c2 c2 c2 c2))
  exact xT fol h2 hE [rZ,.r [(3,wF),(4,wF),(5,yF),(7,wF),(8,wF),(9,wF),(10,wF),(11,wF),(12,wF),(13,wF),(14,yF)]] (aO c1 c1 c1 eF eF eF eF (aK eF eF eF eF))
def ZbE.B:Code:=Tryz.f56.body.getD .skip
def ZbE.rs (r:Bool):List CV:=[oB r]
def ZbE (N:Nat) (A0:ZaF) (A1:Int):Option Bool:= if (decide (A1≥0))=true then some (decide (A1<(len A0.list))) else some false
theorem ZbE.snd {A0:ZaF} {A1:Int} {r:Bool} (h:ZbE N A0 A1=some r):Zdo zE 56 [.one (wJ 87 A0.ls),oI A1] (ZbE.rs r):=fun st=>
 sO ZbE.B Tryz.func56 fun g0 w0 R hE=>by
  unfold ZbE at h;refine Zba h (fun c1 h1=>?_) (fun c1 h2=>?_)
  ·exact xS fol h1 hE [rZ,.r [(11,{oe:=A0.ls})]] (aO eT eT eT c1 c1 c1 c1 (aL c1 (eO A0.ls) c1 c1 c1))
  exact xS fol h2 hE [rZ,.r [(7,wF),(8,wF),(9,wF),(10,wF),(11,wF),(12,wF),(13,wF),(14,yF)]] (aO eT eT eT c1 c1 c1 c1 (aK c1 c1 c1 c1))
def ZbV.B:Code:=Tryz.f37.body.getD .skip
def ZbV.rs (r:Bool):List CV:=[oB r]
def ZbV (N:Nat) (A0:ZaF) (A1 A2:Int):Option Bool:= Zbj (ZbE N A0 A1) fun x1=> if (!x1)=true then some x1 else Zbj (ZbE N A0 A2) fun x2=> if (!x2)=true then some x1 else chk (0≤A1)<| chk (A1<(len A0.list))<| ZcS (A0.list[zC A1]?) Zed fun x3=> chk (0≤A2)<| chk (A2<(len A0.list))<| ZcS (A0.list[zC A2]?) Zed fun x4=> Zbj (Zbv N x3.Work x4.Work) fun x5=> if (decide (x5>0))=true then some true else if (x5==0)=true then some (decide (A1<A2)) else some false
theorem ZbV.snd {A0:ZaF} {A1 A2:Int} {r:Bool} (h:ZbV N A0 A1 A2=some r):Zdo zE 37 [.one (wJ 87 A0.ls),oI A1,oI A2] (ZbV.rs r):=fun st=>
 sO ZbV.B Tryz.func37 fun g0 w0 R hE=>by
  unfold ZbV at h;obtain ⟨x1,c1,h1⟩:=Zae h;have t1 {Q:Prop} (q:Q):=aI (ZbE.snd c1) q;refine Zba h1 (fun c2 h2=>?_) (fun c2 h3=>?_)
  ·exact xS fol h2 hE [rZ,.r [(2,q0 [oB x1]),(5,wF),(6,wF),(7,wF),(8,wF)],cT,.r [(2,q0 [oB x1])]] (t1 (aN (not_false (ZbN c2)) (not_false (ZbN c2)) (not_false (ZbN c2)) (not_false (ZbN c2)) (not_false (ZbN c2)) eT (ZbE.snd c1)))
  obtain ⟨x2,c3,h4⟩:=Zae h3;let o1:List PS:=[rZ,.r [(2,q0 [oB x1]),(7,q0 [oB x2]),(9,yF)]]
  have t2 {Q:Prop} (q:Q):=t1 (aN (not_true (ZbO c2)) (not_true (ZbO c2)) (not_true (ZbO c2)) (ZbE.snd c3) (not_true (ZbO c2)) (not_true (ZbO c2)) q);refine Zba h4 (fun c4 h5=>?_) (fun c4 h6=>?_)
  ·exact xS fol h5 hE (o1++[cT,.r [(2,q0 [oB x1])]]) (t2 (aI c4 (ZbE.snd c1)))
  obtain ⟨c5,c6,h7⟩:=ck2 h6;obtain ⟨x3,c7,h8⟩:=ZeD h7;obtain ⟨c8,c9,h9⟩:=ck2 h8;obtain ⟨x4,c10,h10⟩:=ZeD h9;obtain ⟨x5,c11,h11⟩:=Zae h10;let o2:List PS:=o1++[cF,.d {ds:=[(3,{oe:=A0.ls}),(7,{oe:=x3.ls}),(11,{oe:=A0.ls}),(15,{oe:=x4.ls}),(16,q1 [oI x5])],hv:=0,Hs:=[]}]
  have t3 {Q:Prop} (q:Q):=t2 (aO c4 (eO A0.ls) c5 c6 c7 (eO A0.ls) c8 (aK c9 c10 (Zbv.snd c11) q));refine Zba h11 (fun c12 h12=>?_) (fun c12 h13=>?_)
  ·exact xSd fol h12 hE (o2++[.r [(3,wF),(4,wF),(5,wF),(9,wF)]]) (t3 (aL c12 c12 c12 c12 c12))
  refine Zba h13 (fun c13 h14=>?_) (fun c13 h15=>?_)
  ·exact xSd fol h14 hE (o2++[.r [(10,yF)]]) (t3 (aO c12 c12 c12 c13 c13 c13 c12 (aI c13 c12)))
  exact xSd fol h15 hE (o2++[.r [(6,wF),(7,wF),(8,wF),(9,yF),(10,yF)]]) (t3 (aO c12 c12 c12 c13 c13 c13 c12 (aI c13 c12)))
def Zcc.B:Code:=Tryz.f16.body.getD .skip
def Zcc.rs (r:Bool):List CV:=[oB r]
def Zcc (N:Nat) (A0:Zau) (A1 A2:Int):Option Bool:= Zbj (ZbV N A0.store A1 A2) fun x1=> some x1
theorem Zcc.snd {A0:Zau} {A1 A2:Int} {r:Bool} (h:Zcc N A0 A1 A2=some r):Zdo zE 16 [.one (wJ 2 A0.ls),oI A1,oI A2] (Zcc.rs r):=fun st=>
 sO Zcc.B Tryz.func16 fun g0 w0 R hE=>by
  unfold Zcc at h;obtain ⟨x1,c1,h1⟩:=Zae h;exact xS fol h1 hE [rZ,.r [(6,{oe:=A0.ls}),(9,q0 [oB x1])]] (aO eT eT eT eT (eO A0.ls) eT eT (aJ eT (ZbV.snd c1) eT))
def ZcE.B:Code:=Tryz.f61.body.getD .skip
def ZcE.rs (r:Int):List CV:=[oI r]
def ZcE (N:Nat) (A0 A1:Int) (A2_0:ZaS):Option Int:= if (A0==A1)=true then some 0 else Zbj (Zcc N A2_0.tree A0 A1) fun x1=> if x1=true then some (-1) else some 1
theorem ZcE.snd {A0 A1:Int} {A2_0:ZaS} {r:Int} (h:ZcE N A0 A1 A2_0=some r):Zdo zE 61 [oI A0,oI A1,.one (wJ 1 [wJ 2 A2_0.ls])] (ZcE.rs r):=fun st=>
 sO ZcE.B Tryz.func61 fun g0 w0 R hE=>by
  unfold ZcE at h;refine Zba h (fun c1 h1=>?_) (fun c1 h2=>?_)
  ·exact xS fol h1 hE [rZ,rZ,cT,rZ] c1
  obtain ⟨x1,c2,h3⟩:=Zae h2;let o1:List PS:=[rZ,rZ,cF,.r [(0,{m:=2}),(3,{oe:=A2_0.ls}),(6,q0 [oB x1])]]
  have t1 {Q:Prop} (q:Q):=aK c1 (eO A2_0.ls) (Zcc.snd c2) q;refine Zba h3 (fun c3 h4=>?_) (fun c3 h5=>?_)
  ·exact xS fol h4 hE (o1++[cT,rZ]) (t1 c3)
  exact xS fol h5 hE (o1++[cF,rZ]) (t1 c3)
def Zai.B:Code:=Tryz.f60.body.getD .skip
def Zai.rs (r:Int×Bool):List CV:=[oI r.1,oB r.2]
def Zai.p1 (N:Nat) (A0:LL) (F1:Int) (A2_0_0:ZaS) (c1_:(Int×Int)→Option (Int×Bool)):(Int×Int)→Option (Int×Bool):=fun (A1,A2)=> if (decide (A1<A2))=true then chk (0≤(w64 (Zbn .u64 (v64 (w64 (A1+A2))) 1)))<| chk ((w64 (Zbn .u64 (v64 (w64 (A1+A2))) 1))<(len A0))<| ZcS (A0[zC (w64 (Zbn .u64 (v64 (w64 (A1+A2))) 1))]?) ZcW fun x3=> Zbj (ZcE N x3 F1 A2_0_0) fun x4=> if (decide (x4<0))=true then c1_ (w64 ((w64 (Zbn .u64 (v64 (w64 (A1+A2))) 1))+1),A2) else c1_ (A1,w64 (Zbn .u64 (v64 (w64 (A1+A2))) 1)) else if (decide (A1<(len A0)))=true then chk (0≤A1)<| ZcS (A0[zC A1]?) ZcW fun x5=> Zbj (ZcE N x5 F1 A2_0_0) fun x6=> some (A1,x6==0) else some (A1,false)
def Zai (N:Nat) (A0:LL) (F1:Int) (A2_0_0:ZaS):Option (Int×Bool):= loopN (Zai.p1 N A0 F1 A2_0_0) N (0,(len A0))
def Zai.p1.S (A0:LL) (F1:Int) (A2_0_0:ZaS) (A1 A2:Int) (st:LL):S:=mkS 49 [(0,sV 1 A0),(1,sI F1),(2,.one (.l (L.fn 61 0 [wJ 1 [wJ 2 A2_0_0.ls]]))),(8,sI (len A0)),(9,sI A1),(10,sI A2)] [] st
theorem Zai.p1_ok {A0 F1 A2_0_0 A1 A2 st r c1_ J1} (h:Zai.p1 N A0 F1 A2_0_0 c1_ (A1,A2)=some r) (hE:En Tryz.f60 g0 w0 (Zai.rs r) st R) (hc1 : ∀A1 A2,c1_ (A1,A2)=some r→At g0 w0 (Zai.p1.S A0 F1 A2_0_0 A1 A2 st) J1):At g0 w0 (Zai.p1.S A0 F1 A2_0_0 A1 A2 st) (XK zE R (cK Zai.B [1,1,1,0,0,0] :: .h J1 :: [.b 0,cK Zai.B [1,1,1,1]])):=by
 unfold Zai.p1 at h;refine Zba h (fun c1 h1=>?_) (fun c1 h2=>?_)
 ·obtain ⟨c2,c3,h3⟩:=ck2 h1;obtain ⟨x3,c4,h4⟩:=Zci h3;obtain ⟨x4,c5,h5⟩:=Zae h4;let o1:List PS:=[rZ,cT,rZ,.r [(4,{oe:=[zM .i64 x3]}),(6,{rs:=[oI x4],st:=st,m:=5})]]
  have t1 {Q:Prop} (q:Q):=aN c1 (leI 0 1) c2 c3 c4 (ZcE.snd c5 st) q;refine Zba h5 (fun c6 h6=>?_) (fun c6 h7=>?_)
  ·exact an fol (o1++[cT,rZ]) [0,1,2,8,9,10] [] (t1 c6) (hc1 (w64 ((w64 (Zbn .u64 (v64 (w64 (A1+A2))) 1))+1)) A2 h6)
  exact an fol (o1++[cF,rZ]) [0,1,2,8,9,10] [] (t1 c6) (hc1 A1 (w64 (Zbn .u64 (v64 (w64 (A1+A2))) 1)) h7)
 refine Zba h2 (fun c7 h8=>?_) (fun c7 h9=>?_)
 ·obtain ⟨c8,h10⟩:=ZaW h8;obtain ⟨x5,c9,h11⟩:=Zci h10;obtain ⟨x6,c10,h12⟩:=Zae h11;exact xS fol h12 hE [rZ,cF,.r [(9,{oe:=[zM .i64 x5]}),(11,{rs:=[oI x6],st:=st,m:=5})]] (aO c1 c7 c7 c7 c7 c8 (oD c7) (aN c7 c9 c7 c7 (ZcE.snd c10 st) c7 c7))
 exact xS fol h9 hE [rZ,cF,.r [(5,wF),(6,wF),(7,wF),(8,wF),(9,wF),(10,wF),(11,wF),(12,wF),(13,yF)]] (aO c1 c7 c7 c7 c7 c7 c7 (aJ c7 c7 c7))
theorem Zai.snd {A0:LL} {F1:Int} {A2_0_0:ZaS} {r:Int×Bool} (h:Zai N A0 F1 A2_0_0=some r):Zdo zE 60 [.one (vR 1 A0),oI F1,.one (L.fn 61 0 [wJ 1 [wJ 2 A2_0_0.ls]])] (Zai.rs r):=fun st=>
 sO Zai.B Tryz.func60 fun g0 w0 R hE=>by
  unfold Zai at h;exact aq fol [rZ,rZ,rZ] [0,1,2,8,9,10] [] trivial (At.loop N (At.loopN (fun y:Int×Int=>Zai.p1.S A0 F1 A2_0_0 y.1 y.2 st) (fun c J hc y h=>Zai.p1_ok (A1:=y.1) (A2:=y.2) h hE (fun A1 A2=>hc (A1,A2))) N (0,(len A0)) h))
def Zcr.B:Code:=Tryz.f31.body.getD .skip
def Zcr.rs (r:Int×Bool):List CV:=[oI r.1,oB r.2]
def Zcr (N:Nat) (A0:ZaS) (A1:Int):Option (Int×Bool):= Zbj (Zai N A0.list A1 A0) fun (x1,x2)=> some (x1,x2)
theorem Zcr.snd {A0:ZaS} {A1:Int} {r:Int×Bool} (h:Zcr N A0 A1=some r):Zdo zE 31 [.one (wJ 2 A0.ls),oI A1] (Zcr.rs r):=fun st=>
 sO Zcr.B Tryz.func31 fun g0 w0 R hE=>by
  unfold Zcr at h;obtain ⟨⟨x1,x2⟩,c1,h1⟩:=Zae h;exact xS fol h1 hE [.r [(0,{m:=2})],.r [(0,{m:=2}),(3,{oe:=A0.ls}),(6,q1 [oI x1,oB x2])]] (aI (eO A0.ls) (Zai.snd c1))
def ZaJ.B:Code:=Tryz.f11.body.getD .skip
def ZaJ.rs (r:Int×LL):List CV:=[oI r.1]
def ZaJ.p2 (N:Nat) (c1_:((Option Nat)×Int×Int×LL)→Option (Int×LL)) (A34:Option Nat) (A35:Int) (A1:LL) (v2:Int) (st36:LL):Option (Int×LL):= c1_ (A34,A35,w64 (v2+1),st36)
def ZaJ.p1 (N:Nat) (A1:LL) (c1_:((Option Nat)×Int×Int×LL)→Option (Int×LL)):((Option Nat)×Int×Int×LL)→Option (Int×LL):=fun (A19,F1,v2,st20)=> if (decide (v2<(len A1)))=true then chk (0≤v2)<| ZcS (A1[zC v2]?) ZcW fun x21=> Zbj (Zcl N A19 x21 st20) fun (x22,st23)=> if (!x22)=true then ZaJ.p2 N c1_ A19 F1 A1 v2 st23 else Zbj A19 fun i24=> ZcS (st23[i24]?) Zbw fun x25 x26=> Zbj x25 fun i27=> ZcS (st23[i27]?) Zbw fun x28 x29=> Zbj x28 fun i30=> ZcS (st23[i30]?) Zby fun x31=> Zbj (Zcr N (ZaS.mk (Zau.mk x31 x29) x26) x21) fun (x32,x33)=> if (!x33)=true then chk (0≤x32)<| chk (x32≤len x26)<| chk (isI x26=true)<| chk ((zG x26+1)*8≤140737488355328)<| ZaJ.p2 N c1_ (some i24) (w64 (F1+1)) A1 v2 (zQ (zQ st23 i24 [yN (some i27),L.gone]) i24 [yN (some i27),yT true 1 (List.take (zC x32) x26++[zM .i64 x21]::List.drop (zC x32) x26)]) else ZaJ.p2 N c1_ (some i24) F1 A1 v2 st23 else some (F1,st20)
def ZaJ (N:Nat) (A0:Option Nat) (A1 st:LL):Option (Int×LL):= loopN (ZaJ.p1 N A1) N (A0,0,0,st)
def ZaJ.p2.S (A34:Option Nat) (A35:Int) (A1:LL) (v2:Int) (st36:LL):S:=mkS 43 [(0,sP A34),(5,sI A35),(10,sV 1 A1),(11,sI (len A1)),(12,sI v2)] [] st36
def ZaJ.p1.S (A19:Option Nat) (F1:Int) (A1:LL) (v2:Int) (st20:LL):S:=mkS 43 [(0,sP A19),(5,sI F1),(10,sV 1 A1),(11,sI (len A1)),(12,sI v2)] [] st20
theorem ZaJ.p2_ok {A34 A35 A1 v2 st36 r c1_ J1} (h:ZaJ.p2 N c1_ A34 A35 A1 v2 st36=some r) (hE:En Tryz.f11 g0 w0 (ZaJ.rs r) r.2 R) (hc1 : ∀A19 F1 v2 st20,c1_ (A19,F1,v2,st20)=some r→At g0 w0 (ZaJ.p1.S A19 F1 A1 v2 st20) J1):At g0 w0 (ZaJ.p2.S A34 A35 A1 v2 st36) (XK zE R [cK ZaJ.B [1,1,0,1,0,0,1,1,1],.h J1,.b 0,cK ZaJ.B [1,1,1]]):=by
 unfold ZaJ.p2 at h;exact an fol [rZ] [0,5,10,11,12] [] trivial (hc1 A34 A35 (w64 (v2+1)) st36 h)
theorem ZaJ.p1_ok {A19 F1 A1 v2 st20 r c1_ J1} (h:ZaJ.p1 N A1 c1_ (A19,F1,v2,st20)=some r) (hE:En Tryz.f11 g0 w0 (ZaJ.rs r) r.2 R) (hc1 : ∀A19 F1 v2 st20,c1_ (A19,F1,v2,st20)=some r→At g0 w0 (ZaJ.p1.S A19 F1 A1 v2 st20) J1):At g0 w0 (ZaJ.p1.S A19 F1 A1 v2 st20) (XK zE R (cK ZaJ.B [1,1,0,1,0,0] :: .h J1 :: [.b 0,cK ZaJ.B [1,1,1]])):=by
 unfold ZaJ.p1 at h;refine Zba h (fun c18 h1=>?_) (fun c18 h2=>?_)
 ·obtain ⟨c19,h3⟩:=ZaW h1;obtain ⟨x21,c20,h4⟩:=Zci h3;obtain ⟨⟨x22,st23⟩,c21,h5⟩:=Zae h4;let o1:List PS:=[rZ,cT,.r [(1,{oe:=[zM .i64 x21]})],.r [(2,{rs:=[oB x22],st:=st23})]]
  have t1 {Q:Prop} (q:Q):=aM c18 c19 (oD c18) c20 (Zcl.snd c21) q;refine Zba h5 (fun c22 h6=>?_) (fun c22 h7=>?_)
  ·exact aq fol (o1++[cT,.s 4]) [0,5,10,11,12] [] (t1 c22) (ZaJ.p2_ok h6 hE hc1)
  obtain ⟨i24,rfl,h8⟩:=Zae h7;obtain ⟨x25,x26,c24,h9⟩:=Zbe h8;obtain ⟨i27,rfl,h10⟩:=Zae h9;obtain ⟨x28,x29,c26,h11⟩:=Zbe h10;obtain ⟨i30,rfl,h12⟩:=Zae h11;obtain ⟨x31,c28,h13⟩:=Zbl h12;obtain ⟨⟨x32,x33⟩,c29,h14⟩:=Zae h13;let o2:List PS:=o1++[cF,.r [(2,{rs:=[oI x32,oB x33],m:=10,cv:=[.one (wJ 2 (ZaS.ls (ZaS.mk (Zau.mk x31 x29) x26)))]})],rZ]
  have t2 {Q:Prop} (q:Q):=t1 (aK c22 (bO 2 c24 ((bC 2 c26 ((bC 87 c28 (ZaF.bv x31) (bW bN)):BVs st23 [yN (some i30),yT true 1 x29] (Zau.ls (Zau.mk x31 x29))) (bW bN)):BVs st23 [yN (some i27),yT true 1 x26] (ZaS.ls (ZaS.mk (Zau.mk x31 x29) x26)))) (Zcr.snd c29) q);refine Zba h14 (fun c30 h15=>?_) (fun c30 h16=>?_)
  ·obtain ⟨c31,c32,c33,c34,h17⟩:=ck4 h15;exact aq fol (o2++[cT,.r [(4,{oc:=[yN (some i27),yT true 1 x26]}),(8,{oe:=[yN (some i27),yT true 1 x26],m:=15}),(11,{oc:=[yN (some i27),L.gone],mv:=[36]})],rZ,.s 4]) [0,5,10,11,12] [] (t2 (aO c30 c24 z0 (eN (zG x26)) c24 c31 c32 (aM c33 c34 slices_Insert_int.snd (Zap c24 [yN (some i27),L.gone]) z0 (eN (zG (List.take (zC x32) x26++[zM .i64 x21]::List.drop (zC x32) x26)))))) (ZaJ.p2_ok h17 hE hc1)
  exact aq fol (o2++[cF,.s 4]) [0,5,10,11,12] [] (t2 c30) (ZaJ.p2_ok h16 hE hc1)
 exact xT fol h2 hE [rZ,cF,rZ] c18
theorem ZaJ.snd {A0:Option Nat} {A1:LL} {st:LL} {r:Int×LL} (h:ZaJ N A0 A1 st=some r):Snd zE 11 [.one (yN A0),.one (vR 1 A1)] st (ZaJ.rs r) r.2:=
 sO ZaJ.B Tryz.func11 fun g0 w0 R hE=>by
  unfold ZaJ at h;exact aq fol [rZ,rZ,rZ] [0,5,10,11,12] [] trivial (At.loop N (At.loopN (fun y:(Option Nat)×Int×Int×LL=>ZaJ.p1.S y.1 y.2.1 A1 y.2.2.1 y.2.2.2) (fun c J hc y h=>ZaJ.p1_ok (A19:=y.1) (F1:=y.2.1) (v2:=y.2.2.1) (st20:=y.2.2.2) h hE (fun A19 F1 v2 st20=>hc (A19,F1,v2,st20))) N (A0,0,0,st) h))
def ZcA.B:Code:=Tryz.f22.body.getD .skip
def ZcA.rs (r:Int):List CV:=[oI r]
def ZcA (N:Nat) (A0:ZaS):Option Int:= some (len A0.list)
theorem ZcA.snd {A0:ZaS} {r:Int} (h:ZcA N A0=some r):Zdo zE 22 [.one (wJ 2 A0.ls)] (ZcA.rs r):=fun st=>
 sO ZcA.B Tryz.func22 fun g0 w0 R hE=>by
  unfold ZcA at h;exact xS fol h hE [rZ,rZ,cF,.r [(3,{oe:=A0.ls})]] (aI eF (eO A0.ls))
def ZcG.B:Code:=Tryz.f23.body.getD .skip
def ZcG.rs (r:Int):List CV:=[oI r]
def ZcG (N:Nat) (A0:ZaS):Option Int:= Zbj (ZcA N A0) fun x1=> if (x1==0)=true then some (-1) else chk (0<(len A0.list))<| ZcS (A0.list[0]?) ZcW fun x2=> some x2
theorem ZcG.snd {A0:ZaS} {r:Int} (h:ZcG N A0=some r):Zdo zE 23 [.one (wJ 2 A0.ls)] (ZcG.rs r):=fun st=>
 sO ZcG.B Tryz.func23 fun g0 w0 R hE=>by
  unfold ZcG at h;obtain ⟨x1,c1,h1⟩:=Zae h;let o1:List PS:=[rZ,.r [(1,q0 [oI x1])]]
  refine Zba h1 (fun c2 h2=>?_) (fun c2 h3=>?_)
  ·exact xS fol h2 hE (o1++[cT,rZ]) (aI (ZcA.snd c1) c2)
  obtain ⟨c3,h4⟩:=ZaW h3;obtain ⟨x2,c4,h5⟩:=Zci h4;exact xS fol h5 hE (o1++[cF,.r [(3,{oe:=A0.ls}),(5,{oe:=[zM .i64 x2]})]]) (aM (ZcA.snd c1) c2 (eO A0.ls) (leI 0 0) c3 c4)
def ZdF.B:Code:=Tryz.f6.body.getD .skip
def ZdF.rs (r:Bool×LL):List CV:=[oB r.1]
def ZdF (N:Nat) (st:LL):Option (Bool×LL):= Zbj (Zfb N (Zah.mk 545259519 4 10 0 false [] [] (zB 4 0) (zB 4 0) (Zal.mk 0 (zB 32 0) (zB 32 0) 0 0 0)) 5 st) fun (x1,x2,st3)=> if (x2 != 0)=true then some (false,st3) else Zbj (ZeA N x1 st3) fun (x4,st5)=> Zbj (ZaJ N x4 [[zM .i64 0],[zM .i64 0],[zM .i64 1]] st5) fun (x6,st7)=> if (x6==1)=true then Zbj x4 fun i8=> ZcS (st7[i8]?) Zbw fun x9 x10=> Zbj x9 fun i11=> ZcS (st7[i11]?) Zbw fun x12 x13=> Zbj x12 fun i14=> ZcS (st7[i14]?) Zby fun x15=> Zbj (ZcG N (ZaS.mk (Zau.mk x15 x13) x10)) fun x16=> if (x16==0)=true then Zbj (ZcA N (ZaS.mk (Zau.mk x15 x13) x10)) fun x17=> some (x17==1,st7) else some (false,st7) else some (false,st7)
theorem ZdF.snd {st:LL} {r:Bool×LL} (h:ZdF N st=some r):Snd zE 6 [] st (ZdF.rs r) r.2:=
 sO ZdF.B Tryz.func6 fun g0 w0 R hE=>by
  unfold ZdF at h;obtain ⟨⟨x1,x2,st3⟩,c1,h1⟩:=Zae h;let o1:List PS:=[rZ,.r [(1,{rs:=[.one (yN x1),oI x2],st:=st3})],rZ]
  have t1 {Q:Prop} (q:Q):=aI (Zfb.snd c1) q;refine Zba h1 (fun c2 h2=>?_) (fun c2 h3=>?_)
  ·exact xT fol h2 hE (o1++[cT,rZ]) (t1 c2)
  obtain ⟨⟨x4,st5⟩,c3,h4⟩:=Zae h3;obtain ⟨⟨x6,st7⟩,c4,h5⟩:=Zae h4;have t2 {Q:Prop} (q:Q):=t1 (aM c2 (ZeA.snd c3) z0 (eN (3)) (ZaJ.snd c4) q);refine Zba h5 (fun c5 h6=>?_) (fun c5 h7=>?_)
  ·obtain ⟨i8,rfl,h8⟩:=Zae h6;obtain ⟨x9,x10,c7,h9⟩:=Zbe h8;obtain ⟨i11,rfl,h10⟩:=Zae h9;obtain ⟨x12,x13,c9,h11⟩:=Zbe h10;obtain ⟨i14,rfl,h12⟩:=Zae h11;obtain ⟨x15,c11,h13⟩:=Zbl h12;obtain ⟨x16,c12,h14⟩:=Zae h13;let o2:List PS:=o1++[cF,.r [(1,{rs:=[.one (yN (some i8))],st:=st5})]]
   have t3 {Q:Prop} (q:Q):=t2 (aN c5 c5 (bO 2 c7 ((bC 2 c9 ((bC 87 c11 (ZaF.bv x15) (bW bN)):BVs st7 [yN (some i14),yT true 1 x13] (Zau.ls (Zau.mk x15 x13))) (bW bN)):BVs st7 [yN (some i11),yT true 1 x10] (ZaS.ls (ZaS.mk (Zau.mk x15 x13) x10)))) (ZcG.snd c12) c5 c5 q);refine Zba h14 (fun c13 h15=>?_) (fun c13 h16=>?_)
   ·obtain ⟨x17,c14,h17⟩:=Zae h15;exact xT fol h17 hE (o2++[.r [(2,{rs:=[oI x6],st:=st7,fz:=[14]}),(6,{rs:=[oI x16],m:=10,cv:=[.one (wJ 2 (ZaS.ls (ZaS.mk (Zau.mk x15 x13) x10)))]}),(11,{rs:=[oI x17],m:=10,cv:=[.one (wJ 2 (ZaS.ls (ZaS.mk (Zau.mk x15 x13) x10)))]})]]) (t3 (aM c13 c13 (bO 2 c7 ((bC 2 c9 ((bC 87 c11 (ZaF.bv x15) (bW bN)):BVs st7 [yN (some i14),yT true 1 x13] (Zau.ls (Zau.mk x15 x13))) (bW bN)):BVs st7 [yN (some i11),yT true 1 x10] (ZaS.ls (ZaS.mk (Zau.mk x15 x13) x10)))) (ZcA.snd c14) c13 c13))
   exact xT fol h16 hE (o2++[.r [(2,{rs:=[oI x6],st:=st7,fz:=[14]}),(6,{rs:=[oI x16],m:=10,cv:=[.one (wJ 2 (ZaS.ls (ZaS.mk (Zau.mk x15 x13) x10)))]}),(10,wF),(11,wF),(12,wF),(13,yF)]]) (t3 (aK c13 c13 c13 c13))
  exact xT fol h7 hE (o1++[cF,.r [(1,{rs:=[.one (yN x4)],st:=st5})],.r [(2,{rs:=[oI x6],st:=st7,fz:=[14]}),(5,wF),(6,wF),(7,wF),(8,yF),(10,wF),(11,wF),(12,wF),(13,yF)]]) (t2 (aO c5 c5 c5 c5 eF eF eF eF))
def Zao.B:Code:=Tryz.f97.body.getD .skip
def Zao.rs (r:(List Int)):List CV:=[.agg [zK .u64 4 r]]
def Zao.p4 (N:Nat) (c3_:(Int×(List Int))→Option (List Int)) (A13 A19:Int) (A18 A22:List Int):Option (List Int):= c3_ (w64 (A19+1),A22)
def Zao.p3 (N:Nat) (A13:Int) (A18:List Int) (c3_:(Int×(List Int))→Option (List Int)):(Int×(List Int))→Option (List Int):=fun (A19,A21)=> if (decide (A19<4))=true then if (decide (A13>0))=true then chk (0≤A19)<| chk (0≤(v64 (A13)))<| if (decide (A19>0))=true then chk (0≤(w64 (A19-1)))<| chk ((w64 (A19-1))<4)<| chk (0≤(v64 (w64 (64-A13))))<| Zao.p4 N c3_ A13 A19 A18 (zQ (zQ A21 (zC A19) (ZbB .u64 (zF A18 (zC A19) 0) (v64 (A13)))) (zC A19) (v64 ((zF (zQ A21 (zC A19) (ZbB .u64 (zF A18 (zC A19) 0) (v64 (A13)))) (zC A19) 0)+(Zbn .u64 (zF A18 (zC (w64 (A19-1))) 0) (v64 (w64 (64-A13))))))) else Zao.p4 N c3_ A13 A19 A18 (zQ A21 (zC A19) (ZbB .u64 (zF A18 (zC A19) 0) (v64 (A13)))) else chk (0≤A19)<| chk (0≤(v64 (w64 (0-A13))))<| if (decide (A19<3))=true then chk (0≤(w64 (A19+1)))<| chk ((w64 (A19+1))<4)<| chk (0≤(v64 (w64 (64+A13))))<| Zao.p4 N c3_ A13 A19 A18 (zQ (zQ A21 (zC A19) (Zbn .u64 (zF A18 (zC A19) 0) (v64 (w64 (0-A13))))) (zC A19) (v64 ((zF (zQ A21 (zC A19) (Zbn .u64 (zF A18 (zC A19) 0) (v64 (w64 (0-A13))))) (zC A19) 0)+(ZbB .u64 (zF A18 (zC (w64 (A19+1))) 0) (v64 (w64 (64+A13))))))) else Zao.p4 N c3_ A13 A19 A18 (zQ A21 (zC A19) (Zbn .u64 (zF A18 (zC A19) 0) (v64 (w64 (0-A13))))) else some A21
def Zao.p2 (N:Nat) (c2_:(Int×(List Int))→Option (List Int)):(Int×(List Int))→Option (List Int):=fun (A13,A18)=> if (decide (A13≤(-64)))=true then c2_ (w64 (A13+64),[zF A18 1 0,zF A18 2 0,zF A18 3 0,0]) else if (A13==0)=true then some A18 else loopN (Zao.p3 N A13 A18) N (0,zB 4 0)
def Zao.p1 (N:Nat) (c1_:(Int×(List Int))→Option (List Int)):(Int×(List Int))→Option (List Int):=fun (F1,A12)=> if (decide (F1≥64))=true then c1_ (w64 (F1-64),[0,zF A12 0 0,zF A12 1 0,zF A12 2 0]) else loopN (Zao.p2 N) N (F1,A12)
def Zao (N:Nat) (A0_0:List Int) (F1:Int):Option (List Int):= if (decide (F1≤(-256)))=true then some (zB 4 0) else if (decide (F1≥256))=true then some (zB 4 0) else loopN (Zao.p1 N) N (F1,A0_0)
def Zao.p4.S (A13 A19:Int) (A18 A22:List Int) (st:LL):S:=mkS 96 [(1,sI A13),(2,sA 2),(4,sA 4),(5,sA 5),(6,sI A19)] [(2,.cells [zK .u64 4 A18]),(4,.cells [zK .u64 4 (zB 4 0)]),(5,.cells [zK .u64 4 A22])] st
def Zao.p3.S (A13 A19:Int) (A18 A21:List Int) (st:LL):S:=mkS 96 [(1,sI A13),(2,sA 2),(4,sA 4),(5,sA 5),(6,sI A19)] [(2,.cells [zK .u64 4 A18]),(4,.cells [zK .u64 4 (zB 4 0)]),(5,.cells [zK .u64 4 A21])] st
def Zao.p2.S (A13:Int) (A18:List Int) (st:LL):S:=mkS 96 [(1,sI A13),(2,sA 2),(4,sA 4),(5,sA 5)] [(2,.cells [zK .u64 4 A18]),(4,.cells [zK .u64 4 (zB 4 0)]),(5,.cells [zK .u64 4 (zB 4 0)])] st
def Zao.p1.S (F1:Int) (A12:List Int) (st:LL):S:=mkS 96 [(1,sI F1),(2,sA 2),(4,sA 4),(5,sA 5)] [(2,.cells [zK .u64 4 A12]),(4,.cells [zK .u64 4 (zB 4 0)]),(5,.cells [zK .u64 4 (zB 4 0)])] st
theorem Zao.p4_ok {A13 A19 A18 A22 st r c3_ J3} (h:Zao.p4 N c3_ A13 A19 A18 A22=some r) (hE:En Tryz.f97 g0 w0 (Zao.rs r) st R) (hc3 : ∀A19 A21,c3_ (A19,A21)=some r→At g0 w0 (Zao.p3.S A13 A19 A18 A21 st) J3):At g0 w0 (Zao.p4.S A13 A19 A18 A22 st) (XK zE R [cK Zao.B [1,1,1,1,1,1,0,1,0,0,1,1],.h J3,.b 4,cK Zao.B [1,1,1,1,1,1,1]]):=by
 unfold Zao.p4 at h;exact an fol [rZ] [1,2,4,5,6] [2,4,5] trivial (hc3 (w64 (A19+1)) A22 h)
theorem Zao.p3_ok {A13 A19 A18 A21 st r c3_ J3} (h:Zao.p3 N A13 A18 c3_ (A19,A21)=some r) (hE:En Tryz.f97 g0 w0 (Zao.rs r) st R) (hc3 : ∀A19 A21,c3_ (A19,A21)=some r→At g0 w0 (Zao.p3.S A13 A19 A18 A21 st) J3):At g0 w0 (Zao.p3.S A13 A19 A18 A21 st) (XK zE R (cK Zao.B [1,1,1,1,1,1,0,1,0,0] :: .h J3 :: [.b 4,cK Zao.B [1,1,1,1,1,1,1]])):=by
 unfold Zao.p3 at h;refine Zba h (fun c111 h1=>?_) (fun c111 h2=>?_)
 ·let o1:List PS:=[rZ,cT,rZ]
  refine Zba h1 (fun c112 h3=>?_) (fun c112 h4=>?_)
  ·obtain ⟨c113,c114,h5⟩:=ck2 h3;have t1 {Q:Prop} (q:Q):=aO c111 c112 c113 (oD c111) c114 c113 (oD c111) q;refine Zba h5 (fun c115 h6=>?_) (fun c115 h7=>?_)
   ·obtain ⟨c116,c117,c118,h8⟩:=ck3 h6;exact aqd fol (o1++[cT,rZ,rZ,cT,.d {ds:=[],hv:=16384,Hs:=[16384]},.s 4]) [1,2,4,5,6] [2,4,5] (t1 (aO c115 c113 (oD c111) c116 c117 c118 c113 (oD c111))) (Zao.p4_ok h8 hE hc3)
   exact aq fol (o1++[cT,rZ,rZ,cF,.s 4]) [1,2,4,5,6] [2,4,5] (t1 c115) (Zao.p4_ok h7 hE hc3)
  obtain ⟨c119,c120,h9⟩:=ck2 h4;have t2 {Q:Prop} (q:Q):=aO c111 c112 c119 (oD c111) c120 c119 (oD c111) q;refine Zba h9 (fun c121 h10=>?_) (fun c121 h11=>?_)
  ·obtain ⟨c122,c123,c124,h12⟩:=ck3 h10;exact aqd fol (o1++[cF,rZ,rZ,cT,.d {ds:=[],hv:=16384,Hs:=[16384]},.s 4]) [1,2,4,5,6] [2,4,5] (t2 (aO c121 c119 (oD c111) c122 c123 c124 c119 (oD c111))) (Zao.p4_ok h12 hE hc3)
  exact aq fol (o1++[cF,rZ,rZ,cF,.s 4]) [1,2,4,5,6] [2,4,5] (t2 c121) (Zao.p4_ok h11 hE hc3)
 exact xS fol h2 hE [rZ,cF,rZ] c111
theorem Zao.p2_ok {A13 A18 st r c2_ J2} (h:Zao.p2 N c2_ (A13,A18)=some r) (hE:En Tryz.f97 g0 w0 (Zao.rs r) st R) (hc2 : ∀A13 A18,c2_ (A13,A18)=some r→At g0 w0 (Zao.p2.S A13 A18 st) J2):At g0 w0 (Zao.p2.S A13 A18 st) (XK zE R (cK Zao.B [1,1,1,1,0,0,0] :: .h J2 :: [.b 2,cK Zao.B [1,1,1,1,1]])):=by
 unfold Zao.p2 at h;refine Zba h (fun c95 h13=>?_) (fun c95 h14=>?_)
 ·exact an fol [rZ,cT,.r [(6,{m:=3})],rZ] [1,2,4,5] [2,4,5] (aI c95 (ix 1 4 (ix 2 4 (aI (leI 0 3) (ltI 3 4))))) (hc2 (w64 (A13+64)) [zF A18 1 0,zF A18 2 0,zF A18 3 0,0] h13)
 refine Zba h14 (fun c96 h15=>?_) (fun c96 h16=>?_)
 ·exact xS fol h15 hE [rZ,cF,rZ,cT,rZ] (aI c95 c96)
 exact aq fol [rZ,cF,rZ,cF,rZ] [1,2,4,5,6] [2,4,5] (aI c95 c96) (At.loop N (At.loopN (fun y:Int×(List Int)=>Zao.p3.S A13 y.1 A18 y.2 st) (fun c J hc y h=>Zao.p3_ok (A19:=y.1) (A21:=y.2) h hE (fun A19 A21=>hc (A19,A21))) N (0,zB 4 0) h16))
theorem Zao.p1_ok {F1 A12 st r c1_ J1} (h:Zao.p1 N c1_ (F1,A12)=some r) (hE:En Tryz.f97 g0 w0 (Zao.rs r) st R) (hc1 : ∀F1 A12,c1_ (F1,A12)=some r→At g0 w0 (Zao.p1.S F1 A12 st) J1):At g0 w0 (Zao.p1.S F1 A12 st) (XK zE R (cK Zao.B [1,1,1,0,0,0] :: .h J1 :: [.b 0,cK Zao.B [1,1,1,1]])):=by
 unfold Zao.p1 at h;refine Zba h (fun c64 h17=>?_) (fun c64 h18=>?_)
 ·exact an fol [rZ,cT,.r [(6,{m:=3})],rZ] [1,2,4,5] [2,4,5] (aI c64 (ix 0 4 (ix 1 4 (aI (leI 0 2) (ltI 2 4))))) (hc1 (w64 (F1-64)) [0,zF A12 0 0,zF A12 1 0,zF A12 2 0] h17)
 exact aq fol [rZ,cF] [1,2,4,5] [2,4,5] c64 (At.loop N (At.loopN (fun y:Int×(List Int)=>Zao.p2.S y.1 y.2 st) (fun c J hc y h=>Zao.p2_ok (A13:=y.1) (A18:=y.2) h hE (fun A13 A18=>hc (A13,A18))) N (F1,A12) h18))
theorem Zao.snd {A0_0:List Int} {F1:Int} {r:(List Int)} (h:Zao N A0_0 F1=some r):Zdo zE 97 [.agg [zK .u64 4 A0_0],oI F1] (Zao.rs r):=fun st=>
 sO Zao.B Tryz.func97 fun g0 w0 R hE=>by
  unfold Zao at h;refine Zba h (fun c1 h19=>?_) (fun c1 h20=>?_)
  ·exact xS fol h19 hE [rZ,rZ,.r [(3,wF),(4,wF)],cT,rZ] (aK c1 c1 c1 eT)
  let o2:List PS:=[rZ,rZ,.r [(5,yF)]]
  refine Zba h20 (fun c2 h21=>?_) (fun c2 h22=>?_)
  ·exact xS fol h21 hE (o2++[cT,rZ]) (aK c1 c1 c1 c2)
  exact aq fol (o2++[cF]) [1,2,4,5] [2,4,5] (aK c1 c1 c1 c2) (At.loop N (At.loopN (fun y:Int×(List Int)=>Zao.p1.S y.1 y.2 st) (fun c J hc y h=>Zao.p1_ok (F1:=y.1) (A12:=y.2) h hE (fun F1 A12=>hc (F1,A12))) N (F1,A0_0) h22))
def ZaQ.B:Code:=Tryz.f68.body.getD .skip
def ZaQ.rs (r:(List Int)×Bool×Bool):List CV:=[.agg [zK .u64 4 r.1],oB r.2.1,oB r.2.2]
def ZaQ.p1 (N:Nat) (A0:Int) (F2:Bool) (x1:List Int):Option ((List Int)×Bool×Bool):= if (decide ((yA A0 8388608)>0))=true then some (x1,(yA (w64 (zR A0 8388608)) 2)==1,F2) else some (x1,false,F2)
def ZaQ (N:Nat) (A0:Int):Option ((List Int)×Bool×Bool):= if (decide (A0<0))=true then some (zB 4 0,false,false) else if (decide (A0>4294967295))=true then some (zB 4 0,false,false) else Zbj (Zao N [v64 (yA A0 8388608),0,0,0] (w64 (8*(w64 ((w64 (zR A0 16777216))-3))))) fun x1=> if (decide ((yA A0 8388608)>0))=true then if (decide ((w64 (zR A0 16777216))>34))=true then ZaQ.p1 N A0 true x1 else if (decide ((yA A0 8388608)>255))=true then if (decide ((w64 (zR A0 16777216))>33))=true then ZaQ.p1 N A0 true x1 else if (decide ((yA A0 8388608)>65535))=true then ZaQ.p1 N A0 (decide ((w64 (zR A0 16777216))>32)) x1 else ZaQ.p1 N A0 false x1 else if (decide ((yA A0 8388608)>65535))=true then ZaQ.p1 N A0 (decide ((w64 (zR A0 16777216))>32)) x1 else ZaQ.p1 N A0 false x1 else if (decide ((yA A0 8388608)>255))=true then if (decide ((w64 (zR A0 16777216))>33))=true then ZaQ.p1 N A0 true x1 else if (decide ((yA A0 8388608)>65535))=true then ZaQ.p1 N A0 (decide ((w64 (zR A0 16777216))>32)) x1 else ZaQ.p1 N A0 false x1 else if (decide ((yA A0 8388608)>65535))=true then ZaQ.p1 N A0 (decide ((w64 (zR A0 16777216))>32)) x1 else ZaQ.p1 N A0 false x1
def ZaQ.p1.S (A0:Int) (F2:Bool) (x1:List Int) (st:LL):S:=mkS 61 [(2,sA 2),(6,sI (yA A0 8388608)),(7,.one (.l (xP ((yA (w64 (zR A0 8388608)) 2)==1)))),(8,sA 8),(9,.one (.l (xP F2)))] [(2,.cells [zK .u64 4 (zB 4 0)]),(8,.cells [zK .u64 4 x1])] st
theorem ZaQ.p1_ok {A0 F2 x1 st r} (h:ZaQ.p1 N A0 F2 x1=some r) (hE:En Tryz.f68 g0 w0 (ZaQ.rs r) st R):At g0 w0 (ZaQ.p1.S A0 F2 x1 st) (XK zE R [cK ZaQ.B [1,1,1,1,1,1,1]]):=by
 unfold ZaQ.p1 at h;refine Zba h (fun c14 h1=>?_) (fun c14 h2=>?_)
 ·exact xS fol h1 hE [rZ] (aI c14 c14)
 exact xS fol h2 hE [.r [(4,wF),(5,yF)]] (aI c14 c14)
theorem ZaQ.snd {A0:Int} {r:(List Int)×Bool×Bool} (h:ZaQ N A0=some r):Zdo zE 68 [oI A0] (ZaQ.rs r):=fun st=>
 sO ZaQ.B Tryz.func68 fun g0 w0 R hE=>by
  unfold ZaQ at h;refine Zba h (fun c1 h3=>?_) (fun c1 h4=>?_)
  ·exact xS fol h3 hE [rZ,.r [(3,wF),(4,wF)],cT,rZ] (aK c1 c1 c1 eT)
  let o1:List PS:=[rZ,.r [(5,yF)]]
  have t1 {Q:Prop} (q:Q):=aK c1 c1 c1 q;refine Zba h4 (fun c2 h5=>?_) (fun c2 h6=>?_)
  ·exact xS fol h5 hE (o1++[cT,rZ]) (t1 c2)
  obtain ⟨x1,c3,h7⟩:=Zae h6;let o2:List PS:=o1++[cF,rZ,rZ,rZ,.r [(2,{m:=3}),(6,q1 [.agg [zK .u64 4 x1]])]]
  have t2 {Q:Prop} (q:Q):=t1 (aN c2 (neI 16777216) (neI 8388608) (neI 8388608) (neI 2) (Zao.snd c3) q);refine Zba h7 (fun c4 h8=>?_) (fun c4 h9=>?_)
  ·have t3 {Q:Prop} (q:Q):=t2 (aK c4 c4 c4 q);refine Zba h8 (fun c5 h10=>?_) (fun c5 h11=>?_)
   ·exact aq fol (o2++[.r [(7,wF),(8,wF),(9,wF),(12,wF),(15,wF),(16,wF),(17,wF),(20,wF)],.s 1]) [2,6,7,8,9] [2,8] (t3 (aO c5 c5 c5 c5 c5 eT eT (aJ eT eT eT))) (ZaQ.p1_ok h10 hE)
   have t4 {Q:Prop} (q:Q):=t3 (aK c5 c5 c5 q);refine Zba h11 (fun c6 h12=>?_) (fun c6 h13=>?_)
   ·refine Zba h12 (fun c7 h14=>?_) (fun c7 h15=>?_)
    ·exact aq fol (o2++[.r [(13,yF),(15,wF),(16,wF),(17,wF),(20,wF)],.s 1]) [2,6,7,8,9] [2,8] (t4 (aO c6 c6 c5 c6 c5 c7 c7 (aJ c7 c7 c7))) (ZaQ.p1_ok h14 hE)
    refine Zba h15 (fun c8 h16=>?_) (fun c8 h17=>?_)
    ·exact aq fol (o2++[.r [(13,yF),(21,yF)],.s 1]) [2,6,7,8,9] [2,8] (t4 (aO c6 c6 c5 c6 c5 c7 c7 (aM c7 c8 c8 c7 c8 c7))) (ZaQ.p1_ok h16 hE)
    exact aq fol (o2++[.r [(13,yF),(18,wF),(19,wF),(20,yF),(21,yF)],.s 1]) [2,6,7,8,9] [2,8] (t4 (aO c6 c6 c5 c6 c5 c7 c7 (aM c7 c8 c8 c7 c8 c7))) (ZaQ.p1_ok h17 hE)
   have t5 {Q:Prop} (q:Q):=t4 (aO c6 c6 c5 c6 c5 eF eF (aI eF q));refine Zba h13 (fun c9 h18=>?_) (fun c9 h19=>?_)
   ·exact aq fol (o2++[.r [(10,wF),(11,wF),(12,yF),(13,yF),(21,yF)],.s 1]) [2,6,7,8,9] [2,8] (t5 (aL c9 c9 eF c9 eF)) (ZaQ.p1_ok h18 hE)
   exact aq fol (o2++[.r [(10,wF),(11,wF),(12,yF),(13,yF),(18,wF),(19,wF),(20,yF),(21,yF)],.s 1]) [2,6,7,8,9] [2,8] (t5 (aL c9 c9 eF c9 eF)) (ZaQ.p1_ok h19 hE)
  have t6 {Q:Prop} (q:Q):=t2 (aN c4 c4 c4 eF eF eF q);refine Zba h9 (fun c10 h20=>?_) (fun c10 h21=>?_)
  ·have t7 {Q:Prop} (q:Q):=t6 (aM c10 c10 eF c10 eF q);refine Zba h20 (fun c11 h22=>?_) (fun c11 h23=>?_)
   ·exact aq fol (o2++[.r [(3,wF),(4,wF),(5,yF),(13,yF),(15,wF),(16,wF),(17,wF),(20,wF)],.s 1]) [2,6,7,8,9] [2,8] (t7 (aL c11 c11 c11 c11 c11)) (ZaQ.p1_ok h22 hE)
   refine Zba h23 (fun c12 h24=>?_) (fun c12 h25=>?_)
   ·exact aq fol (o2++[.r [(3,wF),(4,wF),(5,yF),(13,yF),(21,yF)],.s 1]) [2,6,7,8,9] [2,8] (t7 (aO c11 c11 c11 c12 c12 c11 c12 c11)) (ZaQ.p1_ok h24 hE)
   exact aq fol (o2++[.r [(3,wF),(4,wF),(5,yF),(13,yF),(18,wF),(19,wF),(20,yF),(21,yF)],.s 1]) [2,6,7,8,9] [2,8] (t7 (aO c11 c11 c11 c12 c12 c11 c12 c11)) (ZaQ.p1_ok h25 hE)
  have t8 {Q:Prop} (q:Q):=t6 (aO c10 c10 eF c10 eF eF eF (aI eF q));refine Zba h21 (fun c13 h26=>?_) (fun c13 h27=>?_)
  ·exact aq fol (o2++[.r [(3,wF),(4,wF),(5,yF),(10,wF),(11,wF),(12,yF),(13,yF),(21,yF)],.s 1]) [2,6,7,8,9] [2,8] (t8 (aL c13 c13 eF c13 eF)) (ZaQ.p1_ok h26 hE)
  exact aq fol (o2++[.r [(3,wF),(4,wF),(5,yF),(10,wF),(11,wF),(12,yF),(13,yF),(18,wF),(19,wF),(20,yF),(21,yF)],.s 1]) [2,6,7,8,9] [2,8] (t8 (aL c13 c13 eF c13 eF)) (ZaQ.p1_ok h27 hE)
def ZcL.B:Code:=Tryz.f76.body.getD .skip
def ZcL.rs (r:Int):List CV:=[oI r]
def ZcL (N:Nat) (A0_0:List Int) (A1:Int):Option Int:= if (decide (A1<0))=true then some 0 else if (decide (A1>255))=true then some 0 else chk (0≤(w64 (zR A1 64)))<| chk ((w64 (zR A1 64))<4)<| chk (0≤(v64 (yA A1 64)))<| some (w64 (yA (Zbn .u64 (zF A0_0 (zC (w64 (zR A1 64))) 0) (v64 (yA A1 64))) 2))
theorem ZcL.snd {A0_0:List Int} {A1:Int} {r:Int} (h:ZcL N A0_0 A1=some r):Zdo zE 76 [.agg [zK .u64 4 A0_0],oI A1] (ZcL.rs r):=fun st=>
 sO ZcL.B Tryz.func76 fun g0 w0 R hE=>by
  unfold ZcL at h;refine Zba h (fun c1 h1=>?_) (fun c1 h2=>?_)
  ·exact xS fol h1 hE [rZ,.r [(3,wF),(4,wF)],cT,rZ] (aK c1 c1 c1 eT)
  refine Zba h2 (fun c2 h3=>?_) (fun c2 h4=>?_)
  ·exact xS fol h3 hE [rZ,.r [(5,yF)],cT,rZ] (aK c1 c1 c1 c2)
  obtain ⟨c3,c4,c5,h5⟩:=ck3 h4;exact xS fol h5 hE [rZ,.r [(5,yF)],cF,rZ] (aO c1 c1 c1 c2 (neI 64) c3 c4 (aJ (neI 64) c5 (neI 2)))
def Zbt.B:Code:=Tryz.f47.body.getD .skip
def Zbt.rs (r:Bool):List CV:=[oB r]
def Zbt.p1 (N:Nat) (A0_0 A1_0:List Int) (c1_:Int→Option Bool):Int→Option Bool:=fun A1=> if (decide (A1≥0))=true then Zbj (ZcL N A0_0 A1) fun x2=> Zbj (ZcL N A1_0 A1) fun x3=> if (x2 != x3)=true then some (decide (x2<x3)) else c1_ (w64 (A1-1)) else some false
def Zbt (N:Nat) (A0_0 A1_0:List Int):Option Bool:= loopN (Zbt.p1 N A0_0 A1_0) N 255
def Zbt.p1.S (A1:Int) (A0_0 A1_0:List Int) (st:LL):S:=mkS 24 [(2,sA 2),(3,sA 3),(5,sI A1)] [(2,.cells [zK .u64 4 A0_0]),(3,.cells [zK .u64 4 A1_0])] st
theorem Zbt.p1_ok {A1 A0_0 A1_0 st r c1_ J1} (h:Zbt.p1 N A0_0 A1_0 c1_ A1=some r) (hE:En Tryz.f47 g0 w0 (Zbt.rs r) st R) (hc1 : ∀A1,c1_ A1=some r→At g0 w0 (Zbt.p1.S A1 A0_0 A1_0 st) J1):At g0 w0 (Zbt.p1.S A1 A0_0 A1_0 st) (XK zE R (cK Zbt.B [1,0,1,0,0] :: .h J1 :: [.b 0,cK Zbt.B [1,1]])):=by
 unfold Zbt.p1 at h;refine Zba h (fun c1 h1=>?_) (fun c1 h2=>?_)
 ·obtain ⟨x2,c2,h3⟩:=Zae h1;obtain ⟨x3,c3,h4⟩:=Zae h3;let o1:List PS:=[rZ,cT,.d {ds:=[(2,q1 [oI x2]),(5,q1 [oI x3])],hv:=0,Hs:=[]}]
  have t1 {Q:Prop} (q:Q):=aK c1 (ZcL.snd c2) (ZcL.snd c3) q;refine Zba h4 (fun c4 h5=>?_) (fun c4 h6=>?_)
  ·exact xSd fol h5 hE (o1++[cT,.d {ds:=[(2,q1 [oI x2]),(5,q1 [oI x3])],hv:=0,Hs:=[]}]) (t1 (aJ c4 (ZcL.snd c2) (ZcL.snd c3)))
  exact ZkD fol (o1++[cF,rZ]) [2,3,5] [2,3] (t1 c4) (hc1 (w64 (A1-1)) h6)
 exact xS fol h2 hE [rZ,cF,rZ] c1
theorem Zbt.snd {A0_0 A1_0:List Int} {r:Bool} (h:Zbt N A0_0 A1_0=some r):Zdo zE 47 [.agg [zK .u64 4 A0_0],.agg [zK .u64 4 A1_0]] (Zbt.rs r):=fun st=>
 sO Zbt.B Tryz.func47 fun g0 w0 R hE=>by
  unfold Zbt at h;exact aq fol [rZ,rZ] [2,3,5] [2,3] trivial (At.loop N (At.loopN (fun y:Int=>Zbt.p1.S y A0_0 A1_0 st) (fun c J hc y h=>Zbt.p1_ok h hE (fun A1=>hc A1)) N 255 h))
def Zcz.B:Code:=Tryz.f77.body.getD .skip
def Zcz.rs (r:(List Int)×Bool):List CV:=[.agg [zK .u64 4 r.1],oB r.2]
def Zcz (N:Nat) (A0 A1:Int):Option ((List Int)×Bool):= Zbj (ZaQ N A0) fun (x1,x2,x3)=> Zbj (ZaQ N A1) fun (x4,x5,x6)=> if x2=true then some (zB 4 0,false) else if x3=true then some (zB 4 0,false) else if x5=true then some (zB 4 0,false) else if x6=true then some (zB 4 0,false) else if (x1==(zB 4 0))=true then some (zB 4 0,false) else Zbj (Zbt N x4 x1) fun x7=> if x7=true then some (zB 4 0,false) else some (x1,true)
theorem Zcz.snd {A0 A1:Int} {r:(List Int)×Bool} (h:Zcz N A0 A1=some r):Zdo zE 77 [oI A0,oI A1] (Zcz.rs r):=fun st=>
 sO Zcz.B Tryz.func77 fun g0 w0 R hE=>by
  unfold Zcz at h;obtain ⟨⟨x1,x2,x3⟩,c1,h1⟩:=Zae h;obtain ⟨⟨x4,x5,x6⟩,c2,h2⟩:=Zae h1;let o1:List PS:=[rZ,.r [(1,q1 [.agg [zK .u64 4 x1],oB x2,oB x3])],.r [(1,q1 [.agg [zK .u64 4 x4],oB x5,oB x6])]]
  have t1 {Q:Prop} (q:Q):=aJ (ZaQ.snd c1) (ZaQ.snd c2) q;refine Zba h2 (fun c3 h3=>?_) (fun c3 h4=>?_)
  ·exact xS fol h3 hE (o1++[.r [(2,wF),(5,wF),(8,wF),(11,wF),(12,wF),(13,wF),(16,wF),(17,wF),(18,wF)],cT,rZ]) (t1 (aO c3 c3 eT eT eT eT eT (aO eT eT eT eT eT eT eT eT)))
  refine Zba h4 (fun c4 h5=>?_) (fun c4 h6=>?_)
  ·exact xS fol h5 hE (o1++[.r [(3,yF),(5,wF),(8,wF),(11,wF),(12,wF),(13,wF),(16,wF),(17,wF),(18,wF)],cT,rZ]) (t1 (aO c3 c3 c4 c4 eT eT eT (aO eT eT eT eT eT eT eT eT)))
  have t2 {Q:Prop} (q:Q):=t1 (aL c3 c3 c4 c4 q);refine Zba h6 (fun c5 h7=>?_) (fun c5 h8=>?_)
  ·exact xS fol h7 hE (o1++[.r [(3,yF),(6,yF),(8,wF),(11,wF),(12,wF),(13,wF),(16,wF),(17,wF),(18,wF)],cT,rZ]) (t2 (aO c5 c5 eT eT eT eT eT (aK eT eT eT eT)))
  refine Zba h8 (fun c6 h9=>?_) (fun c6 h10=>?_)
  ·exact xS fol h9 hE (o1++[.r [(3,yF),(6,yF),(9,yF),(11,wF),(12,wF),(13,wF),(16,wF),(17,wF),(18,wF)],cT,rZ]) (t2 (aO c5 c5 c6 c6 c6 c6 eT (aK eT eT eT eT)))
  have t3 {Q:Prop} (q:Q):=t2 (aN c5 c5 c6 c6 c6 c6 q);refine Zba h10 (fun c7 h11=>?_) (fun c7 h12=>?_)
  ·exact xS fol h11 hE (o1++[.r [(3,yF),(6,yF),(9,yF),(14,yF),(16,wF),(17,wF),(18,wF)],cT,rZ]) (t3 (aL c7 c7 c7 c7 eT))
  obtain ⟨x7,c8,h13⟩:=Zae h12;let o2:List PS:=o1++[.r [(3,yF),(6,yF),(9,yF),(14,yF),(18,q1 [oB x7]),(19,yF)]]
  refine Zba h13 (fun c9 h14=>?_) (fun c9 h15=>?_)
  ·exact xS fol h14 hE (o2++[cT,rZ]) (t3 (aM c7 c7 c7 (Zbt.snd c8) c7 c9))
  exact xS fol h15 hE (o2++[cF,rZ]) (t3 (aM c7 c7 c7 (Zbt.snd c8) c7 c9))
def ZdA.B:Code:=Tryz.f48.body.getD .skip
def ZdA.rs (r:Bool):List CV:=[oB r]
def ZdA (N:Nat) (A0:Zah):Option Bool:= Zbj (Zcz N A0.Limit A0.Limit) fun (x1,x2)=> if x2=true then if (decide (A0.Interval≥2))=true then if (decide (A0.Interval≤64))=true then if (decide (A0.Spacing≥1))=true then if (decide (A0.Spacing≤10000))=true then if (decide (A0.Future≥0))=true then some (decide (A0.Future<4294967296)) else some false else some false else some false else some false else some false else some false
theorem ZdA.snd {A0:Zah} {r:Bool} (h:ZdA N A0=some r):Zdo zE 48 [.agg A0.ls] (ZdA.rs r):=fun st=>
 sO ZdA.B Tryz.func48 fun g0 w0 R hE=>by
  unfold ZdA at h;obtain ⟨⟨x1,x2⟩,c1,h1⟩:=Zae h;let o1:List PS:=[rZ,.r [(4,q1 [.agg [zK .u64 4 x1],oB x2])]]
  have t1 {Q:Prop} (q:Q):=aI (Zcz.snd c1) q;refine Zba h1 (fun c2 h2=>?_) (fun c2 h3=>?_)
  ·have t2 {Q:Prop} (q:Q):=t1 (aL c2 c2 c2 c2 q);refine Zba h2 (fun c3 h4=>?_) (fun c3 h5=>?_)
   ·have t3 {Q:Prop} (q:Q):=t2 (aL c3 c3 c3 c3 q);refine Zba h4 (fun c4 h6=>?_) (fun c4 h7=>?_)
    ·have t4 {Q:Prop} (q:Q):=t3 (aL c4 c4 c4 c4 q);refine Zba h6 (fun c5 h8=>?_) (fun c5 h9=>?_)
     ·refine Zba h8 (fun c6 h10=>?_) (fun c6 h11=>?_)
      ·refine Zba h10 (fun c7 h12=>?_) (fun c7 h13=>?_)
       ·exact xS fol h12 hE (o1++[rZ]) (t4 (aO c5 c5 c5 c5 c6 c6 c6 (aL c6 c7 c7 c7 c7)))
       exact xS fol h13 hE (o1++[.r [(27,wF),(28,wF),(29,wF),(30,yF)]]) (t4 (aO c5 c5 c5 c5 c6 c6 c6 (aL c6 c7 c7 c7 c7)))
      exact xS fol h11 hE (o1++[.r [(22,wF),(23,wF),(24,wF),(25,yF),(27,wF),(28,wF),(29,wF),(30,yF)]]) (t4 (aO c5 c5 c5 c5 c6 c6 c6 (aL c6 eF eF eF eF)))
     exact xS fol h9 hE (o1++[.r [(17,wF),(18,wF),(19,wF),(20,yF),(22,wF),(23,wF),(24,wF),(25,yF),(27,wF),(28,wF),(29,wF),(30,yF)]]) (t4 (aO c5 c5 c5 c5 eF eF eF (aL eF eF eF eF eF)))
    exact xS fol h7 hE (o1++[.r [(12,wF),(13,wF),(14,wF),(15,yF),(17,wF),(18,wF),(19,wF),(20,yF),(22,wF),(23,wF),(24,wF),(25,yF),(27,wF),(28,wF),(29,wF),(30,yF)]]) (t3 (aO c4 c4 c4 c4 eF eF eF (aO eF eF eF eF eF eF eF (aI eF eF))))
   exact xS fol h5 hE (o1++[.r [(7,wF),(8,wF),(9,wF),(10,yF),(12,wF),(13,wF),(14,wF),(15,yF),(17,wF),(18,wF),(19,wF),(20,yF),(22,wF),(23,wF),(24,wF),(25,yF),(27,wF),(28,wF),(29,wF),(30,yF)]]) (t2 (aO c3 c3 c3 c3 eF eF eF (aO eF eF eF eF eF eF eF (aM eF eF eF eF eF eF))))
  exact xS fol h3 hE (o1++[.r [(2,wF),(3,wF),(4,wF),(5,yF),(7,wF),(8,wF),(9,wF),(10,yF),(12,wF),(13,wF),(14,wF),(15,yF),(17,wF),(18,wF),(19,wF),(20,yF),(22,wF),(23,wF),(24,wF),(25,yF),(27,wF),(28,wF),(29,wF),(30,yF)]]) (t1 (aO c2 c2 c2 c2 eF eF eF (aO eF eF eF eF eF eF eF (aO eF eF eF eF eF eF eF (aJ eF eF eF)))))
def ZcR.B:Code:=Tryz.f41.body.getD .skip
def ZcR.rs (r:Bool):List CV:=[oB r]
def ZcR (N:Nat) (h_0:Zal):Option Bool:= if (decide (h_0.Version≥(-2147483648)))=true then if (decide (h_0.Version≤2147483647))=true then if (decide (h_0.Time≥0))=true then if (decide (h_0.Time<4294967296))=true then if (decide (h_0.Bits≥0))=true then if (decide (h_0.Bits<4294967296))=true then if (decide (h_0.Nonce≥0))=true then some (decide (h_0.Nonce<4294967296)) else some false else some false else some false else some false else some false else some false else some false
theorem ZcR.snd {h_0:Zal} {r:Bool} (h:ZcR N h_0=some r):Zdo zE 41 [.agg h_0.ls] (ZcR.rs r):=fun st=>
 sO ZcR.B Tryz.func41 fun g0 w0 R hE=>by
  unfold ZcR at h;let o1:List PS:=[rZ,rZ]
  refine Zba h (fun c1 h1=>?_) (fun c1 h2=>?_)
  ·have t1 {Q:Prop} (q:Q):=aL c1 c1 c1 c1 q;refine Zba h1 (fun c2 h3=>?_) (fun c2 h4=>?_)
   ·have t2 {Q:Prop} (q:Q):=t1 (aL c2 c2 c2 c2 q);refine Zba h3 (fun c3 h5=>?_) (fun c3 h6=>?_)
    ·have t3 {Q:Prop} (q:Q):=t2 (aM c3 c3 c3 c3 c3 q);refine Zba h5 (fun c4 h7=>?_) (fun c4 h8=>?_)
     ·have t4 {Q:Prop} (q:Q):=t3 (aL c4 c4 c4 c4 q);refine Zba h7 (fun c5 h9=>?_) (fun c5 h10=>?_)
      ·refine Zba h9 (fun c6 h11=>?_) (fun c6 h12=>?_)
       ·refine Zba h11 (fun c7 h13=>?_) (fun c7 h14=>?_)
        ·exact xS fol h13 hE (o1++[rZ]) (t4 (aO c5 c5 c5 c5 c5 c6 c6 (aN c6 c6 c7 c7 c7 c7 c7)))
        exact xS fol h14 hE (o1++[.r [(36,wF),(37,wF),(38,wF),(39,wF),(40,yF)]]) (t4 (aO c5 c5 c5 c5 c5 c6 c6 (aN c6 c6 c7 c7 c7 c7 c7)))
       exact xS fol h12 hE (o1++[.r [(31,wF),(32,wF),(33,wF),(34,yF),(36,wF),(37,wF),(38,wF),(39,wF),(40,yF)]]) (t4 (aO c5 c5 c5 c5 c5 c6 c6 (aN c6 c6 eF eF eF eF eF)))
      exact xS fol h10 hE (o1++[.r [(25,wF),(26,wF),(27,wF),(28,wF),(29,yF),(31,wF),(32,wF),(33,wF),(34,yF),(36,wF),(37,wF),(38,wF),(39,wF),(40,yF)]]) (t4 (aO c5 c5 c5 c5 c5 eF eF (aN eF eF eF eF eF eF eF)))
     exact xS fol h8 hE (o1++[.r [(20,wF),(21,wF),(22,wF),(23,yF),(25,wF),(26,wF),(27,wF),(28,wF),(29,yF),(31,wF),(32,wF),(33,wF),(34,yF),(36,wF),(37,wF),(38,wF),(39,wF),(40,yF)]]) (t3 (aO c4 c4 c4 c4 eF eF eF (aO eF eF eF eF eF eF eF (aK eF eF eF eF))))
    exact xS fol h6 hE (o1++[.r [(14,wF),(15,wF),(16,wF),(17,wF),(18,yF),(20,wF),(21,wF),(22,wF),(23,yF),(25,wF),(26,wF),(27,wF),(28,wF),(29,yF),(31,wF),(32,wF),(33,wF),(34,yF),(36,wF),(37,wF),(38,wF),(39,wF),(40,yF)]]) (t2 (aO c3 c3 c3 c3 c3 eF eF (aO eF eF eF eF eF eF eF (aO eF eF eF eF eF eF eF (aI eF eF)))))
   exact xS fol h4 hE (o1++[.r [(9,wF),(10,wF),(11,wF),(12,yF),(14,wF),(15,wF),(16,wF),(17,wF),(18,yF),(20,wF),(21,wF),(22,wF),(23,yF),(25,wF),(26,wF),(27,wF),(28,wF),(29,yF),(31,wF),(32,wF),(33,wF),(34,yF),(36,wF),(37,wF),(38,wF),(39,wF),(40,yF)]]) (t1 (aO c2 c2 c2 c2 eF eF eF (aO eF eF eF eF eF eF eF (aO eF eF eF eF eF eF eF (aM eF eF eF eF eF eF)))))
  exact xS fol h2 hE (o1++[.r [(4,wF),(5,wF),(6,wF),(7,yF),(9,wF),(10,wF),(11,wF),(12,yF),(14,wF),(15,wF),(16,wF),(17,wF),(18,yF),(20,wF),(21,wF),(22,wF),(23,yF),(25,wF),(26,wF),(27,wF),(28,wF),(29,yF),(31,wF),(32,wF),(33,wF),(34,yF),(36,wF),(37,wF),(38,wF),(39,wF),(40,yF)]]) (aO c1 c1 c1 c1 eF eF eF (aO eF eF eF eF eF eF eF (aO eF eF eF eF eF eF eF (aO eF eF eF eF eF eF eF (aJ eF eF eF)))))
def Zbq.B:Code:=Tryz.f24.body.getD .skip
def Zbq.rs (r:Bool):List CV:=[oB r]
def Zbq.p2 (N:Nat) (A0:Zah) (c2_:(Int×Int)→Option Bool):(Int×Int)→Option Bool:=fun (A6,v7)=> if (decide (v7<(len A0.Checks)))=true then chk (0≤v7)<| ZcS (A0.Checks[zC v7]?) Zeo fun x8=> if (decide (x8.Height≤A6))=true then some false else c2_ (x8.Height,w64 (v7+1)) else some true
def Zbq.p1 (N:Nat) (A0:Zah) (c1_:(Int×Int)→Option Bool):(Int×Int)→Option Bool:=fun (A3,v4)=> if (decide (v4<(len A0.Gates)))=true then chk (0≤v4)<| ZcS (A0.Gates[zC v4]?) Zez fun x5=> if (decide (x5.Height≤A3))=true then some false else c1_ (x5.Height,w64 (v4+1)) else loopN (Zbq.p2 N A0) N (0,0)
def Zbq (N:Nat) (A0:Zah):Option Bool:= Zbj (ZdA N A0) fun x1=> if (!x1)=true then some false else Zbj (ZcR N A0.Genesis) fun x2=> if (!x2)=true then some false else loopN (Zbq.p1 N A0) N ((-1),0)
def Zbq.p2.S (A6:Int) (A0:Zah) (v7:Int) (st:LL):S:=mkS 45 [(3,sI A6),(32,sV 33 A0.Checks),(33,sI (len A0.Checks)),(34,sI v7)] [] st
def Zbq.p1.S (A3:Int) (A0:Zah) (v4:Int) (st:LL):S:=mkS 45 [(1,sA 1),(3,sI A3),(18,sV 2 A0.Gates),(19,sI (len A0.Gates)),(20,sI v4)] [(1,.cells A0.ls)] st
theorem Zbq.p2_ok {A6 A0 v7 st r c2_ J2} (h:Zbq.p2 N A0 c2_ (A6,v7)=some r) (hE:En Tryz.f24 g0 w0 (Zbq.rs r) st R) (hc2 : ∀A6 v7,c2_ (A6,v7)=some r→At g0 w0 (Zbq.p2.S A6 A0 v7 st) J2):At g0 w0 (Zbq.p2.S A6 A0 v7 st) (XK zE R (cK Zbq.B [1,1,1,1,1,0,1,0,0] :: .h J2 :: [.b 2,cK Zbq.B [1,1,1,1,1,1]])):=by
 unfold Zbq.p2 at h;refine Zba h (fun c9 h1=>?_) (fun c9 h2=>?_)
 ·obtain ⟨c10,h3⟩:=ZaW h1;obtain ⟨x8,c11,h4⟩:=Zev h3;let o1:List PS:=[rZ,cT,.r [(1,{oe:=x8.ls})],rZ]
  refine Zba h4 (fun c12 h5=>?_) (fun c12 h6=>?_)
  ·exact xS fol h5 hE (o1++[cT,rZ]) (aL c9 c10 (oD c9) c11 c12)
  exact an fol (o1++[cF,rZ,rZ]) [3,32,33,34] [] (aL c9 c10 (oD c9) c11 c12) (hc2 x8.Height (w64 (v7+1)) h6)
 exact xS fol h2 hE [rZ,cF,rZ] c9
theorem Zbq.p1_ok {A3 A0 v4 st r c1_ J1} (h:Zbq.p1 N A0 c1_ (A3,v4)=some r) (hE:En Tryz.f24 g0 w0 (Zbq.rs r) st R) (hc1 : ∀A3 v4,c1_ (A3,v4)=some r→At g0 w0 (Zbq.p1.S A3 A0 v4 st) J1):At g0 w0 (Zbq.p1.S A3 A0 v4 st) (XK zE R (cK Zbq.B [1,1,1,0,1,0,0] :: .h J1 :: [.b 0,cK Zbq.B [1,1,1,1]])):=by
 unfold Zbq.p1 at h;refine Zba h (fun c5 h7=>?_) (fun c5 h8=>?_)
 ·obtain ⟨c6,h9⟩:=ZaW h7;obtain ⟨x5,c7,h10⟩:=ZeE h9;let o2:List PS:=[rZ,cT,.r [(1,{oe:=x5.ls})],rZ]
  refine Zba h10 (fun c8 h11=>?_) (fun c8 h12=>?_)
  ·exact xS fol h11 hE (o2++[cT,rZ]) (aL c5 c6 (oD c5) c7 c8)
  exact an fol (o2++[cF,rZ,rZ]) [1,3,18,19,20] [1] (aL c5 c6 (oD c5) c7 c8) (hc1 x5.Height (w64 (v4+1)) h12)
 exact aq fol [rZ,cF,rZ,rZ] [3,32,33,34] [] c5 (At.loop N (At.loopN (fun y:Int×Int=>Zbq.p2.S y.1 A0 y.2 st) (fun c J hc y h=>Zbq.p2_ok (A6:=y.1) (v7:=y.2) h hE (fun A6 v7=>hc (A6,v7))) N (0,0) h8))
theorem Zbq.snd {A0:Zah} {r:Bool} (h:Zbq N A0=some r):Zdo zE 24 [.agg A0.ls] (Zbq.rs r):=fun st=>
 sO Zbq.B Tryz.func24 fun g0 w0 R hE=>by
  unfold Zbq at h;obtain ⟨x1,c1,h13⟩:=Zae h;have t1 {Q:Prop} (q:Q):=aI (ZdA.snd c1) q;refine Zba h13 (fun c2 h14=>?_) (fun c2 h15=>?_)
  ·exact xS fol h14 hE [rZ,.r [(1,q1 [oB x1]),(4,wF),(5,wF),(6,wF),(7,wF)],cT,rZ] (t1 (aM (not_false (ZbN c2)) (not_false (ZbN c2)) (not_false (ZbN c2)) (not_false (ZbN c2)) (not_false (ZbN c2)) eT))
  obtain ⟨x2,c3,h16⟩:=Zae h15;let o3:List PS:=[rZ,.r [(1,q1 [oB x1]),(6,q1 [oB x2]),(8,yF)]]
  have t2 {Q:Prop} (q:Q):=t1 (aN (not_true (ZbO c2)) (not_true (ZbO c2)) (not_true (ZbO c2)) (ZcR.snd c3) (not_true (ZbO c2)) (not_true (ZbO c2)) q);refine Zba h16 (fun c4 h17=>?_) (fun c4 h18=>?_)
  ·exact xS fol h17 hE (o3++[cT,rZ]) (t2 c4)
  exact aq fol (o3++[cF,rZ,rZ]) [1,3,18,19,20] [1] (t2 c4) (At.loop N (At.loopN (fun y:Int×Int=>Zbq.p1.S y.1 A0 y.2 st) (fun c J hc y h=>Zbq.p1_ok (A3:=y.1) (v4:=y.2) h hE (fun A3 v4=>hc (A3,v4))) N ((-1),0) h18))
def ZbS.B:Code:=Tryz.f7.body.getD .skip
def ZbS.rs (r:Bool):List CV:=[oB r]
def ZbS.p1 (N:Nat) (A1:LL) (A0:Zah) (c1_:Int→Option Bool):Int→Option Bool:=fun v1=> if (decide (v1<(len A1)))=true then chk (0≤v1)<| ZcS (A1[zC v1]?) Zdv fun x2=> if (decide (x2.Now<0))=true then some true else c1_ (w64 (v1+1)) else if (decide ((len A0.Gates)>20))=true then some true else if (decide ((len A0.Checks)>20))=true then some true else if (decide ((len A1)>40))=true then some true else Zbj (Zbq N A0) fun x3=> some (!x3)
def ZbS (N:Nat) (A0:Zah) (A1:LL):Option Bool:= loopN (ZbS.p1 N A1 A0) N 0
def ZbS.p1.S (A1:LL) (v1:Int) (A0:Zah) (st:LL):S:=mkS 37 [(1,sV 71 A1),(2,sA 2),(7,sV 71 A1),(8,sI (len A1)),(9,sI v1)] [(2,.cells A0.ls)] st
theorem ZbS.p1_ok {A1 v1 A0 st r c1_ J1} (h:ZbS.p1 N A1 A0 c1_ v1=some r) (hE:En Tryz.f7 g0 w0 (ZbS.rs r) st R) (hc1 : ∀v1,c1_ v1=some r→At g0 w0 (ZbS.p1.S A1 v1 A0 st) J1):At g0 w0 (ZbS.p1.S A1 v1 A0 st) (XK zE R (cK ZbS.B [1,0,1,0,0] :: .h J1 :: [.b 0,cK ZbS.B [1,1]])):=by
 unfold ZbS.p1 at h;refine Zba h (fun c1 h1=>?_) (fun c1 h2=>?_)
 ·obtain ⟨c2,h3⟩:=ZaW h1;obtain ⟨x2,c3,h4⟩:=Zfh h3;let o1:List PS:=[rZ,cT,.r [(1,{oe:=x2.ls})],rZ]
  refine Zba h4 (fun c4 h5=>?_) (fun c4 h6=>?_)
  ·exact xS fol h5 hE (o1++[cT,rZ]) (aL c1 c2 (oD c1) c3 c4)
  exact an fol (o1++[cF,rZ]) [1,2,7,8,9] [2] (aL c1 c2 (oD c1) c3 c4) (hc1 (w64 (v1+1)) h6)
 let o2:List PS:=[rZ,cF]
 refine Zba h2 (fun c5 h7=>?_) (fun c5 h8=>?_)
 ·exact xS fol h7 hE (o2++[.r [(5,wF),(6,wF),(7,wF),(8,wF),(11,wF),(12,wF),(13,wF),(16,wF),(17,wF),(18,wF)]]) (aO c1 c5 c5 c5 c5 c5 eT (aN eT eT eT eT eT eT eT))
 have t1 {Q:Prop} (q:Q):=aN c1 c5 c5 c5 c5 c5 q;refine Zba h8 (fun c6 h9=>?_) (fun c6 h10=>?_)
 ·exact xS fol h9 hE (o2++[.r [(9,yF),(11,wF),(12,wF),(13,wF),(16,wF),(17,wF),(18,wF)]]) (t1 (aO c6 c6 c6 c6 eT eT eT eT))
 refine Zba h10 (fun c7 h11=>?_) (fun c7 h12=>?_)
 ·exact xS fol h11 hE (o2++[.r [(9,yF),(14,yF),(16,wF),(17,wF),(18,wF)]]) (t1 (aO c6 c6 c6 c6 c7 c7 c7 c7))
 obtain ⟨x3,c8,h13⟩:=Zae h12;exact xS fol h13 hE (o2++[.r [(9,yF),(14,yF),(17,q1 [oB x3]),(19,yF)]]) (t1 (aO c6 c6 c6 c6 c7 c7 (Zbq.snd c8) (aI c7 c7)))
theorem ZbS.snd {A0:Zah} {A1:LL} {r:Bool} (h:ZbS N A0 A1=some r):Zdo zE 7 [.agg A0.ls,.one (vR 71 A1)] (ZbS.rs r):=fun st=>
 sO ZbS.B Tryz.func7 fun g0 w0 R hE=>by
  unfold ZbS at h;exact aq fol [rZ,rZ] [1,2,7,8,9] [2] trivial (At.loop N (At.loopN (fun y:Int=>ZbS.p1.S A1 y A0 st) (fun c J hc y h=>ZbS.p1_ok h hE (fun v1=>hc v1)) N 0 h))
def Zbs.B:Code:=Tryz.f95.body.getD .skip
def Zbs.rs (r:ByteArray):List CV:=[.one (vO r)]
def Zbs.p1 (N:Nat) (A0:Int) (c1_:(Int×ByteArray×Int)→Option ByteArray):(Int×ByteArray×Int)→Option ByteArray:=fun (A1,A3,A2)=> if (decide (A2<(if (8:Int)<(if (1:Int)>A0 then 1 else A0) then 8 else (if (1:Int)>A0 then 1 else A0))))=true then chk (isB [[zM .u8 (v8 (yA A1 256))]]=true)<| chk (yC A3+yC (ZkA (vN Zfr [[zM .u8 (v8 (yA A1 256))]]))≤9223372036854775807)<| c1_ (v64 (zR A1 256),A3++(ZkA (vN Zfr [[zM .u8 (v8 (yA A1 256))]])),w64 (A2+1)) else some A3
def Zbs (N:Nat) (A0 F1:Int):Option ByteArray:= loopN (Zbs.p1 N A0) N (v64 (F1),(wK #[]),0)
def Zbs.p1.S (A0 A1:Int) (A3:ByteArray) (A2:Int) (st:LL):S:=mkS 27 [(0,sI A0),(5,.one (.l (zM .u64 A1))),(6,.one (.l (vO A3))),(7,sI A2)] [] st
theorem Zbs.p1_ok {A0 A1 A3 A2 st r c1_ J1} (h:Zbs.p1 N A0 c1_ (A1,A3,A2)=some r) (hE:En Tryz.f95 g0 w0 (Zbs.rs r) st R) (hc1 : ∀A1 A3 A2,c1_ (A1,A3,A2)=some r→At g0 w0 (Zbs.p1.S A0 A1 A3 A2 st) J1):At g0 w0 (Zbs.p1.S A0 A1 A3 A2 st) (XK zE R (cK Zbs.B [1,1,1,0,1,0,0] :: .h J1 :: [.b 0,cK Zbs.B [1,1,1,1]])):=by
 unfold Zbs.p1 at h;refine Zba h (fun c4 h1=>?_) (fun c4 h2=>?_)
 ·obtain ⟨c5,c6,h3⟩:=ck2 h1;exact an fol [rZ,cT,rZ,rZ,rZ] [0,5,6,7] [] (aN c4 (neI 256) z0 (eN (1)) c5 c6 (neI 256)) (hc1 (v64 (zR A1 256)) (A3++(ZkA (vN Zfr [[zM .u8 (v8 (yA A1 256))]]))) (w64 (A2+1)) h3)
 exact xS fol h2 hE [rZ,cF,rZ] c4
theorem Zbs.snd {A0 F1:Int} {r:ByteArray} (h:Zbs N A0 F1=some r):Zdo zE 95 [oI A0,oI F1] (Zbs.rs r):=fun st=>
 sO Zbs.B Tryz.func95 fun g0 w0 R hE=>by
  unfold Zbs at h;exact aq fol [rZ,rZ,rZ,rZ] [0,5,6,7] [] trivial (At.loop N (At.loopN (fun y:Int×ByteArray×Int=>Zbs.p1.S A0 y.1 y.2.1 y.2.2 st) (fun c J hc y h=>Zbs.p1_ok (A1:=y.1) (A3:=y.2.1) (A2:=y.2.2) h hE (fun A1 A3 A2=>hc (A1,A3,A2))) N (v64 (F1),(wK #[]),0) h))
def Zce.B:Code:=Tryz.f96.body.getD .skip
def Zce.rs (r:ByteArray):List CV:=[.one (vO r)]
def Zce.p1 (N:Nat) (A0_0:List Int) (c1_:(ByteArray×Int)→Option ByteArray):(ByteArray×Int)→Option ByteArray:=fun (A2,A1)=> if (decide (A1<32))=true then chk (0≤A1)<| chk (isB [[zM .u8 (zF A0_0 (zC A1) 0)]]=true)<| chk (yC A2+yC (ZkA (vN Zfr [[zM .u8 (zF A0_0 (zC A1) 0)]]))≤9223372036854775807)<| c1_ (A2++(ZkA (vN Zfr [[zM .u8 (zF A0_0 (zC A1) 0)]])),w64 (A1+1)) else some A2
def Zce (N:Nat) (A0_0:List Int):Option ByteArray:= loopN (Zce.p1 N A0_0) N ((wK #[]),0)
def Zce.p1.S (A2:ByteArray) (A1:Int) (A0_0:List Int) (st:LL):S:=mkS 17 [(1,sA 1),(3,.one (.l (vO A2))),(4,sI A1)] [(1,.cells [zK .u8 32 A0_0])] st
theorem Zce.p1_ok {A2 A1 A0_0 st r c1_ J1} (h:Zce.p1 N A0_0 c1_ (A2,A1)=some r) (hE:En Tryz.f96 g0 w0 (Zce.rs r) st R) (hc1 : ∀A2 A1,c1_ (A2,A1)=some r→At g0 w0 (Zce.p1.S A2 A1 A0_0 st) J1):At g0 w0 (Zce.p1.S A2 A1 A0_0 st) (XK zE R (cK Zce.B [1,1,0,1,0,0] :: .h J1 :: [.b 0,cK Zce.B [1,1,1]])):=by
 unfold Zce.p1 at h;refine Zba h (fun c5 h1=>?_) (fun c5 h2=>?_)
 ·obtain ⟨c6,c7,c8,h3⟩:=ck3 h1;exact an fol [rZ,cT,rZ,rZ] [1,3,4] [1] (aN c5 c6 (oD c5) z0 (eN (1)) c7 c8) (hc1 (A2++(ZkA (vN Zfr [[zM .u8 (zF A0_0 (zC A1) 0)]]))) (w64 (A1+1)) h3)
 exact xS fol h2 hE [rZ,cF,rZ] c5
theorem Zce.snd {A0_0:List Int} {r:ByteArray} (h:Zce N A0_0=some r):Zdo zE 96 [.agg [zK .u8 32 A0_0]] (Zce.rs r):=fun st=>
 sO Zce.B Tryz.func96 fun g0 w0 R hE=>by
  unfold Zce at h;exact aq fol [rZ,rZ,rZ] [1,3,4] [1] trivial (At.loop N (At.loopN (fun y:ByteArray×Int=>Zce.p1.S y.1 y.2 A0_0 st) (fun c J hc y h=>Zce.p1_ok (A2:=y.1) (A1:=y.2) h hE (fun A2 A1=>hc (A2,A1))) N ((wK #[]),0) h))
def ZdE.B:Code:=Tryz.f67.body.getD .skip
def ZdE.rs (r:ByteArray):List CV:=[.one (vO r)]
def ZdE (N:Nat) (h_0:Zal):Option ByteArray:= Zbj (Zbs N 4 h_0.Version) fun x1=> Zbj (Zce N h_0.Prev) fun x2=> chk (yC x1+yC x2≤9223372036854775807)<| Zbj (Zce N h_0.Root) fun x3=> chk (yC (x1++x2)+yC x3≤9223372036854775807)<| Zbj (Zbs N 4 h_0.Time) fun x4=> chk (yC ((x1++x2)++x3)+yC x4≤9223372036854775807)<| Zbj (Zbs N 4 h_0.Bits) fun x5=> chk (yC (((x1++x2)++x3)++x4)+yC x5≤9223372036854775807)<| Zbj (Zbs N 4 h_0.Nonce) fun x6=> chk (yC ((((x1++x2)++x3)++x4)++x5)+yC x6≤9223372036854775807)<| some (((((x1++x2)++x3)++x4)++x5)++x6)
theorem ZdE.snd {h_0:Zal} {r:ByteArray} (h:ZdE N h_0=some r):Zdo zE 67 [.agg h_0.ls] (ZdE.rs r):=fun st=>
 sO ZdE.B Tryz.func67 fun g0 w0 R hE=>by
  unfold ZdE at h;obtain ⟨x1,c1,h1⟩:=Zae h;obtain ⟨x2,c2,h2⟩:=Zae h1;obtain ⟨c3,h3⟩:=ZaW h2;obtain ⟨x3,c4,h4⟩:=Zae h3;obtain ⟨c5,h5⟩:=ZaW h4;obtain ⟨x4,c6,h6⟩:=Zae h5;obtain ⟨c7,h7⟩:=ZaW h6;obtain ⟨x5,c8,h8⟩:=Zae h7;obtain ⟨c9,h9⟩:=ZaW h8;obtain ⟨x6,c10,h10⟩:=Zae h9;obtain ⟨c11,h11⟩:=ZaW h10;exact xSd fol h11 hE [rZ,.d {ds:=[(2,q1 [.one (vO x1)]),(5,q1 [.one (vO x2)]),(9,q1 [.one (vO x3)])],hv:=0,Hs:=[]},.d {ds:=[(3,q1 [.one (vO x4)]),(7,q1 [.one (vO x5)]),(11,q1 [.one (vO x6)])],hv:=0,Hs:=[]}] (aO (Zbs.snd c1) (Zce.snd c2) c3 (Zce.snd c4) c5 (Zbs.snd c6) c7 (aK (Zbs.snd c8) c9 (Zbs.snd c10) c11))
def ZaY.B:Code:=Tryz.f116.body.getD .skip
def ZaY.rs (r:ByteArray):List CV:=[.one (vO r)]
def ZaY.p2 (N:Nat) (A4:ByteArray) (c2_:(Int×ByteArray×Int)→Option ByteArray):(Int×ByteArray×Int)→Option ByteArray:=fun (A5,A7,A6)=> if (decide (A6<8))=true then chk (isB [[zM .u8 (v8 (yA A5 256))]]=true)<| chk (yC (ZkA (vN Zfr [[zM .u8 (v8 (yA A5 256))]]))+yC A7≤9223372036854775807)<| c2_ (w64 (zR A5 256),(ZkA (vN Zfr [[zM .u8 (v8 (yA A5 256))]]))++A7,w64 (A6+1)) else chk (yC A4+yC A7≤9223372036854775807)<| some (A4++A7)
def ZaY.p1 (N:Nat) (A0:ByteArray) (c1_:ByteArray→Option ByteArray):ByteArray→Option ByteArray:=fun A4=> if ((yA ((yC A4:Nat):Int) 64) != 56)=true then chk (yC A4+yC (wK #[0])≤9223372036854775807)<| c1_ (A4++(wK #[0])) else loopN (ZaY.p2 N A4) N (w64 (8*((yC A0:Nat):Int)),(wK #[]),0)
def ZaY (N:Nat) (A0:ByteArray):Option ByteArray:= chk (yC A0+yC (wK #[128])≤9223372036854775807)<| loopN (ZaY.p1 N A0) N (A0++(wK #[128]))
def ZaY.p2.S (A4:ByteArray) (A5:Int) (A7:ByteArray) (A6:Int) (st:LL):S:=mkS 34 [(0,.one (.l (vO A4))),(3,sI A5),(4,.one (.l (vO A7))),(5,sI A6)] [] st
def ZaY.p1.S (A4 A0:ByteArray) (st:LL):S:=mkS 34 [(0,.one (.l (vO A4))),(3,sI ((yC A0:Nat):Int))] [] st
theorem ZaY.p2_ok {A4 A5 A7 A6 st r c2_ J2} (h:ZaY.p2 N A4 c2_ (A5,A7,A6)=some r) (hE:En Tryz.f116 g0 w0 (ZaY.rs r) st R) (hc2 : ∀A5 A7 A6,c2_ (A5,A7,A6)=some r→At g0 w0 (ZaY.p2.S A4 A5 A7 A6 st) J2):At g0 w0 (ZaY.p2.S A4 A5 A7 A6 st) (XK zE R (cK ZaY.B [1,1,1,1,1,1,0,1,0,0] :: .h J2 :: [.b 2,cK ZaY.B [1,1,1,1,1,1,1]])):=by
 unfold ZaY.p2 at h;refine Zba h (fun c18 h1=>?_) (fun c18 h2=>?_)
 ·obtain ⟨c19,c20,h3⟩:=ck2 h1;exact an fol [rZ,cT,rZ,rZ,rZ] [0,3,4,5] [] (aN c18 (neI 256) z0 (eN (1)) c19 c20 (neI 256)) (hc2 (w64 (zR A5 256)) ((ZkA (vN Zfr [[zM .u8 (v8 (yA A5 256))]]))++A7) (w64 (A6+1)) h3)
 obtain ⟨c21,h4⟩:=ZaW h2;exact xS fol h4 hE [rZ,cF,rZ] (aI c18 c21)
theorem ZaY.p1_ok {A4 A0 st r c1_ J1} (h:ZaY.p1 N A0 c1_ A4=some r) (hE:En Tryz.f116 g0 w0 (ZaY.rs r) st R) (hc1 : ∀A4,c1_ A4=some r→At g0 w0 (ZaY.p1.S A4 A0 st) J1):At g0 w0 (ZaY.p1.S A4 A0 st) (XK zE R (cK ZaY.B [1,1,1,0,0,0] :: .h J1 :: [.b 0,cK ZaY.B [1,1,1,1]])):=by
 unfold ZaY.p1 at h;refine Zba h (fun c12 h5=>?_) (fun c12 h6=>?_)
 ·obtain ⟨c13,h7⟩:=ZaW h5;exact an fol [rZ,cT,rZ] [0,3] [] (aJ (neI 64) c12 c13) (hc1 (A4++(wK #[0])) h7)
 exact aq fol [rZ,cF,rZ,rZ,rZ] [0,3,4,5] [] (aI (neI 64) c12) (At.loop N (At.loopN (fun y:Int×ByteArray×Int=>ZaY.p2.S A4 y.1 y.2.1 y.2.2 st) (fun c J hc y h=>ZaY.p2_ok (A5:=y.1) (A7:=y.2.1) (A6:=y.2.2) h hE (fun A5 A7 A6=>hc (A5,A7,A6))) N (w64 (8*((yC A0:Nat):Int)),(wK #[]),0) h6))
theorem ZaY.snd {A0:ByteArray} {r:ByteArray} (h:ZaY N A0=some r):Zdo zE 116 [.one (vO A0)] (ZaY.rs r):=fun st=>
 sO ZaY.B Tryz.func116 fun g0 w0 R hE=>by
  unfold ZaY at h;obtain ⟨c1,h8⟩:=ZaW h;exact aq fol [rZ,rZ,rZ] [0,3] [] c1 (At.loop N (At.loopN (fun y:ByteArray=>ZaY.p1.S y A0 st) (fun c J hc y h=>ZaY.p1_ok h hE (fun A4=>hc A4)) N (A0++(wK #[128])) h8))
def Zbg.B:Code:=Tryz.f117.body.getD .skip
def Zbg.rs (r:Int):List CV:=[.one (zM .u32 r)]
def Zbg (N:Nat) (A0 F1:Int):Option Int:= chk (0≤F1)<| chk (0≤(v64 (32-F1)))<| some (v32 ((Zbn .u32 A0 F1)+(ZbB .u32 A0 (v64 (32-F1)))))
theorem Zbg.snd {A0 F1:Int} {r:Int} (h:Zbg N A0 F1=some r):Zdo zE 117 [.one (zM .u32 A0),.one (zM .u64 F1)] (Zbg.rs r):=fun st=>
 sO Zbg.B Tryz.func117 fun g0 w0 R hE=>by
  unfold Zbg at h;obtain ⟨c1,c2,h1⟩:=ck2 h;exact xS fol h1 hE [rZ,rZ] (aI c1 c2)
def Zfy.B:Code:=Tryz.f118.body.getD .skip
def Zfy.rs (r:Int):List CV:=[.one (zM .u32 r)]
def Zfy (N:Nat) (A0:Int):Option Int:= chk (0≤A0)<| chk (A0<64)<| some (zF [1116352408,1899447441,3049323471,3921009573,961987163,1508970993,2453635748,2870763221,3624381080,310598401,607225278,1426881987,1925078388,2162078206,2614888103,3248222580,3835390401,4022224774,264347078,604807628,770255983,1249150122,1555081692,1996064986,2554220882,2821834349,2952996808,3210313671,3336571891,3584528711,113926993,338241895,666307205,773529912,1294757372,1396182291,1695183700,1986661051,2177026350,2456956037,2730485921,2820302411,3259730800,3345764771,3516065817,3600352804,4094571909,275423344,430227734,506948616,659060556,883997877,958139571,1322822218,1537002063,1747873779,1955562222,2024104815,2227730452,2361852424,2428436474,2756734187,3204031479,3329325298] (zC A0) 0)
theorem Zfy.snd {A0:Int} {r:Int} (h:Zfy N A0=some r):Zdo zE 118 [oI A0] (Zfy.rs r):=fun st=>
 sO Zfy.B Tryz.func118 fun g0 w0 R hE=>by
  unfold Zfy at h;obtain ⟨c1,c2,h1⟩:=ck2 h;exact xS fol h1 hE [rZ,.r [(0,{m:=3})]] (aI c1 c2)
def Zar.B:Code:=Tryz.f94.body.getD .skip
def Zar.rs (r:(List Int)):List CV:=[.agg [zK .u8 32 r]]
def Zar.p3 (N:Nat) (c2_:(Int×(List Int))→Option (List Int)) (c1_:(Int×(List Int))→Option (List Int)) (x1:ByteArray) (A2 A112:Int) (A111:List Int) (c3_:(Int×(List Int))→Option (List Int)):(Int×(List Int))→Option (List Int):=fun (A166,A167)=> if (decide (A166<4))=true then chk (0≤A112)<| chk (A112<64)<| chk (0≤(w64 ((w64 (A2+(w64 (4*A112))))+A166)))<| chk ((w64 ((w64 (A2+(w64 (4*A112))))+A166))<((yC x1:Nat):Int))<| c3_ (w64 (A166+1),zQ A167 (zC A112) (v32 ((v32 ((zF A167 (zC A112) 0)*256))+(v32 (((UInt8.toNat (zF (qG (rO x1)) (zC (w64 ((w64 (A2+(w64 (4*A112))))+A166))) 0):Nat):Int)))))) else c2_ (w64 (A112+1),A167)
def Zar.p6 (N:Nat) (c1_:(Int×(List Int))→Option (List Int)) (x1:ByteArray) (A2:Int) (A208:List Int) (c6_:(Int×(List Int))→Option (List Int)):(Int×(List Int))→Option (List Int):=fun (A216,A217)=> if (decide (A216<8))=true then chk (0≤A216)<| c6_ (w64 (A216+1),zQ A217 (zC A216) (v32 ((zF A217 (zC A216) 0)+(zF A208 (zC A216) 0)))) else c1_ (w64 (A2+64),A217)
def Zar.p5 (N:Nat) (c1_:(Int×(List Int))→Option (List Int)) (x1:ByteArray) (A2:Int) (A111 A193:List Int) (c5_:(Int×(List Int))→Option (List Int)):(Int×(List Int))→Option (List Int):=fun (A198,A208)=> if (decide (A198<64))=true then Zbj (Zbg N (zF A208 4 0) 6) fun x209=> Zbj (Zbg N (zF A208 4 0) 11) fun x210=> Zbj (Zbg N (zF A208 4 0) 25) fun x211=> Zbj (Zfy N A198) fun x212=> chk (0≤A198)<| Zbj (Zbg N (zF A208 0 0) 2) fun x213=> Zbj (Zbg N (zF A208 0 0) 13) fun x214=> Zbj (Zbg N (zF A208 0 0) 22) fun x215=> c5_ (w64 (A198+1),[v32 ((v32 ((v32 ((v32 ((v32 ((zF A208 7 0)+(ZaG .xor .u32 (ZaG .xor .u32 x209 x210) x211)))+(ZaG .or .u32 (ZaG .and .u32 (zF A208 4 0) (zF A208 5 0)) (ZaG .and .u32 (v32 (4294967295-(zF A208 4 0))) (zF A208 6 0)))))+x212))+(zF A193 (zC A198) 0)))+(v32 ((ZaG .xor .u32 (ZaG .xor .u32 x213 x214) x215)+(ZaG .or .u32 (ZaG .or .u32 (ZaG .and .u32 (zF A208 0 0) (zF A208 1 0)) (ZaG .and .u32 (zF A208 0 0) (zF A208 2 0))) (ZaG .and .u32 (zF A208 1 0) (zF A208 2 0)))))),zF A208 0 0,zF A208 1 0,zF A208 2 0,v32 ((zF A208 3 0)+(v32 ((v32 ((v32 ((v32 ((zF A208 7 0)+(ZaG .xor .u32 (ZaG .xor .u32 x209 x210) x211)))+(ZaG .or .u32 (ZaG .and .u32 (zF A208 4 0) (zF A208 5 0)) (ZaG .and .u32 (v32 (4294967295-(zF A208 4 0))) (zF A208 6 0)))))+x212))+(zF A193 (zC A198) 0)))),zF A208 4 0,zF A208 5 0,zF A208 6 0]) else loopN (Zar.p6 N c1_ x1 A2 A208) N (0,A111)
def Zar.p4 (N:Nat) (c1_:(Int×(List Int))→Option (List Int)) (x1:ByteArray) (A2:Int) (A111:List Int) (c4_:(Int×(List Int))→Option (List Int)):(Int×(List Int))→Option (List Int):=fun (A168,A193)=> if (decide (A168<64))=true then chk (0≤(w64 (A168-15)))<| chk ((w64 (A168-15))<64)<| Zbj (Zbg N (zF A193 (zC (w64 (A168-15))) 0) 7) fun x194=> Zbj (Zbg N (zF A193 (zC (w64 (A168-15))) 0) 18) fun x195=> chk (0≤(w64 (A168-2)))<| chk ((w64 (A168-2))<64)<| Zbj (Zbg N (zF A193 (zC (w64 (A168-2))) 0) 17) fun x196=> Zbj (Zbg N (zF A193 (zC (w64 (A168-2))) 0) 19) fun x197=> chk (0≤(w64 (A168-16)))<| chk ((w64 (A168-16))<64)<| chk (0≤(w64 (A168-7)))<| chk ((w64 (A168-7))<64)<| chk (0≤A168)<| c4_ (w64 (A168+1),zQ A193 (zC A168) (v32 ((v32 ((v32 ((zF A193 (zC (w64 (A168-16))) 0)+(ZaG .xor .u32 (ZaG .xor .u32 x194 x195) (v32 (zR (zF A193 (zC (w64 (A168-15))) 0) 8)))))+(zF A193 (zC (w64 (A168-7))) 0)))+(ZaG .xor .u32 (ZaG .xor .u32 x196 x197) (v32 (zR (zF A193 (zC (w64 (A168-2))) 0) 1024)))))) else loopN (Zar.p5 N c1_ x1 A2 A111 A193) N (0,A111)
def Zar.p2 (N:Nat) (c1_:(Int×(List Int))→Option (List Int)) (x1:ByteArray) (A2:Int) (A111:List Int) (c2_:(Int×(List Int))→Option (List Int)):(Int×(List Int))→Option (List Int):=fun (A112,A165)=> if (decide (A112<16))=true then loopN (Zar.p3 N c2_ c1_ x1 A2 A112 A111) N (0,A165) else loopN (Zar.p4 N c1_ x1 A2 A111) N (16,A165)
def Zar.p7 (N:Nat) (A111:List Int) (c7_:(Int×(List Int))→Option (List Int)):(Int×(List Int))→Option (List Int):=fun (A218,A219)=> if (decide (A218<32))=true then chk (0≤(w64 (zR A218 4)))<| chk ((w64 (zR A218 4))<8)<| chk (0≤(v64 (w64 (24-(w64 (8*(yA A218 4)))))))<| chk (0≤A218)<| c7_ (w64 (A218+1),zQ A219 (zC A218) (v8 (yA (Zbn .u32 (zF A111 (zC (w64 (zR A218 4))) 0) (v64 (w64 (24-(w64 (8*(yA A218 4))))))) 256))) else some A219
def Zar.p1 (N:Nat) (x1:ByteArray) (c1_:(Int×(List Int))→Option (List Int)):(Int×(List Int))→Option (List Int):=fun (A2,A111)=> if (decide (A2<((yC x1:Nat):Int)))=true then loopN (Zar.p2 N c1_ x1 A2 A111) N (0,zB 64 0) else loopN (Zar.p7 N A111) N (0,zB 32 0)
def Zar (N:Nat) (A0:ByteArray):Option (List Int):= Zbj (ZaY N A0) fun x1=> loopN (Zar.p1 N x1) N (0,[1779033703,3144134277,1013904242,2773480762,1359893119,2600822924,528734635,1541459225])
def Zar.p3.S (x1:ByteArray) (A2 A112 A166:Int) (A111 A167:List Int) (st:LL):S:=mkS 225 [(2,sA 2),(3,sA 3),(4,.one (.l (vO x1))),(5,sI A2),(6,sA 6),(7,sI A112),(8,sI A166)] [(2,.cells [zK .u8 32 (zB 32 0)]),(3,.cells [zK .u32 8 A111]),(6,.cells [zK .u32 64 A167])] st
def Zar.p6.S (x1:ByteArray) (A2 A216:Int) (A217 A208:List Int) (st:LL):S:=mkS 225 [(2,sA 2),(3,sA 3),(4,.one (.l (vO x1))),(5,sI A2),(12,sA 12),(16,sI A216)] [(2,.cells [zK .u8 32 (zB 32 0)]),(3,.cells [zK .u32 8 A217]),(12,.cells [zK .u32 8 A208])] st
def Zar.p5.S (x1:ByteArray) (A2 A198:Int) (A111 A193 A208:List Int) (st:LL):S:=mkS 225 [(2,sA 2),(3,sA 3),(4,.one (.l (vO x1))),(5,sI A2),(6,sA 6),(12,sA 12),(13,sI A198)] [(2,.cells [zK .u8 32 (zB 32 0)]),(3,.cells [zK .u32 8 A111]),(6,.cells [zK .u32 64 A193]),(12,.cells [zK .u32 8 A208])] st
def Zar.p4.S (x1:ByteArray) (A2 A168:Int) (A111 A193:List Int) (st:LL):S:=mkS 225 [(2,sA 2),(3,sA 3),(4,.one (.l (vO x1))),(5,sI A2),(6,sA 6),(9,sI A168)] [(2,.cells [zK .u8 32 (zB 32 0)]),(3,.cells [zK .u32 8 A111]),(6,.cells [zK .u32 64 A193])] st
def Zar.p2.S (x1:ByteArray) (A2 A112:Int) (A111 A165:List Int) (st:LL):S:=mkS 225 [(2,sA 2),(3,sA 3),(4,.one (.l (vO x1))),(5,sI A2),(6,sA 6),(7,sI A112)] [(2,.cells [zK .u8 32 (zB 32 0)]),(3,.cells [zK .u32 8 A111]),(6,.cells [zK .u32 64 A165])] st
def Zar.p7.S (A218:Int) (A111 A219:List Int) (st:LL):S:=mkS 225 [(2,sA 2),(3,sA 3),(17,sA 17),(18,sI A218)] [(2,.cells [zK .u8 32 (zB 32 0)]),(3,.cells [zK .u32 8 A111]),(17,.cells [zK .u8 32 A219])] st
def Zar.p1.S (x1:ByteArray) (A2:Int) (A111:List Int) (st:LL):S:=mkS 225 [(2,sA 2),(3,sA 3),(4,.one (.l (vO x1))),(5,sI A2)] [(2,.cells [zK .u8 32 (zB 32 0)]),(3,.cells [zK .u32 8 A111])] st
theorem Zar.p3_ok {x1 A2 A112 A166 A111 A167 st r c2_ c1_ c3_ J2 J1 J3} (h:Zar.p3 N c2_ c1_ x1 A2 A112 A111 c3_ (A166,A167)=some r) (hE:En Tryz.f94 g0 w0 (Zar.rs r) st R) (hc2 : ∀A112 A165,c2_ (A112,A165)=some r→At g0 w0 (Zar.p2.S x1 A2 A112 A111 A165 st) J2) (hc1 : ∀A2 A111,c1_ (A2,A111)=some r→At g0 w0 (Zar.p1.S x1 A2 A111 st) J1) (hc3 : ∀A166 A167,c3_ (A166,A167)=some r→At g0 w0 (Zar.p3.S x1 A2 A112 A166 A111 A167 st) J3):At g0 w0 (Zar.p3.S x1 A2 A112 A166 A111 A167 st) (XK zE R (cK Zar.B [1,1,1,0,1,0,0,1,0,0,1,0,1,0,0,1,0,0,1,0,0] :: .h J3 :: [.b 4,.b 3,cK Zar.B [1,1,1,0,1,0,0,1,0,0,1,0,1,0,0,1,1],.h J2,.b 2,cK Zar.B [1,1,1,0,1,0,0,1,0,0,1,1],.b 1,cK Zar.B [1,1,1,0,1,0,0,1,1],.h J1,.b 0,cK Zar.B [1,1,1,1]])):=by
 unfold Zar.p3 at h;refine Zba h (fun c293 h1=>?_) (fun c293 h2=>?_)
 ·obtain ⟨c294,c295,c296,c297,h3⟩:=ck4 h1;exact ZkD fol [rZ,cT,.d {ds:=[],hv:=65536,Hs:=[65536]},rZ] [2,3,4,5,6,7,8] [2,3,6] (aN c293 c294 c295 c296 c297 c294 c295) (hc3 (w64 (A166+1)) (zQ A167 (zC A112) (v32 ((v32 ((zF A167 (zC A112) 0)*256))+(v32 (((UInt8.toNat (zF (qG (rO x1)) (zC (w64 ((w64 (A2+(w64 (4*A112))))+A166))) 0):Nat):Int)))))) h3)
 exact an fol [rZ,cF,rZ] [2,3,4,5,6,7] [2,3,6] c293 (hc2 (w64 (A112+1)) A167 h2)
theorem Zar.p6_ok {x1 A2 A216 A217 A208 st r c1_ c6_ J1 J6} (h:Zar.p6 N c1_ x1 A2 A208 c6_ (A216,A217)=some r) (hE:En Tryz.f94 g0 w0 (Zar.rs r) st R) (hc1 : ∀A2 A111,c1_ (A2,A111)=some r→At g0 w0 (Zar.p1.S x1 A2 A111 st) J1) (hc6 : ∀A216 A217,c6_ (A216,A217)=some r→At g0 w0 (Zar.p6.S x1 A2 A216 A217 A208 st) J6):At g0 w0 (Zar.p6.S x1 A2 A216 A217 A208 st) (XK zE R (cK Zar.B [1,1,1,0,1,0,0,1,0,0,1,1,1,1,1,1,0,0] :: .h J6 :: [.b 10,.b 1,cK Zar.B [1,1,1,0,1,0,0,1,1],.h J1,.b 0,cK Zar.B [1,1,1,1]])):=by
 unfold Zar.p6 at h;refine Zba h (fun c376 h4=>?_) (fun c376 h5=>?_)
 ·obtain ⟨c377,h6⟩:=ZaW h4;exact ZkD fol [rZ,cT,.d {ds:=[],hv:=512,Hs:=[512]},rZ] [2,3,4,5,12,16] [2,3,12] (aN c376 c377 (oD c376) c377 (oD c376) c377 (oD c376)) (hc6 (w64 (A216+1)) (zQ A217 (zC A216) (v32 ((zF A217 (zC A216) 0)+(zF A208 (zC A216) 0)))) h6)
 exact an fol [rZ,cF,rZ] [2,3,4,5] [2,3] c376 (hc1 (w64 (A2+64)) A217 h5)
theorem Zar.p5_ok {x1 A2 A198 A111 A193 A208 st r c1_ c5_ J1 J5} (h:Zar.p5 N c1_ x1 A2 A111 A193 c5_ (A198,A208)=some r) (hE:En Tryz.f94 g0 w0 (Zar.rs r) st R) (hc1 : ∀A2 A111,c1_ (A2,A111)=some r→At g0 w0 (Zar.p1.S x1 A2 A111 st) J1) (hc5 : ∀A198 A208,c5_ (A198,A208)=some r→At g0 w0 (Zar.p5.S x1 A2 A198 A111 A193 A208 st) J5):At g0 w0 (Zar.p5.S x1 A2 A198 A111 A193 A208 st) (XK zE R (cK Zar.B [1,1,1,0,1,0,0,1,0,0,1,1,1,1,0,1,0,0] :: .h J5 :: [.b 8,cK Zar.B [1,1,1,0,1,0,0,1,0,0,1,1,1,1,1],.b 1,cK Zar.B [1,1,1,0,1,0,0,1,1],.h J1,.b 0,cK Zar.B [1,1,1,1]])):=by
 unfold Zar.p5 at h;refine Zba h (fun c365 h7=>?_) (fun c365 h8=>?_)
 ·obtain ⟨x209,c366,h9⟩:=Zae h7;obtain ⟨x210,c367,h10⟩:=Zae h9;obtain ⟨x211,c368,h11⟩:=Zae h10;obtain ⟨x212,c369,h12⟩:=Zae h11;obtain ⟨c370,h13⟩:=ZaW h12;obtain ⟨x213,c371,h14⟩:=Zae h13;obtain ⟨x214,c372,h15⟩:=Zae h14;obtain ⟨x215,c373,h16⟩:=Zae h15;exact ZkD fol [rZ,cT,.d {ds:=[(4,q1 [.one (zM .u32 x209)]),(7,q1 [.one (zM .u32 x210)]),(11,q1 [.one (zM .u32 x211)]),(28,q1 [.one (zM .u32 x212)])],hv:=0,Hs:=[]},.d {ds:=[(2,q1 [.one (zM .u32 x213)]),(5,q1 [.one (zM .u32 x214)]),(9,q1 [.one (zM .u32 x215)])],hv:=0,Hs:=[]},.r [(19,{m:=3})],rZ] [2,3,4,5,6,12,13] [2,3,6,12] (aI c365 (ix 7 8 (ix 4 8 (aI (Zbg.snd c366) (ix 4 8 (aI (Zbg.snd c367) (ix 4 8 (aI (Zbg.snd c368) (ix 4 8 (ix 5 8 (ix 4 8 (ix 6 8 (aK (Zfy.snd c369) c370 (oD c365) (ix 0 8 (aI (Zbg.snd c371) (ix 0 8 (aI (Zbg.snd c372) (ix 0 8 (aI (Zbg.snd c373) (ix 0 8 (ix 1 8 (ix 0 8 (ix 2 8 (ix 1 8 (ix 2 8 (ix 0 8 (ix 1 8 (ix 2 8 (ix 3 8 (ix 4 8 (ix 5 8 (aI (leI 0 6) (ltI 6 8))))))))))))))))))))))))))))))))) (hc5 (w64 (A198+1)) [v32 ((v32 ((v32 ((v32 ((v32 ((zF A208 7 0)+(ZaG .xor .u32 (ZaG .xor .u32 x209 x210) x211)))+(ZaG .or .u32 (ZaG .and .u32 (zF A208 4 0) (zF A208 5 0)) (ZaG .and .u32 (v32 (4294967295-(zF A208 4 0))) (zF A208 6 0)))))+x212))+(zF A193 (zC A198) 0)))+(v32 ((ZaG .xor .u32 (ZaG .xor .u32 x213 x214) x215)+(ZaG .or .u32 (ZaG .or .u32 (ZaG .and .u32 (zF A208 0 0) (zF A208 1 0)) (ZaG .and .u32 (zF A208 0 0) (zF A208 2 0))) (ZaG .and .u32 (zF A208 1 0) (zF A208 2 0)))))),zF A208 0 0,zF A208 1 0,zF A208 2 0,v32 ((zF A208 3 0)+(v32 ((v32 ((v32 ((v32 ((zF A208 7 0)+(ZaG .xor .u32 (ZaG .xor .u32 x209 x210) x211)))+(ZaG .or .u32 (ZaG .and .u32 (zF A208 4 0) (zF A208 5 0)) (ZaG .and .u32 (v32 (4294967295-(zF A208 4 0))) (zF A208 6 0)))))+x212))+(zF A193 (zC A198) 0)))),zF A208 4 0,zF A208 5 0,zF A208 6 0] h16)
 exact aq fol [rZ,cF,rZ] [2,3,4,5,12,16] [2,3,12] c365 (At.loop N (At.loopN (fun y:Int×(List Int)=>Zar.p6.S x1 A2 y.1 y.2 A208 st) (fun c J hc y h=>Zar.p6_ok (A216:=y.1) (A217:=y.2) h hE hc1 (fun A216 A217=>hc (A216,A217))) N (0,A111) h8))
theorem Zar.p4_ok {x1 A2 A168 A111 A193 st r c1_ c4_ J1 J4} (h:Zar.p4 N c1_ x1 A2 A111 c4_ (A168,A193)=some r) (hE:En Tryz.f94 g0 w0 (Zar.rs r) st R) (hc1 : ∀A2 A111,c1_ (A2,A111)=some r→At g0 w0 (Zar.p1.S x1 A2 A111 st) J1) (hc4 : ∀A168 A193,c4_ (A168,A193)=some r→At g0 w0 (Zar.p4.S x1 A2 A168 A111 A193 st) J4):At g0 w0 (Zar.p4.S x1 A2 A168 A111 A193 st) (XK zE R (cK Zar.B [1,1,1,0,1,0,0,1,0,0,1,1,0,1,0,0] :: .h J4 :: [.b 6,cK Zar.B [1,1,1,0,1,0,0,1,0,0,1,1,1],.b 1,cK Zar.B [1,1,1,0,1,0,0,1,1],.h J1,.b 0,cK Zar.B [1,1,1,1]])):=by
 unfold Zar.p4 at h;refine Zba h (fun c338 h17=>?_) (fun c338 h18=>?_)
 ·obtain ⟨c339,c340,h19⟩:=ck2 h17;obtain ⟨x194,c341,h20⟩:=Zae h19;obtain ⟨x195,c342,h21⟩:=Zae h20;obtain ⟨c343,c344,h22⟩:=ck2 h21;obtain ⟨x196,c345,h23⟩:=Zae h22;obtain ⟨x197,c346,h24⟩:=Zae h23;obtain ⟨c347,c348,c349,c350,c351,h25⟩:=ck5 h24;exact ZkD fol [rZ,cT,.d {ds:=[(4,q1 [.one (zM .u32 x194)]),(9,q1 [.one (zM .u32 x195)])],hv:=0,Hs:=[]},.d {ds:=[(4,q1 [.one (zM .u32 x196)]),(9,q1 [.one (zM .u32 x197)])],hv:=0,Hs:=[]},.d {ds:=[],hv:=32768,Hs:=[32768]},rZ] [2,3,4,5,6,9] [2,3,6] (aO c338 c339 c340 (Zbg.snd c341) c339 c340 (Zbg.snd c342) (aO c339 c340 (neI 8) c343 c344 (Zbg.snd c345) c343 (aO c344 (Zbg.snd c346) c343 c344 (neI 1024) c347 c348 (aK c349 c350 c351 (oD c338))))) (hc4 (w64 (A168+1)) (zQ A193 (zC A168) (v32 ((v32 ((v32 ((zF A193 (zC (w64 (A168-16))) 0)+(ZaG .xor .u32 (ZaG .xor .u32 x194 x195) (v32 (zR (zF A193 (zC (w64 (A168-15))) 0) 8)))))+(zF A193 (zC (w64 (A168-7))) 0)))+(ZaG .xor .u32 (ZaG .xor .u32 x196 x197) (v32 (zR (zF A193 (zC (w64 (A168-2))) 0) 1024)))))) h25)
 exact aq fol [rZ,cF,rZ,rZ] [2,3,4,5,6,12,13] [2,3,6,12] c338 (At.loop N (At.loopN (fun y:Int×(List Int)=>Zar.p5.S x1 A2 y.1 A111 A193 y.2 st) (fun c J hc y h=>Zar.p5_ok (A198:=y.1) (A208:=y.2) h hE hc1 (fun A198 A208=>hc (A198,A208))) N (0,A111) h18))
theorem Zar.p2_ok {x1 A2 A112 A111 A165 st r c1_ c2_ J1 J2} (h:Zar.p2 N c1_ x1 A2 A111 c2_ (A112,A165)=some r) (hE:En Tryz.f94 g0 w0 (Zar.rs r) st R) (hc1 : ∀A2 A111,c1_ (A2,A111)=some r→At g0 w0 (Zar.p1.S x1 A2 A111 st) J1) (hc2 : ∀A112 A165,c2_ (A112,A165)=some r→At g0 w0 (Zar.p2.S x1 A2 A112 A111 A165 st) J2):At g0 w0 (Zar.p2.S x1 A2 A112 A111 A165 st) (XK zE R (cK Zar.B [1,1,1,0,1,0,0,1,0,0,1,0,1,0,0] :: .h J2 :: [.b 2,cK Zar.B [1,1,1,0,1,0,0,1,0,0,1,1],.b 1,cK Zar.B [1,1,1,0,1,0,0,1,1],.h J1,.b 0,cK Zar.B [1,1,1,1]])):=by
 unfold Zar.p2 at h;refine Zba h (fun c287 h26=>?_) (fun c287 h27=>?_)
 ·exact aq fol [rZ,cT,rZ] [2,3,4,5,6,7,8] [2,3,6] c287 (At.loop N (At.loopN (fun y:Int×(List Int)=>Zar.p3.S x1 A2 A112 y.1 A111 y.2 st) (fun c J hc y h=>Zar.p3_ok (A166:=y.1) (A167:=y.2) h hE hc2 hc1 (fun A166 A167=>hc (A166,A167))) N (0,A165) h26))
 exact aq fol [rZ,cF,rZ] [2,3,4,5,6,9] [2,3,6] c287 (At.loop N (At.loopN (fun y:Int×(List Int)=>Zar.p4.S x1 A2 y.1 A111 y.2 st) (fun c J hc y h=>Zar.p4_ok (A168:=y.1) (A193:=y.2) h hE hc1 (fun A168 A193=>hc (A168,A193))) N (16,A165) h27))
theorem Zar.p7_ok {A218 A111 A219 st r c7_ J7} (h:Zar.p7 N A111 c7_ (A218,A219)=some r) (hE:En Tryz.f94 g0 w0 (Zar.rs r) st R) (hc7 : ∀A218 A219,c7_ (A218,A219)=some r→At g0 w0 (Zar.p7.S A218 A111 A219 st) J7):At g0 w0 (Zar.p7.S A218 A111 A219 st) (XK zE R (cK Zar.B [1,1,1,1,1,0,1,0,0] :: .h J7 :: [.b 12,cK Zar.B [1,1,1,1,1,1]])):=by
 unfold Zar.p7 at h;refine Zba h (fun c383 h28=>?_) (fun c383 h29=>?_)
 ·obtain ⟨c384,c385,c386,c387,h30⟩:=ck4 h28;exact an fol [rZ,cT,rZ,rZ] [2,3,17,18] [2,3,17] (aO c383 (neI 4) c384 c385 (neI 4) c386 (neI 256) (aI c387 (oD c383))) (hc7 (w64 (A218+1)) (zQ A219 (zC A218) (v8 (yA (Zbn .u32 (zF A111 (zC (w64 (zR A218 4))) 0) (v64 (w64 (24-(w64 (8*(yA A218 4))))))) 256))) h30)
 exact xS fol h29 hE [rZ,cF,rZ] c383
theorem Zar.p1_ok {x1 A2 A111 st r c1_ J1} (h:Zar.p1 N x1 c1_ (A2,A111)=some r) (hE:En Tryz.f94 g0 w0 (Zar.rs r) st R) (hc1 : ∀A2 A111,c1_ (A2,A111)=some r→At g0 w0 (Zar.p1.S x1 A2 A111 st) J1):At g0 w0 (Zar.p1.S x1 A2 A111 st) (XK zE R (cK Zar.B [1,1,1,0,1,0,0] :: .h J1 :: [.b 0,cK Zar.B [1,1,1,1]])):=by
 unfold Zar.p1 at h;refine Zba h (fun c195 h31=>?_) (fun c195 h32=>?_)
 ·exact aq fol [rZ,cT,rZ,rZ] [2,3,4,5,6,7] [2,3,6] c195 (At.loop N (At.loopN (fun y:Int×(List Int)=>Zar.p2.S x1 A2 y.1 A111 y.2 st) (fun c J hc y h=>Zar.p2_ok (A112:=y.1) (A165:=y.2) h hE hc1 (fun A112 A165=>hc (A112,A165))) N (0,zB 64 0) h31))
 exact aq fol [rZ,cF,rZ,rZ] [2,3,17,18] [2,3,17] c195 (At.loop N (At.loopN (fun y:Int×(List Int)=>Zar.p7.S y.1 A111 y.2 st) (fun c J hc y h=>Zar.p7_ok (A218:=y.1) (A219:=y.2) h hE (fun A218 A219=>hc (A218,A219))) N (0,zB 32 0) h32))
theorem Zar.snd {A0:ByteArray} {r:(List Int)} (h:Zar N A0=some r):Zdo zE 94 [.one (vO A0)] (Zar.rs r):=fun st=>
 sO Zar.B Tryz.func94 fun g0 w0 R hE=>by
  unfold Zar at h;obtain ⟨x1,c1,h33⟩:=Zae h;exact aq fol [rZ,.r [(0,{m:=3})],.r [(1,q1 [.one (vO x1)])],rZ] [2,3,4,5] [2,3] (ZaY.snd c1) (At.loop N (At.loopN (fun y:Int×(List Int)=>Zar.p1.S x1 y.1 y.2 st) (fun c J hc y h=>Zar.p1_ok (A2:=y.1) (A111:=y.2) h hE (fun A2 A111=>hc (A2,A111))) N (0,[1779033703,3144134277,1013904242,2773480762,1359893119,2600822924,528734635,1541459225]) h33))
def ZbH.B:Code:=Tryz.f66.body.getD .skip
def ZbH.rs (r:(List Int)):List CV:=[.agg [zK .u8 32 r]]
def ZbH.p1 (N:Nat) (x1:List Int) (c1_:(ByteArray×Int)→Option (List Int)):(ByteArray×Int)→Option (List Int):=fun (A4,A2)=> if (decide (A2<32))=true then chk (0≤A2)<| chk (isB [[zM .u8 (zF x1 (zC A2) 0)]]=true)<| chk (yC A4+yC (ZkA (vN Zfr [[zM .u8 (zF x1 (zC A2) 0)]]))≤9223372036854775807)<| c1_ (A4++(ZkA (vN Zfr [[zM .u8 (zF x1 (zC A2) 0)]])),w64 (A2+1)) else Zbj (Zar N A4) fun x5=> some x5
def ZbH (N:Nat) (A0:ByteArray):Option (List Int):= Zbj (Zar N A0) fun x1=> loopN (ZbH.p1 N x1) N ((wK #[]),0)
def ZbH.p1.S (A4:ByteArray) (A2:Int) (x1:List Int) (st:LL):S:=mkS 21 [(2,sA 2),(3,sA 3),(4,.one (.l (vO A4))),(5,sI A2)] [(2,.cells [zK .u8 32 (zB 32 0)]),(3,.cells [zK .u8 32 x1])] st
theorem ZbH.p1_ok {A4 A2 x1 st r c1_ J1} (h:ZbH.p1 N x1 c1_ (A4,A2)=some r) (hE:En Tryz.f66 g0 w0 (ZbH.rs r) st R) (hc1 : ∀A4 A2,c1_ (A4,A2)=some r→At g0 w0 (ZbH.p1.S A4 A2 x1 st) J1):At g0 w0 (ZbH.p1.S A4 A2 x1 st) (XK zE R (cK ZbH.B [1,1,1,0,1,0,0] :: .h J1 :: [.b 0,cK ZbH.B [1,1,1,1]])):=by
 unfold ZbH.p1 at h;refine Zba h (fun c7 h1=>?_) (fun c7 h2=>?_)
 ·obtain ⟨c8,c9,c10,h3⟩:=ck3 h1;exact an fol [rZ,cT,rZ,rZ] [2,3,4,5] [2,3] (aN c7 c8 (oD c7) z0 (eN (1)) c9 c10) (hc1 (A4++(ZkA (vN Zfr [[zM .u8 (zF x1 (zC A2) 0)]]))) (w64 (A2+1)) h3)
 obtain ⟨x5,c11,h4⟩:=Zae h2;exact xS fol h4 hE [rZ,cF,.r [(1,q1 [.agg [zK .u8 32 x5]])]] (aI c7 (Zar.snd c11))
theorem ZbH.snd {A0:ByteArray} {r:(List Int)} (h:ZbH N A0=some r):Zdo zE 66 [.one (vO A0)] (ZbH.rs r):=fun st=>
 sO ZbH.B Tryz.func66 fun g0 w0 R hE=>by
  unfold ZbH at h;obtain ⟨x1,c1,h5⟩:=Zae h;exact aq fol [rZ,.r [(1,q1 [.agg [zK .u8 32 x1]])],rZ,rZ] [2,3,4,5] [2,3] (Zar.snd c1) (At.loop N (At.loopN (fun y:ByteArray×Int=>ZbH.p1.S y.1 y.2 x1 st) (fun c J hc y h=>ZbH.p1_ok (A4:=y.1) (A2:=y.2) h hE (fun A4 A2=>hc (A4,A2))) N ((wK #[]),0) h5))
def ZcZ.B:Code:=Tryz.f39.body.getD .skip
def ZcZ.rs (r:(List Int)):List CV:=[.agg [zK .u8 32 r]]
def ZcZ (N:Nat) (h_0:Zal):Option (List Int):= Zbj (ZcR N h_0) fun x1=> if (!x1)=true then some (zB 32 0) else Zbj (ZdE N h_0) fun x2=> Zbj (ZbH N x2) fun x3=> some x3
theorem ZcZ.snd {h_0:Zal} {r:(List Int)} (h:ZcZ N h_0=some r):Zdo zE 39 [.agg h_0.ls] (ZcZ.rs r):=fun st=>
 sO ZcZ.B Tryz.func39 fun g0 w0 R hE=>by
  unfold ZcZ at h;obtain ⟨x1,c1,h1⟩:=Zae h;let o1:List PS:=[rZ,.r [(1,q1 [oB x1])]]
  refine Zba h1 (fun c2 h2=>?_) (fun c2 h3=>?_)
  ·exact xS fol h2 hE (o1++[cT,rZ]) (aI (ZcR.snd c1) c2)
  obtain ⟨x2,c3,h4⟩:=Zae h3;obtain ⟨x3,c4,h5⟩:=Zae h4;exact xS fol h5 hE (o1++[cF,.r [(1,q1 [.one (vO x2)]),(2,q1 [.agg [zK .u8 32 x3]])]]) (aK (ZcR.snd c1) c2 (ZdE.snd c3) (ZbH.snd c4))
def ZdX.B:Code:=Tryz.f101.body.getD .skip
def ZdX.rs (r:(List Int)):List CV:=[.agg [zK .u64 4 r]]
def ZdX (N:Nat) (A0_0:List Int) (A1:Int):Option (List Int):= chk (0≤(w64 (zR A1 64)))<| chk ((w64 (zR A1 64))<4)<| chk (0≤(v64 (yA A1 64)))<| some (zQ A0_0 (zC (w64 (zR A1 64))) (ZaG .or .u64 (zF A0_0 (zC (w64 (zR A1 64))) 0) (ZbB .u64 1 (v64 (yA A1 64)))))
theorem ZdX.snd {A0_0:List Int} {A1:Int} {r:(List Int)} (h:ZdX N A0_0 A1=some r):Zdo zE 101 [.agg [zK .u64 4 A0_0],oI A1] (ZdX.rs r):=fun st=>
 sO ZdX.B Tryz.func101 fun g0 w0 R hE=>by
  unfold ZdX at h;obtain ⟨c1,c2,c3,h1⟩:=ck3 h;exact xS fol h1 hE [rZ,rZ,rZ] (aO (neI 64) (neI 64) c1 c2 (neI 64) c3 c1 c2)
def Zbc.B:Code:=Tryz.f74.body.getD .skip
def Zbc.rs (r:(List Int)×Bool):List CV:=[.agg [zK .u64 4 r.1],oB r.2]
def Zbc.p2 (N:Nat) (c1_:(Int×Int×(List Int))→Option ((List Int)×Bool)) (A2 x8 x9 A1:Int) (A0_0 A1_0 A11:List Int):Option ((List Int)×Bool):= c1_ (w64 (zR (w64 ((w64 (x8+x9))+A1)) 2),w64 (A2+1),A11)
def Zbc.p1 (N:Nat) (A0_0 A1_0:List Int) (c1_:(Int×Int×(List Int))→Option ((List Int)×Bool)):(Int×Int×(List Int))→Option ((List Int)×Bool):=fun (A1,A2,A7)=> if (decide (A2<256))=true then Zbj (ZcL N A0_0 A2) fun x8=> Zbj (ZcL N A1_0 A2) fun x9=> if ((yA (w64 ((w64 (x8+x9))+A1)) 2)==1)=true then Zbj (ZdX N A7 A2) fun x10=> Zbc.p2 N c1_ A2 x8 x9 A1 A0_0 A1_0 x10 else Zbc.p2 N c1_ A2 x8 x9 A1 A0_0 A1_0 A7 else some (A7,A1==1)
def Zbc (N:Nat) (A0_0 A1_0:List Int):Option ((List Int)×Bool):= loopN (Zbc.p1 N A0_0 A1_0) N (0,0,zB 4 0)
def Zbc.p2.S (A2 x8 x9 A1:Int) (A0_0 A1_0 A11:List Int) (st:LL):S:=mkS 35 [(2,sA 2),(3,sA 3),(4,sA 4),(6,sA 6),(8,sI A2),(9,sI (w64 ((w64 (x8+x9))+A1)))] [(2,.cells [zK .u64 4 A0_0]),(3,.cells [zK .u64 4 A1_0]),(4,.cells [zK .u64 4 (zB 4 0)]),(6,.cells [zK .u64 4 A11])] st
def Zbc.p1.S (A1 A2:Int) (A0_0 A1_0 A7:List Int) (st:LL):S:=mkS 35 [(2,sA 2),(3,sA 3),(4,sA 4),(6,sA 6),(7,sI A1),(8,sI A2)] [(2,.cells [zK .u64 4 A0_0]),(3,.cells [zK .u64 4 A1_0]),(4,.cells [zK .u64 4 (zB 4 0)]),(6,.cells [zK .u64 4 A7])] st
theorem Zbc.p2_ok {A2 x8 x9 A1 A0_0 A1_0 A11 st r c1_ J1} (h:Zbc.p2 N c1_ A2 x8 x9 A1 A0_0 A1_0 A11=some r) (hE:En Tryz.f74 g0 w0 (Zbc.rs r) st R) (hc1 : ∀A1 A2 A7,c1_ (A1,A2,A7)=some r→At g0 w0 (Zbc.p1.S A1 A2 A0_0 A1_0 A7 st) J1):At g0 w0 (Zbc.p2.S A2 x8 x9 A1 A0_0 A1_0 A11 st) (XK zE R [cK Zbc.B [1,1,1,0,1,0,0,1,0,0,1,1],.b 1,cK Zbc.B [1,1,1,0,1,0,0,1,1],.h J1,.b 0,cK Zbc.B [1,1,1,1]]):=by
 unfold Zbc.p2 at h;exact an fol [rZ,rZ] [2,3,4,6,7,8] [2,3,4,6] (neI 2) (hc1 (w64 (zR (w64 ((w64 (x8+x9))+A1)) 2)) (w64 (A2+1)) A11 h)
theorem Zbc.p1_ok {A1 A2 A0_0 A1_0 A7 st r c1_ J1} (h:Zbc.p1 N A0_0 A1_0 c1_ (A1,A2,A7)=some r) (hE:En Tryz.f74 g0 w0 (Zbc.rs r) st R) (hc1 : ∀A1 A2 A7,c1_ (A1,A2,A7)=some r→At g0 w0 (Zbc.p1.S A1 A2 A0_0 A1_0 A7 st) J1):At g0 w0 (Zbc.p1.S A1 A2 A0_0 A1_0 A7 st) (XK zE R (cK Zbc.B [1,1,1,0,1,0,0] :: .h J1 :: [.b 0,cK Zbc.B [1,1,1,1]])):=by
 unfold Zbc.p1 at h;refine Zba h (fun c6 h1=>?_) (fun c6 h2=>?_)
 ·obtain ⟨x8,c7,h3⟩:=Zae h1;obtain ⟨x9,c8,h4⟩:=Zae h3;let o1:List PS:=[rZ,cT,.d {ds:=[(2,q1 [oI x8]),(5,q1 [oI x9])],hv:=0,Hs:=[]},rZ]
  have t1 {Q:Prop} (q:Q):=aL c6 (ZcL.snd c7) (ZcL.snd c8) (neI 2) q;refine Zba h4 (fun c9 h5=>?_) (fun c9 h6=>?_)
  ·obtain ⟨x10,c10,h7⟩:=Zae h5;exact aqd fol (o1++[cT,.r [(2,q1 [.agg [zK .u64 4 x10]])],.s 6]) [2,3,4,6,8,9] [2,3,4,6] (t1 (aI c9 (ZdX.snd c10))) (Zbc.p2_ok h7 hE hc1)
  exact aqd fol (o1++[cF,.s 6]) [2,3,4,6,8,9] [2,3,4,6] (t1 c9) (Zbc.p2_ok h6 hE hc1)
 exact xS fol h2 hE [rZ,cF,rZ] c6
theorem Zbc.snd {A0_0 A1_0:List Int} {r:(List Int)×Bool} (h:Zbc N A0_0 A1_0=some r):Zdo zE 74 [.agg [zK .u64 4 A0_0],.agg [zK .u64 4 A1_0]] (Zbc.rs r):=fun st=>
 sO Zbc.B Tryz.func74 fun g0 w0 R hE=>by
  unfold Zbc at h;exact aq fol [rZ,rZ,rZ,rZ] [2,3,4,6,7,8] [2,3,4,6] trivial (At.loop N (At.loopN (fun y:Int×Int×(List Int)=>Zbc.p1.S y.1 y.2.1 A0_0 A1_0 y.2.2 st) (fun c J hc y h=>Zbc.p1_ok (A1:=y.1) (A2:=y.2.1) (A7:=y.2.2) h hE (fun A1 A2 A7=>hc (A1,A2,A7))) N (0,0,zB 4 0) h))
def Zbz.B:Code:=Tryz.f102.body.getD .skip
def Zbz.rs (r:(List Int)):List CV:=[.agg [zK .u64 4 r]]
def Zbz.p2 (N:Nat) (c1_:(Int×(List Int))→Option (List Int)) (A1:Int) (A0_0 A8:List Int):Option (List Int):= c1_ (w64 (A1+1),A8)
def Zbz.p1 (N:Nat) (A0_0:List Int) (c1_:(Int×(List Int))→Option (List Int)):(Int×(List Int))→Option (List Int):=fun (A1,A5)=> if (decide (A1<256))=true then Zbj (ZcL N A0_0 A1) fun x6=> if (x6==0)=true then Zbj (ZdX N A5 A1) fun x7=> Zbz.p2 N c1_ A1 A0_0 x7 else Zbz.p2 N c1_ A1 A0_0 A5 else some A5
def Zbz (N:Nat) (A0_0:List Int):Option (List Int):= loopN (Zbz.p1 N A0_0) N (0,zB 4 0)
def Zbz.p2.S (A1:Int) (A0_0 A8:List Int) (st:LL):S:=mkS 18 [(1,sA 1),(2,sA 2),(3,sA 3),(4,sI A1)] [(1,.cells [zK .u64 4 A0_0]),(2,.cells [zK .u64 4 (zB 4 0)]),(3,.cells [zK .u64 4 A8])] st
def Zbz.p1.S (A1:Int) (A0_0 A5:List Int) (st:LL):S:=mkS 18 [(1,sA 1),(2,sA 2),(3,sA 3),(4,sI A1)] [(1,.cells [zK .u64 4 A0_0]),(2,.cells [zK .u64 4 (zB 4 0)]),(3,.cells [zK .u64 4 A5])] st
theorem Zbz.p2_ok {A1 A0_0 A8 st r c1_ J1} (h:Zbz.p2 N c1_ A1 A0_0 A8=some r) (hE:En Tryz.f102 g0 w0 (Zbz.rs r) st R) (hc1 : ∀A1 A5,c1_ (A1,A5)=some r→At g0 w0 (Zbz.p1.S A1 A0_0 A5 st) J1):At g0 w0 (Zbz.p2.S A1 A0_0 A8 st) (XK zE R [cK Zbz.B [1,1,0,1,0,0,1,1],.h J1,.b 0,cK Zbz.B [1,1,1]]):=by
 unfold Zbz.p2 at h;exact an fol [rZ] [1,2,3,4] [1,2,3] trivial (hc1 (w64 (A1+1)) A8 h)
theorem Zbz.p1_ok {A1 A0_0 A5 st r c1_ J1} (h:Zbz.p1 N A0_0 c1_ (A1,A5)=some r) (hE:En Tryz.f102 g0 w0 (Zbz.rs r) st R) (hc1 : ∀A1 A5,c1_ (A1,A5)=some r→At g0 w0 (Zbz.p1.S A1 A0_0 A5 st) J1):At g0 w0 (Zbz.p1.S A1 A0_0 A5 st) (XK zE R (cK Zbz.B [1,1,0,1,0,0] :: .h J1 :: [.b 0,cK Zbz.B [1,1,1]])):=by
 unfold Zbz.p1 at h;refine Zba h (fun c5 h1=>?_) (fun c5 h2=>?_)
 ·obtain ⟨x6,c6,h3⟩:=Zae h1;let o1:List PS:=[rZ,cT,.r [(2,q1 [oI x6])]]
  refine Zba h3 (fun c7 h4=>?_) (fun c7 h5=>?_)
  ·obtain ⟨x7,c8,h6⟩:=Zae h4;exact aq fol (o1++[cT,.r [(2,q1 [.agg [zK .u64 4 x7]])],.s 4]) [1,2,3,4] [1,2,3] (aK c5 (ZcL.snd c6) c7 (ZdX.snd c8)) (Zbz.p2_ok h6 hE hc1)
  exact aq fol (o1++[cF,.s 4]) [1,2,3,4] [1,2,3] (aJ c5 (ZcL.snd c6) c7) (Zbz.p2_ok h5 hE hc1)
 exact xS fol h2 hE [rZ,cF,rZ] c5
theorem Zbz.snd {A0_0:List Int} {r:(List Int)} (h:Zbz N A0_0=some r):Zdo zE 102 [.agg [zK .u64 4 A0_0]] (Zbz.rs r):=fun st=>
 sO Zbz.B Tryz.func102 fun g0 w0 R hE=>by
  unfold Zbz at h;exact aq fol [rZ,rZ,rZ] [1,2,3,4] [1,2,3] trivial (At.loop N (At.loopN (fun y:Int×(List Int)=>Zbz.p1.S y.1 A0_0 y.2 st) (fun c J hc y h=>Zbz.p1_ok (A1:=y.1) (A5:=y.2) h hE (fun A1 A5=>hc (A1,A5))) N (0,zB 4 0) h))
def Zda.B:Code:=Tryz.f75.body.getD .skip
def Zda.rs (r:(List Int)):List CV:=[.agg [zK .u64 4 r]]
def Zda (N:Nat):Option (List Int):= Zbj (Zbz N (zB 4 0)) fun x1=> some x1
theorem Zda.snd {r:(List Int)} (h:Zda N=some r):Zdo zE 75 [] (Zda.rs r):=fun st=>
 sO Zda.B Tryz.func75 fun g0 w0 R hE=>by
  unfold Zda at h;obtain ⟨x1,c1,h1⟩:=Zae h;exact xS fol h1 hE [rZ,.r [(1,q1 [.agg [zK .u64 4 x1]])]] (Zbz.snd c1)
def ZdY.B:Code:=Tryz.f98.body.getD .skip
def ZdY.rs (r:(List Int)×Bool):List CV:=[.agg [zK .u64 4 r.1],oB r.2]
def ZdY (N:Nat) (A0_0 A1_0:List Int):Option ((List Int)×Bool):= Zbj (Zbz N A1_0) fun x1=> Zbj (Zbc N A0_0 x1) fun (x2,x3)=> Zbj (Zbc N x2 [1,0,0,0]) fun (x4,x5)=> Zbj (Zbt N A0_0 A1_0) fun x6=> some (x4,x6)
theorem ZdY.snd {A0_0 A1_0:List Int} {r:(List Int)×Bool} (h:ZdY N A0_0 A1_0=some r):Zdo zE 98 [.agg [zK .u64 4 A0_0],.agg [zK .u64 4 A1_0]] (ZdY.rs r):=fun st=>
 sO ZdY.B Tryz.func98 fun g0 w0 R hE=>by
  unfold ZdY at h;obtain ⟨x1,c1,h1⟩:=Zae h;obtain ⟨⟨x2,x3⟩,c2,h2⟩:=Zae h1;obtain ⟨⟨x4,x5⟩,c3,h3⟩:=Zae h2;obtain ⟨x6,c4,h4⟩:=Zae h3;exact xSd fol h4 hE [rZ,.d {ds:=[(2,q1 [.agg [zK .u64 4 x1]]),(3,q1 [.agg [zK .u64 4 x2],oB x3])],hv:=384,Hs:=[128,384]},.r [(1,{m:=3}),(2,q1 [.agg [zK .u64 4 x4],oB x5])],.d {ds:=[(3,q1 [oB x6])],hv:=16,Hs:=[16]}] (aM (Zbz.snd c1) (Zbz.snd c1) (Zbc.snd c2) (Zbc.snd c2) (Zbc.snd c3) (Zbt.snd c4))
def Zbp.B:Code:=Tryz.f69.body.getD .skip
def Zbp.rs (r:(List Int)):List CV:=[.agg [zK .u64 4 r]]
def Zbp.p2 (N:Nat) (c1_:(Int×(List Int)×(List Int))→Option (List Int)) (A5:Int) (A0_0 x1 A36 A37:List Int):Option (List Int):= c1_ (w64 (A5-1),A36,A37)
def Zbp.p3 (N:Nat) (A41:List Int):Option (List Int):= some A41
def Zbp.p1 (N:Nat) (A0_0 x1:List Int) (c1_:(Int×(List Int)×(List Int))→Option (List Int)):(Int×(List Int)×(List Int))→Option (List Int):=fun (A5,A23,A24)=> if (decide (A5≥0))=true then Zbj (Zao N x1 A5) fun x25=> Zbj (Zao N x25 (w64 (0-A5))) fun x26=> if (!(x26==x1))=true then Zbp.p2 N c1_ A5 A0_0 x1 A23 A24 else Zbj (ZdY N x25 [1,0,0,0]) fun (x27,x28)=> Zbj (Zbt N A24 x27) fun x29=> if (!x29)=true then Zbj (ZdY N A24 x25) fun (x30,x31)=> Zbj (Zao N [1,0,0,0] A5) fun x32=> Zbj (Zbc N A23 x32) fun (x33,x34)=> Zbj (Zda N ) fun x35=> if (x30==x35)=true then some x33 else Zbp.p2 N c1_ A5 A0_0 x1 x33 x30 else Zbp.p2 N c1_ A5 A0_0 x1 A23 A24 else Zbj (Zbt N A24 A0_0) fun x38=> if (!x38)=true then Zbj (Zbc N A23 [1,0,0,0]) fun (x39,x40)=> Zbp.p3 N x39 else Zbp.p3 N A23
def Zbp (N:Nat) (A0_0:List Int):Option (List Int):= Zbj (Zbc N A0_0 [1,0,0,0]) fun (x1,x2)=> if x2=true then some [1,0,0,0] else if (A0_0==(zB 4 0))=true then Zbj (Zda N ) fun x3=> some x3 else Zbj (Zda N ) fun x4=> loopN (Zbp.p1 N A0_0 x1) N (255,zB 4 0,x4)
def Zbp.p2.S (A5:Int) (A0_0 x1 A36 A37:List Int) (st:LL):S:=mkS 79 [(1,sA 1),(2,sA 2),(3,sA 3),(4,sA 4),(6,sA 6),(7,sA 7),(8,sI A5)] [(1,.cells [zK .u64 4 A0_0]),(2,.cells [zK .u64 4 (zB 4 0)]),(3,.cells [zK .u64 4 [1,0,0,0]]),(4,.cells [zK .u64 4 x1]),(6,.cells [zK .u64 4 A36]),(7,.cells [zK .u64 4 A37])] st
def Zbp.p3.S (A41:List Int) (st:LL):S:=mkS 79 [(2,sA 2),(6,sA 6)] [(2,.cells [zK .u64 4 (zB 4 0)]),(6,.cells [zK .u64 4 A41])] st
def Zbp.p1.S (A5:Int) (A0_0 x1 A23 A24:List Int) (st:LL):S:=mkS 79 [(1,sA 1),(2,sA 2),(3,sA 3),(4,sA 4),(6,sA 6),(7,sA 7),(8,sI A5)] [(1,.cells [zK .u64 4 A0_0]),(2,.cells [zK .u64 4 (zB 4 0)]),(3,.cells [zK .u64 4 [1,0,0,0]]),(4,.cells [zK .u64 4 x1]),(6,.cells [zK .u64 4 A23]),(7,.cells [zK .u64 4 A24])] st
theorem Zbp.p2_ok {A5 A0_0 x1 A36 A37 st r c1_ J1} (h:Zbp.p2 N c1_ A5 A0_0 x1 A36 A37=some r) (hE:En Tryz.f69 g0 w0 (Zbp.rs r) st R) (hc1 : ∀A5 A23 A24,c1_ (A5,A23,A24)=some r→At g0 w0 (Zbp.p1.S A5 A0_0 x1 A23 A24 st) J1):At g0 w0 (Zbp.p2.S A5 A0_0 x1 A36 A37 st) (XK zE R [cK Zbp.B [1,1,1,1,1,1,1,0,1,0,0,1,1],.h J1,.b 0,cK Zbp.B [1,1,1,1,1,1,1,1]]):=by
 unfold Zbp.p2 at h;exact an fol [rZ] [1,2,3,4,6,7,8] [1,2,3,4,6,7] trivial (hc1 (w64 (A5-1)) A36 A37 h)
theorem Zbp.p3_ok {A41 st r} (h:Zbp.p3 N A41=some r) (hE:En Tryz.f69 g0 w0 (Zbp.rs r) st R):At g0 w0 (Zbp.p3.S A41 st) (XK zE R [cK Zbp.B [1,1,1,1,1,1,1,1,1]]):=by
 unfold Zbp.p3 at h;exact xS fol h hE [rZ] trivial
theorem Zbp.p1_ok {A5 A0_0 x1 A23 A24 st r c1_ J1} (h:Zbp.p1 N A0_0 x1 c1_ (A5,A23,A24)=some r) (hE:En Tryz.f69 g0 w0 (Zbp.rs r) st R) (hc1 : ∀A5 A23 A24,c1_ (A5,A23,A24)=some r→At g0 w0 (Zbp.p1.S A5 A0_0 x1 A23 A24 st) J1):At g0 w0 (Zbp.p1.S A5 A0_0 x1 A23 A24 st) (XK zE R (cK Zbp.B [1,1,1,1,1,1,1,0,1,0,0] :: .h J1 :: [.b 0,cK Zbp.B [1,1,1,1,1,1,1,1]])):=by
 unfold Zbp.p1 at h;refine Zba h (fun c21 h1=>?_) (fun c21 h2=>?_)
 ·obtain ⟨x25,c22,h3⟩:=Zae h1;obtain ⟨x26,c23,h4⟩:=Zae h3;let o1:List PS:=[rZ,cT,.r [(2,q1 [.agg [zK .u64 4 x25]])],.d {ds:=[(3,q1 [.agg [zK .u64 4 x26]])],hv:=0,Hs:=[]}]
  have t1 {Q:Prop} (q:Q):=aK c21 (Zao.snd c22) (Zao.snd c23) q;refine Zba h4 (fun c24 h5=>?_) (fun c24 h6=>?_)
  ·exact aqd fol (o1++[cT,.s 4]) [1,2,3,4,6,7,8] [1,2,3,4,6,7] (t1 c24) (Zbp.p2_ok h5 hE hc1)
  obtain ⟨⟨x27,x28⟩,c25,h7⟩:=Zae h6;obtain ⟨x29,c26,h8⟩:=Zae h7;let o2:List PS:=o1++[cF,.r [(2,q1 [.agg [zK .u64 4 x27],oB x28])],.r [(2,q1 [oB x29])]]
  have t2 {Q:Prop} (q:Q):=t1 (aK c24 (ZdY.snd c25) (Zbt.snd c26) q);refine Zba h8 (fun c27 h9=>?_) (fun c27 h10=>?_)
  ·obtain ⟨⟨x30,x31⟩,c28,h11⟩:=Zae h9;obtain ⟨x32,c29,h12⟩:=Zae h11;obtain ⟨⟨x33,x34⟩,c30,h13⟩:=Zae h12;obtain ⟨x35,c31,h14⟩:=Zae h13;let o3:List PS:=o2++[cT,.r [(2,q1 [.agg [zK .u64 4 x30],oB x31])],.d {ds:=[(3,q1 [.agg [zK .u64 4 x32]]),(4,q1 [.agg [zK .u64 4 x33],oB x34])],hv:=256,Hs:=[256]},.d {ds:=[(1,q1 [.agg [zK .u64 4 x35]])],hv:=0,Hs:=[]}]
   have t3 {Q:Prop} (q:Q):=t2 (aM c27 (ZdY.snd c28) (Zao.snd c29) (Zbc.snd c30) (Zda.snd c31) q);refine Zba h14 (fun c32 h15=>?_) (fun c32 h16=>?_)
   ·exact xSd fol h15 hE (o3++[cT,rZ]) (t3 c32)
   exact aqd fol (o3++[cF,.s 4]) [1,2,3,4,6,7,8] [1,2,3,4,6,7] (t3 c32) (Zbp.p2_ok h16 hE hc1)
  exact aqd fol (o2++[cF,.s 4]) [1,2,3,4,6,7,8] [1,2,3,4,6,7] (t2 c27) (Zbp.p2_ok h10 hE hc1)
 obtain ⟨x38,c33,h17⟩:=Zae h2;let o4:List PS:=[rZ,cF,.r [(2,q1 [oB x38])]]
 refine Zba h17 (fun c34 h18=>?_) (fun c34 h19=>?_)
 ·obtain ⟨⟨x39,x40⟩,c35,h20⟩:=Zae h18;exact aq fol (o4++[cT,.r [(2,q1 [.agg [zK .u64 4 x39],oB x40])],.s 1]) [2,6] [2,6] (aK c21 (Zbt.snd c33) c34 (Zbc.snd c35)) (Zbp.p3_ok h20 hE)
 exact aq fol (o4++[cF,.s 1]) [2,6] [2,6] (aJ c21 (Zbt.snd c33) c34) (Zbp.p3_ok h19 hE)
theorem Zbp.snd {A0_0:List Int} {r:(List Int)} (h:Zbp N A0_0=some r):Zdo zE 69 [.agg [zK .u64 4 A0_0]] (Zbp.rs r):=fun st=>
 sO Zbp.B Tryz.func69 fun g0 w0 R hE=>by
  unfold Zbp at h;obtain ⟨⟨x1,x2⟩,c1,h21⟩:=Zae h;let o5:List PS:=[rZ,.r [(0,{m:=3})],.r [(2,q1 [.agg [zK .u64 4 x1],oB x2])],rZ]
  have t4 {Q:Prop} (q:Q):=aI (Zbc.snd c1) q;refine Zba h21 (fun c2 h22=>?_) (fun c2 h23=>?_)
  ·exact xS fol h22 hE (o5++[cT,rZ]) (t4 c2)
  refine Zba h23 (fun c3 h24=>?_) (fun c3 h25=>?_)
  ·obtain ⟨x3,c4,h26⟩:=Zae h24;exact xS fol h26 hE (o5++[cF,rZ,cT,.r [(0,q1 [.agg [zK .u64 4 x3]])]]) (t4 (aJ c2 c3 (Zda.snd c4)))
  obtain ⟨x4,c5,h27⟩:=Zae h25;exact aq fol (o5++[cF,rZ,cF,rZ,.r [(0,q1 [.agg [zK .u64 4 x4]])],rZ]) [1,2,3,4,6,7,8] [1,2,3,4,6,7] (t4 (aJ c2 c3 (Zda.snd c5))) (At.loop N (At.loopN (fun y:Int×(List Int)×(List Int)=>Zbp.p1.S y.1 A0_0 x1 y.2.1 y.2.2 st) (fun c J hc y h=>Zbp.p1_ok (A5:=y.1) (A23:=y.2.1) (A24:=y.2.2) h hE (fun A5 A23 A24=>hc (A5,A23,A24))) N (255,zB 4 0,x4) h27))
def Zcj.B:Code:=Tryz.f40.body.getD .skip
def Zcj.rs (r:(List Int)):List CV:=[.agg [zK .u64 4 r]]
def Zcj (N:Nat) (A0:Int):Option (List Int):= Zbj (ZaQ N A0) fun (x1,x2,x3)=> if x2=true then some (zB 4 0) else if x3=true then some (zB 4 0) else if (x1==(zB 4 0))=true then some (zB 4 0) else Zbj (Zbp N x1) fun x4=> some x4
theorem Zcj.snd {A0:Int} {r:(List Int)} (h:Zcj N A0=some r):Zdo zE 40 [oI A0] (Zcj.rs r):=fun st=>
 sO Zcj.B Tryz.func40 fun g0 w0 R hE=>by
  unfold Zcj at h;obtain ⟨⟨x1,x2,x3⟩,c1,h1⟩:=Zae h;let o1:List PS:=[rZ,.r [(1,q1 [.agg [zK .u64 4 x1],oB x2,oB x3])]]
  have t1 {Q:Prop} (q:Q):=aI (ZaQ.snd c1) q;refine Zba h1 (fun c2 h2=>?_) (fun c2 h3=>?_)
  ·exact xS fol h2 hE (o1++[.r [(2,wF),(5,wF),(6,wF),(7,wF)],cT,rZ]) (t1 (aN c2 c2 eT eT eT eT eT))
  refine Zba h3 (fun c3 h4=>?_) (fun c3 h5=>?_)
  ·exact xS fol h4 hE (o1++[.r [(3,yF),(5,wF),(6,wF),(7,wF)],cT,rZ]) (t1 (aN c2 c2 c3 c3 c3 c3 eT))
  let o2:List PS:=o1++[.r [(3,yF),(8,yF)]]
  refine Zba h5 (fun c4 h6=>?_) (fun c4 h7=>?_)
  ·exact xS fol h6 hE (o2++[cT,rZ]) (t1 (aN c2 c2 c3 c3 c3 c3 c4))
  obtain ⟨x4,c5,h8⟩:=Zae h7;exact xS fol h8 hE (o2++[cF,.r [(1,q1 [.agg [zK .u64 4 x4]])]]) (t1 (aO c2 c2 c3 c3 c3 c3 c4 (Zbp.snd c5)))
def Zex.B:Code:=Tryz.f18.body.getD .skip
def Zex.rs (r:(Option Nat)×LL):List CV:=[.one (yN r.1)]
def Zex (N:Nat) (A0:Zah) (A1:Int) (st:LL):Option ((Option Nat)×LL):= Zbj (ZcZ N A0.Genesis) fun x1=> Zbj (Zcj N A0.Genesis.Bits) fun x2=> some ((some (zG st)),st++[Zac.lo (Zac.mk A0 [A0.Genesis.ls] [[zK .u8 32 x1]] [[zM .i64 (-1)]] [[zK .u64 4 x2]] (if (512:Int)<(if (1:Int)>A1 then 1 else A1) then 512 else (if (1:Int)>A1 then 1 else A1)))])
theorem Zex.snd {A0:Zah} {A1:Int} {st:LL} {r:(Option Nat)×LL} (h:Zex N A0 A1 st=some r):Snd zE 18 [.agg A0.ls,oI A1] st (Zex.rs r) r.2:=
 sO Zex.B Tryz.func18 fun g0 w0 R hE=>by
  unfold Zex at h;obtain ⟨x1,c1,h1⟩:=Zae h;obtain ⟨x2,c2,h2⟩:=Zae h1;exact xTd fol h2 hE [rZ,.d {ds:=[(6,q1 [.agg [zK .u8 32 x1]]),(12,q1 [.agg [zK .u64 4 x2]]),(17,{mv:=[15,16,17,18]}),(18,{m:=1,mv:=[8,12,13,18],fz:=[8,12,13,18]})],hv:=270728,Hs:=[8,128,136,256,264,384,392,8192,8200,8320,8328,8448,8456,8576,8584,270728]}] (aO (ZcZ.snd c1) (ZcZ.snd c1) (ZcZ.snd c1) (ZcZ.snd c1) (Zcj.snd c2) (Zcj.snd c2) (Zcj.snd c2) (aO (Zcj.snd c2) (Zcj.snd c2) (Zcj.snd c2) (Zcj.snd c2) (Zcj.snd c2) z0 (eN (1)) (aM z0 (eN (1)) z0 (eN (1)) z0 (eN (1)))))
def ZeT.B:Code:=Tryz.f132.body.getD .skip
def ZeT.rs (r:Int):List CV:=[oI r]
def ZeT (N:Nat) (A0:Zah) (A1 A2:Int):Option Int:= some (if (w64 ((w64 (A0.Interval*A0.Spacing))*4))<(if (w64 (zR (w64 (A0.Interval*A0.Spacing)) 4))>(w64 (A2-A1)) then (w64 (zR (w64 (A0.Interval*A0.Spacing)) 4)) else (w64 (A2-A1))) then (w64 ((w64 (A0.Interval*A0.Spacing))*4)) else (if (w64 (zR (w64 (A0.Interval*A0.Spacing)) 4))>(w64 (A2-A1)) then (w64 (zR (w64 (A0.Interval*A0.Spacing)) 4)) else (w64 (A2-A1))))
theorem ZeT.snd {A0:Zah} {A1 A2:Int} {r:Int} (h:ZeT N A0 A1 A2=some r):Zdo zE 132 [.agg A0.ls,oI A1,oI A2] (ZeT.rs r):=fun st=>
 sO ZeT.B Tryz.func132 fun g0 w0 R hE=>by
  unfold ZeT at h;exact xS fol h hE [rZ,rZ,rZ] (neI 4)
def ZbP.B:Code:=Tryz.f151.body.getD .skip
def ZbP.rs (r:Int):List CV:=[oI r]
def ZbP (N:Nat) (A0:Int):Option Int:= Zbj (ZaB N A0) fun x1=> some (w64 (64-x1))
theorem ZbP.snd {A0:Int} {r:Int} (h:ZbP N A0=some r):Zdo zE 151 [.one (zM .u64 A0)] (ZbP.rs r):=fun st=>
 sO ZbP.B Tryz.func151 fun g0 w0 R hE=>by
  unfold ZbP at h;obtain ⟨x1,c1,h1⟩:=Zae h;exact xS fol h1 hE [rZ,.r [(1,q1 [oI x1])]] (ZaB.snd c1)
end Go.Dn.F
end
