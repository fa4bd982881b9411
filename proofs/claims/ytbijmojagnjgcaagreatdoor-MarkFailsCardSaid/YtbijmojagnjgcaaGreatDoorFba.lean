import Derived.Test.YtbijmojagnjgcaaGreatDoorFm
import Derived.Test.YtbijmojagnjgcaaGreatDoorMv
set_option linter.all false
open Array renaming toList→rE
open ByteArray renaming size→zY,mk→xX,data→sQ
open Go.Dn.L renaming int→zJ,arr→zH,bool→xL,sl→vO,own→yB,ptr→zQ,str→vD
open Go.Proofs.Tryz renaming prog→zC
open Int renaming tdiv→zR,tmod→zW,toNat→zD
open List renaming set→zM,getD→zF,replicate→zB,length→zK,map→wZ
noncomputable section
set_option maxRecDepth 100000
namespace Go.Dn.F
open Go.Proofs
variable {N:Nat} {g0:G} {w0:World} {R:Exit→Act→World→Prop}
structure ZcN where
  Height:Int
  Version:Int
def ZcN.ls (x:ZcN):List L:=[zJ .i64 x.Height,zJ .i64 x.Version]
def ZeO {α:Type} (l:List L) (k:ZcN→Option α):Option α:=match l with | [zJ .i64 x0,zJ .i64 x1]=>k ⟨x0,x1⟩ | _=>none
theorem ZeU {α:Type} {o:Option (List L)} {k:ZcN→Option α} {r:α} (h:ZcY o ZeO k=some r) : ∃x:ZcN,o=some x.ls∧k x=some r:=by
  obtain ⟨l,e,k1⟩:=Zac h;subst e;unfold ZeO at k1;split at k1
  · exact ⟨_,rfl,k1⟩
  cases k1
@[simp] theorem Zfn {α:Type} (x:ZcN) (k:ZcN→Option α):ZeO x.ls k=k x:=rfl
theorem ZcN.bv {st:LL} (x:ZcN):BVs st x.ls x.ls:=(bP (bP bN))
structure Zco where
  Height:Int
  Id:List Int
def Zco.ls (x:Zco):List L:=[zJ .i64 x.Height,zH .u8 32 x.Id]
def ZeC {α:Type} (l:List L) (k:Zco→Option α):Option α:=match l with | [zJ .i64 x0,zH .u8 32 x1]=>k ⟨x0,x1⟩ | _=>none
theorem ZeL {α:Type} {o:Option (List L)} {k:Zco→Option α} {r:α} (h:ZcY o ZeC k=some r) : ∃x:Zco,o=some x.ls∧k x=some r:=by
  obtain ⟨l,e,k1⟩:=Zac h;subst e;unfold ZeC at k1;split at k1
  · exact ⟨_,rfl,k1⟩
  cases k1
@[simp] theorem ZeV {α:Type} (x:Zco) (k:Zco→Option α):ZeC x.ls k=k x:=rfl
theorem Zco.bv {st:LL} (x:Zco):BVs st x.ls x.ls:=(bP (bP bN))
structure ZbA where
  Kind:Int
  Header:Zak
  Now:Int
  N:Int
  Right:Bool
def ZbA.ls (x:ZbA):List L:=[zJ .i64 x.Kind,zJ .i64 x.Header.Version,zH .u8 32 x.Header.Prev,zH .u8 32 x.Header.Root,zJ .i64 x.Header.Time,zJ .i64 x.Header.Bits,zJ .i64 x.Header.Nonce,zJ .i64 x.Now,zJ .i64 x.N,xL x.Right]
def ZdI {α:Type} (l:List L) (k:ZbA→Option α):Option α:=match l with | [zJ .i64 x0,zJ .i64 x1,zH .u8 32 x2,zH .u8 32 x3,zJ .i64 x4,zJ .i64 x5,zJ .i64 x6,zJ .i64 x7,zJ .i64 x8,xL x9]=>k ⟨x0,⟨x1,x2,x3,x4,x5,x6⟩,x7,x8,x9⟩ | _=>none
theorem Zfz {α:Type} {o:Option (List L)} {k:ZbA→Option α} {r:α} (h:ZcY o ZdI k=some r) : ∃x:ZbA,o=some x.ls∧k x=some r:=by
  obtain ⟨l,e,k1⟩:=Zac h;subst e;unfold ZdI at k1;split at k1
  · exact ⟨_,rfl,k1⟩
  cases k1
@[simp] theorem ZfC {α:Type} (x:ZbA) (k:ZbA→Option α):ZdI x.ls k=k x:=rfl
theorem ZbA.bv {st:LL} (x:ZbA):BVs st x.ls x.ls:=(bP (bP (bP (bP (bP (bP (bP (bP (bP (bP bN))))))))))
structure Zab where
  Rules:Zae
  List_:LL
  Ids:LL
  Ahead:LL
  Works:LL
  Room:Int
def Zab.lo (x:Zab):List L:=[zJ .i64 x.Rules.Limit,zJ .i64 x.Rules.Interval,zJ .i64 x.Rules.Spacing,zJ .i64 x.Rules.Future,xL x.Rules.Easy,vO 2 x.Rules.Gates,vO 33 x.Rules.Checks,zH .u64 4 x.Rules.MinWork,zH .u64 4 x.Rules.Margin,zJ .i64 x.Rules.Genesis.Version,zH .u8 32 x.Rules.Genesis.Prev,zH .u8 32 x.Rules.Genesis.Root,zJ .i64 x.Rules.Genesis.Time,zJ .i64 x.Rules.Genesis.Bits,zJ .i64 x.Rules.Genesis.Nonce,yB false 68 x.List_,yB false 32 x.Ids,yB false 1 x.Ahead,yB false 4 x.Works,zJ .i64 x.Room]
def ZbH {α:Type} (l:List L) (k:Zab→Option α):Option α:=match l with | [zJ .i64 x0,zJ .i64 x1,zJ .i64 x2,zJ .i64 x3,xL x4,vO 2 x5,vO 33 x6,zH .u64 4 x7,zH .u64 4 x8,zJ .i64 x9,zH .u8 32 x10,zH .u8 32 x11,zJ .i64 x12,zJ .i64 x13,zJ .i64 x14,yB false 68 x15,yB false 32 x16,yB false 1 x17,yB false 4 x18,zJ .i64 x19]=>k ⟨⟨x0,x1,x2,x3,x4,x5,x6,x7,x8,⟨x9,x10,x11,x12,x13,x14⟩⟩,x15,x16,x17,x18,x19⟩ | _=>none
theorem ZbT {α:Type} {o:Option (List L)} {k:Zab→Option α} {r:α} (h:ZcY o ZbH k=some r) : ∃x:Zab,o=some x.lo∧k x=some r:=by
  obtain ⟨l,e,k1⟩:=Zac h;subst e;unfold ZbH at k1;split at k1
  · exact ⟨_,rfl,k1⟩
  cases k1
@[simp] theorem ZbX {α:Type} (x:Zab) (k:Zab→Option α):ZbH x.lo k=k x:=rfl
structure ZaF where
  Said:List Int
  Out:List Bool
def ZaF.ls (x:ZaF):List L:=[zH .i64 600 x.Said,L.brr 600 x.Out]
def ZcC {α:Type} (l:List L) (k:ZaF→Option α):Option α:=match l with | [zH .i64 600 x0,L.brr 600 x1]=>k ⟨x0,x1⟩ | _=>none
theorem Zdl {α:Type} {o:Option (List L)} {k:ZaF→Option α} {r:α} (h:ZcY o ZcC k=some r) : ∃x:ZaF,o=some x.ls∧k x=some r:=by
  obtain ⟨l,e,k1⟩:=Zac h;subst e;unfold ZcC at k1;split at k1
  · exact ⟨_,rfl,k1⟩
  cases k1
@[simp] theorem ZlW {α:Type} (x:ZaF) (k:ZaF→Option α):ZcC x.ls k=k x:=rfl
theorem ZaF.bv {st:LL} (x:ZaF):BVs st x.ls x.ls:=(bP (bP bN))
def Zab.ls (x:Zab):List L:=[zJ .i64 x.Rules.Limit,zJ .i64 x.Rules.Interval,zJ .i64 x.Rules.Spacing,zJ .i64 x.Rules.Future,xL x.Rules.Easy,vO 2 x.Rules.Gates,vO 33 x.Rules.Checks,zH .u64 4 x.Rules.MinWork,zH .u64 4 x.Rules.Margin,zJ .i64 x.Rules.Genesis.Version,zH .u8 32 x.Rules.Genesis.Prev,zH .u8 32 x.Rules.Genesis.Root,zJ .i64 x.Rules.Genesis.Time,zJ .i64 x.Rules.Genesis.Bits,zJ .i64 x.Rules.Genesis.Nonce,vO 68 x.List_,vO 32 x.Ids,vO 1 x.Ahead,vO 4 x.Works,zJ .i64 x.Room]
theorem Zab.bv {st:LL} (x:Zab):BVs st x.lo x.ls:=(bP (bP (bP (bP (bP (bS (bS (bP (bP (bP (bP (bP (bP (bP (bP (bW (bW (bW (bW (bP bN))))))))))))))))))))
structure Zgo where
  t:Zaz
  m:ZiZ
  a:Zab
  r:ZaF
def Zgo.ls (x:Zgo):List L:=[L.bx 2 x.t.ls,L.bx 2 x.m.ls,L.bx 88 x.a.ls,L.bx 1200 x.r.ls]
def Zip {α:Type} (l:List L) (k:(List Int)→Option α):Option α:=match l with | [zH .u64 4 x0]=>k x0 | _=>none
theorem ZjF {α:Type} {o:Option (List L)} {k:(List Int)→Option α} {r:α} (h:ZcY o Zip k=some r) : ∃x0,o=some [zH .u64 4 x0]∧k x0=some r:=by
  obtain ⟨l,e,k1⟩:=Zac h;subst e;unfold Zip at k1;split at k1
  · exact ⟨_,rfl,k1⟩
  cases k1
@[simp] theorem ZpI {α:Type} (x0:List Int) (k:(List Int)→Option α):Zip [zH .u64 4 x0] k=k x0:=rfl
def Zbm {α:Type} (l:List L) (k:(Option Nat)→(Option Nat)→(Option Nat)→(Option Nat)→Option α):Option α:=match l with | [zQ x0,zQ x1,zQ x2,zQ x3]=>k x0 x1 x2 x3 | _=>none
theorem Zbq {α:Type} {o:Option (List L)} {k:(Option Nat)→(Option Nat)→(Option Nat)→(Option Nat)→Option α} {r:α} (h:ZcY o Zbm k=some r) : ∃x0 x1 x2 x3,o=some [zQ x0,zQ x1,zQ x2,zQ x3]∧k x0 x1 x2 x3=some r:=by
  obtain ⟨l,e,k1⟩:=Zac h;subst e;unfold Zbm at k1;split at k1
  · exact ⟨_,_,_,_,rfl,k1⟩
  cases k1
@[simp] theorem Zmj {α:Type} (x0:Option Nat) (x1:Option Nat) (x2:Option Nat) (x3:Option Nat) (k:(Option Nat)→(Option Nat)→(Option Nat)→(Option Nat)→Option α):Zbm [zQ x0,zQ x1,zQ x2,zQ x3] k=k x0 x1 x2 x3:=rfl
theorem slices_Sort_int.snd:SortC zC 154:=slices_Sort_int.holds
theorem Zel.snd {x y z:Int} {r:Int×Int} (h:Zel N x y z=some r):ExtI zC 157 [(.u64,x),(.u64,y),(.u64,z)] [(.u64,r.1),(.u64,r.2)]:=Zmx Tryz.func157 (by kernel_rfl) (by kernel_rfl) (by kernel_rfl) (by kernel_rfl) h
theorem Zfx.snd {x y z:Int} {r:Int×Int} (h:Zfx N x y z=some r):ExtI zC 166 [(.u64,x),(.u64,y),(.u64,z)] [(.u64,r.1),(.u64,r.2)]:=Zmw Tryz.func166 (by kernel_rfl) (by kernel_rfl) (by kernel_rfl) (by kernel_rfl) h
def ZdD.B:Code:=Tryz.f138.body.getD .skip
def ZdD.rs (r:(List Int)):List CV:=[.agg [zH .u64 4 r]]
def ZdD (N:Nat) (A0:Int):Option (List Int):= some [A0,0,0,0]
theorem ZdD.snd {A0:Int} {r:(List Int)} (h:ZdD N A0=some r):ZdH zC 138 [.one (zJ .u64 A0)] (ZdD.rs r):=fun st=>
 sO ZdD.B Tryz.func138 fun g0 w0 R hE=>by
  unfold ZdD at h;exact xS fol h hE [rZ,.r [(1,{m:=3})]] trivial
def Zbp.B:Code:=Tryz.f139.body.getD .skip
def Zbp.rs (r:(List Int)):List CV:=[.agg [zH .u64 4 r]]
def Zbp.p2 (N:Nat) (c1_:(Int×(List Int))→Option (List Int)) (F1 v1:Int) (A0_0 A4:List Int):Option (List Int):= c1_ (w64 (v1+1),A4)
def Zbp.p1 (N:Nat) (F1:Int) (A0_0:List Int) (c1_:(Int×(List Int))→Option (List Int)):(Int×(List Int))→Option (List Int):=fun (v1,A3)=> if (decide (v1<(w64 (4-(w64 (zR (if (0:Int)>F1 then 0 else F1) 64))))))=true then chk (0≤(w64 (v1+(w64 (zR (if (0:Int)>F1 then 0 else F1) 64)))))<| chk ((w64 (v1+(w64 (zR (if (0:Int)>F1 then 0 else F1) 64))))<4)<| chk (0≤(zW (if (0:Int)>F1 then 0 else F1) 64))<| chk (0≤v1)<| chk (v1<4)<| if (decide ((w64 ((w64 (v1+(w64 (zR (if (0:Int)>F1 then 0 else F1) 64))))+1))<4))=true then chk (0≤(w64 ((w64 (v1+(w64 (zR (if (0:Int)>F1 then 0 else F1) 64))))+1)))<| chk (0≤(w64 (64-(zW (if (0:Int)>F1 then 0 else F1) 64))))<| Zbp.p2 N c1_ F1 v1 A0_0 (zM (zM A3 (zD v1) (Zby .u64 (zF A0_0 (zD (w64 (v1+(w64 (zR (if (0:Int)>F1 then 0 else F1) 64))))) 0) (zW (if (0:Int)>F1 then 0 else F1) 64))) (zD v1) (ZaH .or .u64 (zF (zM A3 (zD v1) (Zby .u64 (zF A0_0 (zD (w64 (v1+(w64 (zR (if (0:Int)>F1 then 0 else F1) 64))))) 0) (zW (if (0:Int)>F1 then 0 else F1) 64))) (zD v1) 0) (ZbM .u64 (zF A0_0 (zD (w64 ((w64 (v1+(w64 (zR (if (0:Int)>F1 then 0 else F1) 64))))+1))) 0) (w64 (64-(zW (if (0:Int)>F1 then 0 else F1) 64)))))) else Zbp.p2 N c1_ F1 v1 A0_0 (zM A3 (zD v1) (Zby .u64 (zF A0_0 (zD (w64 (v1+(w64 (zR (if (0:Int)>F1 then 0 else F1) 64))))) 0) (zW (if (0:Int)>F1 then 0 else F1) 64))) else some A3
def Zbp (N:Nat) (A0_0:List Int) (F1:Int):Option (List Int):= if (decide (F1≥256))=true then some (zB 4 0) else loopN (Zbp.p1 N F1 A0_0) N (0,zB 4 0)
def Zbp.p2.S (F1 v1:Int) (A0_0 A4:List Int) (st:LL):S:=mkS 53 [(2,sA 2),(4,sA 4),(5,sA 5),(6,sI (w64 (zR (if (0:Int)>F1 then 0 else F1) 64))),(7,sI (zW (if (0:Int)>F1 then 0 else F1) 64)),(19,sI (w64 (4-(w64 (zR (if (0:Int)>F1 then 0 else F1) 64))))),(20,sI v1)] [(2,.cells [zH .u64 4 A0_0]),(4,.cells [zH .u64 4 (zB 4 0)]),(5,.cells [zH .u64 4 A4])] st
def Zbp.p1.S (F1 v1:Int) (A0_0 A3:List Int) (st:LL):S:=mkS 53 [(2,sA 2),(4,sA 4),(5,sA 5),(6,sI (w64 (zR (if (0:Int)>F1 then 0 else F1) 64))),(7,sI (zW (if (0:Int)>F1 then 0 else F1) 64)),(19,sI (w64 (4-(w64 (zR (if (0:Int)>F1 then 0 else F1) 64))))),(20,sI v1)] [(2,.cells [zH .u64 4 A0_0]),(4,.cells [zH .u64 4 (zB 4 0)]),(5,.cells [zH .u64 4 A3])] st
theorem Zbp.p2_ok {F1 v1 A0_0 A4 st r c1_ J1} (h:Zbp.p2 N c1_ F1 v1 A0_0 A4=some r) (hE:En Tryz.f139 g0 w0 (Zbp.rs r) st R) (hc1 : ∀v1 A3,c1_ (v1,A3)=some r→At g0 w0 (Zbp.p1.S F1 v1 A0_0 A3 st) J1):At g0 w0 (Zbp.p2.S F1 v1 A0_0 A4 st) (XK zC R [cK Zbp.B [1,1,1,1,0,1,0,0,1,1,1],.h J1,.b 0,cK Zbp.B [1,1,1,1,1]]):=by
 unfold Zbp.p2 at h;exact an fol [rZ] [2,4,5,6,7,19,20] [2,4,5] trivial (hc1 (w64 (v1+1)) A4 h)
theorem Zbp.p1_ok {F1 v1 A0_0 A3 st r c1_ J1} (h:Zbp.p1 N F1 A0_0 c1_ (v1,A3)=some r) (hE:En Tryz.f139 g0 w0 (Zbp.rs r) st R) (hc1 : ∀v1 A3,c1_ (v1,A3)=some r→At g0 w0 (Zbp.p1.S F1 v1 A0_0 A3 st) J1):At g0 w0 (Zbp.p1.S F1 v1 A0_0 A3 st) (XK zC R (cK Zbp.B [1,1,1,1,0,1,0,0] :: .h J1 :: [.b 0,cK Zbp.B [1,1,1,1,1]])):=by
 unfold Zbp.p1 at h;refine Zbc h (fun c11 h1=>?_) (fun c11 h2=>?_)
 ·obtain ⟨c12,c13,c14,c15,c16,h3⟩:=ck5 h1;let o1:List PS:=[rZ,cT,rZ,rZ,rZ]
  refine Zbc h3 (fun c17 h4=>?_) (fun c17 h5=>?_)
  ·obtain ⟨c18,c19,h6⟩:=ck2 h4;exact aqd fol (o1++[cT,.d {ds:=[],hv:=16384,Hs:=[16384]},.s 4]) [2,4,5,6,7,19,20] [2,4,5] (aO c11 c12 c13 c14 c15 c16 c17 (aN c15 c16 c18 (oD c17) c19 c15 c16)) (Zbp.p2_ok h6 hE hc1)
  exact aq fol (o1++[cF,.s 4]) [2,4,5,6,7,19,20] [2,4,5] (aN c11 c12 c13 c14 c15 c16 c17) (Zbp.p2_ok h5 hE hc1)
 exact xS fol h2 hE [rZ,cF,rZ] c11
theorem Zbp.snd {A0_0:List Int} {F1:Int} {r:(List Int)} (h:Zbp N A0_0 F1=some r):ZdH zC 139 [.agg [zH .u64 4 A0_0],oI F1] (Zbp.rs r):=fun st=>
 sO Zbp.B Tryz.func139 fun g0 w0 R hE=>by
  unfold Zbp at h;refine Zbc h (fun c1 h7=>?_) (fun c1 h8=>?_)
  ·exact xS fol h7 hE [rZ,rZ,cT,rZ] c1
  exact aq fol [rZ,rZ,cF,rZ,rZ,rZ] [2,4,5,6,7,19,20] [2,4,5] (aJ c1 (neI 64) (neI 64)) (At.loop N (At.loopN (fun y:Int×(List Int)=>Zbp.p1.S F1 y.1 A0_0 y.2 st) (fun c J hc y h=>Zbp.p1_ok (v1:=y.1) (A3:=y.2) h hE (fun v1 A3=>hc (v1,A3))) N (0,zB 4 0) h8))
def Zcb.B:Code:=Tryz.f140.body.getD .skip
def Zcb.rs (r:(List Int)):List CV:=[.agg [zH .u64 4 r]]
def Zcb.p2 (N:Nat) (c1_:(Int×(List Int))→Option (List Int)) (F1 A1:Int) (A0_0 A4:List Int):Option (List Int):= c1_ (w64 (A1+1),A4)
def Zcb.p1 (N:Nat) (F1:Int) (A0_0:List Int) (c1_:(Int×(List Int))→Option (List Int)):(Int×(List Int))→Option (List Int):=fun (A1,A3)=> if (decide (A1<4))=true then chk (0≤(w64 (A1-(w64 (zR (if (0:Int)>F1 then 0 else F1) 64)))))<| chk ((w64 (A1-(w64 (zR (if (0:Int)>F1 then 0 else F1) 64))))<4)<| chk (0≤(zW (if (0:Int)>F1 then 0 else F1) 64))<| chk (0≤A1)<| if (decide (A1>(w64 (zR (if (0:Int)>F1 then 0 else F1) 64))))=true then chk (0≤(w64 ((w64 (A1-(w64 (zR (if (0:Int)>F1 then 0 else F1) 64))))-1)))<| chk ((w64 ((w64 (A1-(w64 (zR (if (0:Int)>F1 then 0 else F1) 64))))-1))<4)<| chk (0≤(w64 (64-(zW (if (0:Int)>F1 then 0 else F1) 64))))<| Zcb.p2 N c1_ F1 A1 A0_0 (zM (zM A3 (zD A1) (ZbM .u64 (zF A0_0 (zD (w64 (A1-(w64 (zR (if (0:Int)>F1 then 0 else F1) 64))))) 0) (zW (if (0:Int)>F1 then 0 else F1) 64))) (zD A1) (ZaH .or .u64 (zF (zM A3 (zD A1) (ZbM .u64 (zF A0_0 (zD (w64 (A1-(w64 (zR (if (0:Int)>F1 then 0 else F1) 64))))) 0) (zW (if (0:Int)>F1 then 0 else F1) 64))) (zD A1) 0) (Zby .u64 (zF A0_0 (zD (w64 ((w64 (A1-(w64 (zR (if (0:Int)>F1 then 0 else F1) 64))))-1))) 0) (w64 (64-(zW (if (0:Int)>F1 then 0 else F1) 64)))))) else Zcb.p2 N c1_ F1 A1 A0_0 (zM A3 (zD A1) (ZbM .u64 (zF A0_0 (zD (w64 (A1-(w64 (zR (if (0:Int)>F1 then 0 else F1) 64))))) 0) (zW (if (0:Int)>F1 then 0 else F1) 64))) else some A3
def Zcb (N:Nat) (A0_0:List Int) (F1:Int):Option (List Int):= if (decide (F1≥256))=true then some (zB 4 0) else loopN (Zcb.p1 N F1 A0_0) N (w64 (zR (if (0:Int)>F1 then 0 else F1) 64),zB 4 0)
def Zcb.p2.S (F1 A1:Int) (A0_0 A4:List Int) (st:LL):S:=mkS 50 [(2,sA 2),(4,sA 4),(5,sA 5),(6,sI (w64 (zR (if (0:Int)>F1 then 0 else F1) 64))),(7,sI (zW (if (0:Int)>F1 then 0 else F1) 64)),(8,sI A1)] [(2,.cells [zH .u64 4 A0_0]),(4,.cells [zH .u64 4 (zB 4 0)]),(5,.cells [zH .u64 4 A4])] st
def Zcb.p1.S (F1 A1:Int) (A0_0 A3:List Int) (st:LL):S:=mkS 50 [(2,sA 2),(4,sA 4),(5,sA 5),(6,sI (w64 (zR (if (0:Int)>F1 then 0 else F1) 64))),(7,sI (zW (if (0:Int)>F1 then 0 else F1) 64)),(8,sI A1)] [(2,.cells [zH .u64 4 A0_0]),(4,.cells [zH .u64 4 (zB 4 0)]),(5,.cells [zH .u64 4 A3])] st
theorem Zcb.p2_ok {F1 A1 A0_0 A4 st r c1_ J1} (h:Zcb.p2 N c1_ F1 A1 A0_0 A4=some r) (hE:En Tryz.f140 g0 w0 (Zcb.rs r) st R) (hc1 : ∀A1 A3,c1_ (A1,A3)=some r→At g0 w0 (Zcb.p1.S F1 A1 A0_0 A3 st) J1):At g0 w0 (Zcb.p2.S F1 A1 A0_0 A4 st) (XK zC R [cK Zcb.B [1,1,1,1,0,1,0,0,1,1],.h J1,.b 0,cK Zcb.B [1,1,1,1,1]]):=by
 unfold Zcb.p2 at h;exact an fol [rZ] [2,4,5,6,7,8] [2,4,5] trivial (hc1 (w64 (A1+1)) A4 h)
theorem Zcb.p1_ok {F1 A1 A0_0 A3 st r c1_ J1} (h:Zcb.p1 N F1 A0_0 c1_ (A1,A3)=some r) (hE:En Tryz.f140 g0 w0 (Zcb.rs r) st R) (hc1 : ∀A1 A3,c1_ (A1,A3)=some r→At g0 w0 (Zcb.p1.S F1 A1 A0_0 A3 st) J1):At g0 w0 (Zcb.p1.S F1 A1 A0_0 A3 st) (XK zC R (cK Zcb.B [1,1,1,1,0,1,0,0] :: .h J1 :: [.b 0,cK Zcb.B [1,1,1,1,1]])):=by
 unfold Zcb.p1 at h;refine Zbc h (fun c11 h1=>?_) (fun c11 h2=>?_)
 ·obtain ⟨c12,c13,c14,c15,h3⟩:=ck4 h1;refine Zbc h3 (fun c16 h4=>?_) (fun c16 h5=>?_)
  ·obtain ⟨c17,c18,c19,h6⟩:=ck3 h4;exact aqd fol [rZ,cT,rZ,rZ,cT,.d {ds:=[],hv:=16384,Hs:=[16384]},.s 4] [2,4,5,6,7,8] [2,4,5] (aO c11 c12 c13 c14 c15 (oD c11) c16 (aN c15 (oD c11) c17 c18 c19 c15 (oD c11))) (Zcb.p2_ok h6 hE hc1)
  exact aq fol [rZ,cT,rZ,rZ,cF,.s 4] [2,4,5,6,7,8] [2,4,5] (aN c11 c12 c13 c14 c15 (oD c11) c16) (Zcb.p2_ok h5 hE hc1)
 exact xS fol h2 hE [rZ,cF,rZ] c11
theorem Zcb.snd {A0_0:List Int} {F1:Int} {r:(List Int)} (h:Zcb N A0_0 F1=some r):ZdH zC 140 [.agg [zH .u64 4 A0_0],oI F1] (Zcb.rs r):=fun st=>
 sO Zcb.B Tryz.func140 fun g0 w0 R hE=>by
  unfold Zcb at h;refine Zbc h (fun c1 h7=>?_) (fun c1 h8=>?_)
  ·exact xS fol h7 hE [rZ,rZ,cT,rZ] c1
  exact aq fol [rZ,rZ,cF,rZ,rZ,rZ] [2,4,5,6,7,8] [2,4,5] (aJ c1 (neI 64) (neI 64)) (At.loop N (At.loopN (fun y:Int×(List Int)=>Zcb.p1.S F1 y.1 A0_0 y.2 st) (fun c J hc y h=>Zcb.p1_ok (A1:=y.1) (A3:=y.2) h hE (fun A1 A3=>hc (A1,A3))) N (w64 (zR (if (0:Int)>F1 then 0 else F1) 64),zB 4 0) h8))
def ZaR.B:Code:=Tryz.f121.body.getD .skip
def ZaR.rs (r:(List Int)×Bool×Bool):List CV:=[.agg [zH .u64 4 r.1],oB r.2.1,oB r.2.2]
def ZaR.p2 (N:Nat) (A0:Int) (A6:Bool) (A5:List Int):Option ((List Int)×Bool×Bool):= if ((ZaH .and .i64 A0 8388607) != 0)=true then if (decide ((Zby .i64 A0 24)>34))=true then some (A5,A6,true) else if (decide ((ZaH .and .i64 A0 8388607)>255))=true then if (decide ((Zby .i64 A0 24)>33))=true then some (A5,A6,true) else if (decide ((ZaH .and .i64 A0 8388607)>65535))=true then some (A5,A6,decide ((Zby .i64 A0 24)>32)) else some (A5,A6,false) else if (decide ((ZaH .and .i64 A0 8388607)>65535))=true then some (A5,A6,decide ((Zby .i64 A0 24)>32)) else some (A5,A6,false) else some (A5,A6,false)
def ZaR.p1 (N:Nat) (A0:Int) (A5:List Int):Option ((List Int)×Bool×Bool):= if ((ZaH .and .i64 A0 8388607) != 0)=true then ZaR.p2 N A0 ((ZaH .and .i64 A0 8388608) != 0) A5 else ZaR.p2 N A0 false A5
def ZaR (N:Nat) (A0:Int):Option ((List Int)×Bool×Bool):= Zbj (ZdC N A0) fun x1=> if (!x1)=true then some (zB 4 0,false,false) else Zbj (ZdD N (v64 (ZaH .and .i64 A0 8388607))) fun x2=> if (decide ((Zby .i64 A0 24)≤3))=true then Zbj (Zbp N x2 (w64 (8*(w64 (3-(Zby .i64 A0 24)))))) fun x3=> ZaR.p1 N A0 x3 else Zbj (Zcb N x2 (w64 (8*(w64 ((Zby .i64 A0 24)-3))))) fun x4=> ZaR.p1 N A0 x4
def ZaR.p2.S (A0:Int) (A6:Bool) (A5:List Int) (st:LL):S:=mkS 65 [(2,sA 2),(5,sI (Zby .i64 A0 24)),(6,sI (ZaH .and .i64 A0 8388607)),(7,sA 7),(8,.one (.l (xL A6)))] [(2,.cells [zH .u64 4 (zB 4 0)]),(7,.cells [zH .u64 4 A5])] st
def ZaR.p1.S (A0:Int) (A5:List Int) (st:LL):S:=mkS 65 [(0,sI A0),(2,sA 2),(5,sI (Zby .i64 A0 24)),(6,sI (ZaH .and .i64 A0 8388607)),(7,sA 7)] [(2,.cells [zH .u64 4 (zB 4 0)]),(7,.cells [zH .u64 4 A5])] st
theorem ZaR.p2_ok {A0 A6 A5 st r} (h:ZaR.p2 N A0 A6 A5=some r) (hE:En Tryz.f121 g0 w0 (ZaR.rs r) st R):At g0 w0 (ZaR.p2.S A0 A6 A5 st) (XK zC R [cK ZaR.B [1,1,1,1,1,1]]):=by
 unfold ZaR.p2 at h;refine Zbc h (fun c8 h1=>?_) (fun c8 h2=>?_)
 ·have t1 {Q:Prop} (q:Q):=aK c8 c8 c8 q;refine Zbc h1 (fun c9 h3=>?_) (fun c9 h4=>?_)
  ·exact xS fol h3 hE [.r [(6,wF),(7,wF),(8,wF),(11,wF),(14,wF),(15,wF),(16,wF),(19,wF)],rZ] (t1 (aO c9 c9 c9 c9 c8 c9 c8 (aN eT eT eT eT c8 eT c8)))
  have t2 {Q:Prop} (q:Q):=t1 (aK c9 c9 c9 q);refine Zbc h4 (fun c10 h5=>?_) (fun c10 h6=>?_)
  ·have t3 {Q:Prop} (q:Q):=t2 (aO c10 c10 c9 c10 c8 c9 c8 q);refine Zbc h5 (fun c11 h7=>?_) (fun c11 h8=>?_)
   ·exact xS fol h7 hE [.r [(12,yF),(14,wF),(15,wF),(16,wF),(19,wF)],rZ] (t3 (aN c11 c11 c11 c11 c8 c11 c8))
   refine Zbc h8 (fun c12 h9=>?_) (fun c12 h10=>?_)
   ·exact xS fol h9 hE [.r [(12,yF),(20,yF)],rZ] (t3 (aO c11 c11 c11 c12 c12 c11 c12 (aJ c8 c11 c8)))
   exact xS fol h10 hE [.r [(12,yF),(17,wF),(18,wF),(19,yF),(20,yF)],rZ] (t3 (aO c11 c11 c11 c12 c12 c11 c12 (aJ c8 c11 c8)))
  have t4 {Q:Prop} (q:Q):=t2 (aO c10 c10 c9 c10 c8 c9 c8 (aK eF eF eF q));refine Zbc h6 (fun c13 h11=>?_) (fun c13 h12=>?_)
  ·exact xS fol h11 hE [.r [(9,wF),(10,wF),(11,yF),(12,yF),(20,yF)],rZ] (t4 (aN c13 c13 eF c13 c8 eF c8))
  exact xS fol h12 hE [.r [(9,wF),(10,wF),(11,yF),(12,yF),(17,wF),(18,wF),(19,yF),(20,yF)],rZ] (t4 (aN c13 c13 eF c13 c8 eF c8))
 exact xS fol h2 hE [.r [(3,wF),(4,wF),(5,wF),(12,wF),(13,wF),(20,wF),(21,yF)],rZ] (aN c8 c8 c8 c8 c8 c8 c8)
theorem ZaR.p1_ok {A0 A5 st r} (h:ZaR.p1 N A0 A5=some r) (hE:En Tryz.f121 g0 w0 (ZaR.rs r) st R):At g0 w0 (ZaR.p1.S A0 A5 st) (XK zC R [cK ZaR.B [1,1,1,1,1]]):=by
 unfold ZaR.p1 at h;refine Zbc h (fun c7 h13=>?_) (fun c7 h14=>?_)
 ·exact aq fol [rZ,.s 1] [2,5,6,7,8] [2,7] (aK c7 c7 c7 c7) (ZaR.p2_ok h13 hE)
 exact aq fol [.r [(3,wF),(4,wF),(5,wF),(6,yF)],.s 1] [2,5,6,7,8] [2,7] (aK c7 c7 c7 c7) (ZaR.p2_ok h14 hE)
theorem ZaR.snd {A0:Int} {r:(List Int)×Bool×Bool} (h:ZaR N A0=some r):ZdH zC 121 [oI A0] (ZaR.rs r):=fun st=>
 sO ZaR.B Tryz.func121 fun g0 w0 R hE=>by
  unfold ZaR at h;obtain ⟨x1,c1,h15⟩:=Zac h;let o1:List PS:=[rZ,.r [(1,q1 [oB x1])]]
  have t5 {Q:Prop} (q:Q):=aI (ZdC.snd c1) q;refine Zbc h15 (fun c2 h16=>?_) (fun c2 h17=>?_)
  ·exact xS fol h16 hE (o1++[cT,rZ]) (t5 c2)
  obtain ⟨x2,c3,h18⟩:=Zac h17;let o2:List PS:=o1++[cF,rZ,.r [(2,q1 [.agg [zH .u64 4 x2]])],rZ]
  refine Zbc h18 (fun c4 h19=>?_) (fun c4 h20=>?_)
  ·obtain ⟨x3,c5,h21⟩:=Zac h19;exact aq fol (o2++[cT,.r [(4,q1 [.agg [zH .u64 4 x3]])],.s 1]) [0,2,5,6,7] [2,7] (t5 (aL c2 (leI 0 24) (ZdD.snd c3) c4 (Zbp.snd c5))) (ZaR.p1_ok h21 hE)
  obtain ⟨x4,c6,h22⟩:=Zac h20;exact aq fol (o2++[cF,.r [(4,q1 [.agg [zH .u64 4 x4]])],.s 1]) [0,2,5,6,7] [2,7] (t5 (aL c2 (leI 0 24) (ZdD.snd c3) c4 (Zcb.snd c6))) (ZaR.p1_ok h22 hE)
def Zdm.B:Code:=Tryz.f122.body.getD .skip
def Zdm.rs (r:Bool):List CV:=[oB r]
def Zdm (N:Nat) (A0_0:List Int):Option Bool:= some (A0_0==(zB 4 0))
theorem Zdm.snd {A0_0:List Int} {r:Bool} (h:Zdm N A0_0=some r):ZdH zC 122 [.agg [zH .u64 4 A0_0]] (Zdm.rs r):=fun st=>
 sO Zdm.B Tryz.func122 fun g0 w0 R hE=>by
  unfold Zdm at h;exact xS fol h hE [rZ,rZ] trivial
def ZbC.B:Code:=Tryz.f69.body.getD .skip
def ZbC.rs (r:Int):List CV:=[oI r]
def ZbC.p1 (N:Nat) (A0_0 A1_0:List Int) (c1_:Int→Option Int):Int→Option Int:=fun A1=> if (decide (A1≥0))=true then chk (0≤A1)<| chk (A1<4)<| if (decide ((zF A0_0 (zD A1) 0)<(zF A1_0 (zD A1) 0)))=true then some (-1) else if (decide ((zF A0_0 (zD A1) 0)>(zF A1_0 (zD A1) 0)))=true then some 1 else c1_ (w64 (A1-1)) else some 0
def ZbC (N:Nat) (A0_0 A1_0:List Int):Option Int:= loopN (ZbC.p1 N A0_0 A1_0) N 3
def ZbC.p1.S (A1:Int) (A0_0 A1_0:List Int) (st:LL):S:=mkS 26 [(2,sA 2),(3,sA 3),(5,sI A1)] [(2,.cells [zH .u64 4 A0_0]),(3,.cells [zH .u64 4 A1_0])] st
theorem ZbC.p1_ok {A1 A0_0 A1_0 st r c1_ J1} (h:ZbC.p1 N A0_0 A1_0 c1_ A1=some r) (hE:En Tryz.f69 g0 w0 (ZbC.rs r) st R) (hc1 : ∀A1,c1_ A1=some r→At g0 w0 (ZbC.p1.S A1 A0_0 A1_0 st) J1):At g0 w0 (ZbC.p1.S A1 A0_0 A1_0 st) (XK zC R (cK ZbC.B [1,0,1,0,0] :: .h J1 :: [.b 0,cK ZbC.B [1,1]])):=by
 unfold ZbC.p1 at h;refine Zbc h (fun c1 h1=>?_) (fun c1 h2=>?_)
 ·obtain ⟨c2,c3,h3⟩:=ck2 h1;let o1:List PS:=[rZ,cT,.d {ds:=[],hv:=0,Hs:=[]}]
  refine Zbc h3 (fun c4 h4=>?_) (fun c4 h5=>?_)
  ·exact xSd fol h4 hE (o1++[cT,rZ]) (aM c1 c2 c3 c2 c3 c4)
  let o2:List PS:=o1++[cF,.d {ds:=[],hv:=0,Hs:=[]}]
  refine Zbc h5 (fun c5 h6=>?_) (fun c5 h7=>?_)
  ·exact xSd fol h6 hE (o2++[cT,rZ]) (aO c1 c2 c3 c2 c3 c4 c2 (aK c3 c2 c3 c5))
  exact ZjO fol (o2++[cF,rZ]) [2,3,5] [2,3] (aO c1 c2 c3 c2 c3 c4 c2 (aK c3 c2 c3 c5)) (hc1 (w64 (A1-1)) h7)
 exact xS fol h2 hE [rZ,cF,rZ] c1
theorem ZbC.snd {A0_0 A1_0:List Int} {r:Int} (h:ZbC N A0_0 A1_0=some r):ZdH zC 69 [.agg [zH .u64 4 A0_0],.agg [zH .u64 4 A1_0]] (ZbC.rs r):=fun st=>
 sO ZbC.B Tryz.func69 fun g0 w0 R hE=>by
  unfold ZbC at h;exact aq fol [rZ,rZ] [2,3,5] [2,3] trivial (At.loop N (At.loopN (fun y:Int=>ZbC.p1.S y A0_0 A1_0 st) (fun c J hc y h=>ZbC.p1_ok h hE (fun A1=>hc A1)) N 3 h))
def Zdx.B:Code:=Tryz.f137.body.getD .skip
def Zdx.rs (r:Bool):List CV:=[oB r]
def Zdx (N:Nat) (A0_0 A1_0:List Int):Option Bool:= Zbj (ZbC N A0_0 A1_0) fun x1=> some (decide (x1<0))
theorem Zdx.snd {A0_0 A1_0:List Int} {r:Bool} (h:Zdx N A0_0 A1_0=some r):ZdH zC 137 [.agg [zH .u64 4 A0_0],.agg [zH .u64 4 A1_0]] (Zdx.rs r):=fun st=>
 sO Zdx.B Tryz.func137 fun g0 w0 R hE=>by
  unfold Zdx at h;obtain ⟨x1,c1,h1⟩:=Zac h;exact xS fol h1 hE [rZ,.r [(2,q1 [oI x1])]] (ZbC.snd c1)
def ZcL.B:Code:=Tryz.f120.body.getD .skip
def ZcL.rs (r:(List Int)×Bool):List CV:=[.agg [zH .u64 4 r.1],oB r.2]
def ZcL (N:Nat) (A0 A1:Int):Option ((List Int)×Bool):= Zbj (ZaR N A0) fun (x1,x2,x3)=> Zbj (ZaR N A1) fun (x4,x5,x6)=> if x2=true then some (zB 4 0,false) else if x3=true then some (zB 4 0,false) else if x5=true then some (zB 4 0,false) else if x6=true then some (zB 4 0,false) else Zbj (Zdm N x1) fun x7=> if x7=true then some (zB 4 0,false) else Zbj (Zdx N x4 x1) fun x8=> if x8=true then some (zB 4 0,false) else some (x1,true)
theorem ZcL.snd {A0 A1:Int} {r:(List Int)×Bool} (h:ZcL N A0 A1=some r):ZdH zC 120 [oI A0,oI A1] (ZcL.rs r):=fun st=>
 sO ZcL.B Tryz.func120 fun g0 w0 R hE=>by
  unfold ZcL at h;obtain ⟨⟨x1,x2,x3⟩,c1,h1⟩:=Zac h;obtain ⟨⟨x4,x5,x6⟩,c2,h2⟩:=Zac h1;let o1:List PS:=[rZ,.r [(1,q1 [.agg [zH .u64 4 x1],oB x2,oB x3])],.r [(1,q1 [.agg [zH .u64 4 x4],oB x5,oB x6])]]
  have t1 {Q:Prop} (q:Q):=aJ (ZaR.snd c1) (ZaR.snd c2) q;refine Zbc h2 (fun c3 h3=>?_) (fun c3 h4=>?_)
  ·exact xS fol h3 hE (o1++[.r [(2,wF),(5,wF),(8,wF),(11,wF),(12,wF),(15,wF),(16,wF),(17,wF)],cT,rZ]) (t1 (aO c3 c3 eT eT eT eT eT (aN eT eT eT eT eT eT eT)))
  refine Zbc h4 (fun c4 h5=>?_) (fun c4 h6=>?_)
  ·exact xS fol h5 hE (o1++[.r [(3,yF),(5,wF),(8,wF),(11,wF),(12,wF),(15,wF),(16,wF),(17,wF)],cT,rZ]) (t1 (aO c3 c3 c4 c4 eT eT eT (aN eT eT eT eT eT eT eT)))
  have t2 {Q:Prop} (q:Q):=t1 (aL c3 c3 c4 c4 q);refine Zbc h6 (fun c5 h7=>?_) (fun c5 h8=>?_)
  ·exact xS fol h7 hE (o1++[.r [(3,yF),(6,yF),(8,wF),(11,wF),(12,wF),(15,wF),(16,wF),(17,wF)],cT,rZ]) (t2 (aO c5 c5 eT eT eT eT eT (aJ eT eT eT)))
  refine Zbc h8 (fun c6 h9=>?_) (fun c6 h10=>?_)
  ·exact xS fol h9 hE (o1++[.r [(3,yF),(6,yF),(9,yF),(11,wF),(12,wF),(15,wF),(16,wF),(17,wF)],cT,rZ]) (t2 (aO c5 c5 c6 c6 c6 eT eT (aJ eT eT eT)))
  obtain ⟨x7,c7,h11⟩:=Zac h10;have t3 {Q:Prop} (q:Q):=t2 (aN c5 c5 c6 c6 (Zdm.snd c7) c6 q);refine Zbc h11 (fun c8 h12=>?_) (fun c8 h13=>?_)
  ·exact xS fol h12 hE (o1++[.r [(3,yF),(6,yF),(9,yF),(12,q1 [oB x7]),(13,yF),(15,wF),(16,wF),(17,wF)],cT,rZ]) (t3 (aL c8 c8 c8 c8 eT))
  obtain ⟨x8,c9,h14⟩:=Zac h13;let o2:List PS:=o1++[.r [(3,yF),(6,yF),(9,yF),(12,q1 [oB x7]),(13,yF),(17,q1 [oB x8]),(18,yF)]]
  refine Zbc h14 (fun c10 h15=>?_) (fun c10 h16=>?_)
  ·exact xS fol h15 hE (o2++[cT,rZ]) (t3 (aM c8 c8 c8 (Zdx.snd c9) c8 c10))
  exact xS fol h16 hE (o2++[cF,rZ]) (t3 (aM c8 c8 c8 (Zdx.snd c9) c8 c10))
def ZeG.B:Code:=Tryz.f94.body.getD .skip
def ZeG.rs (r:Bool):List CV:=[oB r]
def ZeG (N:Nat) (A0:Zae):Option Bool:= Zbj (ZcL N A0.Limit A0.Limit) fun (x1,x2)=> if x2=true then if (decide (A0.Interval≥2))=true then if (decide (A0.Interval≤64))=true then if (decide (A0.Spacing≥1))=true then if (decide (A0.Spacing≤10000))=true then if (decide (A0.Future≥0))=true then some (decide (A0.Future<4294967296)) else some false else some false else some false else some false else some false else some false
theorem ZeG.snd {A0:Zae} {r:Bool} (h:ZeG N A0=some r):ZdH zC 94 [.agg A0.ls] (ZeG.rs r):=fun st=>
 sO ZeG.B Tryz.func94 fun g0 w0 R hE=>by
  unfold ZeG at h;obtain ⟨⟨x1,x2⟩,c1,h1⟩:=Zac h;let o1:List PS:=[rZ,.r [(4,q1 [.agg [zH .u64 4 x1],oB x2])]]
  have t1 {Q:Prop} (q:Q):=aI (ZcL.snd c1) q;refine Zbc h1 (fun c2 h2=>?_) (fun c2 h3=>?_)
  ·have t2 {Q:Prop} (q:Q):=t1 (aL c2 c2 c2 c2 q);refine Zbc h2 (fun c3 h4=>?_) (fun c3 h5=>?_)
   ·have t3 {Q:Prop} (q:Q):=t2 (aL c3 c3 c3 c3 q);refine Zbc h4 (fun c4 h6=>?_) (fun c4 h7=>?_)
    ·have t4 {Q:Prop} (q:Q):=t3 (aL c4 c4 c4 c4 q);refine Zbc h6 (fun c5 h8=>?_) (fun c5 h9=>?_)
     ·refine Zbc h8 (fun c6 h10=>?_) (fun c6 h11=>?_)
      ·refine Zbc h10 (fun c7 h12=>?_) (fun c7 h13=>?_)
       ·exact xS fol h12 hE (o1++[rZ]) (t4 (aO c5 c5 c5 c5 c6 c6 c6 (aL c6 c7 c7 c7 c7)))
       exact xS fol h13 hE (o1++[.r [(27,wF),(28,wF),(29,wF),(30,yF)]]) (t4 (aO c5 c5 c5 c5 c6 c6 c6 (aL c6 c7 c7 c7 c7)))
      exact xS fol h11 hE (o1++[.r [(22,wF),(23,wF),(24,wF),(25,yF),(27,wF),(28,wF),(29,wF),(30,yF)]]) (t4 (aO c5 c5 c5 c5 c6 c6 c6 (aL c6 eF eF eF eF)))
     exact xS fol h9 hE (o1++[.r [(17,wF),(18,wF),(19,wF),(20,yF),(22,wF),(23,wF),(24,wF),(25,yF),(27,wF),(28,wF),(29,wF),(30,yF)]]) (t4 (aO c5 c5 c5 c5 eF eF eF (aL eF eF eF eF eF)))
    exact xS fol h7 hE (o1++[.r [(12,wF),(13,wF),(14,wF),(15,yF),(17,wF),(18,wF),(19,wF),(20,yF),(22,wF),(23,wF),(24,wF),(25,yF),(27,wF),(28,wF),(29,wF),(30,yF)]]) (t3 (aO c4 c4 c4 c4 eF eF eF (aO eF eF eF eF eF eF eF (aI eF eF))))
   exact xS fol h5 hE (o1++[.r [(7,wF),(8,wF),(9,wF),(10,yF),(12,wF),(13,wF),(14,wF),(15,yF),(17,wF),(18,wF),(19,wF),(20,yF),(22,wF),(23,wF),(24,wF),(25,yF),(27,wF),(28,wF),(29,wF),(30,yF)]]) (t2 (aO c3 c3 c3 c3 eF eF eF (aO eF eF eF eF eF eF eF (aM eF eF eF eF eF eF))))
  exact xS fol h3 hE (o1++[.r [(2,wF),(3,wF),(4,wF),(5,yF),(7,wF),(8,wF),(9,wF),(10,yF),(12,wF),(13,wF),(14,wF),(15,yF),(17,wF),(18,wF),(19,wF),(20,yF),(22,wF),(23,wF),(24,wF),(25,yF),(27,wF),(28,wF),(29,wF),(30,yF)]]) (t1 (aO c2 c2 c2 c2 eF eF eF (aO eF eF eF eF eF eF eF (aO eF eF eF eF eF eF eF (aJ eF eF eF)))))
def Zce.B:Code:=Tryz.f72.body.getD .skip
def Zce.rs (r:Bool):List CV:=[oB r]
def Zce.p2 (N:Nat) (A0:Zae) (c2_:Int→Option Bool):Int→Option Bool:=fun v6=> if (decide (v6<(len A0.Checks)))=true then chk (0≤v6)<| ZcY (A0.Checks[zD v6]?) ZeC fun x7=> if (decide (x7.Height<1))=true then some false else if (decide (v6>0))=true then chk (0≤(w64 (v6-1)))<| chk ((w64 (v6-1))<(len A0.Checks))<| ZcY (A0.Checks[zD (w64 (v6-1))]?) ZeC fun x8=> if (decide (x7.Height≤x8.Height))=true then some false else c2_ (w64 (v6+1)) else c2_ (w64 (v6+1)) else some true
def Zce.p1 (N:Nat) (A0:Zae) (c1_:Int→Option Bool):Int→Option Bool:=fun v3=> if (decide (v3<(len A0.Gates)))=true then chk (0≤v3)<| ZcY (A0.Gates[zD v3]?) ZeO fun x4=> if (decide (x4.Height<0))=true then some false else if (decide (v3>0))=true then chk (0≤(w64 (v3-1)))<| chk ((w64 (v3-1))<(len A0.Gates))<| ZcY (A0.Gates[zD (w64 (v3-1))]?) ZeO fun x5=> if (decide (x4.Height≤x5.Height))=true then some false else c1_ (w64 (v3+1)) else c1_ (w64 (v3+1)) else loopN (Zce.p2 N A0) N 0
def Zce (N:Nat) (A0:Zae):Option Bool:= Zbj (ZeG N A0) fun x1=> if (!x1)=true then some false else Zbj (ZcQ N A0.Genesis) fun x2=> if (!x2)=true then some false else loopN (Zce.p1 N A0) N 0
def Zce.p2.S (A0:Zae) (v6:Int) (st:LL):S:=mkS 72 [(1,sA 1),(45,sV 33 A0.Checks),(46,sI (len A0.Checks)),(47,sI v6)] [(1,.cells A0.ls)] st
def Zce.p1.S (A0:Zae) (v3:Int) (st:LL):S:=mkS 72 [(1,sA 1),(17,sV 2 A0.Gates),(18,sI (len A0.Gates)),(19,sI v3)] [(1,.cells A0.ls)] st
theorem Zce.p2_ok {A0 v6 st r c2_ J2} (h:Zce.p2 N A0 c2_ v6=some r) (hE:En Tryz.f72 g0 w0 (Zce.rs r) st R) (hc2 : ∀v6,c2_ v6=some r→At g0 w0 (Zce.p2.S A0 v6 st) J2):At g0 w0 (Zce.p2.S A0 v6 st) (XK zC R (cK Zce.B [1,1,1,0,1,0,0] :: .h J2 :: [.b 2,cK Zce.B [1,1,1,1]])):=by
 unfold Zce.p2 at h;refine Zbc h (fun c14 h1=>?_) (fun c14 h2=>?_)
 ·obtain ⟨c15,h3⟩:=Zbd h1;obtain ⟨x7,c16,h4⟩:=ZeL h3;let o1:List PS:=[rZ,cT,.r [(2,{oe:=x7.ls})]]
  have t1 {Q:Prop} (q:Q):=aL c14 c15 (oD c14) c16 q;refine Zbc h4 (fun c17 h5=>?_) (fun c17 h6=>?_)
  ·exact xSd fol h5 hE (o1++[.d {ds:=[(4,wF),(5,wF),(6,wF),(17,wF)],hv:=0,Hs:=[]},cT,rZ]) (t1 (aM c17 c17 c17 c17 c17 eT))
  refine Zbc h6 (fun c18 h7=>?_) (fun c18 h8=>?_)
  ·obtain ⟨c19,c20,h9⟩:=ck2 h7;obtain ⟨x8,c21,h10⟩:=ZeL h9;let o2:List PS:=o1++[.d {ds:=[(15,{oe:=x8.ls}),(18,yF)],hv:=0,Hs:=[]}]
   have t2 {Q:Prop} (q:Q):=t1 (aO c17 c17 c17 c18 c18 c18 c18 (aO c18 c18 c18 c19 c20 c18 c18 (aM c21 c18 c17 c18 c17 q)));refine Zbc h10 (fun c22 h11=>?_) (fun c22 h12=>?_)
   ·exact xSd fol h11 hE (o2++[cT,rZ]) (t2 c22)
   exact ZjO fol (o2++[cF,rZ]) [1,45,46,47] [1] (t2 c22) (hc2 (w64 (v6+1)) h12)
  exact ZjO fol (o1++[.d {ds:=[(7,wF),(8,wF),(9,wF),(10,wF),(11,wF),(12,wF),(13,wF),(14,wF),(15,wF),(16,wF),(17,yF),(18,yF)],hv:=0,Hs:=[]},cF,rZ]) [1,45,46,47] [1] (t1 (aO c17 c17 c17 c18 c18 c18 c18 (aO c18 c18 c18 c18 c18 c18 c17 (aJ c18 c17 eF)))) (hc2 (w64 (v6+1)) h8)
 exact xS fol h2 hE [rZ,cF,rZ] c14
theorem Zce.p1_ok {A0 v3 st r c1_ J1} (h:Zce.p1 N A0 c1_ v3=some r) (hE:En Tryz.f72 g0 w0 (Zce.rs r) st R) (hc1 : ∀v3,c1_ v3=some r→At g0 w0 (Zce.p1.S A0 v3 st) J1):At g0 w0 (Zce.p1.S A0 v3 st) (XK zC R (cK Zce.B [1,1,0,1,0,0] :: .h J1 :: [.b 0,cK Zce.B [1,1,1]])):=by
 unfold Zce.p1 at h;refine Zbc h (fun c5 h13=>?_) (fun c5 h14=>?_)
 ·obtain ⟨c6,h15⟩:=Zbd h13;obtain ⟨x4,c7,h16⟩:=ZeU h15;let o3:List PS:=[rZ,cT,.r [(2,{oe:=x4.ls})]]
  have t3 {Q:Prop} (q:Q):=aL c5 c6 (oD c5) c7 q;refine Zbc h16 (fun c8 h17=>?_) (fun c8 h18=>?_)
  ·exact xSd fol h17 hE (o3++[.d {ds:=[(4,wF),(5,wF),(6,wF),(17,wF)],hv:=0,Hs:=[]},cT,rZ]) (t3 (aM c8 c8 c8 c8 c8 eT))
  refine Zbc h18 (fun c9 h19=>?_) (fun c9 h20=>?_)
  ·obtain ⟨c10,c11,h21⟩:=ck2 h19;obtain ⟨x5,c12,h22⟩:=ZeU h21;let o4:List PS:=o3++[.d {ds:=[(15,{oe:=x5.ls}),(18,yF)],hv:=0,Hs:=[]}]
   have t4 {Q:Prop} (q:Q):=t3 (aO c8 c8 c8 c9 c9 c9 c9 (aO c9 c9 c9 c10 c11 c9 c9 (aM c12 c9 c8 c9 c8 q)));refine Zbc h22 (fun c13 h23=>?_) (fun c13 h24=>?_)
   ·exact xSd fol h23 hE (o4++[cT,rZ]) (t4 c13)
   exact ZjO fol (o4++[cF,rZ]) [1,17,18,19] [1] (t4 c13) (hc1 (w64 (v3+1)) h24)
  exact ZjO fol (o3++[.d {ds:=[(7,wF),(8,wF),(9,wF),(10,wF),(11,wF),(12,wF),(13,wF),(14,wF),(15,wF),(16,wF),(17,yF),(18,yF)],hv:=0,Hs:=[]},cF,rZ]) [1,17,18,19] [1] (t3 (aO c8 c8 c8 c9 c9 c9 c9 (aO c9 c9 c9 c9 c9 c9 c8 (aJ c9 c8 eF)))) (hc1 (w64 (v3+1)) h20)
 exact aq fol [rZ,cF,rZ] [1,45,46,47] [1] c5 (At.loop N (At.loopN (fun y:Int=>Zce.p2.S A0 y st) (fun c J hc y h=>Zce.p2_ok h hE (fun v6=>hc v6)) N 0 h14))
theorem Zce.snd {A0:Zae} {r:Bool} (h:Zce N A0=some r):ZdH zC 72 [.agg A0.ls] (Zce.rs r):=fun st=>
 sO Zce.B Tryz.func72 fun g0 w0 R hE=>by
  unfold Zce at h;obtain ⟨x1,c1,h25⟩:=Zac h;have t5 {Q:Prop} (q:Q):=aI (ZeG.snd c1) q;refine Zbc h25 (fun c2 h26=>?_) (fun c2 h27=>?_)
  ·exact xS fol h26 hE [rZ,.r [(1,q1 [oB x1]),(4,wF),(5,wF),(6,wF),(7,wF)],cT,rZ] (t5 (aM (not_false (Zbw c2)) (not_false (Zbw c2)) (not_false (Zbw c2)) (not_false (Zbw c2)) (not_false (Zbw c2)) eT))
  obtain ⟨x2,c3,h28⟩:=Zac h27;let o5:List PS:=[rZ,.r [(1,q1 [oB x1]),(6,q1 [oB x2]),(8,yF)]]
  have t6 {Q:Prop} (q:Q):=t5 (aN (not_true (ZbF c2)) (not_true (ZbF c2)) (not_true (ZbF c2)) (ZcQ.snd c3) (not_true (ZbF c2)) (not_true (ZbF c2)) q);refine Zbc h28 (fun c4 h29=>?_) (fun c4 h30=>?_)
  ·exact xS fol h29 hE (o5++[cT,rZ]) (t6 c4)
  exact aq fol (o5++[cF,rZ]) [1,17,18,19] [1] (t6 c4) (At.loop N (At.loopN (fun y:Int=>Zce.p1.S A0 y st) (fun c J hc y h=>Zce.p1_ok h hE (fun v3=>hc v3)) N 0 h30))
def Zck.B:Code:=Tryz.f141.body.getD .skip
def Zck.rs (r:(List Int)×Bool):List CV:=[.agg [zH .u64 4 r.1],oB r.2]
def Zck.p1 (N:Nat) (A1_0:List Int) (c1_:(Int×Int×(List Int))→Option ((List Int)×Bool)):(Int×Int×(List Int))→Option ((List Int)×Bool):=fun (A1,v2,A5)=> if (decide (v2<4))=true then chk (0≤v2)<| Zbj (Zel N (zF A5 (zD v2) 0) (zF A1_0 (zD v2) 0) A1) fun (x6,x7)=> c1_ (x7,w64 (v2+1),zM A5 (zD v2) x6) else some (A5,A1 != 0)
def Zck (N:Nat) (A0_0 A1_0:List Int):Option ((List Int)×Bool):= loopN (Zck.p1 N A1_0) N (0,0,A0_0)
def Zck.p1.S (A1 v2:Int) (A5 A1_0:List Int) (st:LL):S:=mkS 28 [(2,sA 2),(3,sA 3),(4,sA 4),(6,.one (.l (zJ .u64 A1))),(8,sI v2)] [(2,.cells [zH .u64 4 A5]),(3,.cells [zH .u64 4 A1_0]),(4,.cells [zH .u64 4 (zB 4 0)])] st
theorem Zck.p1_ok {A1 v2 A5 A1_0 st r c1_ J1} (h:Zck.p1 N A1_0 c1_ (A1,v2,A5)=some r) (hE:En Tryz.f141 g0 w0 (Zck.rs r) st R) (hc1 : ∀A1 v2 A5,c1_ (A1,v2,A5)=some r→At g0 w0 (Zck.p1.S A1 v2 A5 A1_0 st) J1):At g0 w0 (Zck.p1.S A1 v2 A5 A1_0 st) (XK zC R (cK Zck.B [1,1,0,1,0,0] :: .h J1 :: [.b 0,cK Zck.B [1,1,1]])):=by
 unfold Zck.p1 at h;refine Zbc h (fun c4 h1=>?_) (fun c4 h2=>?_)
 ·obtain ⟨c5,h3⟩:=Zbd h1;obtain ⟨⟨x6,x7⟩,c6,h4⟩:=Zac h3;exact ZjO fol [rZ,cT,rZ,.d {ds:=[(8,{rs:=[.one (zJ .u64 x6),.one (zJ .u64 x7)],m:=4})],hv:=8192,Hs:=[8192]},rZ] [2,3,4,6,8] [2,3,4] (aO c4 c5 (oD c4) c5 (oD c4) (Zel.snd c6) c5 (oD c4)) (hc1 x7 (w64 (v2+1)) (zM A5 (zD v2) x6) h4)
 exact xS fol h2 hE [rZ,cF,rZ] c4
theorem Zck.snd {A0_0 A1_0:List Int} {r:(List Int)×Bool} (h:Zck N A0_0 A1_0=some r):ZdH zC 141 [.agg [zH .u64 4 A0_0],.agg [zH .u64 4 A1_0]] (Zck.rs r):=fun st=>
 sO Zck.B Tryz.func141 fun g0 w0 R hE=>by
  unfold Zck at h;exact aq fol [rZ,rZ,rZ] [2,3,4,6,8] [2,3,4] trivial (At.loop N (At.loopN (fun y:Int×Int×(List Int)=>Zck.p1.S y.1 y.2.1 y.2.2 A1_0 st) (fun c J hc y h=>Zck.p1_ok (A1:=y.1) (v2:=y.2.1) (A5:=y.2.2) h hE (fun A1 v2 A5=>hc (A1,v2,A5))) N (0,0,A0_0) h))
def ZcI.B:Code:=Tryz.f143.body.getD .skip
def ZcI.rs (r:(List Int)):List CV:=[.agg [zH .u64 4 r]]
def ZcI.p1 (N:Nat) (c1_:(Int×(List Int))→Option (List Int)):(Int×(List Int))→Option (List Int):=fun (v1,A2)=> if (decide (v1<4))=true then chk (0≤v1)<| c1_ (w64 (v1+1),zM A2 (zD v1) (ZaH .xor .u64 (IntKind.max IntKind.u64) (zF A2 (zD v1) 0))) else some A2
def ZcI (N:Nat) (A0_0:List Int):Option (List Int):= loopN (ZcI.p1 N) N (0,A0_0)
def ZcI.p1.S (v1:Int) (A2:List Int) (st:LL):S:=mkS 15 [(1,sA 1),(2,sA 2),(4,sI v1)] [(1,.cells [zH .u64 4 A2]),(2,.cells [zH .u64 4 (zB 4 0)])] st
theorem ZcI.p1_ok {v1 A2 st r c1_ J1} (h:ZcI.p1 N c1_ (v1,A2)=some r) (hE:En Tryz.f143 g0 w0 (ZcI.rs r) st R) (hc1 : ∀v1 A2,c1_ (v1,A2)=some r→At g0 w0 (ZcI.p1.S v1 A2 st) J1):At g0 w0 (ZcI.p1.S v1 A2 st) (XK zC R (cK ZcI.B [1,0,1,0,0] :: .h J1 :: [.b 0,cK ZcI.B [1,1]])):=by
 unfold ZcI.p1 at h;refine Zbc h (fun c3 h1=>?_) (fun c3 h2=>?_)
 ·obtain ⟨c4,h3⟩:=Zbd h1;exact an fol [rZ,cT,rZ,rZ,rZ] [1,2,4] [1,2] (aL c3 c4 (oD c3) c4 (oD c3)) (hc1 (w64 (v1+1)) (zM A2 (zD v1) (ZaH .xor .u64 (IntKind.max IntKind.u64) (zF A2 (zD v1) 0))) h3)
 exact xS fol h2 hE [rZ,cF,rZ] c3
theorem ZcI.snd {A0_0:List Int} {r:(List Int)} (h:ZcI N A0_0=some r):ZdH zC 143 [.agg [zH .u64 4 A0_0]] (ZcI.rs r):=fun st=>
 sO ZcI.B Tryz.func143 fun g0 w0 R hE=>by
  unfold ZcI at h;exact aq fol [rZ,rZ] [1,2,4] [1,2] trivial (At.loop N (At.loopN (fun y:Int×(List Int)=>ZcI.p1.S y.1 y.2 st) (fun c J hc y h=>ZcI.p1_ok (v1:=y.1) (A2:=y.2) h hE (fun v1 A2=>hc (v1,A2))) N (0,A0_0) h))
def ZaB.B:Code:=Tryz.f165.body.getD .skip
def ZaB.rs (r:Int):List CV:=[oI r]
def ZaB.p3 (N:Nat) (A5 A6:Int):Option Int:= chk (0≤(v8 (A5)))<| chk ((v8 (A5))<((zY (xX #[0,1,2,2,3,3,3,3,4,4,4,4,4,4,4,4,5,5,5,5,5,5,5,5,5,5,5,5,5,5,5,5,6,6,6,6,6,6,6,6,6,6,6,6,6,6,6,6,6,6,6,6,6,6,6,6,6,6,6,6,6,6,6,6,7,7,7,7,7,7,7,7,7,7,7,7,7,7,7,7,7,7,7,7,7,7,7,7,7,7,7,7,7,7,7,7,7,7,7,7,7,7,7,7,7,7,7,7,7,7,7,7,7,7,7,7,7,7,7,7,7,7,7,7,7,7,7,7,8,8,8,8,8,8,8,8,8,8,8,8,8,8,8,8,8,8,8,8,8,8,8,8,8,8,8,8,8,8,8,8,8,8,8,8,8,8,8,8,8,8,8,8,8,8,8,8,8,8,8,8,8,8,8,8,8,8,8,8,8,8,8,8,8,8,8,8,8,8,8,8,8,8,8,8,8,8,8,8,8,8,8,8,8,8,8,8,8,8,8,8,8,8,8,8,8,8,8,8,8,8,8,8,8,8,8,8,8,8,8,8,8,8,8,8,8,8,8,8,8,8,8,8,8,8,8,8]):Nat):Int))<| some (w64 (A6+(w64 (((UInt8.toNat (zF (rE (sQ (xX #[0,1,2,2,3,3,3,3,4,4,4,4,4,4,4,4,5,5,5,5,5,5,5,5,5,5,5,5,5,5,5,5,6,6,6,6,6,6,6,6,6,6,6,6,6,6,6,6,6,6,6,6,6,6,6,6,6,6,6,6,6,6,6,6,7,7,7,7,7,7,7,7,7,7,7,7,7,7,7,7,7,7,7,7,7,7,7,7,7,7,7,7,7,7,7,7,7,7,7,7,7,7,7,7,7,7,7,7,7,7,7,7,7,7,7,7,7,7,7,7,7,7,7,7,7,7,7,7,8,8,8,8,8,8,8,8,8,8,8,8,8,8,8,8,8,8,8,8,8,8,8,8,8,8,8,8,8,8,8,8,8,8,8,8,8,8,8,8,8,8,8,8,8,8,8,8,8,8,8,8,8,8,8,8,8,8,8,8,8,8,8,8,8,8,8,8,8,8,8,8,8,8,8,8,8,8,8,8,8,8,8,8,8,8,8,8,8,8,8,8,8,8,8,8,8,8,8,8,8,8,8,8,8,8,8,8,8,8,8,8,8,8,8,8,8,8,8,8,8,8,8,8,8,8,8,8]))) (zD (v8 (A5))) 0):Nat):Int)))))
def ZaB.p2 (N:Nat) (A3 A4:Int):Option Int:= if (decide (A3≥256))=true then ZaB.p3 N (Zby .u64 A3 8) (w64 (A4+8)) else ZaB.p3 N A3 A4
def ZaB.p1 (N:Nat) (A1 A2:Int):Option Int:= if (decide (A1≥65536))=true then ZaB.p2 N (Zby .u64 A1 16) (w64 (A2+16)) else ZaB.p2 N A1 A2
def ZaB (N:Nat) (A0:Int):Option Int:= if (decide (A0≥4294967296))=true then ZaB.p1 N (Zby .u64 A0 32) 32 else ZaB.p1 N A0 0
def ZaB.p3.S (A5 A6:Int) (st:LL):S:=mkS 25 [(0,.one (.l (zJ .u64 A5))),(2,sI A6)] [] st
def ZaB.p2.S (A3 A4:Int) (st:LL):S:=mkS 25 [(0,.one (.l (zJ .u64 A3))),(2,sI A4)] [] st
def ZaB.p1.S (A1 A2:Int) (st:LL):S:=mkS 25 [(0,.one (.l (zJ .u64 A1))),(2,sI A2)] [] st
theorem ZaB.p3_ok {A5 A6 st r} (h:ZaB.p3 N A5 A6=some r) (hE:En Tryz.f165 g0 w0 (ZaB.rs r) st R):At g0 w0 (ZaB.p3.S A5 A6 st) (XK zC R [cK ZaB.B [1,1,1,1]]):=by
 unfold ZaB.p3 at h;obtain ⟨c4,c5,h1⟩:=ck2 h;exact xS fol h1 hE [rZ] (aI c4 c5)
theorem ZaB.p2_ok {A3 A4 st r} (h:ZaB.p2 N A3 A4=some r) (hE:En Tryz.f165 g0 w0 (ZaB.rs r) st R):At g0 w0 (ZaB.p2.S A3 A4 st) (XK zC R [cK ZaB.B [1,1,1]]):=by
 unfold ZaB.p2 at h;refine Zbc h (fun c3 h2=>?_) (fun c3 h3=>?_)
 ·exact aq fol [rZ,cT,rZ,rZ,.s 1] [0,2] [] (aI c3 (leI 0 8)) (ZaB.p3_ok h2 hE)
 exact aq fol [rZ,cF,.s 1] [0,2] [] c3 (ZaB.p3_ok h3 hE)
theorem ZaB.p1_ok {A1 A2 st r} (h:ZaB.p1 N A1 A2=some r) (hE:En Tryz.f165 g0 w0 (ZaB.rs r) st R):At g0 w0 (ZaB.p1.S A1 A2 st) (XK zC R [cK ZaB.B [1,1]]):=by
 unfold ZaB.p1 at h;refine Zbc h (fun c2 h4=>?_) (fun c2 h5=>?_)
 ·exact aq fol [rZ,cT,rZ,rZ,.s 1] [0,2] [] (aI c2 (leI 0 16)) (ZaB.p2_ok h4 hE)
 exact aq fol [rZ,cF,.s 1] [0,2] [] c2 (ZaB.p2_ok h5 hE)
theorem ZaB.snd {A0:Int} {r:Int} (h:ZaB N A0=some r):ZdH zC 165 [.one (zJ .u64 A0)] (ZaB.rs r):=fun st=>
 sO ZaB.B Tryz.func165 fun g0 w0 R hE=>by
  unfold ZaB at h;refine Zbc h (fun c1 h6=>?_) (fun c1 h7=>?_)
  ·exact aq fol [rZ,rZ,cT,rZ,rZ,.s 1] [0,2] [] (aI c1 (leI 0 32)) (ZaB.p1_ok h6 hE)
  exact aq fol [rZ,rZ,cF,.s 1] [0,2] [] c1 (ZaB.p1_ok h7 hE)
def ZcP.B:Code:=Tryz.f158.body.getD .skip
def ZcP.rs (r:Int):List CV:=[oI r]
def ZcP.p1 (N:Nat) (A0_0:List Int) (c1_:Int→Option Int):Int→Option Int:=fun A1=> if (decide (A1≥0))=true then chk (0≤A1)<| chk (A1<4)<| if ((zF A0_0 (zD A1) 0) != 0)=true then Zbj (ZaB N (zF A0_0 (zD A1) 0)) fun x2=> some (w64 ((w64 (64*A1))+x2)) else c1_ (w64 (A1-1)) else some 0
def ZcP (N:Nat) (A0_0:List Int):Option Int:= loopN (ZcP.p1 N A0_0) N 3
def ZcP.p1.S (A1:Int) (A0_0:List Int) (st:LL):S:=mkS 19 [(1,sA 1),(3,sI A1)] [(1,.cells [zH .u64 4 A0_0])] st
theorem ZcP.p1_ok {A1 A0_0 st r c1_ J1} (h:ZcP.p1 N A0_0 c1_ A1=some r) (hE:En Tryz.f158 g0 w0 (ZcP.rs r) st R) (hc1 : ∀A1,c1_ A1=some r→At g0 w0 (ZcP.p1.S A1 A0_0 st) J1):At g0 w0 (ZcP.p1.S A1 A0_0 st) (XK zC R (cK ZcP.B [1,0,1,0,0] :: .h J1 :: [.b 0,cK ZcP.B [1,1]])):=by
 unfold ZcP.p1 at h;refine Zbc h (fun c1 h1=>?_) (fun c1 h2=>?_)
 ·obtain ⟨c2,c3,h3⟩:=ck2 h1;refine Zbc h3 (fun c4 h4=>?_) (fun c4 h5=>?_)
  ·obtain ⟨x2,c5,h6⟩:=Zac h4;exact xS fol h6 hE [rZ,cT,rZ,cT,.r [(5,q1 [oI x2])]] (aN c1 c2 c3 c4 c2 c3 (ZaB.snd c5))
  exact an fol [rZ,cT,rZ,cF,rZ] [1,3] [1] (aK c1 c2 c3 c4) (hc1 (w64 (A1-1)) h5)
 exact xS fol h2 hE [rZ,cF,rZ] c1
theorem ZcP.snd {A0_0:List Int} {r:Int} (h:ZcP N A0_0=some r):ZdH zC 158 [.agg [zH .u64 4 A0_0]] (ZcP.rs r):=fun st=>
 sO ZcP.B Tryz.func158 fun g0 w0 R hE=>by
  unfold ZcP at h;exact aq fol [rZ,rZ] [1,3] [1] trivial (At.loop N (At.loopN (fun y:Int=>ZcP.p1.S y A0_0 st) (fun c J hc y h=>ZcP.p1_ok h hE (fun A1=>hc A1)) N 3 h))
def ZcT.B:Code:=Tryz.f159.body.getD .skip
def ZcT.rs (r:(List Int)×Bool):List CV:=[.agg [zH .u64 4 r.1],oB r.2]
def ZcT.p1 (N:Nat) (A1_0:List Int) (c1_:(Int×Int×(List Int))→Option ((List Int)×Bool)):(Int×Int×(List Int))→Option ((List Int)×Bool):=fun (A1,v2,A5)=> if (decide (v2<4))=true then chk (0≤v2)<| Zbj (Zfx N (zF A5 (zD v2) 0) (zF A1_0 (zD v2) 0) A1) fun (x6,x7)=> c1_ (x7,w64 (v2+1),zM A5 (zD v2) x6) else some (A5,A1 != 0)
def ZcT (N:Nat) (A0_0 A1_0:List Int):Option ((List Int)×Bool):= loopN (ZcT.p1 N A1_0) N (0,0,A0_0)
def ZcT.p1.S (A1 v2:Int) (A5 A1_0:List Int) (st:LL):S:=mkS 28 [(2,sA 2),(3,sA 3),(4,sA 4),(6,.one (.l (zJ .u64 A1))),(8,sI v2)] [(2,.cells [zH .u64 4 A5]),(3,.cells [zH .u64 4 A1_0]),(4,.cells [zH .u64 4 (zB 4 0)])] st
theorem ZcT.p1_ok {A1 v2 A5 A1_0 st r c1_ J1} (h:ZcT.p1 N A1_0 c1_ (A1,v2,A5)=some r) (hE:En Tryz.f159 g0 w0 (ZcT.rs r) st R) (hc1 : ∀A1 v2 A5,c1_ (A1,v2,A5)=some r→At g0 w0 (ZcT.p1.S A1 v2 A5 A1_0 st) J1):At g0 w0 (ZcT.p1.S A1 v2 A5 A1_0 st) (XK zC R (cK ZcT.B [1,1,0,1,0,0] :: .h J1 :: [.b 0,cK ZcT.B [1,1,1]])):=by
 unfold ZcT.p1 at h;refine Zbc h (fun c4 h1=>?_) (fun c4 h2=>?_)
 ·obtain ⟨c5,h3⟩:=Zbd h1;obtain ⟨⟨x6,x7⟩,c6,h4⟩:=Zac h3;exact ZjO fol [rZ,cT,rZ,.d {ds:=[(8,{rs:=[.one (zJ .u64 x6),.one (zJ .u64 x7)],m:=4})],hv:=8192,Hs:=[8192]},rZ] [2,3,4,6,8] [2,3,4] (aO c4 c5 (oD c4) c5 (oD c4) (Zfx.snd c6) c5 (oD c4)) (hc1 x7 (w64 (v2+1)) (zM A5 (zD v2) x6) h4)
 exact xS fol h2 hE [rZ,cF,rZ] c4
theorem ZcT.snd {A0_0 A1_0:List Int} {r:(List Int)×Bool} (h:ZcT N A0_0 A1_0=some r):ZdH zC 159 [.agg [zH .u64 4 A0_0],.agg [zH .u64 4 A1_0]] (ZcT.rs r):=fun st=>
 sO ZcT.B Tryz.func159 fun g0 w0 R hE=>by
  unfold ZcT at h;exact aq fol [rZ,rZ,rZ] [2,3,4,6,8] [2,3,4] trivial (At.loop N (At.loopN (fun y:Int×Int×(List Int)=>ZcT.p1.S y.1 y.2.1 y.2.2 A1_0 st) (fun c J hc y h=>ZcT.p1_ok (A1:=y.1) (v2:=y.2.1) (A5:=y.2.2) h hE (fun A1 v2 A5=>hc (A1,v2,A5))) N (0,0,A0_0) h))
def ZbQ.B:Code:=Tryz.f142.body.getD .skip
def ZbQ.rs (r:(List Int)×(List Int)):List CV:=[.agg [zH .u64 4 r.1],.agg [zH .u64 4 r.2]]
def ZbQ.p2 (N:Nat) (c1_:(Int×(List Int)×(List Int))→Option ((List Int)×(List Int))) (A3:Int) (A0_0 A1_0 A21 A20:List Int):Option ((List Int)×(List Int)):= c1_ (w64 (A3-1),A21,A20)
def ZbQ.p1 (N:Nat) (A0_0 A1_0:List Int) (c1_:(Int×(List Int)×(List Int))→Option ((List Int)×(List Int))):(Int×(List Int)×(List Int))→Option ((List Int)×(List Int)):=fun (A3,A12,A13)=> if (decide (A3≥0))=true then Zbj (Zcb N A13 1) fun x14=> chk (0≤(w64 (zR A3 64)))<| chk ((w64 (zR A3 64))<4)<| chk (0≤(zW A3 64))<| if ((Zby .u64 (zF A13 3 0) 63)==1)=true then Zbj (ZcT N (zM x14 0 (ZaH .or .u64 (zF x14 0 0) (ZaH .and .u64 (Zby .u64 (zF A0_0 (zD (w64 (zR A3 64))) 0) (zW A3 64)) 1))) A1_0) fun (x15,x16)=> ZbQ.p2 N c1_ A3 A0_0 A1_0 (zM A12 (zD (w64 (zR A3 64))) (ZaH .or .u64 (zF A12 (zD (w64 (zR A3 64))) 0) (ZbM .u64 1 (zW A3 64)))) x15 else Zbj (Zdx N (zM x14 0 (ZaH .or .u64 (zF x14 0 0) (ZaH .and .u64 (Zby .u64 (zF A0_0 (zD (w64 (zR A3 64))) 0) (zW A3 64)) 1))) A1_0) fun x17=> if (!x17)=true then Zbj (ZcT N (zM x14 0 (ZaH .or .u64 (zF x14 0 0) (ZaH .and .u64 (Zby .u64 (zF A0_0 (zD (w64 (zR A3 64))) 0) (zW A3 64)) 1))) A1_0) fun (x18,x19)=> ZbQ.p2 N c1_ A3 A0_0 A1_0 (zM A12 (zD (w64 (zR A3 64))) (ZaH .or .u64 (zF A12 (zD (w64 (zR A3 64))) 0) (ZbM .u64 1 (zW A3 64)))) x18 else ZbQ.p2 N c1_ A3 A0_0 A1_0 A12 (zM x14 0 (ZaH .or .u64 (zF x14 0 0) (ZaH .and .u64 (Zby .u64 (zF A0_0 (zD (w64 (zR A3 64))) 0) (zW A3 64)) 1))) else some (A12,A13)
def ZbQ (N:Nat) (A0_0 A1_0:List Int):Option ((List Int)×(List Int)):= Zbj (Zdm N A1_0) fun x1=> if x1=true then some (zB 4 0,zB 4 0) else Zbj (ZcP N A0_0) fun x2=> loopN (ZbQ.p1 N A0_0 A1_0) N (w64 (x2-1),zB 4 0,zB 4 0)
def ZbQ.p2.S (A3:Int) (A0_0 A1_0 A21 A20:List Int) (st:LL):S:=mkS 63 [(2,sA 2),(3,sA 3),(4,sA 4),(5,sA 5),(6,sA 6),(7,sA 7),(8,sI A3)] [(2,.cells [zH .u64 4 A0_0]),(3,.cells [zH .u64 4 A1_0]),(4,.cells [zH .u64 4 (zB 4 0)]),(5,.cells [zH .u64 4 (zB 4 0)]),(6,.cells [zH .u64 4 A21]),(7,.cells [zH .u64 4 A20])] st
def ZbQ.p1.S (A3:Int) (A0_0 A1_0 A12 A13:List Int) (st:LL):S:=mkS 63 [(2,sA 2),(3,sA 3),(4,sA 4),(5,sA 5),(6,sA 6),(7,sA 7),(8,sI A3)] [(2,.cells [zH .u64 4 A0_0]),(3,.cells [zH .u64 4 A1_0]),(4,.cells [zH .u64 4 (zB 4 0)]),(5,.cells [zH .u64 4 (zB 4 0)]),(6,.cells [zH .u64 4 A12]),(7,.cells [zH .u64 4 A13])] st
theorem ZbQ.p2_ok {A3 A0_0 A1_0 A21 A20 st r c1_ J1} (h:ZbQ.p2 N c1_ A3 A0_0 A1_0 A21 A20=some r) (hE:En Tryz.f142 g0 w0 (ZbQ.rs r) st R) (hc1 : ∀A3 A12 A13,c1_ (A3,A12,A13)=some r→At g0 w0 (ZbQ.p1.S A3 A0_0 A1_0 A12 A13 st) J1):At g0 w0 (ZbQ.p2.S A3 A0_0 A1_0 A21 A20 st) (XK zC R [cK ZbQ.B [1,1,1,0,1,0,0,1,1],.h J1,.b 0,cK ZbQ.B [1,1,1,1]]):=by
 unfold ZbQ.p2 at h;exact an fol [rZ] [2,3,4,5,6,7,8] [2,3,4,5,6,7] trivial (hc1 (w64 (A3-1)) A21 A20 h)
theorem ZbQ.p1_ok {A3 A0_0 A1_0 A12 A13 st r c1_ J1} (h:ZbQ.p1 N A0_0 A1_0 c1_ (A3,A12,A13)=some r) (hE:En Tryz.f142 g0 w0 (ZbQ.rs r) st R) (hc1 : ∀A3 A12 A13,c1_ (A3,A12,A13)=some r→At g0 w0 (ZbQ.p1.S A3 A0_0 A1_0 A12 A13 st) J1):At g0 w0 (ZbQ.p1.S A3 A0_0 A1_0 A12 A13 st) (XK zC R (cK ZbQ.B [1,1,1,0,1,0,0] :: .h J1 :: [.b 0,cK ZbQ.B [1,1,1,1]])):=by
 unfold ZbQ.p1 at h;refine Zbc h (fun c14 h1=>?_) (fun c14 h2=>?_)
 ·obtain ⟨x14,c15,h3⟩:=Zac h1;obtain ⟨c16,c17,c18,h4⟩:=ck3 h3;let o1:List PS:=[rZ,cT,rZ,.r [(1,q1 [.agg [zH .u64 4 x14]])],.d {ds:=[],hv:=4096,Hs:=[4096]}]
  have t1 {Q:Prop} (q:Q):=aI c14 (ix 3 4 (aJ (leI 0 63) (Zcb.snd c15) (ix 0 4 (aM (neI 64) c16 c17 (neI 64) c18 (ix 0 4 q)))));refine Zbc h4 (fun c19 h5=>?_) (fun c19 h6=>?_)
  ·obtain ⟨⟨x15,x16⟩,c20,h7⟩:=Zac h5;exact aqd fol (o1++[.r [(2,wF),(3,wF),(4,wF),(5,wF)],cT,.r [(2,q1 [.agg [zH .u64 4 x15],oB x16])],.d {ds:=[],hv:=512,Hs:=[512]},.s 4]) [2,3,4,5,6,7,8] [2,3,4,5,6,7] (t1 (aO c19 c19 c19 c19 c19 eT (ZcT.snd c20) (aN (neI 64) c16 c17 (neI 64) c18 c16 c17))) (ZbQ.p2_ok h7 hE hc1)
  obtain ⟨x17,c21,h8⟩:=Zac h6;let o2:List PS:=o1++[.r [(4,q1 [oB x17]),(6,yF)]]
  have t2 {Q:Prop} (q:Q):=t1 (aN c19 c19 c19 (Zdx.snd c21) c19 c19 q);refine Zbc h8 (fun c22 h9=>?_) (fun c22 h10=>?_)
  ·obtain ⟨⟨x18,x19⟩,c23,h11⟩:=Zac h9;exact aqd fol (o2++[cT,.r [(2,q1 [.agg [zH .u64 4 x18],oB x19])],.d {ds:=[],hv:=512,Hs:=[512]},.s 4]) [2,3,4,5,6,7,8] [2,3,4,5,6,7] (t2 (aO c22 (ZcT.snd c23) (neI 64) c16 c17 (neI 64) c18 (aI c16 c17))) (ZbQ.p2_ok h11 hE hc1)
  exact aqd fol (o2++[cF,.s 4]) [2,3,4,5,6,7,8] [2,3,4,5,6,7] (t2 c22) (ZbQ.p2_ok h10 hE hc1)
 exact xSd fol h2 hE [rZ,cF,.d {ds:=[],hv:=12,Hs:=[4,12]}] c14
theorem ZbQ.snd {A0_0 A1_0:List Int} {r:(List Int)×(List Int)} (h:ZbQ N A0_0 A1_0=some r):ZdH zC 142 [.agg [zH .u64 4 A0_0],.agg [zH .u64 4 A1_0]] (ZbQ.rs r):=fun st=>
 sO ZbQ.B Tryz.func142 fun g0 w0 R hE=>by
  unfold ZbQ at h;obtain ⟨x1,c1,h12⟩:=Zac h;let o3:List PS:=[rZ,rZ,.r [(1,q1 [oB x1])]]
  refine Zbc h12 (fun c2 h13=>?_) (fun c2 h14=>?_)
  ·exact xSd fol h13 hE (o3++[cT,.d {ds:=[],hv:=12,Hs:=[4,12]}]) (aI (Zdm.snd c1) c2)
  obtain ⟨x2,c3,h15⟩:=Zac h14;exact aq fol (o3++[cF,.r [(1,q1 [oI x2])]]) [2,3,4,5,6,7,8] [2,3,4,5,6,7] (aJ (Zdm.snd c1) c2 (ZcP.snd c3)) (At.loop N (At.loopN (fun y:Int×(List Int)×(List Int)=>ZbQ.p1.S y.1 A0_0 A1_0 y.2.1 y.2.2 st) (fun c J hc y h=>ZbQ.p1_ok (A3:=y.1) (A12:=y.2.1) (A13:=y.2.2) h hE (fun A3 A12 A13=>hc (A3,A12,A13))) N (w64 (x2-1),zB 4 0,zB 4 0) h15))
def Zej.B:Code:=Tryz.f125.body.getD .skip
def Zej.rs (r:(List Int)):List CV:=[.agg [zH .u64 4 r]]
def Zej (N:Nat):Option (List Int):= Zbj (ZcI N (zB 4 0)) fun x1=> some x1
theorem Zej.snd {r:(List Int)} (h:Zej N=some r):ZdH zC 125 [] (Zej.rs r):=fun st=>
 sO Zej.B Tryz.func125 fun g0 w0 R hE=>by
  unfold Zej at h;obtain ⟨x1,c1,h1⟩:=Zac h;exact xS fol h1 hE [rZ,.r [(1,q1 [.agg [zH .u64 4 x1]])]] (ZcI.snd c1)
def ZgG.B:Code:=Tryz.f123.body.getD .skip
def ZgG.rs (r:(List Int)):List CV:=[.agg [zH .u64 4 r]]
def ZgG (N:Nat) (A0_0:List Int):Option (List Int):= Zbj (ZdD N 1) fun x1=> Zbj (Zck N A0_0 x1) fun (x2,x3)=> if x3=true then some x1 else Zbj (ZcI N A0_0) fun x4=> Zbj (ZbQ N x4 x2) fun (x5,x6)=> Zbj (Zck N x5 x1) fun (x7,x8)=> if x8=true then Zbj (Zej N ) fun x9=> some x9 else some x7
theorem ZgG.snd {A0_0:List Int} {r:(List Int)} (h:ZgG N A0_0=some r):ZdH zC 123 [.agg [zH .u64 4 A0_0]] (ZgG.rs r):=fun st=>
 sO ZgG.B Tryz.func123 fun g0 w0 R hE=>by
  unfold ZgG at h;obtain ⟨x1,c1,h1⟩:=Zac h;obtain ⟨⟨x2,x3⟩,c2,h2⟩:=Zac h1;let o1:List PS:=[rZ,.d {ds:=[(1,q1 [.agg [zH .u64 4 x1]]),(2,q1 [.agg [zH .u64 4 x2],oB x3])],hv:=192,Hs:=[64,192]},rZ]
  have t1 {Q:Prop} (q:Q):=aL (ZdD.snd c1) (ZdD.snd c1) (Zck.snd c2) (Zck.snd c2) q;refine Zbc h2 (fun c3 h3=>?_) (fun c3 h4=>?_)
  ·exact xSd fol h3 hE (o1++[cT,.r [(0,q1 [.agg [zH .u64 4 x1]])]]) (t1 (aI c3 (ZdD.snd c1)))
  obtain ⟨x4,c4,h5⟩:=Zac h4;obtain ⟨⟨x5,x6⟩,c5,h6⟩:=Zac h5;obtain ⟨⟨x7,x8⟩,c6,h7⟩:=Zac h6;let o2:List PS:=o1++[cF,.d {ds:=[(1,q1 [.agg [zH .u64 4 x4]]),(3,q1 [.agg [zH .u64 4 x5],.agg [zH .u64 4 x6]])],hv:=1920,Hs:=[128,256,384,896,1920]},.d {ds:=[(1,q1 [.agg [zH .u64 4 x1]]),(2,q1 [.agg [zH .u64 4 x7],oB x8])],hv:=192,Hs:=[64,192]},rZ]
  have t2 {Q:Prop} (q:Q):=t1 (aO c3 (ZcI.snd c4) (ZcI.snd c4) (ZcI.snd c4) (ZcI.snd c4) (ZbQ.snd c5) (ZbQ.snd c5) (aN (ZbQ.snd c5) (ZbQ.snd c5) (ZdD.snd c1) (ZdD.snd c1) (Zck.snd c6) (Zck.snd c6) q));refine Zbc h7 (fun c7 h8=>?_) (fun c7 h9=>?_)
  ·obtain ⟨x9,c8,h10⟩:=Zac h8;exact xSd fol h10 hE (o2++[cT,.r [(0,q1 [.agg [zH .u64 4 x9]])]]) (t2 (aI c7 (Zej.snd c8)))
  exact xSd fol h9 hE (o2++[cF,rZ]) (t2 c7)
def Zeb.B:Code:=Tryz.f95.body.getD .skip
def Zeb.rs (r:(List Int)):List CV:=[.agg [zH .u64 4 r]]
def Zeb (N:Nat) (A0:Int):Option (List Int):= Zbj (ZaR N A0) fun (x1,x2,x3)=> if x2=true then some (zB 4 0) else if x3=true then some (zB 4 0) else Zbj (Zdm N x1) fun x4=> if x4=true then some (zB 4 0) else Zbj (ZgG N x1) fun x5=> some x5
theorem Zeb.snd {A0:Int} {r:(List Int)} (h:Zeb N A0=some r):ZdH zC 95 [oI A0] (Zeb.rs r):=fun st=>
 sO Zeb.B Tryz.func95 fun g0 w0 R hE=>by
  unfold Zeb at h;obtain ⟨⟨x1,x2,x3⟩,c1,h1⟩:=Zac h;let o1:List PS:=[rZ,.r [(1,q1 [.agg [zH .u64 4 x1],oB x2,oB x3])]]
  have t1 {Q:Prop} (q:Q):=aI (ZaR.snd c1) q;refine Zbc h1 (fun c2 h2=>?_) (fun c2 h3=>?_)
  ·exact xS fol h2 hE (o1++[.r [(2,wF),(5,wF),(6,wF)],cT,rZ]) (t1 (aM c2 c2 eT eT eT eT))
  refine Zbc h3 (fun c3 h4=>?_) (fun c3 h5=>?_)
  ·exact xS fol h4 hE (o1++[.r [(3,yF),(5,wF),(6,wF)],cT,rZ]) (t1 (aM c2 c2 c3 c3 c3 eT))
  obtain ⟨x4,c4,h6⟩:=Zac h5;let o2:List PS:=o1++[.r [(3,yF),(6,q1 [oB x4]),(7,yF)]]
  refine Zbc h6 (fun c5 h7=>?_) (fun c5 h8=>?_)
  ·exact xS fol h7 hE (o2++[cT,rZ]) (t1 (aN c2 c2 c3 c3 (Zdm.snd c4) c3 c5))
  obtain ⟨x5,c6,h9⟩:=Zac h8;exact xS fol h9 hE (o2++[cF,.r [(1,q1 [.agg [zH .u64 4 x5]])]]) (t1 (aO c2 c2 c3 c3 (Zdm.snd c4) c3 c5 (ZgG.snd c6)))
def ZcO.B:Code:=Tryz.f124.body.getD .skip
def ZcO.rs (r:(List Int)×Bool):List CV:=[.agg [zH .u64 4 r.1],oB r.2]
def ZcO.p1 (N:Nat) (A0:LL) (c1_:(Bool×Int×(List Int))→Option ((List Int)×Bool)):(Bool×Int×(List Int))→Option ((List Int)×Bool):=fun (A1,v2,A6)=> if (decide (v2<(len A0)))=true then chk (0≤v2)<| ZcY (A0[zD v2]?) Zip fun x7=> Zbj (Zck N A6 x7) fun (x8,x9)=> if A1=true then c1_ (true,w64 (v2+1),x8) else c1_ (x9,w64 (v2+1),x8) else some (A6,A1)
def ZcO (N:Nat) (A0:LL):Option ((List Int)×Bool):= loopN (ZcO.p1 N A0) N (false,0,zB 4 0)
def ZcO.p1.S (A1:Bool) (A0:LL) (v2:Int) (A6:List Int) (st:LL):S:=mkS 28 [(2,sA 2),(4,sA 4),(5,.one (.l (xL A1))),(9,sV 4 A0),(10,sI (len A0)),(11,sI v2)] [(2,.cells [zH .u64 4 (zB 4 0)]),(4,.cells [zH .u64 4 A6])] st
theorem ZcO.p1_ok {A1 A0 v2 A6 st r c1_ J1} (h:ZcO.p1 N A0 c1_ (A1,v2,A6)=some r) (hE:En Tryz.f124 g0 w0 (ZcO.rs r) st R) (hc1 : ∀A1 v2 A6,c1_ (A1,v2,A6)=some r→At g0 w0 (ZcO.p1.S A1 A0 v2 A6 st) J1):At g0 w0 (ZcO.p1.S A1 A0 v2 A6 st) (XK zC R (cK ZcO.B [1,1,1,0,1,0,0] :: .h J1 :: [.b 0,cK ZcO.B [1,1,1,1]])):=by
 unfold ZcO.p1 at h;refine Zbc h (fun c6 h1=>?_) (fun c6 h2=>?_)
 ·obtain ⟨c7,h3⟩:=Zbd h1;obtain ⟨x7,c8,h4⟩:=ZjF h3;obtain ⟨⟨x8,x9⟩,c9,h5⟩:=Zac h4;let o1:List PS:=[rZ,cT,.r [(1,{oe:=[zH .u64 4 x7]})],rZ,.r [(2,q1 [.agg [zH .u64 4 x8],oB x9])]]
  refine Zbc h5 (fun c10 h6=>?_) (fun c10 h7=>?_)
  ·exact an fol (o1++[.r [(2,wF)],rZ]) [2,4,5,9,10,11] [2,4] (aN c6 c7 (oD c6) c8 (Zck.snd c9) c10 c10) (hc1 true (w64 (v2+1)) x8 h6)
  exact an fol (o1++[.r [(3,yF)],rZ]) [2,4,5,9,10,11] [2,4] (aN c6 c7 (oD c6) c8 (Zck.snd c9) c10 c10) (hc1 x9 (w64 (v2+1)) x8 h7)
 exact xS fol h2 hE [rZ,cF,rZ] c6
theorem ZcO.snd {A0:LL} {r:(List Int)×Bool} (h:ZcO N A0=some r):ZdH zC 124 [.one (vO 4 A0)] (ZcO.rs r):=fun st=>
 sO ZcO.B Tryz.func124 fun g0 w0 R hE=>by
  unfold ZcO at h;exact aq fol [rZ,rZ,rZ,rZ] [2,4,5,9,10,11] [2,4] trivial (At.loop N (At.loopN (fun y:Bool×Int×(List Int)=>ZcO.p1.S y.1 A0 y.2.1 y.2.2 st) (fun c J hc y h=>ZcO.p1_ok (A1:=y.1) (v2:=y.2.1) (A6:=y.2.2) h hE (fun A1 v2 A6=>hc (A1,v2,A6))) N (false,0,zB 4 0) h))
def ZfJ.B:Code:=Tryz.f96.body.getD .skip
def ZfJ.rs (r:(List Int)):List CV:=[.agg [zH .u64 4 r]]
def ZfJ (N:Nat) (A0:LL):Option (List Int):= Zbj (ZcO N A0) fun (x1,x2)=> if x2=true then Zbj (Zej N ) fun x3=> some x3 else some x1
theorem ZfJ.snd {A0:LL} {r:(List Int)} (h:ZfJ N A0=some r):ZdH zC 96 [.one (vO 4 A0)] (ZfJ.rs r):=fun st=>
 sO ZfJ.B Tryz.func96 fun g0 w0 R hE=>by
  unfold ZfJ at h;obtain ⟨⟨x1,x2⟩,c1,h1⟩:=Zac h;let o1:List PS:=[rZ,.r [(1,q1 [.agg [zH .u64 4 x1],oB x2])],rZ]
  refine Zbc h1 (fun c2 h2=>?_) (fun c2 h3=>?_)
  ·obtain ⟨x3,c3,h4⟩:=Zac h2;exact xS fol h4 hE (o1++[cT,.r [(0,q1 [.agg [zH .u64 4 x3]])]]) (aJ (ZcO.snd c1) c2 (Zej.snd c3))
  exact xS fol h3 hE (o1++[cF,rZ]) (aI (ZcO.snd c1) c2)
def Zbf.B:Code:=Tryz.f73.body.getD .skip
def Zbf.rs (r:Int×LL):List CV:=[oI r.1]
def Zbf.p1 (N:Nat) (A7:Option Nat) (A3:ZaV) (A6:Zcq) (st:LL):Option (Int×LL):= Zbj A7 fun i8=> ZcY (st[i8]?) ZbK fun x9=> chk (zK (x9.list++[A6.ls])*176≤140737488355328)<| chk (zK (x9.spots++[A3.ls])*96≤140737488355328)<| optM (Zii x9.places (zH .u8 32 A6.Id)) (fun j10 e=>ZdT [e] fun x11=> some (w64 ((len (x9.list++[A6.ls]))-1),zM (zM (zM (zM (zM st i8 (gs x9.lo 15)) i8 (gs (gs x9.lo 15) 16)) i8 (gs (ZaG.lo {x9 with list:=x9.list++[A6.ls]}) 16)) i8 (ZaG.lo {x9 with list:=x9.list++[A6.ls],spots:=x9.spots++[A3.ls]})) i8 (ZaG.lo (ZaG.mk x9.rules (x9.list++[A6.ls]) (x9.spots++[A3.ls]) (zM x9.places j10 (zH .u8 32 A6.Id,zJ .i64 (w64 ((len (x9.list++[A6.ls]))-1)))) x9.room)))) ( some (w64 ((len (x9.list++[A6.ls]))-1),zM (zM (zM (zM (zM st i8 (gs x9.lo 15)) i8 (gs (gs x9.lo 15) 16)) i8 (gs (ZaG.lo {x9 with list:=x9.list++[A6.ls]}) 16)) i8 (ZaG.lo {x9 with list:=x9.list++[A6.ls],spots:=x9.spots++[A3.ls]})) i8 (ZaG.lo (ZaG.mk x9.rules (x9.list++[A6.ls]) (x9.spots++[A3.ls]) (x9.places++[(zH .u8 32 A6.Id,zJ .i64 (w64 ((len (x9.list++[A6.ls]))-1)))]) x9.room))))
def Zbf (N:Nat) (A0:Option Nat) (A1:Zak) (A2:Int) (A3:ZaV) (st:LL):Option (Int×LL):= Zbj (Zeb N A1.Bits) fun x1=> if (A2 != (-1))=true then Zbj A0 fun i2=> ZcY (st[i2]?) ZbK fun x3=> chk (0≤A2)<| chk (A2<(len x3.list))<| ZcY (x3.list[0+(zD A2)]?) Zer fun x4=> Zbj (ZfJ N [[zH .u64 4 x4.Work],[zH .u64 4 x1]]) fun x5=> Zbf.p1 N (some i2) A3 (Zcq.mk A1 A3.Prev A2 (w64 (x4.Height+1)) x5) st else Zbf.p1 N A0 A3 (Zcq.mk A1 A3.Prev A2 0 x1) st
def Zbf.p1.S (A7:Option Nat) (A3:ZaV) (A6:Zcq) (st:LL):S:=mkS 81 [(0,sP A7),(7,sA 7),(9,sA 9)] [(7,.cells A3.ls),(9,.cells A6.ls)] st
theorem Zbf.p1_ok {A7 A3 A6 st r} (h:Zbf.p1 N A7 A3 A6 st=some r) (hE:En Tryz.f73 g0 w0 (Zbf.rs r) r.2 R):At g0 w0 (Zbf.p1.S A7 A3 A6 st) (XK zC R [cK Zbf.B [1,1,1]]):=by
 unfold Zbf.p1 at h;obtain ⟨i8,rfl,h1⟩:=Zac h;obtain ⟨x9,c10,h2⟩:=Zbx h1;obtain ⟨c11,c12,h3⟩:=ck2 h2;let o1:List PS:=[.d {ds:=[(5,{oc:=x9.lo}),(8,{oe:=x9.lo}),(12,{oc:=gs x9.lo 15}),(15,{oe:=gs x9.lo 15}),(18,{oc:=gs (gs x9.lo 15) 16,mv:=[51]}),(21,{oc:=gs (ZaG.lo {x9 with list:=x9.list++[A6.ls]}) 16,mv:=[58]})],hv:=2408832,Hs:=[128,384,16384,16512,16768,49536,311680,2408832],dh:=[(12,0,{oc:=x9.lo}),(12,128,{oc:=x9.lo}),(12,16384,{oc:=x9.lo}),(12,16512,{oc:=x9.lo})]}]
 have t1 {Q:Prop} (q:Q):=aO c10 c10 c10 c10 z0 (eN (zK x9.list)) c10 (aO z0 (eN (1)) c11 z0 (eN (zK x9.list)) c10 z0 (aO (eN (1)) c11 c10 c10 (Zap c10 (gs x9.lo 15)) c10 c10 (aO (Zap c10 (gs x9.lo 15)) z0 (eN (zK x9.spots)) (Zap c10 (gs x9.lo 15)) z0 (eN (1)) c12 (aO (Zap (Zap c10 (gs x9.lo 15)) (gs (gs x9.lo 15) 16)) z0 (eN (zK (x9.list++[A6.ls]))) (Zap (Zap (Zap c10 (gs x9.lo 15)) (gs (gs x9.lo 15) 16)) (gs (ZaG.lo {x9 with list:=x9.list++[A6.ls]}) 16)) z0 (eN (zK (x9.spots++[A3.ls]))) (Zap (Zap (Zap (Zap c10 (gs x9.lo 15)) (gs (gs x9.lo 15) 16)) (gs (ZaG.lo {x9 with list:=x9.list++[A6.ls]}) 16)) (ZaG.lo {x9 with list:=x9.list++[A6.ls],spots:=x9.spots++[A3.ls]})) (aI (Zap (Zap (Zap (Zap c10 (gs x9.lo 15)) (gs (gs x9.lo 15) 16)) (gs (ZaG.lo {x9 with list:=x9.list++[A6.ls]}) 16)) (ZaG.lo {x9 with list:=x9.list++[A6.ls],spots:=x9.spots++[A3.ls]})) q)))));rcases ZnN h3 with ⟨j10,h7,c13,h4⟩ | ⟨c13,h5⟩
 ·obtain ⟨x11,h8,h6⟩:=Zjd h4;obtain rfl:=ZjU h8;exact xTd fol h6 hE (o1++[.d {ds:=[(3,{oc:=ZaG.lo {x9 with list:=x9.list++[A6.ls],spots:=x9.spots++[A3.ls]}}),(9,{oc:=ZaG.lo {x9 with list:=x9.list++[A6.ls],spots:=x9.spots++[A3.ls]}}),(12,{oc:=ZaG.lo {x9 with list:=x9.list++[A6.ls],spots:=x9.spots++[A3.ls]},m:=j10})],hv:=4096,Hs:=[4096]},.r [(3,{oc:=ZaG.lo (ZaG.mk x9.rules (x9.list++[A6.ls]) (x9.spots++[A3.ls]) (zM x9.places j10 (zH .u8 32 A6.Id,zJ .i64 (w64 ((len (x9.list++[A6.ls]))-1)))) x9.room)})]]) (t1 (aJ (ex_at c13) (Zap (Zap (Zap (Zap c10 (gs x9.lo 15)) (gs (gs x9.lo 15) 16)) (gs (ZaG.lo {x9 with list:=x9.list++[A6.ls]}) 16)) (ZaG.lo {x9 with list:=x9.list++[A6.ls],spots:=x9.spots++[A3.ls]})) (Zap (Zap (Zap (Zap (Zap c10 (gs x9.lo 15)) (gs (gs x9.lo 15) 16)) (gs (ZaG.lo {x9 with list:=x9.list++[A6.ls]}) 16)) (ZaG.lo {x9 with list:=x9.list++[A6.ls],spots:=x9.spots++[A3.ls]})) (ZaG.lo (ZaG.mk x9.rules (x9.list++[A6.ls]) (x9.spots++[A3.ls]) (zM x9.places j10 (zH .u8 32 A6.Id,zJ .i64 (w64 ((len (x9.list++[A6.ls]))-1)))) x9.room)))))
 exact xTd fol h5 hE (o1++[.d {ds:=[(3,{oc:=ZaG.lo {x9 with list:=x9.list++[A6.ls],spots:=x9.spots++[A3.ls]}}),(9,{oc:=ZaG.lo {x9 with list:=x9.list++[A6.ls],spots:=x9.spots++[A3.ls]}}),(12,{oc:=ZaG.lo {x9 with list:=x9.list++[A6.ls],spots:=x9.spots++[A3.ls]},yes:=false})],hv:=4096,Hs:=[4096]},.r [(3,{oc:=ZaG.lo (ZaG.mk x9.rules (x9.list++[A6.ls]) (x9.spots++[A3.ls]) (x9.places++[(zH .u8 32 A6.Id,zJ .i64 (w64 ((len (x9.list++[A6.ls]))-1)))]) x9.room)})]]) (t1 (aJ c13 (Zap (Zap (Zap (Zap c10 (gs x9.lo 15)) (gs (gs x9.lo 15) 16)) (gs (ZaG.lo {x9 with list:=x9.list++[A6.ls]}) 16)) (ZaG.lo {x9 with list:=x9.list++[A6.ls],spots:=x9.spots++[A3.ls]})) (Zap (Zap (Zap (Zap (Zap c10 (gs x9.lo 15)) (gs (gs x9.lo 15) 16)) (gs (ZaG.lo {x9 with list:=x9.list++[A6.ls]}) 16)) (ZaG.lo {x9 with list:=x9.list++[A6.ls],spots:=x9.spots++[A3.ls]})) (ZaG.lo (ZaG.mk x9.rules (x9.list++[A6.ls]) (x9.spots++[A3.ls]) (x9.places++[(zH .u8 32 A6.Id,zJ .i64 (w64 ((len (x9.list++[A6.ls]))-1)))]) x9.room)))))
theorem Zbf.snd {A0:Option Nat} {A1:Zak} {A2:Int} {A3:ZaV} {st:LL} {r:Int×LL} (h:Zbf N A0 A1 A2 A3 st=some r):Snd zC 73 [.one (zQ A0),.agg A1.ls,oI A2,.agg A3.ls] st (Zbf.rs r) r.2:=
 sO Zbf.B Tryz.func73 fun g0 w0 R hE=>by
  unfold Zbf at h;obtain ⟨x1,c1,h9⟩:=Zac h;let o2:List PS:=[rZ,.d {ds:=[(6,q1 [.agg [zH .u64 4 x1]])],hv:=768,Hs:=[256,768]},rZ]
  have t2 {Q:Prop} (q:Q):=aJ (Zeb.snd c1) (Zeb.snd c1) q;refine Zbc h9 (fun c2 h10=>?_) (fun c2 h11=>?_)
  ·obtain ⟨i2,rfl,h12⟩:=Zac h10;obtain ⟨x3,c4,h13⟩:=Zbx h12;obtain ⟨c5,c6,h14⟩:=ck2 h13;obtain ⟨x4,c7,h15⟩:=ZeT h14;obtain ⟨x5,c8,h16⟩:=Zac h15;exact aqd fol (o2++[cT,.r [(3,{oc:=x3.lo}),(7,{oc:=x3.lo,oe:=x4.ls})],.d {ds:=[(3,{oc:=x3.lo}),(7,{oc:=x3.lo,oe:=x4.ls}),(11,{rs:=[.agg [zH .u64 4 x5]],m:=2})],hv:=9216,Hs:=[1024,9216]},.s 1]) [0,7,9] [7,9] (t2 (aO c2 c4 c5 c6 c7 c4 c4 (aN c5 c6 c7 c4 z0 (eN (2)) (ZfJ.snd c8)))) (Zbf.p1_ok h16 hE)
  exact aqd fol (o2++[cF,.s 1]) [0,7,9] [7,9] (t2 c2) (Zbf.p1_ok h11 hE)
def ZeW.B:Code:=Tryz.f51.body.getD .skip
def ZeW.rs (r:(Option Nat)×Int×LL):List CV:=[.one (zQ r.1),oI r.2.1]
def ZeW (N:Nat) (A0:Zae) (A1:Int) (st:LL):Option ((Option Nat)×Int×LL):= Zbj (Zce N A0) fun x1=> if (!x1)=true then some (none,1,st) else chk (zK ([]++A0.Gates)*16≤140737488355328)<| chk (zK ([]++A0.Checks)*40≤140737488355328)<| Zbj (ZfW N {A0 with Gates:=[]++A0.Gates,Checks:=[]++A0.Checks}) fun x2=> Zbj (Zbf N (some (zK st)) A0.Genesis (-1) x2 (st++[ZaG.lo (ZaG.mk {A0 with Gates:=[]++A0.Gates,Checks:=[]++A0.Checks} [] [] [] (if (512:Int)<(if (1:Int)>A1 then 1 else A1) then 512 else (if (1:Int)>A1 then 1 else A1)))])) fun (x3,st4)=> some ((some (zK st)),0,st4)
theorem ZeW.snd {A0:Zae} {A1:Int} {st:LL} {r:(Option Nat)×Int×LL} (h:ZeW N A0 A1 st=some r):Snd zC 51 [.agg A0.ls,oI A1] st (ZeW.rs r) r.2.2:=
 sO ZeW.B Tryz.func51 fun g0 w0 R hE=>by
  unfold ZeW at h;obtain ⟨x1,c1,h1⟩:=Zac h;let o1:List PS:=[rZ,.r [(1,q1 [oB x1])]]
  refine Zbc h1 (fun c2 h2=>?_) (fun c2 h3=>?_)
  ·exact xU fol h2 hE (o1++[cT,rZ]) (aI (Zce.snd c1) c2)
  obtain ⟨c3,c4,h4⟩:=ck2 h3;obtain ⟨x2,c5,h5⟩:=Zac h4;obtain ⟨⟨x3,st4⟩,c6,h6⟩:=Zac h5;exact xUd fol h6 hE (o1++[cF,.d {ds:=[(7,{fz:=[12]}),(9,{fz:=[15]})],hv:=676,Hs:=[4,36,164,676]},.r [(5,{ns:=[15,16]}),(6,{m:=1})],.d {ds:=[(4,q1 [.agg x2.ls]),(5,{rs:=[oI x3],st:=st4})],hv:=32,Hs:=[32]},rZ]) (aO (Zce.snd c1) c2 c3 c4 z0 (eN (zK ([]++A0.Gates))) z0 (aJ (eN (zK ([]++A0.Checks))) (ZfW.snd c5) (Zbf.snd c6)))
def Zfr.B:Code:=Tryz.f28.body.getD .skip
def Zfr.rs (r:(Option Nat)×Int×LL):List CV:=[.one (zQ r.1),oI r.2.1]
def Zfr (N:Nat) (A0:Zae) (A1:Int) (st:LL):Option ((Option Nat)×Int×LL):= Zbj (ZeW N A0 A1 st) fun (x1,x2,st3)=> if (x2 != 0)=true then some (none,x2,st3) else some ((some (zK st3)),0,st3++[[zQ x1,yB true 1 [[zJ .i64 (-1)]]]])
theorem Zfr.snd {A0:Zae} {A1:Int} {st:LL} {r:(Option Nat)×Int×LL} (h:Zfr N A0 A1 st=some r):Snd zC 28 [.agg A0.ls,oI A1] st (Zfr.rs r) r.2.2:=
 sO Zfr.B Tryz.func28 fun g0 w0 R hE=>by
  unfold Zfr at h;obtain ⟨⟨x1,x2,st3⟩,c1,h1⟩:=Zac h;let o1:List PS:=[rZ,.r [(2,{rs:=[.one (zQ x1),oI x2],st:=st3})],rZ]
  refine Zbc h1 (fun c2 h2=>?_) (fun c2 h3=>?_)
  ·exact xU fol h2 hE (o1++[cT,rZ]) (aI (ZeW.snd c1) c2)
  exact xU fol h3 hE (o1++[cF,.r [(2,{ns:=[1]}),(3,{m:=1,mv:=[18]})]]) (aK (ZeW.snd c1) c2 z0 (eN (1)))
def Zfu.B:Code:=Tryz.f24.body.getD .skip
def Zfu.rs (r:(Option Nat)×LL):List CV:=[.one (zQ r.1)]
def Zfu (N:Nat) (A0:Option Nat) (st:LL):Option ((Option Nat)×LL):= some ((some (zK st)),st++[[zQ A0,yB true 3 []]])
theorem Zfu.snd {A0:Option Nat} {st:LL} {r:(Option Nat)×LL} (h:Zfu N A0 st=some r):Snd zC 24 [.one (zQ A0)] st (Zfu.rs r) r.2:=
 sO Zfu.B Tryz.func24 fun g0 w0 R hE=>by
  unfold Zfu at h;exact xT fol h hE [rZ,.r [(1,{ns:=[1]}),(2,{m:=1})]] trivial
def ZcB.B:Code:=Tryz.f42.body.getD .skip
def ZcB.rs (r:Bool):List CV:=[oB r]
def ZcB (N:Nat) (A0:ZaG) (A1 A2:Int):Option Bool:= Zbj (ZbR N A0 A1) fun x1=> if (!x1)=true then some x1 else Zbj (ZbR N A0 A2) fun x2=> if (!x2)=true then some x1 else chk (0≤A1)<| chk (A1<(len A0.list))<| ZcY (A0.list[zD A1]?) Zer fun x3=> chk (0≤A2)<| chk (A2<(len A0.list))<| ZcY (A0.list[zD A2]?) Zer fun x4=> Zbj (ZbC N x3.Work x4.Work) fun x5=> if (decide (x5>0))=true then some true else if (x5==0)=true then some (decide (A1<A2)) else some false
theorem ZcB.snd {A0:ZaG} {A1 A2:Int} {r:Bool} (h:ZcB N A0 A1 A2=some r):ZdH zC 42 [.one (L.bx 87 A0.ls),oI A1,oI A2] (ZcB.rs r):=fun st=>
 sO ZcB.B Tryz.func42 fun g0 w0 R hE=>by
  unfold ZcB at h;obtain ⟨x1,c1,h1⟩:=Zac h;have t1 {Q:Prop} (q:Q):=aI (ZbR.snd c1) q;refine Zbc h1 (fun c2 h2=>?_) (fun c2 h3=>?_)
  ·exact xS fol h2 hE [rZ,.r [(2,q0 [oB x1]),(5,wF),(6,wF),(7,wF),(8,wF)],cT,.r [(2,q0 [oB x1])]] (t1 (aN (not_false (Zbw c2)) (not_false (Zbw c2)) (not_false (Zbw c2)) (not_false (Zbw c2)) (not_false (Zbw c2)) eT (ZbR.snd c1)))
  obtain ⟨x2,c3,h4⟩:=Zac h3;let o1:List PS:=[rZ,.r [(2,q0 [oB x1]),(7,q0 [oB x2]),(9,yF)]]
  have t2 {Q:Prop} (q:Q):=t1 (aN (not_true (ZbF c2)) (not_true (ZbF c2)) (not_true (ZbF c2)) (ZbR.snd c3) (not_true (ZbF c2)) (not_true (ZbF c2)) q);refine Zbc h4 (fun c4 h5=>?_) (fun c4 h6=>?_)
  ·exact xS fol h5 hE (o1++[cT,.r [(2,q0 [oB x1])]]) (t2 (aI c4 (ZbR.snd c1)))
  obtain ⟨c5,c6,h7⟩:=ck2 h6;obtain ⟨x3,c7,h8⟩:=ZeT h7;obtain ⟨c8,c9,h9⟩:=ck2 h8;obtain ⟨x4,c10,h10⟩:=ZeT h9;obtain ⟨x5,c11,h11⟩:=Zac h10;let o2:List PS:=o1++[cF,.d {ds:=[(3,{oe:=A0.ls}),(7,{oe:=x3.ls}),(11,{oe:=A0.ls}),(15,{oe:=x4.ls}),(16,q1 [oI x5])],hv:=0,Hs:=[]}]
  have t3 {Q:Prop} (q:Q):=t2 (aO c4 (eO A0.ls) c5 c6 c7 (eO A0.ls) c8 (aK c9 c10 (ZbC.snd c11) q));refine Zbc h11 (fun c12 h12=>?_) (fun c12 h13=>?_)
  ·exact xSd fol h12 hE (o2++[.r [(3,wF),(4,wF),(5,wF),(9,wF)]]) (t3 (aL c12 c12 c12 c12 c12))
  refine Zbc h13 (fun c13 h14=>?_) (fun c13 h15=>?_)
  ·exact xSd fol h14 hE (o2++[.r [(10,yF)]]) (t3 (aO c12 c12 c12 c13 c13 c13 c12 (aI c13 c12)))
  exact xSd fol h15 hE (o2++[.r [(6,wF),(7,wF),(8,wF),(9,yF),(10,yF)]]) (t3 (aO c12 c12 c12 c13 c13 c13 c12 (aI c13 c12)))
def Zca.B:Code:=Tryz.f17.body.getD .skip
def Zca.rs (r:Bool):List CV:=[oB r]
def Zca (N:Nat) (A0:Zaz) (A1 A2:Int):Option Bool:= Zbj (ZcB N A0.store A1 A2) fun x1=> some x1
theorem Zca.snd {A0:Zaz} {A1 A2:Int} {r:Bool} (h:Zca N A0 A1 A2=some r):ZdH zC 17 [.one (L.bx 2 A0.ls),oI A1,oI A2] (Zca.rs r):=fun st=>
 sO Zca.B Tryz.func17 fun g0 w0 R hE=>by
  unfold Zca at h;obtain ⟨x1,c1,h1⟩:=Zac h;exact xS fol h1 hE [rZ,.r [(6,{oe:=A0.ls}),(9,q0 [oB x1])]] (aO eT eT eT eT (eO A0.ls) eT eT (aJ eT (ZcB.snd c1) eT))
def Zag.B:Code:=Tryz.f37.body.getD .skip
def Zag.rs (r:Int×LL):List CV:=[oI r.1]
def Zag.p2 (N:Nat) (c1_:(Int×Int×LL)→Option (Int×LL)) (i3:Nat) (A1_0:Option Nat) (A30:Int) (x5:LL) (v7:Int) (st21:LL):Option (Int×LL):= c1_ (A30,w64 (v7+1),st21)
def Zag.p1 (N:Nat) (i3:Nat) (A1_0:Option Nat) (x5:LL) (c1_:(Int×Int×LL)→Option (Int×LL)):(Int×Int×LL)→Option (Int×LL):=fun (A6,v7,st19)=> if (decide (v7<(len x5)))=true then Zbj (Zbh N A1_0 v7 st19) fun (x20,st21)=> if x20=true then ZcY (st21[i3]?) Zcj fun x22 x23=> Zbj x22 fun i24=> ZcY (st21[i24]?) ZcZ fun x25 x26=> Zbj x25 fun i27=> ZcY (st21[i27]?) ZbK fun x28=> Zbj (Zca N (Zaz.mk x28 x26) v7 A6) fun x29=> if x29=true then Zag.p2 N c1_ i3 A1_0 v7 x5 v7 st21 else Zag.p2 N c1_ i3 A1_0 A6 x5 v7 st21 else Zag.p2 N c1_ i3 A1_0 A6 x5 v7 st21 else some (A6,st19)
def Zag (N:Nat) (m_0 A1_0:Option Nat) (st:LL):Option (Int×LL):= Zbj (Zcs N m_0 0 st) fun (x1,st2)=> if (!x1)=true then some ((-1),st2) else Zbj m_0 fun i3=> ZcY (st2[i3]?) Zcj fun x4 x5=> loopN (Zag.p1 N i3 A1_0 x5) N ((-1),0,st2)
def Zag.p2.S (i3:Nat) (A1_0:Option Nat) (A30:Int) (x5:LL) (v7:Int) (st21:LL):S:=mkS 34 [(0,sP (some i3)),(1,.one (.l (L.fn 16 1 [zQ A1_0]))),(5,sI A30),(15,sI (len x5)),(16,sI v7)] [] st21
def Zag.p1.S (i3:Nat) (A1_0:Option Nat) (A6:Int) (x5:LL) (v7:Int) (st19:LL):S:=mkS 34 [(0,sP (some i3)),(1,.one (.l (L.fn 16 1 [zQ A1_0]))),(5,sI A6),(15,sI (len x5)),(16,sI v7)] [] st19
theorem Zag.p2_ok {i3 A1_0 A30 x5 v7 st21 r c1_ J1} (h:Zag.p2 N c1_ i3 A1_0 A30 x5 v7 st21=some r) (hE:En Tryz.f37 g0 w0 (Zag.rs r) r.2 R) (hc1 : ∀A6 v7 st19,c1_ (A6,v7,st19)=some r→At g0 w0 (Zag.p1.S i3 A1_0 A6 x5 v7 st19) J1):At g0 w0 (Zag.p2.S i3 A1_0 A30 x5 v7 st21) (XK zC R [cK Zag.B [1,1,1,0,1,0,0,1,1,1],.h J1,.b 0,cK Zag.B [1,1,1,1]]):=by
 unfold Zag.p2 at h;exact an fol [rZ] [0,1,5,15,16] [] trivial (hc1 A30 (w64 (v7+1)) st21 h)
theorem Zag.p1_ok {i3 A1_0 A6 x5 v7 st19 r c1_ J1} (h:Zag.p1 N i3 A1_0 x5 c1_ (A6,v7,st19)=some r) (hE:En Tryz.f37 g0 w0 (Zag.rs r) r.2 R) (hc1 : ∀A6 v7 st19,c1_ (A6,v7,st19)=some r→At g0 w0 (Zag.p1.S i3 A1_0 A6 x5 v7 st19) J1):At g0 w0 (Zag.p1.S i3 A1_0 A6 x5 v7 st19) (XK zC R (cK Zag.B [1,1,1,0,1,0,0] :: .h J1 :: [.b 0,cK Zag.B [1,1,1,1]])):=by
 unfold Zag.p1 at h;refine Zbc h (fun c15 h1=>?_) (fun c15 h2=>?_)
 ·obtain ⟨⟨x20,st21⟩,c16,h3⟩:=Zac h1;let o1:List PS:=[rZ,cT,rZ]
  have t1 {Q:Prop} (q:Q):=aJ c15 (Zbh.snd c16) q;refine Zbc h3 (fun c17 h4=>?_) (fun c17 h5=>?_)
  ·obtain ⟨x22,x23,c18,h6⟩:=ZbS h4;obtain ⟨i24,rfl,h7⟩:=Zac h6;obtain ⟨x25,x26,c20,h8⟩:=ZcM h7;obtain ⟨i27,rfl,h9⟩:=Zac h8;obtain ⟨x28,c22,h10⟩:=Zbx h9;obtain ⟨x29,c23,h11⟩:=Zac h10;let o2:List PS:=o1++[.r [(2,{rs:=[oB x20],st:=st21,m:=5}),(7,{oc:=[zQ (some i24),yB true 3 x23]}),(10,{rs:=[oB x29],m:=10,cv:=[.one (L.bx 2 (Zaz.ls (Zaz.mk x28 x26)))]})]]
   have t2 {Q:Prop} (q:Q):=t1 (aO c17 c17 c17 c17 c18 c17 c17 (aL c17 (bO 2 c20 ((bC 87 c22 (ZaG.bv x28) (bW bN)):BVs st21 [zQ (some i27),yB true 1 x26] (Zaz.ls (Zaz.mk x28 x26)))) (Zca.snd c23) c17 q));refine Zbc h11 (fun c24 h12=>?_) (fun c24 h13=>?_)
   ·exact aq fol (o2++[cT,rZ,.s 4]) [0,1,5,15,16] [] (t2 c24) (Zag.p2_ok h12 hE hc1)
   exact aq fol (o2++[cF,.s 4]) [0,1,5,15,16] [] (t2 c24) (Zag.p2_ok h13 hE hc1)
  exact aq fol (o1++[.r [(2,{rs:=[oB x20],st:=st21,m:=5}),(4,wF),(5,wF),(6,wF),(7,wF),(8,wF),(9,wF),(10,wF),(11,yF)],cF,.s 4]) [0,1,5,15,16] [] (t1 (aO c17 c17 c17 c17 c17 c17 c17 (aI c17 eF))) (Zag.p2_ok h5 hE hc1)
 exact xT fol h2 hE [rZ,cF,rZ] c15
theorem Zag.snd {m_0 A1_0:Option Nat} {st:LL} {r:Int×LL} (h:Zag N m_0 A1_0 st=some r):Snd zC 37 [.one (zQ m_0),.one (L.fn 16 1 [zQ A1_0])] st (Zag.rs r) r.2:=
 sO Zag.B Tryz.func37 fun g0 w0 R hE=>by
  unfold Zag at h;obtain ⟨⟨x1,st2⟩,c1,h14⟩:=Zac h;let o3:List PS:=[rZ,rZ,.r [(1,{rs:=[oB x1],st:=st2})]]
  refine Zbc h14 (fun c2 h15=>?_) (fun c2 h16=>?_)
  ·exact xT fol h15 hE (o3++[cT,rZ]) (aI (Zcs.snd c1) c2)
  obtain ⟨i3,rfl,h17⟩:=Zac h16;obtain ⟨x4,x5,c4,h18⟩:=ZbS h17;exact aq fol (o3++[cF,.r [(3,{oc:=[zQ x4,yB true 3 x5]})]]) [0,1,5,15,16] [] (aJ (Zcs.snd c1) c2 c4) (At.loop N (At.loopN (fun y:Int×Int×LL=>Zag.p1.S i3 A1_0 y.1 x5 y.2.1 y.2.2) (fun c J hc y h=>Zag.p1_ok (A6:=y.1) (v7:=y.2.1) (st19:=y.2.2) h hE (fun A6 v7 st19=>hc (A6,v7,st19))) N ((-1),0,st2) h18))
def ZcW.B:Code:=Tryz.f13.body.getD .skip
def ZcW.rs (r:Int×LL):List CV:=[oI r.1]
def ZcW (N:Nat) (m_0:Option Nat) (st:LL):Option (Int×LL):= Zbj (Zag N m_0 m_0 st) fun (x1,st2)=> some (x1,st2)
theorem ZcW.snd {m_0:Option Nat} {st:LL} {r:Int×LL} (h:ZcW N m_0 st=some r):Snd zC 13 [.one (zQ m_0)] st (ZcW.rs r) r.2:=
 sO ZcW.B Tryz.func13 fun g0 w0 R hE=>by
  unfold ZcW at h;obtain ⟨⟨x1,st2⟩,c1,h1⟩:=Zac h;exact xT fol h1 hE [rZ,.r [(3,{rs:=[oI x1],st:=st2})]] (Zag.snd c1)
def Zcg.B:Code:=Tryz.f43.body.getD .skip
def Zcg.rs (r:Int×LL):List CV:=[oI r.1]
def Zcg (N:Nat) (m_0:Option Nat) (at_1:Int) (st:LL):Option (Int×LL):= if (Option.isNone m_0)=true then some (2,st) else Zbj (Zcs N m_0 at_1 st) fun (x1,st2)=> if (!x1)=true then some (5,st2) else if (at_1==0)=true then some (1,st2) else some (0,st2)
theorem Zcg.snd {m_0:Option Nat} {at_1:Int} {st:LL} {r:Int×LL} (h:Zcg N m_0 at_1 st=some r):Snd zC 43 [.one (zQ m_0),oI at_1] st (Zcg.rs r) r.2:=
 sO Zcg.B Tryz.func43 fun g0 w0 R hE=>by
  unfold Zcg at h;refine Zbc h (fun c1 h1=>?_) (fun c1 h2=>?_)
  ·exact xT fol h1 hE [rZ,rZ,cT,rZ] c1
  obtain ⟨⟨x1,st2⟩,c2,h3⟩:=Zac h2;let o1:List PS:=[rZ,rZ,cF,.r [(2,{rs:=[oB x1],st:=st2})]]
  have t1 {Q:Prop} (q:Q):=aJ c1 (Zcs.snd c2) q;refine Zbc h3 (fun c3 h4=>?_) (fun c3 h5=>?_)
  ·exact xT fol h4 hE (o1++[cT,rZ]) (t1 c3)
  refine Zbc h5 (fun c4 h6=>?_) (fun c4 h7=>?_)
  ·exact xT fol h6 hE (o1++[cF,rZ,cT,rZ]) (t1 (aI c3 c4))
  exact xT fol h7 hE (o1++[cF,rZ,cF,rZ]) (t1 (aI c3 c4))
def Zba.B:Code:=Tryz.f44.body.getD .skip
def Zba.rs (r:LL):List CV:=[]
def Zba.p1 (N:Nat) (c1_:((Option Nat)×Int×LL)→Option LL):((Option Nat)×Int×LL)→Option LL:=fun (A16,at_1,st17)=> Zbj A16 fun i18=> ZcY (st17[i18]?) Zcj fun x19 x20=> if (decide (at_1<(len x20)))=true then Zbj x19 fun i21=> ZcY (st17[i21]?) ZcZ fun x22 x23=> Zbj x22 fun i24=> ZcY (st17[i24]?) ZbK fun x25=> Zbj (ZbP N (Zaz.mk x25 x23) at_1) fun (x26,x27)=> chk (0≤x26.Ahead)<| chk (x26.Ahead<(len x20))<| ZcY (x20[0+(zD x26.Ahead)]?) ZcF fun x28=> if x28.child=true then chk (0≤at_1)<| ZcY (x20[0+(zD at_1)]?) ZcF fun x29=> c1_ ((some i18),w64 (at_1+1),zM st17 i18 [zQ (some i21),yB true 3 (zM x20 (0+(zD at_1)) (ZaQ.ls {x29 with child:=true}))]) else Zbj (Zcu N x28) fun x30=> chk (0≤at_1)<| ZcY (x20[0+(zD at_1)]?) ZcF fun x31=> c1_ ((some i18),w64 (at_1+1),zM st17 i18 [zQ (some i21),yB true 3 (zM x20 (0+(zD at_1)) (ZaQ.ls {x31 with child:=x30}))]) else some st17
def Zba (N:Nat) (m_0:Option Nat) (A1:Int) (st:LL):Option LL:= loopN (Zba.p1 N) N (m_0,if (1:Int)>A1 then 1 else A1,st)
def Zba.p1.S (A16:Option Nat) (at_1:Int) (st17:LL):S:=mkS 49 [(0,sP A16),(4,sI at_1)] [] st17
theorem Zba.p1_ok {A16 at_1 st17 r c1_ J1} (h:Zba.p1 N c1_ (A16,at_1,st17)=some r) (hE:En Tryz.f44 g0 w0 (Zba.rs r) r R) (hc1 : ∀A16 at_1 st17,c1_ (A16,at_1,st17)=some r→At g0 w0 (Zba.p1.S A16 at_1 st17) J1):At g0 w0 (Zba.p1.S A16 at_1 st17) (XK zC R (cK Zba.B [1,0,0] :: .h J1 :: [.b 0])):=by
 unfold Zba.p1 at h;obtain ⟨i18,rfl,h1⟩:=Zac h;obtain ⟨x19,x20,c19,h2⟩:=ZbS h1;refine Zbc h2 (fun c20 h3=>?_) (fun c20 h4=>?_)
 ·obtain ⟨i21,rfl,h5⟩:=Zac h3;obtain ⟨x22,x23,c22,h6⟩:=ZcM h5;obtain ⟨i24,rfl,h7⟩:=Zac h6;obtain ⟨x25,c24,h8⟩:=Zbx h7;obtain ⟨⟨x26,x27⟩,c25,h9⟩:=Zac h8;obtain ⟨c26,c27,h10⟩:=ck2 h9;obtain ⟨x28,c28,h11⟩:=ZcD h10;let o1:List PS:=[.r [(4,{oc:=[zQ (some i21),yB true 3 x20]})],cT,.r [(3,{oc:=[zQ (some i21),yB true 3 x20]}),(5,{rs:=[.agg x26.ls,oB x27],m:=10,cv:=[.one (L.bx 2 (Zaz.ls (Zaz.mk x25 x23)))]})],.d {ds:=[(3,{oc:=[zQ (some i21),yB true 3 x20]}),(7,{oc:=[zQ (some i21),yB true 3 x20],oe:=x28.ls})],hv:=768,Hs:=[256,768]}]
  have t1 {Q:Prop} (q:Q):=aO c19 c20 c19 (bO 2 c22 ((bC 87 c24 (ZaG.bv x25) (bW bN)):BVs st17 [zQ (some i24),yB true 1 x23] (Zaz.ls (Zaz.mk x25 x23)))) (ZbP.snd c25) c19 c19 (aO c26 c27 c26 c27 c28 c19 c28 (aJ c19 c19 q));refine Zbc h11 (fun c29 h12=>?_) (fun c29 h13=>?_)
  ·obtain ⟨c30,h14⟩:=Zbd h12;obtain ⟨x29,c31,h15⟩:=ZcD h14;exact ZjO fol (o1++[.d {ds:=[(3,{oc:=[zQ (some i21),yB true 3 x20]}),(8,wF),(9,wF),(13,{oc:=[zQ (some i21),yB true 3 x20],oe:=x29.ls,yes:=false})],hv:=8192,Hs:=[8192]},rZ]) [0,4] [] (t1 (aN c29 c29 c29 c30 (oD c20) c31 c19)) (hc1 (some i18) (w64 (at_1+1)) (zM st17 i18 [zQ (some i21),yB true 3 (zM x20 (0+(zD at_1)) (ZaQ.ls {x29 with child:=true}))]) h15)
  obtain ⟨x30,c32,h16⟩:=Zac h13;obtain ⟨c33,h17⟩:=Zbd h16;obtain ⟨x31,c34,h18⟩:=ZcD h17;exact ZjO fol (o1++[.d {ds:=[(3,{oc:=[zQ (some i21),yB true 3 x20]}),(9,q1 [oB x30]),(10,yF),(13,{oc:=[zQ (some i21),yB true 3 x20],oe:=x31.ls,yes:=false})],hv:=8192,Hs:=[8192]},rZ]) [0,4] [] (t1 (aO c29 c29 (Zcu.snd c32) c29 c33 (oD c20) c34 c19)) (hc1 (some i18) (w64 (at_1+1)) (zM st17 i18 [zQ (some i21),yB true 3 (zM x20 (0+(zD at_1)) (ZaQ.ls {x31 with child:=x30}))]) h18)
 exact xR fol h4 hE [.r [(4,{oc:=[zQ x19,yB true 3 x20]})],cF] (aI c19 c20)
theorem Zba.snd {m_0:Option Nat} {A1:Int} {st:LL} {r:LL} (h:Zba N m_0 A1 st=some r):Snd zC 44 [.one (zQ m_0),oI A1] st (Zba.rs r) r:=
 sO Zba.B Tryz.func44 fun g0 w0 R hE=>by
  unfold Zba at h;exact aq fol [rZ] [0,4] [] trivial (At.loop N (At.loopN (fun y:(Option Nat)×Int×LL=>Zba.p1.S y.1 y.2.1 y.2.2) (fun c J hc y h=>Zba.p1_ok (A16:=y.1) (at_1:=y.2.1) (st17:=y.2.2) h hE (fun A16 at_1 st17=>hc (A16,at_1,st17))) N (m_0,if (1:Int)>A1 then 1 else A1,st) h))
def ZbN.B:Code:=Tryz.f22.body.getD .skip
def ZbN.rs (r:Int×LL):List CV:=[oI r.1]
def ZbN (N:Nat) (m_0:Option Nat) (at_1:Int) (st:LL):Option (Int×LL):= Zbj (Zcg N m_0 at_1 st) fun (x1,st2)=> if (x1 != 0)=true then some (x1,st2) else Zbj m_0 fun i3=> ZcY (st2[i3]?) Zcj fun x4 x5=> chk (0≤at_1)<| chk (at_1<(len x5))<| ZcY (x5[0+(zD at_1)]?) ZcF fun x6=> Zbj (Zba N (some i3) at_1 (zM st2 i3 [zQ x4,yB true 3 (zM x5 (0+(zD at_1)) (ZaQ.ls {x6 with out:=true}))])) fun st7=> some (0,st7)
theorem ZbN.snd {m_0:Option Nat} {at_1:Int} {st:LL} {r:Int×LL} (h:ZbN N m_0 at_1 st=some r):Snd zC 22 [.one (zQ m_0),oI at_1] st (ZbN.rs r) r.2:=
 sO ZbN.B Tryz.func22 fun g0 w0 R hE=>by
  unfold ZbN at h;obtain ⟨⟨x1,st2⟩,c1,h1⟩:=Zac h;let o1:List PS:=[rZ,.r [(2,{rs:=[oI x1],st:=st2})],rZ]
  refine Zbc h1 (fun c2 h2=>?_) (fun c2 h3=>?_)
  ·exact xT fol h2 hE (o1++[cT,rZ]) (aI (Zcg.snd c1) c2)
  obtain ⟨i3,rfl,h4⟩:=Zac h3;obtain ⟨x4,x5,c4,h5⟩:=ZbS h4;obtain ⟨c5,c6,h6⟩:=ck2 h5;obtain ⟨x6,c7,h7⟩:=ZcD h6;obtain ⟨st7,c8,h8⟩:=Zac h7;exact xT fol h8 hE (o1++[cF,.r [(3,{oc:=[zQ x4,yB true 3 x5]}),(7,{oc:=[zQ x4,yB true 3 x5],oe:=x6.ls,yes:=false})],.r [(2,{st:=st7})],rZ]) (aO (Zcg.snd c1) c2 c4 c5 c6 c7 c4 (Zba.snd c8))
def ZdW.B:Code:=Tryz.f9.body.getD .skip
def ZdW.rs (r:Bool×LL):List CV:=[oB r.1]
def ZdW (N:Nat) (st:LL):Option (Bool×LL):= Zbj (Zfr N (Zae.mk 545259519 4 10 0 false [] [] (zB 4 0) (zB 4 0) (Zak.mk 0 (zB 32 0) (zB 32 0) 0 0 0)) 5 st) fun (x1,x2,st3)=> if (x2 != 0)=true then some (false,st3) else Zbj (Zfu N x1 st3) fun (x4,st5)=> Zbj (ZcW N x4 st5) fun (x6,st7)=> if (x6==0)=true then Zbj (Zbh N x4 0 st7) fun (x8,st9)=> if x8=true then Zbj (ZbN N x4 0 st9) fun (x10,st11)=> some (x10==1,st11) else some (false,st9) else some (false,st7)
theorem ZdW.snd {st:LL} {r:Bool×LL} (h:ZdW N st=some r):Snd zC 9 [] st (ZdW.rs r) r.2:=
 sO ZdW.B Tryz.func9 fun g0 w0 R hE=>by
  unfold ZdW at h;obtain ⟨⟨x1,x2,st3⟩,c1,h1⟩:=Zac h;let o1:List PS:=[rZ,.r [(1,{rs:=[.one (zQ x1),oI x2],st:=st3})],rZ]
  have t1 {Q:Prop} (q:Q):=aI (Zfr.snd c1) q;refine Zbc h1 (fun c2 h2=>?_) (fun c2 h3=>?_)
  ·exact xT fol h2 hE (o1++[cT,rZ]) (t1 c2)
  obtain ⟨⟨x4,st5⟩,c3,h4⟩:=Zac h3;obtain ⟨⟨x6,st7⟩,c4,h5⟩:=Zac h4;let o2:List PS:=o1++[cF,.r [(1,{rs:=[.one (zQ x4)],st:=st5})]]
  have t2 {Q:Prop} (q:Q):=t1 (aK c2 (Zfu.snd c3) (ZcW.snd c4) q);refine Zbc h5 (fun c5 h6=>?_) (fun c5 h7=>?_)
  ·obtain ⟨⟨x8,st9⟩,c6,h8⟩:=Zac h6;refine Zbc h8 (fun c7 h9=>?_) (fun c7 h10=>?_)
   ·obtain ⟨⟨x10,st11⟩,c8,h11⟩:=Zac h9;exact xT fol h11 hE (o2++[.r [(1,{rs:=[oI x6],st:=st7}),(5,{rs:=[oB x8],st:=st9}),(9,{rs:=[oI x10],st:=st11})]]) (t2 (aO c5 c5 (Zbh.snd c6) c5 c7 c7 (ZbN.snd c8) (aI c7 c7)))
   exact xT fol h10 hE (o2++[.r [(1,{rs:=[oI x6],st:=st7}),(5,{rs:=[oB x8],st:=st9}),(8,wF),(9,wF),(10,wF),(11,yF)]]) (t2 (aO c5 c5 (Zbh.snd c6) c5 c7 c7 c7 c7))
  exact xT fol h7 hE (o2++[.r [(1,{rs:=[oI x6],st:=st7}),(4,wF),(5,wF),(6,yF),(8,wF),(9,wF),(10,wF),(11,yF)]]) (t2 (aN c5 c5 c5 eF eF eF eF))
def Zao.B:Code:=Tryz.f100.body.getD .skip
def Zao.rs (r:(List Int)):List CV:=[.agg [zH .u64 4 r]]
def Zao.p4 (N:Nat) (c3_:(Int×(List Int))→Option (List Int)) (A13 A19:Int) (A18 A22:List Int):Option (List Int):= c3_ (w64 (A19+1),A22)
def Zao.p3 (N:Nat) (A13:Int) (A18:List Int) (c3_:(Int×(List Int))→Option (List Int)):(Int×(List Int))→Option (List Int):=fun (A19,A21)=> if (decide (A19<4))=true then if (decide (A13>0))=true then chk (0≤A19)<| chk (0≤(v64 (A13)))<| if (decide (A19>0))=true then chk (0≤(w64 (A19-1)))<| chk ((w64 (A19-1))<4)<| chk (0≤(v64 (w64 (64-A13))))<| Zao.p4 N c3_ A13 A19 A18 (zM (zM A21 (zD A19) (ZbM .u64 (zF A18 (zD A19) 0) (v64 (A13)))) (zD A19) (v64 ((zF (zM A21 (zD A19) (ZbM .u64 (zF A18 (zD A19) 0) (v64 (A13)))) (zD A19) 0)+(Zby .u64 (zF A18 (zD (w64 (A19-1))) 0) (v64 (w64 (64-A13))))))) else Zao.p4 N c3_ A13 A19 A18 (zM A21 (zD A19) (ZbM .u64 (zF A18 (zD A19) 0) (v64 (A13)))) else chk (0≤A19)<| chk (0≤(v64 (w64 (0-A13))))<| if (decide (A19<3))=true then chk (0≤(w64 (A19+1)))<| chk ((w64 (A19+1))<4)<| chk (0≤(v64 (w64 (64+A13))))<| Zao.p4 N c3_ A13 A19 A18 (zM (zM A21 (zD A19) (Zby .u64 (zF A18 (zD A19) 0) (v64 (w64 (0-A13))))) (zD A19) (v64 ((zF (zM A21 (zD A19) (Zby .u64 (zF A18 (zD A19) 0) (v64 (w64 (0-A13))))) (zD A19) 0)+(ZbM .u64 (zF A18 (zD (w64 (A19+1))) 0) (v64 (w64 (64+A13))))))) else Zao.p4 N c3_ A13 A19 A18 (zM A21 (zD A19) (Zby .u64 (zF A18 (zD A19) 0) (v64 (w64 (0-A13))))) else some A21
def Zao.p2 (N:Nat) (c2_:(Int×(List Int))→Option (List Int)):(Int×(List Int))→Option (List Int):=fun (A13,A18)=> if (decide (A13≤(-64)))=true then c2_ (w64 (A13+64),[zF A18 1 0,zF A18 2 0,zF A18 3 0,0]) else if (A13==0)=true then some A18 else loopN (Zao.p3 N A13 A18) N (0,zB 4 0)
def Zao.p1 (N:Nat) (c1_:(Int×(List Int))→Option (List Int)):(Int×(List Int))→Option (List Int):=fun (F1,A12)=> if (decide (F1≥64))=true then c1_ (w64 (F1-64),[0,zF A12 0 0,zF A12 1 0,zF A12 2 0]) else loopN (Zao.p2 N) N (F1,A12)
def Zao (N:Nat) (A0_0:List Int) (F1:Int):Option (List Int):= if (decide (F1≤(-256)))=true then some (zB 4 0) else if (decide (F1≥256))=true then some (zB 4 0) else loopN (Zao.p1 N) N (F1,A0_0)
def Zao.p4.S (A13 A19:Int) (A18 A22:List Int) (st:LL):S:=mkS 96 [(1,sI A13),(2,sA 2),(4,sA 4),(5,sA 5),(6,sI A19)] [(2,.cells [zH .u64 4 A18]),(4,.cells [zH .u64 4 (zB 4 0)]),(5,.cells [zH .u64 4 A22])] st
def Zao.p3.S (A13 A19:Int) (A18 A21:List Int) (st:LL):S:=mkS 96 [(1,sI A13),(2,sA 2),(4,sA 4),(5,sA 5),(6,sI A19)] [(2,.cells [zH .u64 4 A18]),(4,.cells [zH .u64 4 (zB 4 0)]),(5,.cells [zH .u64 4 A21])] st
def Zao.p2.S (A13:Int) (A18:List Int) (st:LL):S:=mkS 96 [(1,sI A13),(2,sA 2),(4,sA 4),(5,sA 5)] [(2,.cells [zH .u64 4 A18]),(4,.cells [zH .u64 4 (zB 4 0)]),(5,.cells [zH .u64 4 (zB 4 0)])] st
def Zao.p1.S (F1:Int) (A12:List Int) (st:LL):S:=mkS 96 [(1,sI F1),(2,sA 2),(4,sA 4),(5,sA 5)] [(2,.cells [zH .u64 4 A12]),(4,.cells [zH .u64 4 (zB 4 0)]),(5,.cells [zH .u64 4 (zB 4 0)])] st
theorem Zao.p4_ok {A13 A19 A18 A22 st r c3_ J3} (h:Zao.p4 N c3_ A13 A19 A18 A22=some r) (hE:En Tryz.f100 g0 w0 (Zao.rs r) st R) (hc3 : ∀A19 A21,c3_ (A19,A21)=some r→At g0 w0 (Zao.p3.S A13 A19 A18 A21 st) J3):At g0 w0 (Zao.p4.S A13 A19 A18 A22 st) (XK zC R [cK Zao.B [1,1,1,1,1,1,0,1,0,0,1,1],.h J3,.b 4,cK Zao.B [1,1,1,1,1,1,1]]):=by
 unfold Zao.p4 at h;exact an fol [rZ] [1,2,4,5,6] [2,4,5] trivial (hc3 (w64 (A19+1)) A22 h)
theorem Zao.p3_ok {A13 A19 A18 A21 st r c3_ J3} (h:Zao.p3 N A13 A18 c3_ (A19,A21)=some r) (hE:En Tryz.f100 g0 w0 (Zao.rs r) st R) (hc3 : ∀A19 A21,c3_ (A19,A21)=some r→At g0 w0 (Zao.p3.S A13 A19 A18 A21 st) J3):At g0 w0 (Zao.p3.S A13 A19 A18 A21 st) (XK zC R (cK Zao.B [1,1,1,1,1,1,0,1,0,0] :: .h J3 :: [.b 4,cK Zao.B [1,1,1,1,1,1,1]])):=by
 unfold Zao.p3 at h;refine Zbc h (fun c111 h1=>?_) (fun c111 h2=>?_)
 ·let o1:List PS:=[rZ,cT,rZ]
  refine Zbc h1 (fun c112 h3=>?_) (fun c112 h4=>?_)
  ·obtain ⟨c113,c114,h5⟩:=ck2 h3;have t1 {Q:Prop} (q:Q):=aO c111 c112 c113 (oD c111) c114 c113 (oD c111) q;refine Zbc h5 (fun c115 h6=>?_) (fun c115 h7=>?_)
   ·obtain ⟨c116,c117,c118,h8⟩:=ck3 h6;exact aqd fol (o1++[cT,rZ,rZ,cT,.d {ds:=[],hv:=16384,Hs:=[16384]},.s 4]) [1,2,4,5,6] [2,4,5] (t1 (aO c115 c113 (oD c111) c116 c117 c118 c113 (oD c111))) (Zao.p4_ok h8 hE hc3)
   exact aq fol (o1++[cT,rZ,rZ,cF,.s 4]) [1,2,4,5,6] [2,4,5] (t1 c115) (Zao.p4_ok h7 hE hc3)
  obtain ⟨c119,c120,h9⟩:=ck2 h4;have t2 {Q:Prop} (q:Q):=aO c111 c112 c119 (oD c111) c120 c119 (oD c111) q;refine Zbc h9 (fun c121 h10=>?_) (fun c121 h11=>?_)
  ·obtain ⟨c122,c123,c124,h12⟩:=ck3 h10;exact aqd fol (o1++[cF,rZ,rZ,cT,.d {ds:=[],hv:=16384,Hs:=[16384]},.s 4]) [1,2,4,5,6] [2,4,5] (t2 (aO c121 c119 (oD c111) c122 c123 c124 c119 (oD c111))) (Zao.p4_ok h12 hE hc3)
  exact aq fol (o1++[cF,rZ,rZ,cF,.s 4]) [1,2,4,5,6] [2,4,5] (t2 c121) (Zao.p4_ok h11 hE hc3)
 exact xS fol h2 hE [rZ,cF,rZ] c111
theorem Zao.p2_ok {A13 A18 st r c2_ J2} (h:Zao.p2 N c2_ (A13,A18)=some r) (hE:En Tryz.f100 g0 w0 (Zao.rs r) st R) (hc2 : ∀A13 A18,c2_ (A13,A18)=some r→At g0 w0 (Zao.p2.S A13 A18 st) J2):At g0 w0 (Zao.p2.S A13 A18 st) (XK zC R (cK Zao.B [1,1,1,1,0,0,0] :: .h J2 :: [.b 2,cK Zao.B [1,1,1,1,1]])):=by
 unfold Zao.p2 at h;refine Zbc h (fun c95 h13=>?_) (fun c95 h14=>?_)
 ·exact an fol [rZ,cT,.r [(6,{m:=3})],rZ] [1,2,4,5] [2,4,5] (aI c95 (ix 1 4 (ix 2 4 (aI (leI 0 3) (ltI 3 4))))) (hc2 (w64 (A13+64)) [zF A18 1 0,zF A18 2 0,zF A18 3 0,0] h13)
 refine Zbc h14 (fun c96 h15=>?_) (fun c96 h16=>?_)
 ·exact xS fol h15 hE [rZ,cF,rZ,cT,rZ] (aI c95 c96)
 exact aq fol [rZ,cF,rZ,cF,rZ] [1,2,4,5,6] [2,4,5] (aI c95 c96) (At.loop N (At.loopN (fun y:Int×(List Int)=>Zao.p3.S A13 y.1 A18 y.2 st) (fun c J hc y h=>Zao.p3_ok (A19:=y.1) (A21:=y.2) h hE (fun A19 A21=>hc (A19,A21))) N (0,zB 4 0) h16))
theorem Zao.p1_ok {F1 A12 st r c1_ J1} (h:Zao.p1 N c1_ (F1,A12)=some r) (hE:En Tryz.f100 g0 w0 (Zao.rs r) st R) (hc1 : ∀F1 A12,c1_ (F1,A12)=some r→At g0 w0 (Zao.p1.S F1 A12 st) J1):At g0 w0 (Zao.p1.S F1 A12 st) (XK zC R (cK Zao.B [1,1,1,0,0,0] :: .h J1 :: [.b 0,cK Zao.B [1,1,1,1]])):=by
 unfold Zao.p1 at h;refine Zbc h (fun c64 h17=>?_) (fun c64 h18=>?_)
 ·exact an fol [rZ,cT,.r [(6,{m:=3})],rZ] [1,2,4,5] [2,4,5] (aI c64 (ix 0 4 (ix 1 4 (aI (leI 0 2) (ltI 2 4))))) (hc1 (w64 (F1-64)) [0,zF A12 0 0,zF A12 1 0,zF A12 2 0] h17)
 exact aq fol [rZ,cF] [1,2,4,5] [2,4,5] c64 (At.loop N (At.loopN (fun y:Int×(List Int)=>Zao.p2.S y.1 y.2 st) (fun c J hc y h=>Zao.p2_ok (A13:=y.1) (A18:=y.2) h hE (fun A13 A18=>hc (A13,A18))) N (F1,A12) h18))
theorem Zao.snd {A0_0:List Int} {F1:Int} {r:(List Int)} (h:Zao N A0_0 F1=some r):ZdH zC 100 [.agg [zH .u64 4 A0_0],oI F1] (Zao.rs r):=fun st=>
 sO Zao.B Tryz.func100 fun g0 w0 R hE=>by
  unfold Zao at h;refine Zbc h (fun c1 h19=>?_) (fun c1 h20=>?_)
  ·exact xS fol h19 hE [rZ,rZ,.r [(3,wF),(4,wF)],cT,rZ] (aK c1 c1 c1 eT)
  let o2:List PS:=[rZ,rZ,.r [(5,yF)]]
  refine Zbc h20 (fun c2 h21=>?_) (fun c2 h22=>?_)
  ·exact xS fol h21 hE (o2++[cT,rZ]) (aK c1 c1 c1 c2)
  exact aq fol (o2++[cF]) [1,2,4,5] [2,4,5] (aK c1 c1 c1 c2) (At.loop N (At.loopN (fun y:Int×(List Int)=>Zao.p1.S y.1 y.2 st) (fun c J hc y h=>Zao.p1_ok (F1:=y.1) (A12:=y.2) h hE (fun F1 A12=>hc (F1,A12))) N (F1,A0_0) h22))
def ZaT.B:Code:=Tryz.f78.body.getD .skip
def ZaT.rs (r:(List Int)×Bool×Bool):List CV:=[.agg [zH .u64 4 r.1],oB r.2.1,oB r.2.2]
def ZaT.p1 (N:Nat) (A0:Int) (F2:Bool) (x1:List Int):Option ((List Int)×Bool×Bool):= if (decide ((zW A0 8388608)>0))=true then some (x1,(zW (w64 (zR A0 8388608)) 2)==1,F2) else some (x1,false,F2)
def ZaT (N:Nat) (A0:Int):Option ((List Int)×Bool×Bool):= if (decide (A0<0))=true then some (zB 4 0,false,false) else if (decide (A0>4294967295))=true then some (zB 4 0,false,false) else Zbj (Zao N [v64 (zW A0 8388608),0,0,0] (w64 (8*(w64 ((w64 (zR A0 16777216))-3))))) fun x1=> if (decide ((zW A0 8388608)>0))=true then if (decide ((w64 (zR A0 16777216))>34))=true then ZaT.p1 N A0 true x1 else if (decide ((zW A0 8388608)>255))=true then if (decide ((w64 (zR A0 16777216))>33))=true then ZaT.p1 N A0 true x1 else if (decide ((zW A0 8388608)>65535))=true then ZaT.p1 N A0 (decide ((w64 (zR A0 16777216))>32)) x1 else ZaT.p1 N A0 false x1 else if (decide ((zW A0 8388608)>65535))=true then ZaT.p1 N A0 (decide ((w64 (zR A0 16777216))>32)) x1 else ZaT.p1 N A0 false x1 else if (decide ((zW A0 8388608)>255))=true then if (decide ((w64 (zR A0 16777216))>33))=true then ZaT.p1 N A0 true x1 else if (decide ((zW A0 8388608)>65535))=true then ZaT.p1 N A0 (decide ((w64 (zR A0 16777216))>32)) x1 else ZaT.p1 N A0 false x1 else if (decide ((zW A0 8388608)>65535))=true then ZaT.p1 N A0 (decide ((w64 (zR A0 16777216))>32)) x1 else ZaT.p1 N A0 false x1
def ZaT.p1.S (A0:Int) (F2:Bool) (x1:List Int) (st:LL):S:=mkS 61 [(2,sA 2),(6,sI (zW A0 8388608)),(7,.one (.l (xL ((zW (w64 (zR A0 8388608)) 2)==1)))),(8,sA 8),(9,.one (.l (xL F2)))] [(2,.cells [zH .u64 4 (zB 4 0)]),(8,.cells [zH .u64 4 x1])] st
theorem ZaT.p1_ok {A0 F2 x1 st r} (h:ZaT.p1 N A0 F2 x1=some r) (hE:En Tryz.f78 g0 w0 (ZaT.rs r) st R):At g0 w0 (ZaT.p1.S A0 F2 x1 st) (XK zC R [cK ZaT.B [1,1,1,1,1,1,1]]):=by
 unfold ZaT.p1 at h;refine Zbc h (fun c14 h1=>?_) (fun c14 h2=>?_)
 ·exact xS fol h1 hE [rZ] (aI c14 c14)
 exact xS fol h2 hE [.r [(4,wF),(5,yF)]] (aI c14 c14)
theorem ZaT.snd {A0:Int} {r:(List Int)×Bool×Bool} (h:ZaT N A0=some r):ZdH zC 78 [oI A0] (ZaT.rs r):=fun st=>
 sO ZaT.B Tryz.func78 fun g0 w0 R hE=>by
  unfold ZaT at h;refine Zbc h (fun c1 h3=>?_) (fun c1 h4=>?_)
  ·exact xS fol h3 hE [rZ,.r [(3,wF),(4,wF)],cT,rZ] (aK c1 c1 c1 eT)
  let o1:List PS:=[rZ,.r [(5,yF)]]
  have t1 {Q:Prop} (q:Q):=aK c1 c1 c1 q;refine Zbc h4 (fun c2 h5=>?_) (fun c2 h6=>?_)
  ·exact xS fol h5 hE (o1++[cT,rZ]) (t1 c2)
  obtain ⟨x1,c3,h7⟩:=Zac h6;let o2:List PS:=o1++[cF,rZ,rZ,rZ,.r [(2,{m:=3}),(6,q1 [.agg [zH .u64 4 x1]])]]
  have t2 {Q:Prop} (q:Q):=t1 (aN c2 (neI 16777216) (neI 8388608) (neI 8388608) (neI 2) (Zao.snd c3) q);refine Zbc h7 (fun c4 h8=>?_) (fun c4 h9=>?_)
  ·have t3 {Q:Prop} (q:Q):=t2 (aK c4 c4 c4 q);refine Zbc h8 (fun c5 h10=>?_) (fun c5 h11=>?_)
   ·exact aq fol (o2++[.r [(7,wF),(8,wF),(9,wF),(12,wF),(15,wF),(16,wF),(17,wF),(20,wF)],.s 1]) [2,6,7,8,9] [2,8] (t3 (aO c5 c5 c5 c5 c5 eT eT (aJ eT eT eT))) (ZaT.p1_ok h10 hE)
   have t4 {Q:Prop} (q:Q):=t3 (aK c5 c5 c5 q);refine Zbc h11 (fun c6 h12=>?_) (fun c6 h13=>?_)
   ·refine Zbc h12 (fun c7 h14=>?_) (fun c7 h15=>?_)
    ·exact aq fol (o2++[.r [(13,yF),(15,wF),(16,wF),(17,wF),(20,wF)],.s 1]) [2,6,7,8,9] [2,8] (t4 (aO c6 c6 c5 c6 c5 c7 c7 (aJ c7 c7 c7))) (ZaT.p1_ok h14 hE)
    refine Zbc h15 (fun c8 h16=>?_) (fun c8 h17=>?_)
    ·exact aq fol (o2++[.r [(13,yF),(21,yF)],.s 1]) [2,6,7,8,9] [2,8] (t4 (aO c6 c6 c5 c6 c5 c7 c7 (aM c7 c8 c8 c7 c8 c7))) (ZaT.p1_ok h16 hE)
    exact aq fol (o2++[.r [(13,yF),(18,wF),(19,wF),(20,yF),(21,yF)],.s 1]) [2,6,7,8,9] [2,8] (t4 (aO c6 c6 c5 c6 c5 c7 c7 (aM c7 c8 c8 c7 c8 c7))) (ZaT.p1_ok h17 hE)
   have t5 {Q:Prop} (q:Q):=t4 (aO c6 c6 c5 c6 c5 eF eF (aI eF q));refine Zbc h13 (fun c9 h18=>?_) (fun c9 h19=>?_)
   ·exact aq fol (o2++[.r [(10,wF),(11,wF),(12,yF),(13,yF),(21,yF)],.s 1]) [2,6,7,8,9] [2,8] (t5 (aL c9 c9 eF c9 eF)) (ZaT.p1_ok h18 hE)
   exact aq fol (o2++[.r [(10,wF),(11,wF),(12,yF),(13,yF),(18,wF),(19,wF),(20,yF),(21,yF)],.s 1]) [2,6,7,8,9] [2,8] (t5 (aL c9 c9 eF c9 eF)) (ZaT.p1_ok h19 hE)
  have t6 {Q:Prop} (q:Q):=t2 (aN c4 c4 c4 eF eF eF q);refine Zbc h9 (fun c10 h20=>?_) (fun c10 h21=>?_)
  ·have t7 {Q:Prop} (q:Q):=t6 (aM c10 c10 eF c10 eF q);refine Zbc h20 (fun c11 h22=>?_) (fun c11 h23=>?_)
   ·exact aq fol (o2++[.r [(3,wF),(4,wF),(5,yF),(13,yF),(15,wF),(16,wF),(17,wF),(20,wF)],.s 1]) [2,6,7,8,9] [2,8] (t7 (aL c11 c11 c11 c11 c11)) (ZaT.p1_ok h22 hE)
   refine Zbc h23 (fun c12 h24=>?_) (fun c12 h25=>?_)
   ·exact aq fol (o2++[.r [(3,wF),(4,wF),(5,yF),(13,yF),(21,yF)],.s 1]) [2,6,7,8,9] [2,8] (t7 (aO c11 c11 c11 c12 c12 c11 c12 c11)) (ZaT.p1_ok h24 hE)
   exact aq fol (o2++[.r [(3,wF),(4,wF),(5,yF),(13,yF),(18,wF),(19,wF),(20,yF),(21,yF)],.s 1]) [2,6,7,8,9] [2,8] (t7 (aO c11 c11 c11 c12 c12 c11 c12 c11)) (ZaT.p1_ok h25 hE)
  have t8 {Q:Prop} (q:Q):=t6 (aO c10 c10 eF c10 eF eF eF (aI eF q));refine Zbc h21 (fun c13 h26=>?_) (fun c13 h27=>?_)
  ·exact aq fol (o2++[.r [(3,wF),(4,wF),(5,yF),(10,wF),(11,wF),(12,yF),(13,yF),(21,yF)],.s 1]) [2,6,7,8,9] [2,8] (t8 (aL c13 c13 eF c13 eF)) (ZaT.p1_ok h26 hE)
  exact aq fol (o2++[.r [(3,wF),(4,wF),(5,yF),(10,wF),(11,wF),(12,yF),(13,yF),(18,wF),(19,wF),(20,yF),(21,yF)],.s 1]) [2,6,7,8,9] [2,8] (t8 (aL c13 c13 eF c13 eF)) (ZaT.p1_ok h27 hE)
def Zdg.B:Code:=Tryz.f116.body.getD .skip
def Zdg.rs (r:Int):List CV:=[oI r]
def Zdg (N:Nat) (A0_0:List Int) (A1:Int):Option Int:= if (decide (A1<0))=true then some 0 else if (decide (A1>255))=true then some 0 else chk (0≤(w64 (zR A1 64)))<| chk ((w64 (zR A1 64))<4)<| chk (0≤(v64 (zW A1 64)))<| some (w64 (zW (Zby .u64 (zF A0_0 (zD (w64 (zR A1 64))) 0) (v64 (zW A1 64))) 2))
theorem Zdg.snd {A0_0:List Int} {A1:Int} {r:Int} (h:Zdg N A0_0 A1=some r):ZdH zC 116 [.agg [zH .u64 4 A0_0],oI A1] (Zdg.rs r):=fun st=>
 sO Zdg.B Tryz.func116 fun g0 w0 R hE=>by
  unfold Zdg at h;refine Zbc h (fun c1 h1=>?_) (fun c1 h2=>?_)
  ·exact xS fol h1 hE [rZ,.r [(3,wF),(4,wF)],cT,rZ] (aK c1 c1 c1 eT)
  refine Zbc h2 (fun c2 h3=>?_) (fun c2 h4=>?_)
  ·exact xS fol h3 hE [rZ,.r [(5,yF)],cT,rZ] (aK c1 c1 c1 c2)
  obtain ⟨c3,c4,c5,h5⟩:=ck3 h4;exact xS fol h5 hE [rZ,.r [(5,yF)],cF,rZ] (aO c1 c1 c1 c2 (neI 64) c3 c4 (aJ (neI 64) c5 (neI 2)))
def ZbE.B:Code:=Tryz.f93.body.getD .skip
def ZbE.rs (r:Bool):List CV:=[oB r]
def ZbE.p1 (N:Nat) (A0_0 A1_0:List Int) (c1_:Int→Option Bool):Int→Option Bool:=fun A1=> if (decide (A1≥0))=true then Zbj (Zdg N A0_0 A1) fun x2=> Zbj (Zdg N A1_0 A1) fun x3=> if (x2 != x3)=true then some (decide (x2<x3)) else c1_ (w64 (A1-1)) else some false
def ZbE (N:Nat) (A0_0 A1_0:List Int):Option Bool:= loopN (ZbE.p1 N A0_0 A1_0) N 255
def ZbE.p1.S (A1:Int) (A0_0 A1_0:List Int) (st:LL):S:=mkS 24 [(2,sA 2),(3,sA 3),(5,sI A1)] [(2,.cells [zH .u64 4 A0_0]),(3,.cells [zH .u64 4 A1_0])] st
theorem ZbE.p1_ok {A1 A0_0 A1_0 st r c1_ J1} (h:ZbE.p1 N A0_0 A1_0 c1_ A1=some r) (hE:En Tryz.f93 g0 w0 (ZbE.rs r) st R) (hc1 : ∀A1,c1_ A1=some r→At g0 w0 (ZbE.p1.S A1 A0_0 A1_0 st) J1):At g0 w0 (ZbE.p1.S A1 A0_0 A1_0 st) (XK zC R (cK ZbE.B [1,0,1,0,0] :: .h J1 :: [.b 0,cK ZbE.B [1,1]])):=by
 unfold ZbE.p1 at h;refine Zbc h (fun c1 h1=>?_) (fun c1 h2=>?_)
 ·obtain ⟨x2,c2,h3⟩:=Zac h1;obtain ⟨x3,c3,h4⟩:=Zac h3;let o1:List PS:=[rZ,cT,.d {ds:=[(2,q1 [oI x2]),(5,q1 [oI x3])],hv:=0,Hs:=[]}]
  have t1 {Q:Prop} (q:Q):=aK c1 (Zdg.snd c2) (Zdg.snd c3) q;refine Zbc h4 (fun c4 h5=>?_) (fun c4 h6=>?_)
  ·exact xSd fol h5 hE (o1++[cT,.d {ds:=[(2,q1 [oI x2]),(5,q1 [oI x3])],hv:=0,Hs:=[]}]) (t1 (aJ c4 (Zdg.snd c2) (Zdg.snd c3)))
  exact ZjO fol (o1++[cF,rZ]) [2,3,5] [2,3] (t1 c4) (hc1 (w64 (A1-1)) h6)
 exact xS fol h2 hE [rZ,cF,rZ] c1
theorem ZbE.snd {A0_0 A1_0:List Int} {r:Bool} (h:ZbE N A0_0 A1_0=some r):ZdH zC 93 [.agg [zH .u64 4 A0_0],.agg [zH .u64 4 A1_0]] (ZbE.rs r):=fun st=>
 sO ZbE.B Tryz.func93 fun g0 w0 R hE=>by
  unfold ZbE at h;exact aq fol [rZ,rZ] [2,3,5] [2,3] trivial (At.loop N (At.loopN (fun y:Int=>ZbE.p1.S y A0_0 A1_0 st) (fun c J hc y h=>ZbE.p1_ok h hE (fun A1=>hc A1)) N 255 h))
def ZcS.B:Code:=Tryz.f75.body.getD .skip
def ZcS.rs (r:(List Int)×Bool):List CV:=[.agg [zH .u64 4 r.1],oB r.2]
def ZcS (N:Nat) (A0 A1:Int):Option ((List Int)×Bool):= Zbj (ZaT N A0) fun (x1,x2,x3)=> Zbj (ZaT N A1) fun (x4,x5,x6)=> if x2=true then some (zB 4 0,false) else if x3=true then some (zB 4 0,false) else if x5=true then some (zB 4 0,false) else if x6=true then some (zB 4 0,false) else if (x1==(zB 4 0))=true then some (zB 4 0,false) else Zbj (ZbE N x4 x1) fun x7=> if x7=true then some (zB 4 0,false) else some (x1,true)
theorem ZcS.snd {A0 A1:Int} {r:(List Int)×Bool} (h:ZcS N A0 A1=some r):ZdH zC 75 [oI A0,oI A1] (ZcS.rs r):=fun st=>
 sO ZcS.B Tryz.func75 fun g0 w0 R hE=>by
  unfold ZcS at h;obtain ⟨⟨x1,x2,x3⟩,c1,h1⟩:=Zac h;obtain ⟨⟨x4,x5,x6⟩,c2,h2⟩:=Zac h1;let o1:List PS:=[rZ,.r [(1,q1 [.agg [zH .u64 4 x1],oB x2,oB x3])],.r [(1,q1 [.agg [zH .u64 4 x4],oB x5,oB x6])]]
  have t1 {Q:Prop} (q:Q):=aJ (ZaT.snd c1) (ZaT.snd c2) q;refine Zbc h2 (fun c3 h3=>?_) (fun c3 h4=>?_)
  ·exact xS fol h3 hE (o1++[.r [(2,wF),(5,wF),(8,wF),(11,wF),(12,wF),(13,wF),(16,wF),(17,wF),(18,wF)],cT,rZ]) (t1 (aO c3 c3 eT eT eT eT eT (aO eT eT eT eT eT eT eT eT)))
  refine Zbc h4 (fun c4 h5=>?_) (fun c4 h6=>?_)
  ·exact xS fol h5 hE (o1++[.r [(3,yF),(5,wF),(8,wF),(11,wF),(12,wF),(13,wF),(16,wF),(17,wF),(18,wF)],cT,rZ]) (t1 (aO c3 c3 c4 c4 eT eT eT (aO eT eT eT eT eT eT eT eT)))
  have t2 {Q:Prop} (q:Q):=t1 (aL c3 c3 c4 c4 q);refine Zbc h6 (fun c5 h7=>?_) (fun c5 h8=>?_)
  ·exact xS fol h7 hE (o1++[.r [(3,yF),(6,yF),(8,wF),(11,wF),(12,wF),(13,wF),(16,wF),(17,wF),(18,wF)],cT,rZ]) (t2 (aO c5 c5 eT eT eT eT eT (aK eT eT eT eT)))
  refine Zbc h8 (fun c6 h9=>?_) (fun c6 h10=>?_)
  ·exact xS fol h9 hE (o1++[.r [(3,yF),(6,yF),(9,yF),(11,wF),(12,wF),(13,wF),(16,wF),(17,wF),(18,wF)],cT,rZ]) (t2 (aO c5 c5 c6 c6 c6 c6 eT (aK eT eT eT eT)))
  have t3 {Q:Prop} (q:Q):=t2 (aN c5 c5 c6 c6 c6 c6 q);refine Zbc h10 (fun c7 h11=>?_) (fun c7 h12=>?_)
  ·exact xS fol h11 hE (o1++[.r [(3,yF),(6,yF),(9,yF),(14,yF),(16,wF),(17,wF),(18,wF)],cT,rZ]) (t3 (aL c7 c7 c7 c7 eT))
  obtain ⟨x7,c8,h13⟩:=Zac h12;let o2:List PS:=o1++[.r [(3,yF),(6,yF),(9,yF),(14,yF),(18,q1 [oB x7]),(19,yF)]]
  refine Zbc h13 (fun c9 h14=>?_) (fun c9 h15=>?_)
  ·exact xS fol h14 hE (o2++[cT,rZ]) (t3 (aM c7 c7 c7 (ZbE.snd c8) c7 c9))
  exact xS fol h15 hE (o2++[cF,rZ]) (t3 (aM c7 c7 c7 (ZbE.snd c8) c7 c9))
def ZdP.B:Code:=Tryz.f52.body.getD .skip
def ZdP.rs (r:Bool):List CV:=[oB r]
def ZdP (N:Nat) (A0:Zae):Option Bool:= Zbj (ZcS N A0.Limit A0.Limit) fun (x1,x2)=> if x2=true then if (decide (A0.Interval≥2))=true then if (decide (A0.Interval≤64))=true then if (decide (A0.Spacing≥1))=true then if (decide (A0.Spacing≤10000))=true then if (decide (A0.Future≥0))=true then some (decide (A0.Future<4294967296)) else some false else some false else some false else some false else some false else some false
theorem ZdP.snd {A0:Zae} {r:Bool} (h:ZdP N A0=some r):ZdH zC 52 [.agg A0.ls] (ZdP.rs r):=fun st=>
 sO ZdP.B Tryz.func52 fun g0 w0 R hE=>by
  unfold ZdP at h;obtain ⟨⟨x1,x2⟩,c1,h1⟩:=Zac h;let o1:List PS:=[rZ,.r [(4,q1 [.agg [zH .u64 4 x1],oB x2])]]
  have t1 {Q:Prop} (q:Q):=aI (ZcS.snd c1) q;refine Zbc h1 (fun c2 h2=>?_) (fun c2 h3=>?_)
  ·have t2 {Q:Prop} (q:Q):=t1 (aL c2 c2 c2 c2 q);refine Zbc h2 (fun c3 h4=>?_) (fun c3 h5=>?_)
   ·have t3 {Q:Prop} (q:Q):=t2 (aL c3 c3 c3 c3 q);refine Zbc h4 (fun c4 h6=>?_) (fun c4 h7=>?_)
    ·have t4 {Q:Prop} (q:Q):=t3 (aL c4 c4 c4 c4 q);refine Zbc h6 (fun c5 h8=>?_) (fun c5 h9=>?_)
     ·refine Zbc h8 (fun c6 h10=>?_) (fun c6 h11=>?_)
      ·refine Zbc h10 (fun c7 h12=>?_) (fun c7 h13=>?_)
       ·exact xS fol h12 hE (o1++[rZ]) (t4 (aO c5 c5 c5 c5 c6 c6 c6 (aL c6 c7 c7 c7 c7)))
       exact xS fol h13 hE (o1++[.r [(27,wF),(28,wF),(29,wF),(30,yF)]]) (t4 (aO c5 c5 c5 c5 c6 c6 c6 (aL c6 c7 c7 c7 c7)))
      exact xS fol h11 hE (o1++[.r [(22,wF),(23,wF),(24,wF),(25,yF),(27,wF),(28,wF),(29,wF),(30,yF)]]) (t4 (aO c5 c5 c5 c5 c6 c6 c6 (aL c6 eF eF eF eF)))
     exact xS fol h9 hE (o1++[.r [(17,wF),(18,wF),(19,wF),(20,yF),(22,wF),(23,wF),(24,wF),(25,yF),(27,wF),(28,wF),(29,wF),(30,yF)]]) (t4 (aO c5 c5 c5 c5 eF eF eF (aL eF eF eF eF eF)))
    exact xS fol h7 hE (o1++[.r [(12,wF),(13,wF),(14,wF),(15,yF),(17,wF),(18,wF),(19,wF),(20,yF),(22,wF),(23,wF),(24,wF),(25,yF),(27,wF),(28,wF),(29,wF),(30,yF)]]) (t3 (aO c4 c4 c4 c4 eF eF eF (aO eF eF eF eF eF eF eF (aI eF eF))))
   exact xS fol h5 hE (o1++[.r [(7,wF),(8,wF),(9,wF),(10,yF),(12,wF),(13,wF),(14,wF),(15,yF),(17,wF),(18,wF),(19,wF),(20,yF),(22,wF),(23,wF),(24,wF),(25,yF),(27,wF),(28,wF),(29,wF),(30,yF)]]) (t2 (aO c3 c3 c3 c3 eF eF eF (aO eF eF eF eF eF eF eF (aM eF eF eF eF eF eF))))
  exact xS fol h3 hE (o1++[.r [(2,wF),(3,wF),(4,wF),(5,yF),(7,wF),(8,wF),(9,wF),(10,yF),(12,wF),(13,wF),(14,wF),(15,yF),(17,wF),(18,wF),(19,wF),(20,yF),(22,wF),(23,wF),(24,wF),(25,yF),(27,wF),(28,wF),(29,wF),(30,yF)]]) (t1 (aO c2 c2 c2 c2 eF eF eF (aO eF eF eF eF eF eF eF (aO eF eF eF eF eF eF eF (aJ eF eF eF)))))
def Zdk.B:Code:=Tryz.f53.body.getD .skip
def Zdk.rs (r:Bool):List CV:=[oB r]
def Zdk (N:Nat) (h_0:Zak):Option Bool:= if (decide (h_0.Version≥(-2147483648)))=true then if (decide (h_0.Version≤2147483647))=true then if (decide (h_0.Time≥0))=true then if (decide (h_0.Time<4294967296))=true then if (decide (h_0.Bits≥0))=true then if (decide (h_0.Bits<4294967296))=true then if (decide (h_0.Nonce≥0))=true then some (decide (h_0.Nonce<4294967296)) else some false else some false else some false else some false else some false else some false else some false
theorem Zdk.snd {h_0:Zak} {r:Bool} (h:Zdk N h_0=some r):ZdH zC 53 [.agg h_0.ls] (Zdk.rs r):=fun st=>
 sO Zdk.B Tryz.func53 fun g0 w0 R hE=>by
  unfold Zdk at h;let o1:List PS:=[rZ,rZ]
  refine Zbc h (fun c1 h1=>?_) (fun c1 h2=>?_)
  ·have t1 {Q:Prop} (q:Q):=aL c1 c1 c1 c1 q;refine Zbc h1 (fun c2 h3=>?_) (fun c2 h4=>?_)
   ·have t2 {Q:Prop} (q:Q):=t1 (aL c2 c2 c2 c2 q);refine Zbc h3 (fun c3 h5=>?_) (fun c3 h6=>?_)
    ·have t3 {Q:Prop} (q:Q):=t2 (aM c3 c3 c3 c3 c3 q);refine Zbc h5 (fun c4 h7=>?_) (fun c4 h8=>?_)
     ·have t4 {Q:Prop} (q:Q):=t3 (aL c4 c4 c4 c4 q);refine Zbc h7 (fun c5 h9=>?_) (fun c5 h10=>?_)
      ·refine Zbc h9 (fun c6 h11=>?_) (fun c6 h12=>?_)
       ·refine Zbc h11 (fun c7 h13=>?_) (fun c7 h14=>?_)
        ·exact xS fol h13 hE (o1++[rZ]) (t4 (aO c5 c5 c5 c5 c5 c6 c6 (aN c6 c6 c7 c7 c7 c7 c7)))
        exact xS fol h14 hE (o1++[.r [(36,wF),(37,wF),(38,wF),(39,wF),(40,yF)]]) (t4 (aO c5 c5 c5 c5 c5 c6 c6 (aN c6 c6 c7 c7 c7 c7 c7)))
       exact xS fol h12 hE (o1++[.r [(31,wF),(32,wF),(33,wF),(34,yF),(36,wF),(37,wF),(38,wF),(39,wF),(40,yF)]]) (t4 (aO c5 c5 c5 c5 c5 c6 c6 (aN c6 c6 eF eF eF eF eF)))
      exact xS fol h10 hE (o1++[.r [(25,wF),(26,wF),(27,wF),(28,wF),(29,yF),(31,wF),(32,wF),(33,wF),(34,yF),(36,wF),(37,wF),(38,wF),(39,wF),(40,yF)]]) (t4 (aO c5 c5 c5 c5 c5 eF eF (aN eF eF eF eF eF eF eF)))
     exact xS fol h8 hE (o1++[.r [(20,wF),(21,wF),(22,wF),(23,yF),(25,wF),(26,wF),(27,wF),(28,wF),(29,yF),(31,wF),(32,wF),(33,wF),(34,yF),(36,wF),(37,wF),(38,wF),(39,wF),(40,yF)]]) (t3 (aO c4 c4 c4 c4 eF eF eF (aO eF eF eF eF eF eF eF (aK eF eF eF eF))))
    exact xS fol h6 hE (o1++[.r [(14,wF),(15,wF),(16,wF),(17,wF),(18,yF),(20,wF),(21,wF),(22,wF),(23,yF),(25,wF),(26,wF),(27,wF),(28,wF),(29,yF),(31,wF),(32,wF),(33,wF),(34,yF),(36,wF),(37,wF),(38,wF),(39,wF),(40,yF)]]) (t2 (aO c3 c3 c3 c3 c3 eF eF (aO eF eF eF eF eF eF eF (aO eF eF eF eF eF eF eF (aI eF eF)))))
   exact xS fol h4 hE (o1++[.r [(9,wF),(10,wF),(11,wF),(12,yF),(14,wF),(15,wF),(16,wF),(17,wF),(18,yF),(20,wF),(21,wF),(22,wF),(23,yF),(25,wF),(26,wF),(27,wF),(28,wF),(29,yF),(31,wF),(32,wF),(33,wF),(34,yF),(36,wF),(37,wF),(38,wF),(39,wF),(40,yF)]]) (t1 (aO c2 c2 c2 c2 eF eF eF (aO eF eF eF eF eF eF eF (aO eF eF eF eF eF eF eF (aM eF eF eF eF eF eF)))))
  exact xS fol h2 hE (o1++[.r [(4,wF),(5,wF),(6,wF),(7,yF),(9,wF),(10,wF),(11,wF),(12,yF),(14,wF),(15,wF),(16,wF),(17,wF),(18,yF),(20,wF),(21,wF),(22,wF),(23,yF),(25,wF),(26,wF),(27,wF),(28,wF),(29,yF),(31,wF),(32,wF),(33,wF),(34,yF),(36,wF),(37,wF),(38,wF),(39,wF),(40,yF)]]) (aO c1 c1 c1 c1 eF eF eF (aO eF eF eF eF eF eF eF (aO eF eF eF eF eF eF eF (aO eF eF eF eF eF eF eF (aJ eF eF eF)))))
def Zbt.B:Code:=Tryz.f29.body.getD .skip
def Zbt.rs (r:Bool):List CV:=[oB r]
def Zbt.p2 (N:Nat) (A0:Zae) (c2_:(Int×Int)→Option Bool):(Int×Int)→Option Bool:=fun (A6,v7)=> if (decide (v7<(len A0.Checks)))=true then chk (0≤v7)<| ZcY (A0.Checks[zD v7]?) ZeC fun x8=> if (decide (x8.Height≤A6))=true then some false else c2_ (x8.Height,w64 (v7+1)) else some true
def Zbt.p1 (N:Nat) (A0:Zae) (c1_:(Int×Int)→Option Bool):(Int×Int)→Option Bool:=fun (A3,v4)=> if (decide (v4<(len A0.Gates)))=true then chk (0≤v4)<| ZcY (A0.Gates[zD v4]?) ZeO fun x5=> if (decide (x5.Height≤A3))=true then some false else c1_ (x5.Height,w64 (v4+1)) else loopN (Zbt.p2 N A0) N (0,0)
def Zbt (N:Nat) (A0:Zae):Option Bool:= Zbj (ZdP N A0) fun x1=> if (!x1)=true then some false else Zbj (Zdk N A0.Genesis) fun x2=> if (!x2)=true then some false else loopN (Zbt.p1 N A0) N ((-1),0)
def Zbt.p2.S (A6:Int) (A0:Zae) (v7:Int) (st:LL):S:=mkS 45 [(3,sI A6),(32,sV 33 A0.Checks),(33,sI (len A0.Checks)),(34,sI v7)] [] st
def Zbt.p1.S (A3:Int) (A0:Zae) (v4:Int) (st:LL):S:=mkS 45 [(1,sA 1),(3,sI A3),(18,sV 2 A0.Gates),(19,sI (len A0.Gates)),(20,sI v4)] [(1,.cells A0.ls)] st
theorem Zbt.p2_ok {A6 A0 v7 st r c2_ J2} (h:Zbt.p2 N A0 c2_ (A6,v7)=some r) (hE:En Tryz.f29 g0 w0 (Zbt.rs r) st R) (hc2 : ∀A6 v7,c2_ (A6,v7)=some r→At g0 w0 (Zbt.p2.S A6 A0 v7 st) J2):At g0 w0 (Zbt.p2.S A6 A0 v7 st) (XK zC R (cK Zbt.B [1,1,1,1,1,0,1,0,0] :: .h J2 :: [.b 2,cK Zbt.B [1,1,1,1,1,1]])):=by
 unfold Zbt.p2 at h;refine Zbc h (fun c9 h1=>?_) (fun c9 h2=>?_)
 ·obtain ⟨c10,h3⟩:=Zbd h1;obtain ⟨x8,c11,h4⟩:=ZeL h3;let o1:List PS:=[rZ,cT,.r [(1,{oe:=x8.ls})],rZ]
  refine Zbc h4 (fun c12 h5=>?_) (fun c12 h6=>?_)
  ·exact xS fol h5 hE (o1++[cT,rZ]) (aL c9 c10 (oD c9) c11 c12)
  exact an fol (o1++[cF,rZ,rZ]) [3,32,33,34] [] (aL c9 c10 (oD c9) c11 c12) (hc2 x8.Height (w64 (v7+1)) h6)
 exact xS fol h2 hE [rZ,cF,rZ] c9
theorem Zbt.p1_ok {A3 A0 v4 st r c1_ J1} (h:Zbt.p1 N A0 c1_ (A3,v4)=some r) (hE:En Tryz.f29 g0 w0 (Zbt.rs r) st R) (hc1 : ∀A3 v4,c1_ (A3,v4)=some r→At g0 w0 (Zbt.p1.S A3 A0 v4 st) J1):At g0 w0 (Zbt.p1.S A3 A0 v4 st) (XK zC R (cK Zbt.B [1,1,1,0,1,0,0] :: .h J1 :: [.b 0,cK Zbt.B [1,1,1,1]])):=by
 unfold Zbt.p1 at h;refine Zbc h (fun c5 h7=>?_) (fun c5 h8=>?_)
 ·obtain ⟨c6,h9⟩:=Zbd h7;obtain ⟨x5,c7,h10⟩:=ZeU h9;let o2:List PS:=[rZ,cT,.r [(1,{oe:=x5.ls})],rZ]
  refine Zbc h10 (fun c8 h11=>?_) (fun c8 h12=>?_)
  ·exact xS fol h11 hE (o2++[cT,rZ]) (aL c5 c6 (oD c5) c7 c8)
  exact an fol (o2++[cF,rZ,rZ]) [1,3,18,19,20] [1] (aL c5 c6 (oD c5) c7 c8) (hc1 x5.Height (w64 (v4+1)) h12)
 exact aq fol [rZ,cF,rZ,rZ] [3,32,33,34] [] c5 (At.loop N (At.loopN (fun y:Int×Int=>Zbt.p2.S y.1 A0 y.2 st) (fun c J hc y h=>Zbt.p2_ok (A6:=y.1) (v7:=y.2) h hE (fun A6 v7=>hc (A6,v7))) N (0,0) h8))
theorem Zbt.snd {A0:Zae} {r:Bool} (h:Zbt N A0=some r):ZdH zC 29 [.agg A0.ls] (Zbt.rs r):=fun st=>
 sO Zbt.B Tryz.func29 fun g0 w0 R hE=>by
  unfold Zbt at h;obtain ⟨x1,c1,h13⟩:=Zac h;have t1 {Q:Prop} (q:Q):=aI (ZdP.snd c1) q;refine Zbc h13 (fun c2 h14=>?_) (fun c2 h15=>?_)
  ·exact xS fol h14 hE [rZ,.r [(1,q1 [oB x1]),(4,wF),(5,wF),(6,wF),(7,wF)],cT,rZ] (t1 (aM (not_false (Zbw c2)) (not_false (Zbw c2)) (not_false (Zbw c2)) (not_false (Zbw c2)) (not_false (Zbw c2)) eT))
  obtain ⟨x2,c3,h16⟩:=Zac h15;let o3:List PS:=[rZ,.r [(1,q1 [oB x1]),(6,q1 [oB x2]),(8,yF)]]
  have t2 {Q:Prop} (q:Q):=t1 (aN (not_true (ZbF c2)) (not_true (ZbF c2)) (not_true (ZbF c2)) (Zdk.snd c3) (not_true (ZbF c2)) (not_true (ZbF c2)) q);refine Zbc h16 (fun c4 h17=>?_) (fun c4 h18=>?_)
  ·exact xS fol h17 hE (o3++[cT,rZ]) (t2 c4)
  exact aq fol (o3++[cF,rZ,rZ]) [1,3,18,19,20] [1] (t2 c4) (At.loop N (At.loopN (fun y:Int×Int=>Zbt.p1.S y.1 A0 y.2 st) (fun c J hc y h=>Zbt.p1_ok (A3:=y.1) (v4:=y.2) h hE (fun A3 v4=>hc (A3,v4))) N ((-1),0) h18))
def Zci.B:Code:=Tryz.f10.body.getD .skip
def Zci.rs (r:Bool):List CV:=[oB r]
def Zci.p1 (N:Nat) (A1:LL) (A0:Zae) (c1_:Int→Option Bool):Int→Option Bool:=fun v1=> if (decide (v1<(len A1)))=true then chk (0≤v1)<| ZcY (A1[zD v1]?) ZdI fun x2=> if (decide (x2.Now<0))=true then some true else c1_ (w64 (v1+1)) else if (decide ((len A0.Gates)>20))=true then some true else if (decide ((len A0.Checks)>20))=true then some true else if (decide ((len A1)>40))=true then some true else Zbj (Zbt N A0) fun x3=> some (!x3)
def Zci (N:Nat) (A0:Zae) (A1:LL):Option Bool:= loopN (Zci.p1 N A1 A0) N 0
def Zci.p1.S (A1:LL) (v1:Int) (A0:Zae) (st:LL):S:=mkS 37 [(1,sV 72 A1),(2,sA 2),(7,sV 72 A1),(8,sI (len A1)),(9,sI v1)] [(2,.cells A0.ls)] st
theorem Zci.p1_ok {A1 v1 A0 st r c1_ J1} (h:Zci.p1 N A1 A0 c1_ v1=some r) (hE:En Tryz.f10 g0 w0 (Zci.rs r) st R) (hc1 : ∀v1,c1_ v1=some r→At g0 w0 (Zci.p1.S A1 v1 A0 st) J1):At g0 w0 (Zci.p1.S A1 v1 A0 st) (XK zC R (cK Zci.B [1,0,1,0,0] :: .h J1 :: [.b 0,cK Zci.B [1,1]])):=by
 unfold Zci.p1 at h;refine Zbc h (fun c1 h1=>?_) (fun c1 h2=>?_)
 ·obtain ⟨c2,h3⟩:=Zbd h1;obtain ⟨x2,c3,h4⟩:=Zfz h3;let o1:List PS:=[rZ,cT,.r [(1,{oe:=x2.ls})],rZ]
  refine Zbc h4 (fun c4 h5=>?_) (fun c4 h6=>?_)
  ·exact xS fol h5 hE (o1++[cT,rZ]) (aL c1 c2 (oD c1) c3 c4)
  exact an fol (o1++[cF,rZ]) [1,2,7,8,9] [2] (aL c1 c2 (oD c1) c3 c4) (hc1 (w64 (v1+1)) h6)
 let o2:List PS:=[rZ,cF]
 refine Zbc h2 (fun c5 h7=>?_) (fun c5 h8=>?_)
 ·exact xS fol h7 hE (o2++[.r [(5,wF),(6,wF),(7,wF),(8,wF),(11,wF),(12,wF),(13,wF),(16,wF),(17,wF),(18,wF)]]) (aO c1 c5 c5 c5 c5 c5 eT (aN eT eT eT eT eT eT eT))
 have t1 {Q:Prop} (q:Q):=aN c1 c5 c5 c5 c5 c5 q;refine Zbc h8 (fun c6 h9=>?_) (fun c6 h10=>?_)
 ·exact xS fol h9 hE (o2++[.r [(9,yF),(11,wF),(12,wF),(13,wF),(16,wF),(17,wF),(18,wF)]]) (t1 (aO c6 c6 c6 c6 eT eT eT eT))
 refine Zbc h10 (fun c7 h11=>?_) (fun c7 h12=>?_)
 ·exact xS fol h11 hE (o2++[.r [(9,yF),(14,yF),(16,wF),(17,wF),(18,wF)]]) (t1 (aO c6 c6 c6 c6 c7 c7 c7 c7))
 obtain ⟨x3,c8,h13⟩:=Zac h12;exact xS fol h13 hE (o2++[.r [(9,yF),(14,yF),(17,q1 [oB x3]),(19,yF)]]) (t1 (aO c6 c6 c6 c6 c7 c7 (Zbt.snd c8) (aI c7 c7)))
theorem Zci.snd {A0:Zae} {A1:LL} {r:Bool} (h:Zci N A0 A1=some r):ZdH zC 10 [.agg A0.ls,.one (vO 72 A1)] (Zci.rs r):=fun st=>
 sO Zci.B Tryz.func10 fun g0 w0 R hE=>by
  unfold Zci at h;exact aq fol [rZ,rZ] [1,2,7,8,9] [2] trivial (At.loop N (At.loopN (fun y:Int=>Zci.p1.S A1 y A0 st) (fun c J hc y h=>Zci.p1_ok h hE (fun v1=>hc v1)) N 0 h))
def Zbz.B:Code:=Tryz.f98.body.getD .skip
def Zbz.rs (r:ByteArray):List CV:=[.one (vD r)]
def Zbz.p1 (N:Nat) (A0:Int) (c1_:(Int×ByteArray×Int)→Option ByteArray):(Int×ByteArray×Int)→Option ByteArray:=fun (A1,A3,A2)=> if (decide (A2<(if (8:Int)<(if (1:Int)>A0 then 1 else A0) then 8 else (if (1:Int)>A0 then 1 else A0))))=true then chk (isB [[zJ .u8 (v8 (zW A1 256))]]=true)<| chk (zY A3+zY (ZkF (wZ ZfM [[zJ .u8 (v8 (zW A1 256))]]))≤9223372036854775807)<| c1_ (v64 (zR A1 256),A3++(ZkF (wZ ZfM [[zJ .u8 (v8 (zW A1 256))]])),w64 (A2+1)) else some A3
def Zbz (N:Nat) (A0 F1:Int):Option ByteArray:= loopN (Zbz.p1 N A0) N (v64 (F1),(xX #[]),0)
def Zbz.p1.S (A0 A1:Int) (A3:ByteArray) (A2:Int) (st:LL):S:=mkS 27 [(0,sI A0),(5,.one (.l (zJ .u64 A1))),(6,.one (.l (vD A3))),(7,sI A2)] [] st
theorem Zbz.p1_ok {A0 A1 A3 A2 st r c1_ J1} (h:Zbz.p1 N A0 c1_ (A1,A3,A2)=some r) (hE:En Tryz.f98 g0 w0 (Zbz.rs r) st R) (hc1 : ∀A1 A3 A2,c1_ (A1,A3,A2)=some r→At g0 w0 (Zbz.p1.S A0 A1 A3 A2 st) J1):At g0 w0 (Zbz.p1.S A0 A1 A3 A2 st) (XK zC R (cK Zbz.B [1,1,1,0,1,0,0] :: .h J1 :: [.b 0,cK Zbz.B [1,1,1,1]])):=by
 unfold Zbz.p1 at h;refine Zbc h (fun c4 h1=>?_) (fun c4 h2=>?_)
 ·obtain ⟨c5,c6,h3⟩:=ck2 h1;exact an fol [rZ,cT,rZ,rZ,rZ] [0,5,6,7] [] (aN c4 (neI 256) z0 (eN (1)) c5 c6 (neI 256)) (hc1 (v64 (zR A1 256)) (A3++(ZkF (wZ ZfM [[zJ .u8 (v8 (zW A1 256))]]))) (w64 (A2+1)) h3)
 exact xS fol h2 hE [rZ,cF,rZ] c4
theorem Zbz.snd {A0 F1:Int} {r:ByteArray} (h:Zbz N A0 F1=some r):ZdH zC 98 [oI A0,oI F1] (Zbz.rs r):=fun st=>
 sO Zbz.B Tryz.func98 fun g0 w0 R hE=>by
  unfold Zbz at h;exact aq fol [rZ,rZ,rZ,rZ] [0,5,6,7] [] trivial (At.loop N (At.loopN (fun y:Int×ByteArray×Int=>Zbz.p1.S A0 y.1 y.2.1 y.2.2 st) (fun c J hc y h=>Zbz.p1_ok (A1:=y.1) (A3:=y.2.1) (A2:=y.2.2) h hE (fun A1 A3 A2=>hc (A1,A3,A2))) N (v64 (F1),(xX #[]),0) h))
def Zcy.B:Code:=Tryz.f99.body.getD .skip
def Zcy.rs (r:ByteArray):List CV:=[.one (vD r)]
def Zcy.p1 (N:Nat) (A0_0:List Int) (c1_:(ByteArray×Int)→Option ByteArray):(ByteArray×Int)→Option ByteArray:=fun (A2,A1)=> if (decide (A1<32))=true then chk (0≤A1)<| chk (isB [[zJ .u8 (zF A0_0 (zD A1) 0)]]=true)<| chk (zY A2+zY (ZkF (wZ ZfM [[zJ .u8 (zF A0_0 (zD A1) 0)]]))≤9223372036854775807)<| c1_ (A2++(ZkF (wZ ZfM [[zJ .u8 (zF A0_0 (zD A1) 0)]])),w64 (A1+1)) else some A2
def Zcy (N:Nat) (A0_0:List Int):Option ByteArray:= loopN (Zcy.p1 N A0_0) N ((xX #[]),0)
def Zcy.p1.S (A2:ByteArray) (A1:Int) (A0_0:List Int) (st:LL):S:=mkS 17 [(1,sA 1),(3,.one (.l (vD A2))),(4,sI A1)] [(1,.cells [zH .u8 32 A0_0])] st
theorem Zcy.p1_ok {A2 A1 A0_0 st r c1_ J1} (h:Zcy.p1 N A0_0 c1_ (A2,A1)=some r) (hE:En Tryz.f99 g0 w0 (Zcy.rs r) st R) (hc1 : ∀A2 A1,c1_ (A2,A1)=some r→At g0 w0 (Zcy.p1.S A2 A1 A0_0 st) J1):At g0 w0 (Zcy.p1.S A2 A1 A0_0 st) (XK zC R (cK Zcy.B [1,1,0,1,0,0] :: .h J1 :: [.b 0,cK Zcy.B [1,1,1]])):=by
 unfold Zcy.p1 at h;refine Zbc h (fun c5 h1=>?_) (fun c5 h2=>?_)
 ·obtain ⟨c6,c7,c8,h3⟩:=ck3 h1;exact an fol [rZ,cT,rZ,rZ] [1,3,4] [1] (aN c5 c6 (oD c5) z0 (eN (1)) c7 c8) (hc1 (A2++(ZkF (wZ ZfM [[zJ .u8 (zF A0_0 (zD A1) 0)]]))) (w64 (A1+1)) h3)
 exact xS fol h2 hE [rZ,cF,rZ] c5
theorem Zcy.snd {A0_0:List Int} {r:ByteArray} (h:Zcy N A0_0=some r):ZdH zC 99 [.agg [zH .u8 32 A0_0]] (Zcy.rs r):=fun st=>
 sO Zcy.B Tryz.func99 fun g0 w0 R hE=>by
  unfold Zcy at h;exact aq fol [rZ,rZ,rZ] [1,3,4] [1] trivial (At.loop N (At.loopN (fun y:ByteArray×Int=>Zcy.p1.S y.1 y.2 A0_0 st) (fun c J hc y h=>Zcy.p1_ok (A2:=y.1) (A1:=y.2) h hE (fun A2 A1=>hc (A2,A1))) N ((xX #[]),0) h))
def ZdU.B:Code:=Tryz.f77.body.getD .skip
def ZdU.rs (r:ByteArray):List CV:=[.one (vD r)]
def ZdU (N:Nat) (h_0:Zak):Option ByteArray:= Zbj (Zbz N 4 h_0.Version) fun x1=> Zbj (Zcy N h_0.Prev) fun x2=> chk (zY x1+zY x2≤9223372036854775807)<| Zbj (Zcy N h_0.Root) fun x3=> chk (zY (x1++x2)+zY x3≤9223372036854775807)<| Zbj (Zbz N 4 h_0.Time) fun x4=> chk (zY ((x1++x2)++x3)+zY x4≤9223372036854775807)<| Zbj (Zbz N 4 h_0.Bits) fun x5=> chk (zY (((x1++x2)++x3)++x4)+zY x5≤9223372036854775807)<| Zbj (Zbz N 4 h_0.Nonce) fun x6=> chk (zY ((((x1++x2)++x3)++x4)++x5)+zY x6≤9223372036854775807)<| some (((((x1++x2)++x3)++x4)++x5)++x6)
theorem ZdU.snd {h_0:Zak} {r:ByteArray} (h:ZdU N h_0=some r):ZdH zC 77 [.agg h_0.ls] (ZdU.rs r):=fun st=>
 sO ZdU.B Tryz.func77 fun g0 w0 R hE=>by
  unfold ZdU at h;obtain ⟨x1,c1,h1⟩:=Zac h;obtain ⟨x2,c2,h2⟩:=Zac h1;obtain ⟨c3,h3⟩:=Zbd h2;obtain ⟨x3,c4,h4⟩:=Zac h3;obtain ⟨c5,h5⟩:=Zbd h4;obtain ⟨x4,c6,h6⟩:=Zac h5;obtain ⟨c7,h7⟩:=Zbd h6;obtain ⟨x5,c8,h8⟩:=Zac h7;obtain ⟨c9,h9⟩:=Zbd h8;obtain ⟨x6,c10,h10⟩:=Zac h9;obtain ⟨c11,h11⟩:=Zbd h10;exact xSd fol h11 hE [rZ,.d {ds:=[(2,q1 [.one (vD x1)]),(5,q1 [.one (vD x2)]),(9,q1 [.one (vD x3)])],hv:=0,Hs:=[]},.d {ds:=[(3,q1 [.one (vD x4)]),(7,q1 [.one (vD x5)]),(11,q1 [.one (vD x6)])],hv:=0,Hs:=[]}] (aO (Zbz.snd c1) (Zcy.snd c2) c3 (Zcy.snd c4) c5 (Zbz.snd c6) c7 (aK (Zbz.snd c8) c9 (Zbz.snd c10) c11))
def Zbb.B:Code:=Tryz.f126.body.getD .skip
def Zbb.rs (r:ByteArray):List CV:=[.one (vD r)]
def Zbb.p2 (N:Nat) (A4:ByteArray) (c2_:(Int×ByteArray×Int)→Option ByteArray):(Int×ByteArray×Int)→Option ByteArray:=fun (A5,A7,A6)=> if (decide (A6<8))=true then chk (isB [[zJ .u8 (v8 (zW A5 256))]]=true)<| chk (zY (ZkF (wZ ZfM [[zJ .u8 (v8 (zW A5 256))]]))+zY A7≤9223372036854775807)<| c2_ (w64 (zR A5 256),(ZkF (wZ ZfM [[zJ .u8 (v8 (zW A5 256))]]))++A7,w64 (A6+1)) else chk (zY A4+zY A7≤9223372036854775807)<| some (A4++A7)
def Zbb.p1 (N:Nat) (A0:ByteArray) (c1_:ByteArray→Option ByteArray):ByteArray→Option ByteArray:=fun A4=> if ((zW ((zY A4:Nat):Int) 64) != 56)=true then chk (zY A4+zY (xX #[0])≤9223372036854775807)<| c1_ (A4++(xX #[0])) else loopN (Zbb.p2 N A4) N (w64 (8*((zY A0:Nat):Int)),(xX #[]),0)
def Zbb (N:Nat) (A0:ByteArray):Option ByteArray:= chk (zY A0+zY (xX #[128])≤9223372036854775807)<| loopN (Zbb.p1 N A0) N (A0++(xX #[128]))
def Zbb.p2.S (A4:ByteArray) (A5:Int) (A7:ByteArray) (A6:Int) (st:LL):S:=mkS 34 [(0,.one (.l (vD A4))),(3,sI A5),(4,.one (.l (vD A7))),(5,sI A6)] [] st
def Zbb.p1.S (A4 A0:ByteArray) (st:LL):S:=mkS 34 [(0,.one (.l (vD A4))),(3,sI ((zY A0:Nat):Int))] [] st
theorem Zbb.p2_ok {A4 A5 A7 A6 st r c2_ J2} (h:Zbb.p2 N A4 c2_ (A5,A7,A6)=some r) (hE:En Tryz.f126 g0 w0 (Zbb.rs r) st R) (hc2 : ∀A5 A7 A6,c2_ (A5,A7,A6)=some r→At g0 w0 (Zbb.p2.S A4 A5 A7 A6 st) J2):At g0 w0 (Zbb.p2.S A4 A5 A7 A6 st) (XK zC R (cK Zbb.B [1,1,1,1,1,1,0,1,0,0] :: .h J2 :: [.b 2,cK Zbb.B [1,1,1,1,1,1,1]])):=by
 unfold Zbb.p2 at h;refine Zbc h (fun c18 h1=>?_) (fun c18 h2=>?_)
 ·obtain ⟨c19,c20,h3⟩:=ck2 h1;exact an fol [rZ,cT,rZ,rZ,rZ] [0,3,4,5] [] (aN c18 (neI 256) z0 (eN (1)) c19 c20 (neI 256)) (hc2 (w64 (zR A5 256)) ((ZkF (wZ ZfM [[zJ .u8 (v8 (zW A5 256))]]))++A7) (w64 (A6+1)) h3)
 obtain ⟨c21,h4⟩:=Zbd h2;exact xS fol h4 hE [rZ,cF,rZ] (aI c18 c21)
theorem Zbb.p1_ok {A4 A0 st r c1_ J1} (h:Zbb.p1 N A0 c1_ A4=some r) (hE:En Tryz.f126 g0 w0 (Zbb.rs r) st R) (hc1 : ∀A4,c1_ A4=some r→At g0 w0 (Zbb.p1.S A4 A0 st) J1):At g0 w0 (Zbb.p1.S A4 A0 st) (XK zC R (cK Zbb.B [1,1,1,0,0,0] :: .h J1 :: [.b 0,cK Zbb.B [1,1,1,1]])):=by
 unfold Zbb.p1 at h;refine Zbc h (fun c12 h5=>?_) (fun c12 h6=>?_)
 ·obtain ⟨c13,h7⟩:=Zbd h5;exact an fol [rZ,cT,rZ] [0,3] [] (aJ (neI 64) c12 c13) (hc1 (A4++(xX #[0])) h7)
 exact aq fol [rZ,cF,rZ,rZ,rZ] [0,3,4,5] [] (aI (neI 64) c12) (At.loop N (At.loopN (fun y:Int×ByteArray×Int=>Zbb.p2.S A4 y.1 y.2.1 y.2.2 st) (fun c J hc y h=>Zbb.p2_ok (A5:=y.1) (A7:=y.2.1) (A6:=y.2.2) h hE (fun A5 A7 A6=>hc (A5,A7,A6))) N (w64 (8*((zY A0:Nat):Int)),(xX #[]),0) h6))
theorem Zbb.snd {A0:ByteArray} {r:ByteArray} (h:Zbb N A0=some r):ZdH zC 126 [.one (vD A0)] (Zbb.rs r):=fun st=>
 sO Zbb.B Tryz.func126 fun g0 w0 R hE=>by
  unfold Zbb at h;obtain ⟨c1,h8⟩:=Zbd h;exact aq fol [rZ,rZ,rZ] [0,3] [] c1 (At.loop N (At.loopN (fun y:ByteArray=>Zbb.p1.S y A0 st) (fun c J hc y h=>Zbb.p1_ok h hE (fun A4=>hc A4)) N (A0++(xX #[128])) h8))
def Zbn.B:Code:=Tryz.f127.body.getD .skip
def Zbn.rs (r:Int):List CV:=[.one (zJ .u32 r)]
def Zbn (N:Nat) (A0 F1:Int):Option Int:= chk (0≤F1)<| chk (0≤(v64 (32-F1)))<| some (v32 ((Zby .u32 A0 F1)+(ZbM .u32 A0 (v64 (32-F1)))))
theorem Zbn.snd {A0 F1:Int} {r:Int} (h:Zbn N A0 F1=some r):ZdH zC 127 [.one (zJ .u32 A0),.one (zJ .u64 F1)] (Zbn.rs r):=fun st=>
 sO Zbn.B Tryz.func127 fun g0 w0 R hE=>by
  unfold Zbn at h;obtain ⟨c1,c2,h1⟩:=ck2 h;exact xS fol h1 hE [rZ,rZ] (aI c1 c2)
def ZfP.B:Code:=Tryz.f128.body.getD .skip
def ZfP.rs (r:Int):List CV:=[.one (zJ .u32 r)]
def ZfP (N:Nat) (A0:Int):Option Int:= chk (0≤A0)<| chk (A0<64)<| some (zF [1116352408,1899447441,3049323471,3921009573,961987163,1508970993,2453635748,2870763221,3624381080,310598401,607225278,1426881987,1925078388,2162078206,2614888103,3248222580,3835390401,4022224774,264347078,604807628,770255983,1249150122,1555081692,1996064986,2554220882,2821834349,2952996808,3210313671,3336571891,3584528711,113926993,338241895,666307205,773529912,1294757372,1396182291,1695183700,1986661051,2177026350,2456956037,2730485921,2820302411,3259730800,3345764771,3516065817,3600352804,4094571909,275423344,430227734,506948616,659060556,883997877,958139571,1322822218,1537002063,1747873779,1955562222,2024104815,2227730452,2361852424,2428436474,2756734187,3204031479,3329325298] (zD A0) 0)
theorem ZfP.snd {A0:Int} {r:Int} (h:ZfP N A0=some r):ZdH zC 128 [oI A0] (ZfP.rs r):=fun st=>
 sO ZfP.B Tryz.func128 fun g0 w0 R hE=>by
  unfold ZfP at h;obtain ⟨c1,c2,h1⟩:=ck2 h;exact xS fol h1 hE [rZ,.r [(0,{m:=3})]] (aI c1 c2)
def Zat.B:Code:=Tryz.f97.body.getD .skip
def Zat.rs (r:(List Int)):List CV:=[.agg [zH .u8 32 r]]
def Zat.p3 (N:Nat) (c2_:(Int×(List Int))→Option (List Int)) (c1_:(Int×(List Int))→Option (List Int)) (x1:ByteArray) (A2 A112:Int) (A111:List Int) (c3_:(Int×(List Int))→Option (List Int)):(Int×(List Int))→Option (List Int):=fun (A166,A167)=> if (decide (A166<4))=true then chk (0≤A112)<| chk (A112<64)<| chk (0≤(w64 ((w64 (A2+(w64 (4*A112))))+A166)))<| chk ((w64 ((w64 (A2+(w64 (4*A112))))+A166))<((zY x1:Nat):Int))<| c3_ (w64 (A166+1),zM A167 (zD A112) (v32 ((v32 ((zF A167 (zD A112) 0)*256))+(v32 (((UInt8.toNat (zF (rE (sQ x1)) (zD (w64 ((w64 (A2+(w64 (4*A112))))+A166))) 0):Nat):Int)))))) else c2_ (w64 (A112+1),A167)
def Zat.p6 (N:Nat) (c1_:(Int×(List Int))→Option (List Int)) (x1:ByteArray) (A2:Int) (A208:List Int) (c6_:(Int×(List Int))→Option (List Int)):(Int×(List Int))→Option (List Int):=fun (A216,A217)=> if (decide (A216<8))=true then chk (0≤A216)<| c6_ (w64 (A216+1),zM A217 (zD A216) (v32 ((zF A217 (zD A216) 0)+(zF A208 (zD A216) 0)))) else c1_ (w64 (A2+64),A217)
def Zat.p5 (N:Nat) (c1_:(Int×(List Int))→Option (List Int)) (x1:ByteArray) (A2:Int) (A111 A193:List Int) (c5_:(Int×(List Int))→Option (List Int)):(Int×(List Int))→Option (List Int):=fun (A198,A208)=> if (decide (A198<64))=true then Zbj (Zbn N (zF A208 4 0) 6) fun x209=> Zbj (Zbn N (zF A208 4 0) 11) fun x210=> Zbj (Zbn N (zF A208 4 0) 25) fun x211=> Zbj (ZfP N A198) fun x212=> chk (0≤A198)<| Zbj (Zbn N (zF A208 0 0) 2) fun x213=> Zbj (Zbn N (zF A208 0 0) 13) fun x214=> Zbj (Zbn N (zF A208 0 0) 22) fun x215=> c5_ (w64 (A198+1),[v32 ((v32 ((v32 ((v32 ((v32 ((zF A208 7 0)+(ZaH .xor .u32 (ZaH .xor .u32 x209 x210) x211)))+(ZaH .or .u32 (ZaH .and .u32 (zF A208 4 0) (zF A208 5 0)) (ZaH .and .u32 (v32 (4294967295-(zF A208 4 0))) (zF A208 6 0)))))+x212))+(zF A193 (zD A198) 0)))+(v32 ((ZaH .xor .u32 (ZaH .xor .u32 x213 x214) x215)+(ZaH .or .u32 (ZaH .or .u32 (ZaH .and .u32 (zF A208 0 0) (zF A208 1 0)) (ZaH .and .u32 (zF A208 0 0) (zF A208 2 0))) (ZaH .and .u32 (zF A208 1 0) (zF A208 2 0)))))),zF A208 0 0,zF A208 1 0,zF A208 2 0,v32 ((zF A208 3 0)+(v32 ((v32 ((v32 ((v32 ((zF A208 7 0)+(ZaH .xor .u32 (ZaH .xor .u32 x209 x210) x211)))+(ZaH .or .u32 (ZaH .and .u32 (zF A208 4 0) (zF A208 5 0)) (ZaH .and .u32 (v32 (4294967295-(zF A208 4 0))) (zF A208 6 0)))))+x212))+(zF A193 (zD A198) 0)))),zF A208 4 0,zF A208 5 0,zF A208 6 0]) else loopN (Zat.p6 N c1_ x1 A2 A208) N (0,A111)
def Zat.p4 (N:Nat) (c1_:(Int×(List Int))→Option (List Int)) (x1:ByteArray) (A2:Int) (A111:List Int) (c4_:(Int×(List Int))→Option (List Int)):(Int×(List Int))→Option (List Int):=fun (A168,A193)=> if (decide (A168<64))=true then chk (0≤(w64 (A168-15)))<| chk ((w64 (A168-15))<64)<| Zbj (Zbn N (zF A193 (zD (w64 (A168-15))) 0) 7) fun x194=> Zbj (Zbn N (zF A193 (zD (w64 (A168-15))) 0) 18) fun x195=> chk (0≤(w64 (A168-2)))<| chk ((w64 (A168-2))<64)<| Zbj (Zbn N (zF A193 (zD (w64 (A168-2))) 0) 17) fun x196=> Zbj (Zbn N (zF A193 (zD (w64 (A168-2))) 0) 19) fun x197=> chk (0≤(w64 (A168-16)))<| chk ((w64 (A168-16))<64)<| chk (0≤(w64 (A168-7)))<| chk ((w64 (A168-7))<64)<| chk (0≤A168)<| c4_ (w64 (A168+1),zM A193 (zD A168) (v32 ((v32 ((v32 ((zF A193 (zD (w64 (A168-16))) 0)+(ZaH .xor .u32 (ZaH .xor .u32 x194 x195) (v32 (zR (zF A193 (zD (w64 (A168-15))) 0) 8)))))+(zF A193 (zD (w64 (A168-7))) 0)))+(ZaH .xor .u32 (ZaH .xor .u32 x196 x197) (v32 (zR (zF A193 (zD (w64 (A168-2))) 0) 1024)))))) else loopN (Zat.p5 N c1_ x1 A2 A111 A193) N (0,A111)
def Zat.p2 (N:Nat) (c1_:(Int×(List Int))→Option (List Int)) (x1:ByteArray) (A2:Int) (A111:List Int) (c2_:(Int×(List Int))→Option (List Int)):(Int×(List Int))→Option (List Int):=fun (A112,A165)=> if (decide (A112<16))=true then loopN (Zat.p3 N c2_ c1_ x1 A2 A112 A111) N (0,A165) else loopN (Zat.p4 N c1_ x1 A2 A111) N (16,A165)
def Zat.p7 (N:Nat) (A111:List Int) (c7_:(Int×(List Int))→Option (List Int)):(Int×(List Int))→Option (List Int):=fun (A218,A219)=> if (decide (A218<32))=true then chk (0≤(w64 (zR A218 4)))<| chk ((w64 (zR A218 4))<8)<| chk (0≤(v64 (w64 (24-(w64 (8*(zW A218 4)))))))<| chk (0≤A218)<| c7_ (w64 (A218+1),zM A219 (zD A218) (v8 (zW (Zby .u32 (zF A111 (zD (w64 (zR A218 4))) 0) (v64 (w64 (24-(w64 (8*(zW A218 4))))))) 256))) else some A219
def Zat.p1 (N:Nat) (x1:ByteArray) (c1_:(Int×(List Int))→Option (List Int)):(Int×(List Int))→Option (List Int):=fun (A2,A111)=> if (decide (A2<((zY x1:Nat):Int)))=true then loopN (Zat.p2 N c1_ x1 A2 A111) N (0,zB 64 0) else loopN (Zat.p7 N A111) N (0,zB 32 0)
def Zat (N:Nat) (A0:ByteArray):Option (List Int):= Zbj (Zbb N A0) fun x1=> loopN (Zat.p1 N x1) N (0,[1779033703,3144134277,1013904242,2773480762,1359893119,2600822924,528734635,1541459225])
def Zat.p3.S (x1:ByteArray) (A2 A112 A166:Int) (A111 A167:List Int) (st:LL):S:=mkS 225 [(2,sA 2),(3,sA 3),(4,.one (.l (vD x1))),(5,sI A2),(6,sA 6),(7,sI A112),(8,sI A166)] [(2,.cells [zH .u8 32 (zB 32 0)]),(3,.cells [zH .u32 8 A111]),(6,.cells [zH .u32 64 A167])] st
def Zat.p6.S (x1:ByteArray) (A2 A216:Int) (A217 A208:List Int) (st:LL):S:=mkS 225 [(2,sA 2),(3,sA 3),(4,.one (.l (vD x1))),(5,sI A2),(12,sA 12),(16,sI A216)] [(2,.cells [zH .u8 32 (zB 32 0)]),(3,.cells [zH .u32 8 A217]),(12,.cells [zH .u32 8 A208])] st
def Zat.p5.S (x1:ByteArray) (A2 A198:Int) (A111 A193 A208:List Int) (st:LL):S:=mkS 225 [(2,sA 2),(3,sA 3),(4,.one (.l (vD x1))),(5,sI A2),(6,sA 6),(12,sA 12),(13,sI A198)] [(2,.cells [zH .u8 32 (zB 32 0)]),(3,.cells [zH .u32 8 A111]),(6,.cells [zH .u32 64 A193]),(12,.cells [zH .u32 8 A208])] st
def Zat.p4.S (x1:ByteArray) (A2 A168:Int) (A111 A193:List Int) (st:LL):S:=mkS 225 [(2,sA 2),(3,sA 3),(4,.one (.l (vD x1))),(5,sI A2),(6,sA 6),(9,sI A168)] [(2,.cells [zH .u8 32 (zB 32 0)]),(3,.cells [zH .u32 8 A111]),(6,.cells [zH .u32 64 A193])] st
def Zat.p2.S (x1:ByteArray) (A2 A112:Int) (A111 A165:List Int) (st:LL):S:=mkS 225 [(2,sA 2),(3,sA 3),(4,.one (.l (vD x1))),(5,sI A2),(6,sA 6),(7,sI A112)] [(2,.cells [zH .u8 32 (zB 32 0)]),(3,.cells [zH .u32 8 A111]),(6,.cells [zH .u32 64 A165])] st
def Zat.p7.S (A218:Int) (A111 A219:List Int) (st:LL):S:=mkS 225 [(2,sA 2),(3,sA 3),(17,sA 17),(18,sI A218)] [(2,.cells [zH .u8 32 (zB 32 0)]),(3,.cells [zH .u32 8 A111]),(17,.cells [zH .u8 32 A219])] st
def Zat.p1.S (x1:ByteArray) (A2:Int) (A111:List Int) (st:LL):S:=mkS 225 [(2,sA 2),(3,sA 3),(4,.one (.l (vD x1))),(5,sI A2)] [(2,.cells [zH .u8 32 (zB 32 0)]),(3,.cells [zH .u32 8 A111])] st
theorem Zat.p3_ok {x1 A2 A112 A166 A111 A167 st r c2_ c1_ c3_ J2 J1 J3} (h:Zat.p3 N c2_ c1_ x1 A2 A112 A111 c3_ (A166,A167)=some r) (hE:En Tryz.f97 g0 w0 (Zat.rs r) st R) (hc2 : ∀A112 A165,c2_ (A112,A165)=some r→At g0 w0 (Zat.p2.S x1 A2 A112 A111 A165 st) J2) (hc1 : ∀A2 A111,c1_ (A2,A111)=some r→At g0 w0 (Zat.p1.S x1 A2 A111 st) J1) (hc3 : ∀A166 A167,c3_ (A166,A167)=some r→At g0 w0 (Zat.p3.S x1 A2 A112 A166 A111 A167 st) J3):At g0 w0 (Zat.p3.S x1 A2 A112 A166 A111 A167 st) (XK zC R (cK Zat.B [1,1,1,0,1,0,0,1,0,0,1,0,1,0,0,1,0,0,1,0,0] :: .h J3 :: [.b 4,.b 3,cK Zat.B [1,1,1,0,1,0,0,1,0,0,1,0,1,0,0,1,1],.h J2,.b 2,cK Zat.B [1,1,1,0,1,0,0,1,0,0,1,1],.b 1,cK Zat.B [1,1,1,0,1,0,0,1,1],.h J1,.b 0,cK Zat.B [1,1,1,1]])):=by
 unfold Zat.p3 at h;refine Zbc h (fun c293 h1=>?_) (fun c293 h2=>?_)
 ·obtain ⟨c294,c295,c296,c297,h3⟩:=ck4 h1;exact ZjO fol [rZ,cT,.d {ds:=[],hv:=65536,Hs:=[65536]},rZ] [2,3,4,5,6,7,8] [2,3,6] (aN c293 c294 c295 c296 c297 c294 c295) (hc3 (w64 (A166+1)) (zM A167 (zD A112) (v32 ((v32 ((zF A167 (zD A112) 0)*256))+(v32 (((UInt8.toNat (zF (rE (sQ x1)) (zD (w64 ((w64 (A2+(w64 (4*A112))))+A166))) 0):Nat):Int)))))) h3)
 exact an fol [rZ,cF,rZ] [2,3,4,5,6,7] [2,3,6] c293 (hc2 (w64 (A112+1)) A167 h2)
theorem Zat.p6_ok {x1 A2 A216 A217 A208 st r c1_ c6_ J1 J6} (h:Zat.p6 N c1_ x1 A2 A208 c6_ (A216,A217)=some r) (hE:En Tryz.f97 g0 w0 (Zat.rs r) st R) (hc1 : ∀A2 A111,c1_ (A2,A111)=some r→At g0 w0 (Zat.p1.S x1 A2 A111 st) J1) (hc6 : ∀A216 A217,c6_ (A216,A217)=some r→At g0 w0 (Zat.p6.S x1 A2 A216 A217 A208 st) J6):At g0 w0 (Zat.p6.S x1 A2 A216 A217 A208 st) (XK zC R (cK Zat.B [1,1,1,0,1,0,0,1,0,0,1,1,1,1,1,1,0,0] :: .h J6 :: [.b 10,.b 1,cK Zat.B [1,1,1,0,1,0,0,1,1],.h J1,.b 0,cK Zat.B [1,1,1,1]])):=by
 unfold Zat.p6 at h;refine Zbc h (fun c376 h4=>?_) (fun c376 h5=>?_)
 ·obtain ⟨c377,h6⟩:=Zbd h4;exact ZjO fol [rZ,cT,.d {ds:=[],hv:=512,Hs:=[512]},rZ] [2,3,4,5,12,16] [2,3,12] (aN c376 c377 (oD c376) c377 (oD c376) c377 (oD c376)) (hc6 (w64 (A216+1)) (zM A217 (zD A216) (v32 ((zF A217 (zD A216) 0)+(zF A208 (zD A216) 0)))) h6)
 exact an fol [rZ,cF,rZ] [2,3,4,5] [2,3] c376 (hc1 (w64 (A2+64)) A217 h5)
theorem Zat.p5_ok {x1 A2 A198 A111 A193 A208 st r c1_ c5_ J1 J5} (h:Zat.p5 N c1_ x1 A2 A111 A193 c5_ (A198,A208)=some r) (hE:En Tryz.f97 g0 w0 (Zat.rs r) st R) (hc1 : ∀A2 A111,c1_ (A2,A111)=some r→At g0 w0 (Zat.p1.S x1 A2 A111 st) J1) (hc5 : ∀A198 A208,c5_ (A198,A208)=some r→At g0 w0 (Zat.p5.S x1 A2 A198 A111 A193 A208 st) J5):At g0 w0 (Zat.p5.S x1 A2 A198 A111 A193 A208 st) (XK zC R (cK Zat.B [1,1,1,0,1,0,0,1,0,0,1,1,1,1,0,1,0,0] :: .h J5 :: [.b 8,cK Zat.B [1,1,1,0,1,0,0,1,0,0,1,1,1,1,1],.b 1,cK Zat.B [1,1,1,0,1,0,0,1,1],.h J1,.b 0,cK Zat.B [1,1,1,1]])):=by
 unfold Zat.p5 at h;refine Zbc h (fun c365 h7=>?_) (fun c365 h8=>?_)
 ·obtain ⟨x209,c366,h9⟩:=Zac h7;obtain ⟨x210,c367,h10⟩:=Zac h9;obtain ⟨x211,c368,h11⟩:=Zac h10;obtain ⟨x212,c369,h12⟩:=Zac h11;obtain ⟨c370,h13⟩:=Zbd h12;obtain ⟨x213,c371,h14⟩:=Zac h13;obtain ⟨x214,c372,h15⟩:=Zac h14;obtain ⟨x215,c373,h16⟩:=Zac h15;exact ZjO fol [rZ,cT,.d {ds:=[(4,q1 [.one (zJ .u32 x209)]),(7,q1 [.one (zJ .u32 x210)]),(11,q1 [.one (zJ .u32 x211)]),(28,q1 [.one (zJ .u32 x212)])],hv:=0,Hs:=[]},.d {ds:=[(2,q1 [.one (zJ .u32 x213)]),(5,q1 [.one (zJ .u32 x214)]),(9,q1 [.one (zJ .u32 x215)])],hv:=0,Hs:=[]},.r [(19,{m:=3})],rZ] [2,3,4,5,6,12,13] [2,3,6,12] (aI c365 (ix 7 8 (ix 4 8 (aI (Zbn.snd c366) (ix 4 8 (aI (Zbn.snd c367) (ix 4 8 (aI (Zbn.snd c368) (ix 4 8 (ix 5 8 (ix 4 8 (ix 6 8 (aK (ZfP.snd c369) c370 (oD c365) (ix 0 8 (aI (Zbn.snd c371) (ix 0 8 (aI (Zbn.snd c372) (ix 0 8 (aI (Zbn.snd c373) (ix 0 8 (ix 1 8 (ix 0 8 (ix 2 8 (ix 1 8 (ix 2 8 (ix 0 8 (ix 1 8 (ix 2 8 (ix 3 8 (ix 4 8 (ix 5 8 (aI (leI 0 6) (ltI 6 8))))))))))))))))))))))))))))))))) (hc5 (w64 (A198+1)) [v32 ((v32 ((v32 ((v32 ((v32 ((zF A208 7 0)+(ZaH .xor .u32 (ZaH .xor .u32 x209 x210) x211)))+(ZaH .or .u32 (ZaH .and .u32 (zF A208 4 0) (zF A208 5 0)) (ZaH .and .u32 (v32 (4294967295-(zF A208 4 0))) (zF A208 6 0)))))+x212))+(zF A193 (zD A198) 0)))+(v32 ((ZaH .xor .u32 (ZaH .xor .u32 x213 x214) x215)+(ZaH .or .u32 (ZaH .or .u32 (ZaH .and .u32 (zF A208 0 0) (zF A208 1 0)) (ZaH .and .u32 (zF A208 0 0) (zF A208 2 0))) (ZaH .and .u32 (zF A208 1 0) (zF A208 2 0)))))),zF A208 0 0,zF A208 1 0,zF A208 2 0,v32 ((zF A208 3 0)+(v32 ((v32 ((v32 ((v32 ((zF A208 7 0)+(ZaH .xor .u32 (ZaH .xor .u32 x209 x210) x211)))+(ZaH .or .u32 (ZaH .and .u32 (zF A208 4 0) (zF A208 5 0)) (ZaH .and .u32 (v32 (4294967295-(zF A208 4 0))) (zF A208 6 0)))))+x212))+(zF A193 (zD A198) 0)))),zF A208 4 0,zF A208 5 0,zF A208 6 0] h16)
 exact aq fol [rZ,cF,rZ] [2,3,4,5,12,16] [2,3,12] c365 (At.loop N (At.loopN (fun y:Int×(List Int)=>Zat.p6.S x1 A2 y.1 y.2 A208 st) (fun c J hc y h=>Zat.p6_ok (A216:=y.1) (A217:=y.2) h hE hc1 (fun A216 A217=>hc (A216,A217))) N (0,A111) h8))
theorem Zat.p4_ok {x1 A2 A168 A111 A193 st r c1_ c4_ J1 J4} (h:Zat.p4 N c1_ x1 A2 A111 c4_ (A168,A193)=some r) (hE:En Tryz.f97 g0 w0 (Zat.rs r) st R) (hc1 : ∀A2 A111,c1_ (A2,A111)=some r→At g0 w0 (Zat.p1.S x1 A2 A111 st) J1) (hc4 : ∀A168 A193,c4_ (A168,A193)=some r→At g0 w0 (Zat.p4.S x1 A2 A168 A111 A193 st) J4):At g0 w0 (Zat.p4.S x1 A2 A168 A111 A193 st) (XK zC R (cK Zat.B [1,1,1,0,1,0,0,1,0,0,1,1,0,1,0,0] :: .h J4 :: [.b 6,cK Zat.B [1,1,1,0,1,0,0,1,0,0,1,1,1],.b 1,cK Zat.B [1,1,1,0,1,0,0,1,1],.h J1,.b 0,cK Zat.B [1,1,1,1]])):=by
 unfold Zat.p4 at h;refine Zbc h (fun c338 h17=>?_) (fun c338 h18=>?_)
 ·obtain ⟨c339,c340,h19⟩:=ck2 h17;obtain ⟨x194,c341,h20⟩:=Zac h19;obtain ⟨x195,c342,h21⟩:=Zac h20;obtain ⟨c343,c344,h22⟩:=ck2 h21;obtain ⟨x196,c345,h23⟩:=Zac h22;obtain ⟨x197,c346,h24⟩:=Zac h23;obtain ⟨c347,c348,c349,c350,c351,h25⟩:=ck5 h24;exact ZjO fol [rZ,cT,.d {ds:=[(4,q1 [.one (zJ .u32 x194)]),(9,q1 [.one (zJ .u32 x195)])],hv:=0,Hs:=[]},.d {ds:=[(4,q1 [.one (zJ .u32 x196)]),(9,q1 [.one (zJ .u32 x197)])],hv:=0,Hs:=[]},.d {ds:=[],hv:=32768,Hs:=[32768]},rZ] [2,3,4,5,6,9] [2,3,6] (aO c338 c339 c340 (Zbn.snd c341) c339 c340 (Zbn.snd c342) (aO c339 c340 (neI 8) c343 c344 (Zbn.snd c345) c343 (aO c344 (Zbn.snd c346) c343 c344 (neI 1024) c347 c348 (aK c349 c350 c351 (oD c338))))) (hc4 (w64 (A168+1)) (zM A193 (zD A168) (v32 ((v32 ((v32 ((zF A193 (zD (w64 (A168-16))) 0)+(ZaH .xor .u32 (ZaH .xor .u32 x194 x195) (v32 (zR (zF A193 (zD (w64 (A168-15))) 0) 8)))))+(zF A193 (zD (w64 (A168-7))) 0)))+(ZaH .xor .u32 (ZaH .xor .u32 x196 x197) (v32 (zR (zF A193 (zD (w64 (A168-2))) 0) 1024)))))) h25)
 exact aq fol [rZ,cF,rZ,rZ] [2,3,4,5,6,12,13] [2,3,6,12] c338 (At.loop N (At.loopN (fun y:Int×(List Int)=>Zat.p5.S x1 A2 y.1 A111 A193 y.2 st) (fun c J hc y h=>Zat.p5_ok (A198:=y.1) (A208:=y.2) h hE hc1 (fun A198 A208=>hc (A198,A208))) N (0,A111) h18))
theorem Zat.p2_ok {x1 A2 A112 A111 A165 st r c1_ c2_ J1 J2} (h:Zat.p2 N c1_ x1 A2 A111 c2_ (A112,A165)=some r) (hE:En Tryz.f97 g0 w0 (Zat.rs r) st R) (hc1 : ∀A2 A111,c1_ (A2,A111)=some r→At g0 w0 (Zat.p1.S x1 A2 A111 st) J1) (hc2 : ∀A112 A165,c2_ (A112,A165)=some r→At g0 w0 (Zat.p2.S x1 A2 A112 A111 A165 st) J2):At g0 w0 (Zat.p2.S x1 A2 A112 A111 A165 st) (XK zC R (cK Zat.B [1,1,1,0,1,0,0,1,0,0,1,0,1,0,0] :: .h J2 :: [.b 2,cK Zat.B [1,1,1,0,1,0,0,1,0,0,1,1],.b 1,cK Zat.B [1,1,1,0,1,0,0,1,1],.h J1,.b 0,cK Zat.B [1,1,1,1]])):=by
 unfold Zat.p2 at h;refine Zbc h (fun c287 h26=>?_) (fun c287 h27=>?_)
 ·exact aq fol [rZ,cT,rZ] [2,3,4,5,6,7,8] [2,3,6] c287 (At.loop N (At.loopN (fun y:Int×(List Int)=>Zat.p3.S x1 A2 A112 y.1 A111 y.2 st) (fun c J hc y h=>Zat.p3_ok (A166:=y.1) (A167:=y.2) h hE hc2 hc1 (fun A166 A167=>hc (A166,A167))) N (0,A165) h26))
 exact aq fol [rZ,cF,rZ] [2,3,4,5,6,9] [2,3,6] c287 (At.loop N (At.loopN (fun y:Int×(List Int)=>Zat.p4.S x1 A2 y.1 A111 y.2 st) (fun c J hc y h=>Zat.p4_ok (A168:=y.1) (A193:=y.2) h hE hc1 (fun A168 A193=>hc (A168,A193))) N (16,A165) h27))
theorem Zat.p7_ok {A218 A111 A219 st r c7_ J7} (h:Zat.p7 N A111 c7_ (A218,A219)=some r) (hE:En Tryz.f97 g0 w0 (Zat.rs r) st R) (hc7 : ∀A218 A219,c7_ (A218,A219)=some r→At g0 w0 (Zat.p7.S A218 A111 A219 st) J7):At g0 w0 (Zat.p7.S A218 A111 A219 st) (XK zC R (cK Zat.B [1,1,1,1,1,0,1,0,0] :: .h J7 :: [.b 12,cK Zat.B [1,1,1,1,1,1]])):=by
 unfold Zat.p7 at h;refine Zbc h (fun c383 h28=>?_) (fun c383 h29=>?_)
 ·obtain ⟨c384,c385,c386,c387,h30⟩:=ck4 h28;exact an fol [rZ,cT,rZ,rZ] [2,3,17,18] [2,3,17] (aO c383 (neI 4) c384 c385 (neI 4) c386 (neI 256) (aI c387 (oD c383))) (hc7 (w64 (A218+1)) (zM A219 (zD A218) (v8 (zW (Zby .u32 (zF A111 (zD (w64 (zR A218 4))) 0) (v64 (w64 (24-(w64 (8*(zW A218 4))))))) 256))) h30)
 exact xS fol h29 hE [rZ,cF,rZ] c383
theorem Zat.p1_ok {x1 A2 A111 st r c1_ J1} (h:Zat.p1 N x1 c1_ (A2,A111)=some r) (hE:En Tryz.f97 g0 w0 (Zat.rs r) st R) (hc1 : ∀A2 A111,c1_ (A2,A111)=some r→At g0 w0 (Zat.p1.S x1 A2 A111 st) J1):At g0 w0 (Zat.p1.S x1 A2 A111 st) (XK zC R (cK Zat.B [1,1,1,0,1,0,0] :: .h J1 :: [.b 0,cK Zat.B [1,1,1,1]])):=by
 unfold Zat.p1 at h;refine Zbc h (fun c195 h31=>?_) (fun c195 h32=>?_)
 ·exact aq fol [rZ,cT,rZ,rZ] [2,3,4,5,6,7] [2,3,6] c195 (At.loop N (At.loopN (fun y:Int×(List Int)=>Zat.p2.S x1 A2 y.1 A111 y.2 st) (fun c J hc y h=>Zat.p2_ok (A112:=y.1) (A165:=y.2) h hE hc1 (fun A112 A165=>hc (A112,A165))) N (0,zB 64 0) h31))
 exact aq fol [rZ,cF,rZ,rZ] [2,3,17,18] [2,3,17] c195 (At.loop N (At.loopN (fun y:Int×(List Int)=>Zat.p7.S y.1 A111 y.2 st) (fun c J hc y h=>Zat.p7_ok (A218:=y.1) (A219:=y.2) h hE (fun A218 A219=>hc (A218,A219))) N (0,zB 32 0) h32))
theorem Zat.snd {A0:ByteArray} {r:(List Int)} (h:Zat N A0=some r):ZdH zC 97 [.one (vD A0)] (Zat.rs r):=fun st=>
 sO Zat.B Tryz.func97 fun g0 w0 R hE=>by
  unfold Zat at h;obtain ⟨x1,c1,h33⟩:=Zac h;exact aq fol [rZ,.r [(0,{m:=3})],.r [(1,q1 [.one (vD x1)])],rZ] [2,3,4,5] [2,3] (Zbb.snd c1) (At.loop N (At.loopN (fun y:Int×(List Int)=>Zat.p1.S x1 y.1 y.2 st) (fun c J hc y h=>Zat.p1_ok (A2:=y.1) (A111:=y.2) h hE (fun A2 A111=>hc (A2,A111))) N (0,[1779033703,3144134277,1013904242,2773480762,1359893119,2600822924,528734635,1541459225]) h33))
def ZbZ.B:Code:=Tryz.f76.body.getD .skip
def ZbZ.rs (r:(List Int)):List CV:=[.agg [zH .u8 32 r]]
def ZbZ.p1 (N:Nat) (x1:List Int) (c1_:(ByteArray×Int)→Option (List Int)):(ByteArray×Int)→Option (List Int):=fun (A4,A2)=> if (decide (A2<32))=true then chk (0≤A2)<| chk (isB [[zJ .u8 (zF x1 (zD A2) 0)]]=true)<| chk (zY A4+zY (ZkF (wZ ZfM [[zJ .u8 (zF x1 (zD A2) 0)]]))≤9223372036854775807)<| c1_ (A4++(ZkF (wZ ZfM [[zJ .u8 (zF x1 (zD A2) 0)]])),w64 (A2+1)) else Zbj (Zat N A4) fun x5=> some x5
def ZbZ (N:Nat) (A0:ByteArray):Option (List Int):= Zbj (Zat N A0) fun x1=> loopN (ZbZ.p1 N x1) N ((xX #[]),0)
def ZbZ.p1.S (A4:ByteArray) (A2:Int) (x1:List Int) (st:LL):S:=mkS 21 [(2,sA 2),(3,sA 3),(4,.one (.l (vD A4))),(5,sI A2)] [(2,.cells [zH .u8 32 (zB 32 0)]),(3,.cells [zH .u8 32 x1])] st
theorem ZbZ.p1_ok {A4 A2 x1 st r c1_ J1} (h:ZbZ.p1 N x1 c1_ (A4,A2)=some r) (hE:En Tryz.f76 g0 w0 (ZbZ.rs r) st R) (hc1 : ∀A4 A2,c1_ (A4,A2)=some r→At g0 w0 (ZbZ.p1.S A4 A2 x1 st) J1):At g0 w0 (ZbZ.p1.S A4 A2 x1 st) (XK zC R (cK ZbZ.B [1,1,1,0,1,0,0] :: .h J1 :: [.b 0,cK ZbZ.B [1,1,1,1]])):=by
 unfold ZbZ.p1 at h;refine Zbc h (fun c7 h1=>?_) (fun c7 h2=>?_)
 ·obtain ⟨c8,c9,c10,h3⟩:=ck3 h1;exact an fol [rZ,cT,rZ,rZ] [2,3,4,5] [2,3] (aN c7 c8 (oD c7) z0 (eN (1)) c9 c10) (hc1 (A4++(ZkF (wZ ZfM [[zJ .u8 (zF x1 (zD A2) 0)]]))) (w64 (A2+1)) h3)
 obtain ⟨x5,c11,h4⟩:=Zac h2;exact xS fol h4 hE [rZ,cF,.r [(1,q1 [.agg [zH .u8 32 x5]])]] (aI c7 (Zat.snd c11))
theorem ZbZ.snd {A0:ByteArray} {r:(List Int)} (h:ZbZ N A0=some r):ZdH zC 76 [.one (vD A0)] (ZbZ.rs r):=fun st=>
 sO ZbZ.B Tryz.func76 fun g0 w0 R hE=>by
  unfold ZbZ at h;obtain ⟨x1,c1,h5⟩:=Zac h;exact aq fol [rZ,.r [(1,q1 [.agg [zH .u8 32 x1]])],rZ,rZ] [2,3,4,5] [2,3] (Zat.snd c1) (At.loop N (At.loopN (fun y:ByteArray×Int=>ZbZ.p1.S y.1 y.2 x1 st) (fun c J hc y h=>ZbZ.p1_ok (A4:=y.1) (A2:=y.2) h hE (fun A4 A2=>hc (A4,A2))) N ((xX #[]),0) h5))
def Zdr.B:Code:=Tryz.f54.body.getD .skip
def Zdr.rs (r:(List Int)):List CV:=[.agg [zH .u8 32 r]]
def Zdr (N:Nat) (h_0:Zak):Option (List Int):= Zbj (Zdk N h_0) fun x1=> if (!x1)=true then some (zB 32 0) else Zbj (ZdU N h_0) fun x2=> Zbj (ZbZ N x2) fun x3=> some x3
theorem Zdr.snd {h_0:Zak} {r:(List Int)} (h:Zdr N h_0=some r):ZdH zC 54 [.agg h_0.ls] (Zdr.rs r):=fun st=>
 sO Zdr.B Tryz.func54 fun g0 w0 R hE=>by
  unfold Zdr at h;obtain ⟨x1,c1,h1⟩:=Zac h;let o1:List PS:=[rZ,.r [(1,q1 [oB x1])]]
  refine Zbc h1 (fun c2 h2=>?_) (fun c2 h3=>?_)
  ·exact xS fol h2 hE (o1++[cT,rZ]) (aI (Zdk.snd c1) c2)
  obtain ⟨x2,c3,h4⟩:=Zac h3;obtain ⟨x3,c4,h5⟩:=Zac h4;exact xS fol h5 hE (o1++[cF,.r [(1,q1 [.one (vD x2)]),(2,q1 [.agg [zH .u8 32 x3]])]]) (aK (Zdk.snd c1) c2 (ZdU.snd c3) (ZbZ.snd c4))
def Zem.B:Code:=Tryz.f117.body.getD .skip
def Zem.rs (r:(List Int)):List CV:=[.agg [zH .u64 4 r]]
def Zem (N:Nat) (A0_0:List Int) (A1:Int):Option (List Int):= chk (0≤(w64 (zR A1 64)))<| chk ((w64 (zR A1 64))<4)<| chk (0≤(v64 (zW A1 64)))<| some (zM A0_0 (zD (w64 (zR A1 64))) (ZaH .or .u64 (zF A0_0 (zD (w64 (zR A1 64))) 0) (ZbM .u64 1 (v64 (zW A1 64)))))
theorem Zem.snd {A0_0:List Int} {A1:Int} {r:(List Int)} (h:Zem N A0_0 A1=some r):ZdH zC 117 [.agg [zH .u64 4 A0_0],oI A1] (Zem.rs r):=fun st=>
 sO Zem.B Tryz.func117 fun g0 w0 R hE=>by
  unfold Zem at h;obtain ⟨c1,c2,c3,h1⟩:=ck3 h;exact xS fol h1 hE [rZ,rZ,rZ] (aO (neI 64) (neI 64) c1 c2 (neI 64) c3 c1 c2)
def Zbk.B:Code:=Tryz.f89.body.getD .skip
def Zbk.rs (r:(List Int)×Bool):List CV:=[.agg [zH .u64 4 r.1],oB r.2]
def Zbk.p2 (N:Nat) (c1_:(Int×Int×(List Int))→Option ((List Int)×Bool)) (A2 x8 x9 A1:Int) (A0_0 A1_0 A11:List Int):Option ((List Int)×Bool):= c1_ (w64 (zR (w64 ((w64 (x8+x9))+A1)) 2),w64 (A2+1),A11)
def Zbk.p1 (N:Nat) (A0_0 A1_0:List Int) (c1_:(Int×Int×(List Int))→Option ((List Int)×Bool)):(Int×Int×(List Int))→Option ((List Int)×Bool):=fun (A1,A2,A7)=> if (decide (A2<256))=true then Zbj (Zdg N A0_0 A2) fun x8=> Zbj (Zdg N A1_0 A2) fun x9=> if ((zW (w64 ((w64 (x8+x9))+A1)) 2)==1)=true then Zbj (Zem N A7 A2) fun x10=> Zbk.p2 N c1_ A2 x8 x9 A1 A0_0 A1_0 x10 else Zbk.p2 N c1_ A2 x8 x9 A1 A0_0 A1_0 A7 else some (A7,A1==1)
def Zbk (N:Nat) (A0_0 A1_0:List Int):Option ((List Int)×Bool):= loopN (Zbk.p1 N A0_0 A1_0) N (0,0,zB 4 0)
def Zbk.p2.S (A2 x8 x9 A1:Int) (A0_0 A1_0 A11:List Int) (st:LL):S:=mkS 35 [(2,sA 2),(3,sA 3),(4,sA 4),(6,sA 6),(8,sI A2),(9,sI (w64 ((w64 (x8+x9))+A1)))] [(2,.cells [zH .u64 4 A0_0]),(3,.cells [zH .u64 4 A1_0]),(4,.cells [zH .u64 4 (zB 4 0)]),(6,.cells [zH .u64 4 A11])] st
def Zbk.p1.S (A1 A2:Int) (A0_0 A1_0 A7:List Int) (st:LL):S:=mkS 35 [(2,sA 2),(3,sA 3),(4,sA 4),(6,sA 6),(7,sI A1),(8,sI A2)] [(2,.cells [zH .u64 4 A0_0]),(3,.cells [zH .u64 4 A1_0]),(4,.cells [zH .u64 4 (zB 4 0)]),(6,.cells [zH .u64 4 A7])] st
theorem Zbk.p2_ok {A2 x8 x9 A1 A0_0 A1_0 A11 st r c1_ J1} (h:Zbk.p2 N c1_ A2 x8 x9 A1 A0_0 A1_0 A11=some r) (hE:En Tryz.f89 g0 w0 (Zbk.rs r) st R) (hc1 : ∀A1 A2 A7,c1_ (A1,A2,A7)=some r→At g0 w0 (Zbk.p1.S A1 A2 A0_0 A1_0 A7 st) J1):At g0 w0 (Zbk.p2.S A2 x8 x9 A1 A0_0 A1_0 A11 st) (XK zC R [cK Zbk.B [1,1,1,0,1,0,0,1,0,0,1,1],.b 1,cK Zbk.B [1,1,1,0,1,0,0,1,1],.h J1,.b 0,cK Zbk.B [1,1,1,1]]):=by
 unfold Zbk.p2 at h;exact an fol [rZ,rZ] [2,3,4,6,7,8] [2,3,4,6] (neI 2) (hc1 (w64 (zR (w64 ((w64 (x8+x9))+A1)) 2)) (w64 (A2+1)) A11 h)
theorem Zbk.p1_ok {A1 A2 A0_0 A1_0 A7 st r c1_ J1} (h:Zbk.p1 N A0_0 A1_0 c1_ (A1,A2,A7)=some r) (hE:En Tryz.f89 g0 w0 (Zbk.rs r) st R) (hc1 : ∀A1 A2 A7,c1_ (A1,A2,A7)=some r→At g0 w0 (Zbk.p1.S A1 A2 A0_0 A1_0 A7 st) J1):At g0 w0 (Zbk.p1.S A1 A2 A0_0 A1_0 A7 st) (XK zC R (cK Zbk.B [1,1,1,0,1,0,0] :: .h J1 :: [.b 0,cK Zbk.B [1,1,1,1]])):=by
 unfold Zbk.p1 at h;refine Zbc h (fun c6 h1=>?_) (fun c6 h2=>?_)
 ·obtain ⟨x8,c7,h3⟩:=Zac h1;obtain ⟨x9,c8,h4⟩:=Zac h3;let o1:List PS:=[rZ,cT,.d {ds:=[(2,q1 [oI x8]),(5,q1 [oI x9])],hv:=0,Hs:=[]},rZ]
  have t1 {Q:Prop} (q:Q):=aL c6 (Zdg.snd c7) (Zdg.snd c8) (neI 2) q;refine Zbc h4 (fun c9 h5=>?_) (fun c9 h6=>?_)
  ·obtain ⟨x10,c10,h7⟩:=Zac h5;exact aqd fol (o1++[cT,.r [(2,q1 [.agg [zH .u64 4 x10]])],.s 6]) [2,3,4,6,8,9] [2,3,4,6] (t1 (aI c9 (Zem.snd c10))) (Zbk.p2_ok h7 hE hc1)
  exact aqd fol (o1++[cF,.s 6]) [2,3,4,6,8,9] [2,3,4,6] (t1 c9) (Zbk.p2_ok h6 hE hc1)
 exact xS fol h2 hE [rZ,cF,rZ] c6
theorem Zbk.snd {A0_0 A1_0:List Int} {r:(List Int)×Bool} (h:Zbk N A0_0 A1_0=some r):ZdH zC 89 [.agg [zH .u64 4 A0_0],.agg [zH .u64 4 A1_0]] (Zbk.rs r):=fun st=>
 sO Zbk.B Tryz.func89 fun g0 w0 R hE=>by
  unfold Zbk at h;exact aq fol [rZ,rZ,rZ,rZ] [2,3,4,6,7,8] [2,3,4,6] trivial (At.loop N (At.loopN (fun y:Int×Int×(List Int)=>Zbk.p1.S y.1 y.2.1 A0_0 A1_0 y.2.2 st) (fun c J hc y h=>Zbk.p1_ok (A1:=y.1) (A2:=y.2.1) (A7:=y.2.2) h hE (fun A1 A2 A7=>hc (A1,A2,A7))) N (0,0,zB 4 0) h))
def ZbD.B:Code:=Tryz.f118.body.getD .skip
def ZbD.rs (r:(List Int)):List CV:=[.agg [zH .u64 4 r]]
def ZbD.p2 (N:Nat) (c1_:(Int×(List Int))→Option (List Int)) (A1:Int) (A0_0 A8:List Int):Option (List Int):= c1_ (w64 (A1+1),A8)
def ZbD.p1 (N:Nat) (A0_0:List Int) (c1_:(Int×(List Int))→Option (List Int)):(Int×(List Int))→Option (List Int):=fun (A1,A5)=> if (decide (A1<256))=true then Zbj (Zdg N A0_0 A1) fun x6=> if (x6==0)=true then Zbj (Zem N A5 A1) fun x7=> ZbD.p2 N c1_ A1 A0_0 x7 else ZbD.p2 N c1_ A1 A0_0 A5 else some A5
def ZbD (N:Nat) (A0_0:List Int):Option (List Int):= loopN (ZbD.p1 N A0_0) N (0,zB 4 0)
def ZbD.p2.S (A1:Int) (A0_0 A8:List Int) (st:LL):S:=mkS 18 [(1,sA 1),(2,sA 2),(3,sA 3),(4,sI A1)] [(1,.cells [zH .u64 4 A0_0]),(2,.cells [zH .u64 4 (zB 4 0)]),(3,.cells [zH .u64 4 A8])] st
def ZbD.p1.S (A1:Int) (A0_0 A5:List Int) (st:LL):S:=mkS 18 [(1,sA 1),(2,sA 2),(3,sA 3),(4,sI A1)] [(1,.cells [zH .u64 4 A0_0]),(2,.cells [zH .u64 4 (zB 4 0)]),(3,.cells [zH .u64 4 A5])] st
theorem ZbD.p2_ok {A1 A0_0 A8 st r c1_ J1} (h:ZbD.p2 N c1_ A1 A0_0 A8=some r) (hE:En Tryz.f118 g0 w0 (ZbD.rs r) st R) (hc1 : ∀A1 A5,c1_ (A1,A5)=some r→At g0 w0 (ZbD.p1.S A1 A0_0 A5 st) J1):At g0 w0 (ZbD.p2.S A1 A0_0 A8 st) (XK zC R [cK ZbD.B [1,1,0,1,0,0,1,1],.h J1,.b 0,cK ZbD.B [1,1,1]]):=by
 unfold ZbD.p2 at h;exact an fol [rZ] [1,2,3,4] [1,2,3] trivial (hc1 (w64 (A1+1)) A8 h)
theorem ZbD.p1_ok {A1 A0_0 A5 st r c1_ J1} (h:ZbD.p1 N A0_0 c1_ (A1,A5)=some r) (hE:En Tryz.f118 g0 w0 (ZbD.rs r) st R) (hc1 : ∀A1 A5,c1_ (A1,A5)=some r→At g0 w0 (ZbD.p1.S A1 A0_0 A5 st) J1):At g0 w0 (ZbD.p1.S A1 A0_0 A5 st) (XK zC R (cK ZbD.B [1,1,0,1,0,0] :: .h J1 :: [.b 0,cK ZbD.B [1,1,1]])):=by
 unfold ZbD.p1 at h;refine Zbc h (fun c5 h1=>?_) (fun c5 h2=>?_)
 ·obtain ⟨x6,c6,h3⟩:=Zac h1;let o1:List PS:=[rZ,cT,.r [(2,q1 [oI x6])]]
  refine Zbc h3 (fun c7 h4=>?_) (fun c7 h5=>?_)
  ·obtain ⟨x7,c8,h6⟩:=Zac h4;exact aq fol (o1++[cT,.r [(2,q1 [.agg [zH .u64 4 x7]])],.s 4]) [1,2,3,4] [1,2,3] (aK c5 (Zdg.snd c6) c7 (Zem.snd c8)) (ZbD.p2_ok h6 hE hc1)
  exact aq fol (o1++[cF,.s 4]) [1,2,3,4] [1,2,3] (aJ c5 (Zdg.snd c6) c7) (ZbD.p2_ok h5 hE hc1)
 exact xS fol h2 hE [rZ,cF,rZ] c5
theorem ZbD.snd {A0_0:List Int} {r:(List Int)} (h:ZbD N A0_0=some r):ZdH zC 118 [.agg [zH .u64 4 A0_0]] (ZbD.rs r):=fun st=>
 sO ZbD.B Tryz.func118 fun g0 w0 R hE=>by
  unfold ZbD at h;exact aq fol [rZ,rZ,rZ] [1,2,3,4] [1,2,3] trivial (At.loop N (At.loopN (fun y:Int×(List Int)=>ZbD.p1.S y.1 A0_0 y.2 st) (fun c J hc y h=>ZbD.p1_ok (A1:=y.1) (A5:=y.2) h hE (fun A1 A5=>hc (A1,A5))) N (0,zB 4 0) h))
def Zds.B:Code:=Tryz.f90.body.getD .skip
def Zds.rs (r:(List Int)):List CV:=[.agg [zH .u64 4 r]]
def Zds (N:Nat):Option (List Int):= Zbj (ZbD N (zB 4 0)) fun x1=> some x1
theorem Zds.snd {r:(List Int)} (h:Zds N=some r):ZdH zC 90 [] (Zds.rs r):=fun st=>
 sO Zds.B Tryz.func90 fun g0 w0 R hE=>by
  unfold Zds at h;obtain ⟨x1,c1,h1⟩:=Zac h;exact xS fol h1 hE [rZ,.r [(1,q1 [.agg [zH .u64 4 x1]])]] (ZbD.snd c1)
def Zen.B:Code:=Tryz.f101.body.getD .skip
def Zen.rs (r:(List Int)×Bool):List CV:=[.agg [zH .u64 4 r.1],oB r.2]
def Zen (N:Nat) (A0_0 A1_0:List Int):Option ((List Int)×Bool):= Zbj (ZbD N A1_0) fun x1=> Zbj (Zbk N A0_0 x1) fun (x2,x3)=> Zbj (Zbk N x2 [1,0,0,0]) fun (x4,x5)=> Zbj (ZbE N A0_0 A1_0) fun x6=> some (x4,x6)
theorem Zen.snd {A0_0 A1_0:List Int} {r:(List Int)×Bool} (h:Zen N A0_0 A1_0=some r):ZdH zC 101 [.agg [zH .u64 4 A0_0],.agg [zH .u64 4 A1_0]] (Zen.rs r):=fun st=>
 sO Zen.B Tryz.func101 fun g0 w0 R hE=>by
  unfold Zen at h;obtain ⟨x1,c1,h1⟩:=Zac h;obtain ⟨⟨x2,x3⟩,c2,h2⟩:=Zac h1;obtain ⟨⟨x4,x5⟩,c3,h3⟩:=Zac h2;obtain ⟨x6,c4,h4⟩:=Zac h3;exact xSd fol h4 hE [rZ,.d {ds:=[(2,q1 [.agg [zH .u64 4 x1]]),(3,q1 [.agg [zH .u64 4 x2],oB x3])],hv:=384,Hs:=[128,384]},.r [(1,{m:=3}),(2,q1 [.agg [zH .u64 4 x4],oB x5])],.d {ds:=[(3,q1 [oB x6])],hv:=16,Hs:=[16]}] (aM (ZbD.snd c1) (ZbD.snd c1) (Zbk.snd c2) (Zbk.snd c2) (Zbk.snd c3) (ZbE.snd c4))
def Zbs.B:Code:=Tryz.f79.body.getD .skip
def Zbs.rs (r:(List Int)):List CV:=[.agg [zH .u64 4 r]]
def Zbs.p2 (N:Nat) (c1_:(Int×(List Int)×(List Int))→Option (List Int)) (A5:Int) (A0_0 x1 A36 A37:List Int):Option (List Int):= c1_ (w64 (A5-1),A36,A37)
def Zbs.p3 (N:Nat) (A41:List Int):Option (List Int):= some A41
def Zbs.p1 (N:Nat) (A0_0 x1:List Int) (c1_:(Int×(List Int)×(List Int))→Option (List Int)):(Int×(List Int)×(List Int))→Option (List Int):=fun (A5,A23,A24)=> if (decide (A5≥0))=true then Zbj (Zao N x1 A5) fun x25=> Zbj (Zao N x25 (w64 (0-A5))) fun x26=> if (!(x26==x1))=true then Zbs.p2 N c1_ A5 A0_0 x1 A23 A24 else Zbj (Zen N x25 [1,0,0,0]) fun (x27,x28)=> Zbj (ZbE N A24 x27) fun x29=> if (!x29)=true then Zbj (Zen N A24 x25) fun (x30,x31)=> Zbj (Zao N [1,0,0,0] A5) fun x32=> Zbj (Zbk N A23 x32) fun (x33,x34)=> Zbj (Zds N ) fun x35=> if (x30==x35)=true then some x33 else Zbs.p2 N c1_ A5 A0_0 x1 x33 x30 else Zbs.p2 N c1_ A5 A0_0 x1 A23 A24 else Zbj (ZbE N A24 A0_0) fun x38=> if (!x38)=true then Zbj (Zbk N A23 [1,0,0,0]) fun (x39,x40)=> Zbs.p3 N x39 else Zbs.p3 N A23
def Zbs (N:Nat) (A0_0:List Int):Option (List Int):= Zbj (Zbk N A0_0 [1,0,0,0]) fun (x1,x2)=> if x2=true then some [1,0,0,0] else if (A0_0==(zB 4 0))=true then Zbj (Zds N ) fun x3=> some x3 else Zbj (Zds N ) fun x4=> loopN (Zbs.p1 N A0_0 x1) N (255,zB 4 0,x4)
def Zbs.p2.S (A5:Int) (A0_0 x1 A36 A37:List Int) (st:LL):S:=mkS 79 [(1,sA 1),(2,sA 2),(3,sA 3),(4,sA 4),(6,sA 6),(7,sA 7),(8,sI A5)] [(1,.cells [zH .u64 4 A0_0]),(2,.cells [zH .u64 4 (zB 4 0)]),(3,.cells [zH .u64 4 [1,0,0,0]]),(4,.cells [zH .u64 4 x1]),(6,.cells [zH .u64 4 A36]),(7,.cells [zH .u64 4 A37])] st
def Zbs.p3.S (A41:List Int) (st:LL):S:=mkS 79 [(2,sA 2),(6,sA 6)] [(2,.cells [zH .u64 4 (zB 4 0)]),(6,.cells [zH .u64 4 A41])] st
def Zbs.p1.S (A5:Int) (A0_0 x1 A23 A24:List Int) (st:LL):S:=mkS 79 [(1,sA 1),(2,sA 2),(3,sA 3),(4,sA 4),(6,sA 6),(7,sA 7),(8,sI A5)] [(1,.cells [zH .u64 4 A0_0]),(2,.cells [zH .u64 4 (zB 4 0)]),(3,.cells [zH .u64 4 [1,0,0,0]]),(4,.cells [zH .u64 4 x1]),(6,.cells [zH .u64 4 A23]),(7,.cells [zH .u64 4 A24])] st
theorem Zbs.p2_ok {A5 A0_0 x1 A36 A37 st r c1_ J1} (h:Zbs.p2 N c1_ A5 A0_0 x1 A36 A37=some r) (hE:En Tryz.f79 g0 w0 (Zbs.rs r) st R) (hc1 : ∀A5 A23 A24,c1_ (A5,A23,A24)=some r→At g0 w0 (Zbs.p1.S A5 A0_0 x1 A23 A24 st) J1):At g0 w0 (Zbs.p2.S A5 A0_0 x1 A36 A37 st) (XK zC R [cK Zbs.B [1,1,1,1,1,1,1,0,1,0,0,1,1],.h J1,.b 0,cK Zbs.B [1,1,1,1,1,1,1,1]]):=by
 unfold Zbs.p2 at h;exact an fol [rZ] [1,2,3,4,6,7,8] [1,2,3,4,6,7] trivial (hc1 (w64 (A5-1)) A36 A37 h)
theorem Zbs.p3_ok {A41 st r} (h:Zbs.p3 N A41=some r) (hE:En Tryz.f79 g0 w0 (Zbs.rs r) st R):At g0 w0 (Zbs.p3.S A41 st) (XK zC R [cK Zbs.B [1,1,1,1,1,1,1,1,1]]):=by
 unfold Zbs.p3 at h;exact xS fol h hE [rZ] trivial
theorem Zbs.p1_ok {A5 A0_0 x1 A23 A24 st r c1_ J1} (h:Zbs.p1 N A0_0 x1 c1_ (A5,A23,A24)=some r) (hE:En Tryz.f79 g0 w0 (Zbs.rs r) st R) (hc1 : ∀A5 A23 A24,c1_ (A5,A23,A24)=some r→At g0 w0 (Zbs.p1.S A5 A0_0 x1 A23 A24 st) J1):At g0 w0 (Zbs.p1.S A5 A0_0 x1 A23 A24 st) (XK zC R (cK Zbs.B [1,1,1,1,1,1,1,0,1,0,0] :: .h J1 :: [.b 0,cK Zbs.B [1,1,1,1,1,1,1,1]])):=by
 unfold Zbs.p1 at h;refine Zbc h (fun c21 h1=>?_) (fun c21 h2=>?_)
 ·obtain ⟨x25,c22,h3⟩:=Zac h1;obtain ⟨x26,c23,h4⟩:=Zac h3;let o1:List PS:=[rZ,cT,.r [(2,q1 [.agg [zH .u64 4 x25]])],.d {ds:=[(3,q1 [.agg [zH .u64 4 x26]])],hv:=0,Hs:=[]}]
  have t1 {Q:Prop} (q:Q):=aK c21 (Zao.snd c22) (Zao.snd c23) q;refine Zbc h4 (fun c24 h5=>?_) (fun c24 h6=>?_)
  ·exact aqd fol (o1++[cT,.s 4]) [1,2,3,4,6,7,8] [1,2,3,4,6,7] (t1 c24) (Zbs.p2_ok h5 hE hc1)
  obtain ⟨⟨x27,x28⟩,c25,h7⟩:=Zac h6;obtain ⟨x29,c26,h8⟩:=Zac h7;let o2:List PS:=o1++[cF,.r [(2,q1 [.agg [zH .u64 4 x27],oB x28])],.r [(2,q1 [oB x29])]]
  have t2 {Q:Prop} (q:Q):=t1 (aK c24 (Zen.snd c25) (ZbE.snd c26) q);refine Zbc h8 (fun c27 h9=>?_) (fun c27 h10=>?_)
  ·obtain ⟨⟨x30,x31⟩,c28,h11⟩:=Zac h9;obtain ⟨x32,c29,h12⟩:=Zac h11;obtain ⟨⟨x33,x34⟩,c30,h13⟩:=Zac h12;obtain ⟨x35,c31,h14⟩:=Zac h13;let o3:List PS:=o2++[cT,.r [(2,q1 [.agg [zH .u64 4 x30],oB x31])],.d {ds:=[(3,q1 [.agg [zH .u64 4 x32]]),(4,q1 [.agg [zH .u64 4 x33],oB x34])],hv:=256,Hs:=[256]},.d {ds:=[(1,q1 [.agg [zH .u64 4 x35]])],hv:=0,Hs:=[]}]
   have t3 {Q:Prop} (q:Q):=t2 (aM c27 (Zen.snd c28) (Zao.snd c29) (Zbk.snd c30) (Zds.snd c31) q);refine Zbc h14 (fun c32 h15=>?_) (fun c32 h16=>?_)
   ·exact xSd fol h15 hE (o3++[cT,rZ]) (t3 c32)
   exact aqd fol (o3++[cF,.s 4]) [1,2,3,4,6,7,8] [1,2,3,4,6,7] (t3 c32) (Zbs.p2_ok h16 hE hc1)
  exact aqd fol (o2++[cF,.s 4]) [1,2,3,4,6,7,8] [1,2,3,4,6,7] (t2 c27) (Zbs.p2_ok h10 hE hc1)
 obtain ⟨x38,c33,h17⟩:=Zac h2;let o4:List PS:=[rZ,cF,.r [(2,q1 [oB x38])]]
 refine Zbc h17 (fun c34 h18=>?_) (fun c34 h19=>?_)
 ·obtain ⟨⟨x39,x40⟩,c35,h20⟩:=Zac h18;exact aq fol (o4++[cT,.r [(2,q1 [.agg [zH .u64 4 x39],oB x40])],.s 1]) [2,6] [2,6] (aK c21 (ZbE.snd c33) c34 (Zbk.snd c35)) (Zbs.p3_ok h20 hE)
 exact aq fol (o4++[cF,.s 1]) [2,6] [2,6] (aJ c21 (ZbE.snd c33) c34) (Zbs.p3_ok h19 hE)
theorem Zbs.snd {A0_0:List Int} {r:(List Int)} (h:Zbs N A0_0=some r):ZdH zC 79 [.agg [zH .u64 4 A0_0]] (Zbs.rs r):=fun st=>
 sO Zbs.B Tryz.func79 fun g0 w0 R hE=>by
  unfold Zbs at h;obtain ⟨⟨x1,x2⟩,c1,h21⟩:=Zac h;let o5:List PS:=[rZ,.r [(0,{m:=3})],.r [(2,q1 [.agg [zH .u64 4 x1],oB x2])],rZ]
  have t4 {Q:Prop} (q:Q):=aI (Zbk.snd c1) q;refine Zbc h21 (fun c2 h22=>?_) (fun c2 h23=>?_)
  ·exact xS fol h22 hE (o5++[cT,rZ]) (t4 c2)
  refine Zbc h23 (fun c3 h24=>?_) (fun c3 h25=>?_)
  ·obtain ⟨x3,c4,h26⟩:=Zac h24;exact xS fol h26 hE (o5++[cF,rZ,cT,.r [(0,q1 [.agg [zH .u64 4 x3]])]]) (t4 (aJ c2 c3 (Zds.snd c4)))
  obtain ⟨x4,c5,h27⟩:=Zac h25;exact aq fol (o5++[cF,rZ,cF,rZ,.r [(0,q1 [.agg [zH .u64 4 x4]])],rZ]) [1,2,3,4,6,7,8] [1,2,3,4,6,7] (t4 (aJ c2 c3 (Zds.snd c5))) (At.loop N (At.loopN (fun y:Int×(List Int)×(List Int)=>Zbs.p1.S y.1 A0_0 x1 y.2.1 y.2.2 st) (fun c J hc y h=>Zbs.p1_ok (A5:=y.1) (A23:=y.2.1) (A24:=y.2.2) h hE (fun A5 A23 A24=>hc (A5,A23,A24))) N (255,zB 4 0,x4) h27))
def ZcE.B:Code:=Tryz.f55.body.getD .skip
def ZcE.rs (r:(List Int)):List CV:=[.agg [zH .u64 4 r]]
def ZcE (N:Nat) (A0:Int):Option (List Int):= Zbj (ZaT N A0) fun (x1,x2,x3)=> if x2=true then some (zB 4 0) else if x3=true then some (zB 4 0) else if (x1==(zB 4 0))=true then some (zB 4 0) else Zbj (Zbs N x1) fun x4=> some x4
theorem ZcE.snd {A0:Int} {r:(List Int)} (h:ZcE N A0=some r):ZdH zC 55 [oI A0] (ZcE.rs r):=fun st=>
 sO ZcE.B Tryz.func55 fun g0 w0 R hE=>by
  unfold ZcE at h;obtain ⟨⟨x1,x2,x3⟩,c1,h1⟩:=Zac h;let o1:List PS:=[rZ,.r [(1,q1 [.agg [zH .u64 4 x1],oB x2,oB x3])]]
  have t1 {Q:Prop} (q:Q):=aI (ZaT.snd c1) q;refine Zbc h1 (fun c2 h2=>?_) (fun c2 h3=>?_)
  ·exact xS fol h2 hE (o1++[.r [(2,wF),(5,wF),(6,wF),(7,wF)],cT,rZ]) (t1 (aN c2 c2 eT eT eT eT eT))
  refine Zbc h3 (fun c3 h4=>?_) (fun c3 h5=>?_)
  ·exact xS fol h4 hE (o1++[.r [(3,yF),(5,wF),(6,wF),(7,wF)],cT,rZ]) (t1 (aN c2 c2 c3 c3 c3 c3 eT))
  let o2:List PS:=o1++[.r [(3,yF),(8,yF)]]
  refine Zbc h5 (fun c4 h6=>?_) (fun c4 h7=>?_)
  ·exact xS fol h6 hE (o2++[cT,rZ]) (t1 (aN c2 c2 c3 c3 c3 c3 c4))
  obtain ⟨x4,c5,h8⟩:=Zac h7;exact xS fol h8 hE (o2++[cF,.r [(1,q1 [.agg [zH .u64 4 x4]])]]) (t1 (aO c2 c2 c3 c3 c3 c3 c4 (Zbs.snd c5)))
def ZeM.B:Code:=Tryz.f30.body.getD .skip
def ZeM.rs (r:(Option Nat)×LL):List CV:=[.one (zQ r.1)]
def ZeM (N:Nat) (A0:Zae) (A1:Int) (st:LL):Option ((Option Nat)×LL):= Zbj (Zdr N A0.Genesis) fun x1=> Zbj (ZcE N A0.Genesis.Bits) fun x2=> some ((some (zK st)),st++[Zab.lo (Zab.mk A0 [A0.Genesis.ls] [[zH .u8 32 x1]] [[zJ .i64 (-1)]] [[zH .u64 4 x2]] (if (512:Int)<(if (1:Int)>A1 then 1 else A1) then 512 else (if (1:Int)>A1 then 1 else A1)))])
theorem ZeM.snd {A0:Zae} {A1:Int} {st:LL} {r:(Option Nat)×LL} (h:ZeM N A0 A1 st=some r):Snd zC 30 [.agg A0.ls,oI A1] st (ZeM.rs r) r.2:=
 sO ZeM.B Tryz.func30 fun g0 w0 R hE=>by
  unfold ZeM at h;obtain ⟨x1,c1,h1⟩:=Zac h;obtain ⟨x2,c2,h2⟩:=Zac h1;exact xTd fol h2 hE [rZ,.d {ds:=[(6,q1 [.agg [zH .u8 32 x1]]),(12,q1 [.agg [zH .u64 4 x2]]),(17,{mv:=[15,16,17,18]}),(18,{m:=1,mv:=[8,12,13,18],fz:=[8,12,13,18]})],hv:=270728,Hs:=[8,128,136,256,264,384,392,8192,8200,8320,8328,8448,8456,8576,8584,270728]}] (aO (Zdr.snd c1) (Zdr.snd c1) (Zdr.snd c1) (Zdr.snd c1) (ZcE.snd c2) (ZcE.snd c2) (ZcE.snd c2) (aO (ZcE.snd c2) (ZcE.snd c2) (ZcE.snd c2) (ZcE.snd c2) (ZcE.snd c2) z0 (eN (1)) (aM z0 (eN (1)) z0 (eN (1)) z0 (eN (1)))))
def Zfd.B:Code:=Tryz.f31.body.getD .skip
def Zfd.rs (r:(Option Nat)×LL):List CV:=[.one (zQ r.1)]
def Zfd (N:Nat) (st:LL):Option ((Option Nat)×LL):= some ((some (zK st)),zM (st++[ZaF.ls (ZaF.mk (zB 600 0) (zB 600 false))]) (zK st) (ZaF.ls (ZaF.mk (zM (zB 600 0) 0 1) (zB 600 false))))
theorem Zfd.snd {st:LL} {r:(Option Nat)×LL} (h:Zfd N st=some r):Snd zC 31 [] st (Zfd.rs r) r.2:=
 sO Zfd.B Tryz.func31 fun g0 w0 R hE=>by
  unfold Zfd at h;exact xT fol h hE [rZ,.r [(1,{m:=1})],.r [(4,{oc:=[zH .i64 600 (zB 600 0),L.brr 600 (zB 600 false)]})],rZ] (ix 0 600 (st_new st (ZaF.ls (ZaF.mk (zB 600 0) (zB 600 false)))))
def ZdV.B:Code:=Tryz.f11.body.getD .skip
def ZdV.rs (r:(Option Nat)×LL):List CV:=[.one (zQ r.1)]
def ZdV (N:Nat) (A0:Zae) (st:LL):Option ((Option Nat)×LL):= Zbj (Zfr N A0 100 st) fun (x1,x2,st3)=> Zbj (Zfu N x1 st3) fun (x4,st5)=> Zbj (ZeM N A0 100 st5) fun (x6,st7)=> Zbj (Zfd N st7) fun (x8,st9)=> some ((some (zK st9)),st9++[[zQ x1,zQ x4,zQ x6,zQ x8]])
theorem ZdV.snd {A0:Zae} {st:LL} {r:(Option Nat)×LL} (h:ZdV N A0 st=some r):Snd zC 11 [.agg A0.ls] st (ZdV.rs r) r.2:=
 sO ZdV.B Tryz.func11 fun g0 w0 R hE=>by
  unfold ZdV at h;obtain ⟨⟨x1,x2,st3⟩,c1,h1⟩:=Zac h;obtain ⟨⟨x4,st5⟩,c2,h2⟩:=Zac h1;obtain ⟨⟨x6,st7⟩,c3,h3⟩:=Zac h2;obtain ⟨⟨x8,st9⟩,c4,h4⟩:=Zac h3;exact xTd fol h4 hE [rZ,.r [(1,{rs:=[.one (zQ x1),oI x2],st:=st3})],.d {ds:=[(2,{rs:=[.one (zQ x4)],st:=st5}),(4,{rs:=[.one (zQ x6)],st:=st7}),(5,{rs:=[.one (zQ x8)],st:=st9}),(7,{m:=1})],hv:=180,Hs:=[4,20,52,180]}] (aK (Zfr.snd c1) (Zfu.snd c2) (ZeM.snd c3) (Zfd.snd c4))
def Zfj.B:Code:=Tryz.f149.body.getD .skip
def Zfj.rs (r:Int):List CV:=[oI r]
def Zfj (N:Nat) (A0:Zae) (A1 A2:Int):Option Int:= some (if (w64 ((w64 (A0.Interval*A0.Spacing))*4))<(if (w64 (zR (w64 (A0.Interval*A0.Spacing)) 4))>(w64 (A2-A1)) then (w64 (zR (w64 (A0.Interval*A0.Spacing)) 4)) else (w64 (A2-A1))) then (w64 ((w64 (A0.Interval*A0.Spacing))*4)) else (if (w64 (zR (w64 (A0.Interval*A0.Spacing)) 4))>(w64 (A2-A1)) then (w64 (zR (w64 (A0.Interval*A0.Spacing)) 4)) else (w64 (A2-A1))))
theorem Zfj.snd {A0:Zae} {A1 A2:Int} {r:Int} (h:Zfj N A0 A1 A2=some r):ZdH zC 149 [.agg A0.ls,oI A1,oI A2] (Zfj.rs r):=fun st=>
 sO Zfj.B Tryz.func149 fun g0 w0 R hE=>by
  unfold Zfj at h;exact xS fol h hE [rZ,rZ,rZ] (neI 4)
def Zcf.B:Code:=Tryz.f168.body.getD .skip
def Zcf.rs (r:Int):List CV:=[oI r]
def Zcf (N:Nat) (A0:Int):Option Int:= Zbj (ZaB N A0) fun x1=> some (w64 (64-x1))
theorem Zcf.snd {A0:Int} {r:Int} (h:Zcf N A0=some r):ZdH zC 168 [.one (zJ .u64 A0)] (Zcf.rs r):=fun st=>
 sO Zcf.B Tryz.func168 fun g0 w0 R hE=>by
  unfold Zcf at h;obtain ⟨x1,c1,h1⟩:=Zac h;exact xS fol h1 hE [rZ,.r [(1,q1 [oI x1])]] (ZaB.snd c1)
def Zaj.B:Code:=Tryz.f161.body.getD .skip
def Zaj.rs (r:Int×Int):List CV:=[.one (zJ .u64 r.1),.one (zJ .u64 r.2)]
def Zaj.p6 (N:Nat) (A2 x1 A1 A4 A0 A7:Int):Option (Int×Int):= chk (0≤(v64 (x1)))<| some (v64 ((v64 (A4*4294967296))+A7),Zby .u64 (v64 ((v64 ((v64 ((v64 ((v64 ((v64 ((ZaH .or .u64 (ZbM .u64 A0 (v64 (x1))) (Zby .u64 A1 (v64 (64-(v64 (x1))))))*4294967296))+(Zby .u64 (ZbM .u64 A1 (v64 (x1))) 32)))-(v64 (A4*(ZbM .u64 A2 (v64 (x1)))))))*4294967296))+(ZaH .and .u64 (ZbM .u64 A1 (v64 (x1))) 4294967295)))-(v64 (A7*(ZbM .u64 A2 (v64 (x1))))))) (v64 (x1)))
def Zaj.p5 (N:Nat) (c4_:(Int×Int)→Option (Int×Int)) (A2 x1 A1 A4 A5 A0 A6:Int):Option (Int×Int):= if (decide ((v64 (A5+(Zby .u64 (ZbM .u64 A2 (v64 (x1))) 32)))≥4294967296))=true then Zaj.p6 N A2 x1 A1 A4 A0 (v64 (A6-1)) else c4_ (v64 (A5+(Zby .u64 (ZbM .u64 A2 (v64 (x1))) 32)),v64 (A6-1))
def Zaj.p4 (N:Nat) (A2 x1 A1 A4 A0:Int) (c4_:(Int×Int)→Option (Int×Int)):(Int×Int)→Option (Int×Int):=fun (A5,A6)=> if (decide (A6≥4294967296))=true then Zaj.p5 N c4_ A2 x1 A1 A4 A5 A0 A6 else if (decide ((v64 (A6*(ZaH .and .u64 (ZbM .u64 A2 (v64 (x1))) 4294967295)))>(v64 ((v64 (4294967296*A5))+(ZaH .and .u64 (ZbM .u64 A1 (v64 (x1))) 4294967295)))))=true then Zaj.p5 N c4_ A2 x1 A1 A4 A5 A0 A6 else Zaj.p6 N A2 x1 A1 A4 A0 A6
def Zaj.p3 (N:Nat) (A2 x1 A0 A1 A4:Int):Option (Int×Int):= chk ((Zby .u64 (ZbM .u64 A2 (v64 (x1))) 32)≠0)<| loopN (Zaj.p4 N A2 x1 A1 A4 A0) N (v64 ((v64 ((v64 ((v64 ((ZaH .or .u64 (ZbM .u64 A0 (v64 (x1))) (Zby .u64 A1 (v64 (64-(v64 (x1))))))*4294967296))+(Zby .u64 (ZbM .u64 A1 (v64 (x1))) 32)))-(v64 (A4*(ZbM .u64 A2 (v64 (x1)))))))-(v64 ((v64 (zR (v64 ((v64 ((v64 ((ZaH .or .u64 (ZbM .u64 A0 (v64 (x1))) (Zby .u64 A1 (v64 (64-(v64 (x1))))))*4294967296))+(Zby .u64 (ZbM .u64 A1 (v64 (x1))) 32)))-(v64 (A4*(ZbM .u64 A2 (v64 (x1))))))) (Zby .u64 (ZbM .u64 A2 (v64 (x1))) 32)))*(Zby .u64 (ZbM .u64 A2 (v64 (x1))) 32)))),v64 (zR (v64 ((v64 ((v64 ((ZaH .or .u64 (ZbM .u64 A0 (v64 (x1))) (Zby .u64 A1 (v64 (64-(v64 (x1))))))*4294967296))+(Zby .u64 (ZbM .u64 A1 (v64 (x1))) 32)))-(v64 (A4*(ZbM .u64 A2 (v64 (x1))))))) (Zby .u64 (ZbM .u64 A2 (v64 (x1))) 32)))
def Zaj.p2 (N:Nat) (c1_:(Int×Int)→Option (Int×Int)) (A2 x1 A0 A1 F2 A3:Int):Option (Int×Int):= if (decide ((v64 (A3+(Zby .u64 (ZbM .u64 A2 (v64 (x1))) 32)))≥4294967296))=true then Zaj.p3 N A2 x1 A0 A1 (v64 (F2-1)) else c1_ (v64 (F2-1),v64 (A3+(Zby .u64 (ZbM .u64 A2 (v64 (x1))) 32)))
def Zaj.p1 (N:Nat) (A2 x1 A0 A1:Int) (c1_:(Int×Int)→Option (Int×Int)):(Int×Int)→Option (Int×Int):=fun (F2,A3)=> if (decide (F2≥4294967296))=true then Zaj.p2 N c1_ A2 x1 A0 A1 F2 A3 else if (decide ((v64 (F2*(ZaH .and .u64 (ZbM .u64 A2 (v64 (x1))) 4294967295)))>(v64 ((v64 (4294967296*A3))+(Zby .u64 (ZbM .u64 A1 (v64 (x1))) 32)))))=true then Zaj.p2 N c1_ A2 x1 A0 A1 F2 A3 else Zaj.p3 N A2 x1 A0 A1 F2
def Zaj (N:Nat) (A0 A1 A2:Int):Option (Int×Int):= if (A2==0)=true then none else if (decide (A2≤A0))=true then none else if (A0==0)=true then chk (A2≠0)<| some (v64 (zR A1 A2),zW A1 A2) else Zbj (Zcf N A2) fun x1=> chk (0≤(v64 (x1)))<| chk (0≤(v64 (64-(v64 (x1)))))<| chk ((Zby .u64 (ZbM .u64 A2 (v64 (x1))) 32)≠0)<| loopN (Zaj.p1 N A2 x1 A0 A1) N (v64 (zR (ZaH .or .u64 (ZbM .u64 A0 (v64 (x1))) (Zby .u64 A1 (v64 (64-(v64 (x1)))))) (Zby .u64 (ZbM .u64 A2 (v64 (x1))) 32)),v64 ((ZaH .or .u64 (ZbM .u64 A0 (v64 (x1))) (Zby .u64 A1 (v64 (64-(v64 (x1))))))-(v64 ((v64 (zR (ZaH .or .u64 (ZbM .u64 A0 (v64 (x1))) (Zby .u64 A1 (v64 (64-(v64 (x1)))))) (Zby .u64 (ZbM .u64 A2 (v64 (x1))) 32)))*(Zby .u64 (ZbM .u64 A2 (v64 (x1))) 32)))))
def Zaj.p6.S (A2 x1 A1 A4 A0 A7:Int) (st:LL):S:=mkS 135 [(2,.one (.l (zJ .u64 (ZbM .u64 A2 (v64 (x1)))))),(8,.one (.l (zJ .u64 (v64 (x1))))),(14,.one (.l (zJ .u64 (ZaH .and .u64 (ZbM .u64 A1 (v64 (x1))) 4294967295)))),(15,.one (.l (zJ .u64 A4))),(17,.one (.l (zJ .u64 (v64 ((v64 ((v64 ((ZaH .or .u64 (ZbM .u64 A0 (v64 (x1))) (Zby .u64 A1 (v64 (64-(v64 (x1))))))*4294967296))+(Zby .u64 (ZbM .u64 A1 (v64 (x1))) 32)))-(v64 (A4*(ZbM .u64 A2 (v64 (x1)))))))))),(18,.one (.l (zJ .u64 A7)))] [] st
def Zaj.p5.S (A2 x1 A1 A4 A5 A0 A6:Int) (st:LL):S:=mkS 135 [(2,.one (.l (zJ .u64 (ZbM .u64 A2 (v64 (x1)))))),(8,.one (.l (zJ .u64 (v64 (x1))))),(9,.one (.l (zJ .u64 (Zby .u64 (ZbM .u64 A2 (v64 (x1))) 32)))),(10,.one (.l (zJ .u64 (ZaH .and .u64 (ZbM .u64 A2 (v64 (x1))) 4294967295)))),(14,.one (.l (zJ .u64 (ZaH .and .u64 (ZbM .u64 A1 (v64 (x1))) 4294967295)))),(15,.one (.l (zJ .u64 A4))),(16,.one (.l (zJ .u64 A5))),(17,.one (.l (zJ .u64 (v64 ((v64 ((v64 ((ZaH .or .u64 (ZbM .u64 A0 (v64 (x1))) (Zby .u64 A1 (v64 (64-(v64 (x1))))))*4294967296))+(Zby .u64 (ZbM .u64 A1 (v64 (x1))) 32)))-(v64 (A4*(ZbM .u64 A2 (v64 (x1)))))))))),(18,.one (.l (zJ .u64 A6)))] [] st
def Zaj.p4.S (A2 x1 A1 A4 A5 A0 A6:Int) (st:LL):S:=mkS 135 [(2,.one (.l (zJ .u64 (ZbM .u64 A2 (v64 (x1)))))),(8,.one (.l (zJ .u64 (v64 (x1))))),(9,.one (.l (zJ .u64 (Zby .u64 (ZbM .u64 A2 (v64 (x1))) 32)))),(10,.one (.l (zJ .u64 (ZaH .and .u64 (ZbM .u64 A2 (v64 (x1))) 4294967295)))),(14,.one (.l (zJ .u64 (ZaH .and .u64 (ZbM .u64 A1 (v64 (x1))) 4294967295)))),(15,.one (.l (zJ .u64 A4))),(16,.one (.l (zJ .u64 A5))),(17,.one (.l (zJ .u64 (v64 ((v64 ((v64 ((ZaH .or .u64 (ZbM .u64 A0 (v64 (x1))) (Zby .u64 A1 (v64 (64-(v64 (x1))))))*4294967296))+(Zby .u64 (ZbM .u64 A1 (v64 (x1))) 32)))-(v64 (A4*(ZbM .u64 A2 (v64 (x1)))))))))),(18,.one (.l (zJ .u64 A6)))] [] st
def Zaj.p3.S (A2 x1 A0 A1 A4:Int) (st:LL):S:=mkS 135 [(2,.one (.l (zJ .u64 (ZbM .u64 A2 (v64 (x1)))))),(8,.one (.l (zJ .u64 (v64 (x1))))),(9,.one (.l (zJ .u64 (Zby .u64 (ZbM .u64 A2 (v64 (x1))) 32)))),(10,.one (.l (zJ .u64 (ZaH .and .u64 (ZbM .u64 A2 (v64 (x1))) 4294967295)))),(11,.one (.l (zJ .u64 (ZaH .or .u64 (ZbM .u64 A0 (v64 (x1))) (Zby .u64 A1 (v64 (64-(v64 (x1))))))))),(13,.one (.l (zJ .u64 (Zby .u64 (ZbM .u64 A1 (v64 (x1))) 32)))),(14,.one (.l (zJ .u64 (ZaH .and .u64 (ZbM .u64 A1 (v64 (x1))) 4294967295)))),(15,.one (.l (zJ .u64 A4)))] [] st
def Zaj.p2.S (A2 x1 A0 A1 F2 A3:Int) (st:LL):S:=mkS 135 [(2,.one (.l (zJ .u64 (ZbM .u64 A2 (v64 (x1)))))),(8,.one (.l (zJ .u64 (v64 (x1))))),(9,.one (.l (zJ .u64 (Zby .u64 (ZbM .u64 A2 (v64 (x1))) 32)))),(10,.one (.l (zJ .u64 (ZaH .and .u64 (ZbM .u64 A2 (v64 (x1))) 4294967295)))),(11,.one (.l (zJ .u64 (ZaH .or .u64 (ZbM .u64 A0 (v64 (x1))) (Zby .u64 A1 (v64 (64-(v64 (x1))))))))),(13,.one (.l (zJ .u64 (Zby .u64 (ZbM .u64 A1 (v64 (x1))) 32)))),(14,.one (.l (zJ .u64 (ZaH .and .u64 (ZbM .u64 A1 (v64 (x1))) 4294967295)))),(15,.one (.l (zJ .u64 F2))),(16,.one (.l (zJ .u64 A3)))] [] st
def Zaj.p1.S (A2 x1 A0 A1 F2 A3:Int) (st:LL):S:=mkS 135 [(2,.one (.l (zJ .u64 (ZbM .u64 A2 (v64 (x1)))))),(8,.one (.l (zJ .u64 (v64 (x1))))),(9,.one (.l (zJ .u64 (Zby .u64 (ZbM .u64 A2 (v64 (x1))) 32)))),(10,.one (.l (zJ .u64 (ZaH .and .u64 (ZbM .u64 A2 (v64 (x1))) 4294967295)))),(11,.one (.l (zJ .u64 (ZaH .or .u64 (ZbM .u64 A0 (v64 (x1))) (Zby .u64 A1 (v64 (64-(v64 (x1))))))))),(13,.one (.l (zJ .u64 (Zby .u64 (ZbM .u64 A1 (v64 (x1))) 32)))),(14,.one (.l (zJ .u64 (ZaH .and .u64 (ZbM .u64 A1 (v64 (x1))) 4294967295)))),(15,.one (.l (zJ .u64 F2))),(16,.one (.l (zJ .u64 A3)))] [] st
theorem Zaj.p6_ok {A2 x1 A1 A4 A0 A7 st r} (h:Zaj.p6 N A2 x1 A1 A4 A0 A7=some r) (hE:En Tryz.f161 g0 w0 (Zaj.rs r) st R):At g0 w0 (Zaj.p6.S A2 x1 A1 A4 A0 A7 st) (XK zC R [cK Zaj.B [1,1,1,1,1,1,1,1,1,1,1,1,1,1,1,1,1,1,1]]):=by
 unfold Zaj.p6 at h;obtain ⟨c16,h1⟩:=Zbd h;exact xS fol h1 hE [rZ] c16
theorem Zaj.p5_ok {A2 x1 A1 A4 A5 A0 A6 st r c4_ J4} (h:Zaj.p5 N c4_ A2 x1 A1 A4 A5 A0 A6=some r) (hE:En Tryz.f161 g0 w0 (Zaj.rs r) st R) (hc4 : ∀A5 A6,c4_ (A5,A6)=some r→At g0 w0 (Zaj.p4.S A2 x1 A1 A4 A5 A0 A6 st) J4):At g0 w0 (Zaj.p5.S A2 x1 A1 A4 A5 A0 A6 st) (XK zC R [cK Zaj.B [1,1,1,1,1,1,1,1,1,1,1,1,1,1,1,1,1,1,0,0,0,1],.h J4,.b 2,cK Zaj.B [1,1,1,1,1,1,1,1,1,1,1,1,1,1,1,1,1,1,1]]):=by
 unfold Zaj.p5 at h;refine Zbc h (fun c15 h2=>?_) (fun c15 h3=>?_)
 ·exact aq fol [rZ,rZ,rZ,cT,.s 1] [2,8,14,15,17,18] [] c15 (Zaj.p6_ok h2 hE)
 exact an fol [rZ,rZ,rZ,cF] [2,8,9,10,14,15,16,17,18] [] c15 (hc4 (v64 (A5+(Zby .u64 (ZbM .u64 A2 (v64 (x1))) 32))) (v64 (A6-1)) h3)
theorem Zaj.p4_ok {A2 x1 A1 A4 A5 A0 A6 st r c4_ J4} (h:Zaj.p4 N A2 x1 A1 A4 A0 c4_ (A5,A6)=some r) (hE:En Tryz.f161 g0 w0 (Zaj.rs r) st R) (hc4 : ∀A5 A6,c4_ (A5,A6)=some r→At g0 w0 (Zaj.p4.S A2 x1 A1 A4 A5 A0 A6 st) J4):At g0 w0 (Zaj.p4.S A2 x1 A1 A4 A5 A0 A6 st) (XK zC R (cK Zaj.B [1,1,1,1,1,1,1,1,1,1,1,1,1,1,1,1,1,1,0,0,0] :: .h J4 :: [.b 2,cK Zaj.B [1,1,1,1,1,1,1,1,1,1,1,1,1,1,1,1,1,1,1]])):=by
 unfold Zaj.p4 at h;refine Zbc h (fun c13 h4=>?_) (fun c13 h5=>?_)
 ·exact aq fol [.r [(3,wF),(4,wF),(5,wF),(6,wF),(7,wF),(8,wF),(9,wF),(10,wF)],cT,.s 4] [2,8,9,10,14,15,16,17,18] [] (aO c13 c13 c13 c13 c13 c13 c13 (aJ c13 c13 eT)) (Zaj.p5_ok h4 hE hc4)
 have t1 {Q:Prop} (q:Q):=aO c13 c13 c13 c13 c13 c13 c13 (aJ c13 c13 q);refine Zbc h5 (fun c14 h6=>?_) (fun c14 h7=>?_)
 ·exact aq fol [.r [(11,yF)],cT,.s 4] [2,8,9,10,14,15,16,17,18] [] (t1 c14) (Zaj.p5_ok h6 hE hc4)
 exact aq fol [.r [(11,yF)],cF,.s 1] [2,8,14,15,17,18] [] (t1 c14) (Zaj.p6_ok h7 hE)
theorem Zaj.p3_ok {A2 x1 A0 A1 A4 st r} (h:Zaj.p3 N A2 x1 A0 A1 A4=some r) (hE:En Tryz.f161 g0 w0 (Zaj.rs r) st R):At g0 w0 (Zaj.p3.S A2 x1 A0 A1 A4 st) (XK zC R [cK Zaj.B [1,1,1,1,1,1,1,1,1,1,1,1,1,1,1]]):=by
 unfold Zaj.p3 at h;obtain ⟨c12,h8⟩:=Zbd h;exact aq fol [rZ,rZ,rZ] [2,8,9,10,14,15,16,17,18] [] c12 (At.loop N (At.loopN (fun y:Int×Int=>Zaj.p4.S A2 x1 A1 A4 y.1 A0 y.2 st) (fun c J hc y h=>Zaj.p4_ok (A5:=y.1) (A6:=y.2) h hE (fun A5 A6=>hc (A5,A6))) N (v64 ((v64 ((v64 ((v64 ((ZaH .or .u64 (ZbM .u64 A0 (v64 (x1))) (Zby .u64 A1 (v64 (64-(v64 (x1))))))*4294967296))+(Zby .u64 (ZbM .u64 A1 (v64 (x1))) 32)))-(v64 (A4*(ZbM .u64 A2 (v64 (x1)))))))-(v64 ((v64 (zR (v64 ((v64 ((v64 ((ZaH .or .u64 (ZbM .u64 A0 (v64 (x1))) (Zby .u64 A1 (v64 (64-(v64 (x1))))))*4294967296))+(Zby .u64 (ZbM .u64 A1 (v64 (x1))) 32)))-(v64 (A4*(ZbM .u64 A2 (v64 (x1))))))) (Zby .u64 (ZbM .u64 A2 (v64 (x1))) 32)))*(Zby .u64 (ZbM .u64 A2 (v64 (x1))) 32)))),v64 (zR (v64 ((v64 ((v64 ((ZaH .or .u64 (ZbM .u64 A0 (v64 (x1))) (Zby .u64 A1 (v64 (64-(v64 (x1))))))*4294967296))+(Zby .u64 (ZbM .u64 A1 (v64 (x1))) 32)))-(v64 (A4*(ZbM .u64 A2 (v64 (x1))))))) (Zby .u64 (ZbM .u64 A2 (v64 (x1))) 32))) h8))
theorem Zaj.p2_ok {A2 x1 A0 A1 F2 A3 st r c1_ J1} (h:Zaj.p2 N c1_ A2 x1 A0 A1 F2 A3=some r) (hE:En Tryz.f161 g0 w0 (Zaj.rs r) st R) (hc1 : ∀F2 A3,c1_ (F2,A3)=some r→At g0 w0 (Zaj.p1.S A2 x1 A0 A1 F2 A3 st) J1):At g0 w0 (Zaj.p2.S A2 x1 A0 A1 F2 A3 st) (XK zC R [cK Zaj.B [1,1,1,1,1,1,1,1,1,1,1,1,1,1,0,0,0,1],.h J1,.b 0,cK Zaj.B [1,1,1,1,1,1,1,1,1,1,1,1,1,1,1]]):=by
 unfold Zaj.p2 at h;refine Zbc h (fun c11 h9=>?_) (fun c11 h10=>?_)
 ·exact aq fol [rZ,rZ,rZ,cT,.s 1] [2,8,9,10,11,13,14,15] [] c11 (Zaj.p3_ok h9 hE)
 exact an fol [rZ,rZ,rZ,cF] [2,8,9,10,11,13,14,15,16] [] c11 (hc1 (v64 (F2-1)) (v64 (A3+(Zby .u64 (ZbM .u64 A2 (v64 (x1))) 32))) h10)
theorem Zaj.p1_ok {A2 x1 A0 A1 F2 A3 st r c1_ J1} (h:Zaj.p1 N A2 x1 A0 A1 c1_ (F2,A3)=some r) (hE:En Tryz.f161 g0 w0 (Zaj.rs r) st R) (hc1 : ∀F2 A3,c1_ (F2,A3)=some r→At g0 w0 (Zaj.p1.S A2 x1 A0 A1 F2 A3 st) J1):At g0 w0 (Zaj.p1.S A2 x1 A0 A1 F2 A3 st) (XK zC R (cK Zaj.B [1,1,1,1,1,1,1,1,1,1,1,1,1,1,0,0,0] :: .h J1 :: [.b 0,cK Zaj.B [1,1,1,1,1,1,1,1,1,1,1,1,1,1,1]])):=by
 unfold Zaj.p1 at h;refine Zbc h (fun c9 h11=>?_) (fun c9 h12=>?_)
 ·exact aq fol [.r [(3,wF),(4,wF),(5,wF),(6,wF),(7,wF),(8,wF),(9,wF),(10,wF)],cT,.s 4] [2,8,9,10,11,13,14,15,16] [] (aO c9 c9 c9 c9 c9 c9 c9 (aJ c9 c9 eT)) (Zaj.p2_ok h11 hE hc1)
 refine Zbc h12 (fun c10 h13=>?_) (fun c10 h14=>?_)
 ·exact aq fol [.r [(11,yF)],cT,.s 4] [2,8,9,10,11,13,14,15,16] [] (aO c9 c9 c9 c9 c9 c9 c9 (aJ c9 c9 c10)) (Zaj.p2_ok h13 hE hc1)
 exact aq fol [.r [(11,yF)],cF,.s 1] [2,8,9,10,11,13,14,15] [] (aO c9 c9 c9 c9 c9 c9 c9 (aJ c9 c9 c10)) (Zaj.p3_ok h14 hE)
theorem Zaj.snd {A0 A1 A2:Int} {r:Int×Int} (h:Zaj N A0 A1 A2=some r):ZdH zC 161 [.one (zJ .u64 A0),.one (zJ .u64 A1),.one (zJ .u64 A2)] (Zaj.rs r):=fun st=>
 sO Zaj.B Tryz.func161 fun g0 w0 R hE=>by
  unfold Zaj at h;let o1:List PS:=[rZ,rZ,cF,rZ,cF,rZ]
  refine Zbc h (fun c1 h15=>?_) (fun c1 h16=>?_)
  ·cases h15
  refine Zbc h16 (fun c2 h17=>?_) (fun c2 h18=>?_)
  ·cases h17
  refine Zbc h18 (fun c3 h19=>?_) (fun c3 h20=>?_)
  ·obtain ⟨c4,h21⟩:=Zbd h19;exact xSd fol h21 hE (o1++[cT,.d {ds:=[],hv:=0,Hs:=[]}]) (aL c1 c2 c3 c4 c4)
  obtain ⟨x1,c5,h22⟩:=Zac h20;obtain ⟨c6,c7,c8,h23⟩:=ck3 h22;exact aq fol (o1++[cF,.r [(1,q1 [oI x1])],rZ,rZ,rZ,rZ,rZ,rZ,rZ,rZ,rZ]) [2,8,9,10,11,13,14,15,16] [] (aO c1 c2 c3 (Zcf.snd c5) c6 (leI 0 32) c6 (aK c7 c6 (leI 0 32) c8)) (At.loop N (At.loopN (fun y:Int×Int=>Zaj.p1.S A2 x1 A0 A1 y.1 y.2 st) (fun c J hc y h=>Zaj.p1_ok (F2:=y.1) (A3:=y.2) h hE (fun F2 A3=>hc (F2,A3))) N (v64 (zR (ZaH .or .u64 (ZbM .u64 A0 (v64 (x1))) (Zby .u64 A1 (v64 (64-(v64 (x1)))))) (Zby .u64 (ZbM .u64 A2 (v64 (x1))) 32)),v64 ((ZaH .or .u64 (ZbM .u64 A0 (v64 (x1))) (Zby .u64 A1 (v64 (64-(v64 (x1))))))-(v64 ((v64 (zR (ZaH .or .u64 (ZbM .u64 A0 (v64 (x1))) (Zby .u64 A1 (v64 (64-(v64 (x1)))))) (Zby .u64 (ZbM .u64 A2 (v64 (x1))) 32)))*(Zby .u64 (ZbM .u64 A2 (v64 (x1))) 32))))) h23))
def ZcJ.B:Code:=Tryz.f150.body.getD .skip
def ZcJ.rs (r:(List Int)×Int):List CV:=[.agg [zH .u64 4 r.1],.one (zJ .u64 r.2)]
def ZcJ.p1 (N:Nat) (F1:Int) (c1_:(Int×Int×(List Int))→Option ((List Int)×Int)):(Int×Int×(List Int))→Option ((List Int)×Int):=fun (A1,A2,A5)=> if (decide (A2≥0))=true then chk (0≤A2)<| chk (A2<4)<| Zbj (Zaj N A1 (zF A5 (zD A2) 0) F1) fun (x6,x7)=> c1_ (x7,w64 (A2-1),zM A5 (zD A2) x6) else some (A5,A1)
def ZcJ (N:Nat) (A0_0:List Int) (F1:Int):Option ((List Int)×Int):= if (F1==0)=true then some (zB 4 0,0) else loopN (ZcJ.p1 N F1) N (0,3,A0_0)
def ZcJ.p1.S (F1 A1 A2:Int) (A5:List Int) (st:LL):S:=mkS 28 [(1,.one (.l (zJ .u64 F1))),(2,sA 2),(4,sA 4),(6,.one (.l (zJ .u64 A1))),(7,sI A2)] [(2,.cells [zH .u64 4 A5]),(4,.cells [zH .u64 4 (zB 4 0)])] st
theorem ZcJ.p1_ok {F1 A1 A2 A5 st r c1_ J1} (h:ZcJ.p1 N F1 c1_ (A1,A2,A5)=some r) (hE:En Tryz.f150 g0 w0 (ZcJ.rs r) st R) (hc1 : ∀A1 A2 A5,c1_ (A1,A2,A5)=some r→At g0 w0 (ZcJ.p1.S F1 A1 A2 A5 st) J1):At g0 w0 (ZcJ.p1.S F1 A1 A2 A5 st) (XK zC R (cK ZcJ.B [1,1,1,0,1,0,0] :: .h J1 :: [.b 0,cK ZcJ.B [1,1,1,1]])):=by
 unfold ZcJ.p1 at h;refine Zbc h (fun c6 h1=>?_) (fun c6 h2=>?_)
 ·obtain ⟨c7,c8,h3⟩:=ck2 h1;obtain ⟨⟨x6,x7⟩,c9,h4⟩:=Zac h3;exact an fol [rZ,cT,.r [(6,q1 [.one (zJ .u64 x6),.one (zJ .u64 x7)])],rZ] [1,2,4,6,7] [2,4] (aM c6 c7 c8 (Zaj.snd c9) c7 c8) (hc1 x7 (w64 (A2-1)) (zM A5 (zD A2) x6) h4)
 exact xS fol h2 hE [rZ,cF,rZ] c6
theorem ZcJ.snd {A0_0:List Int} {F1:Int} {r:(List Int)×Int} (h:ZcJ N A0_0 F1=some r):ZdH zC 150 [.agg [zH .u64 4 A0_0],.one (zJ .u64 F1)] (ZcJ.rs r):=fun st=>
 sO ZcJ.B Tryz.func150 fun g0 w0 R hE=>by
  unfold ZcJ at h;refine Zbc h (fun c1 h5=>?_) (fun c1 h6=>?_)
  ·exact xS fol h5 hE [rZ,rZ,cT,rZ] c1
  exact aq fol [rZ,rZ,cF,rZ,rZ] [1,2,4,6,7] [2,4] c1 (At.loop N (At.loopN (fun y:Int×Int×(List Int)=>ZcJ.p1.S F1 y.1 y.2.1 y.2.2 st) (fun c J hc y h=>ZcJ.p1_ok (A1:=y.1) (A2:=y.2.1) (A5:=y.2.2) h hE (fun A1 A2 A5=>hc (A1,A2,A5))) N (0,3,A0_0) h6))
end Go.Dn.F
end
