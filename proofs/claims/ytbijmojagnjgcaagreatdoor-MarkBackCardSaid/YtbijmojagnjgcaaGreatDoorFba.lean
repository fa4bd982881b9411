import Derived.Test.YtbijmojagnjgcaaGreatDoorFm
import Derived.Test.YtbijmojagnjgcaaGreatDoorMv
set_option linter.all false
open Array renaming toList→rR
open ByteArray renaming size→zZ,mk→wG,data→rA
open Go.Dn.L renaming int→zK,arr→zI,bool→xW,sl→vW,own→yD,ptr→zQ,str→vN
open Go.Proofs.Tryz renaming prog→zB
open Int renaming tdiv→zS,tmod→zX,toNat→zD
open List renaming set→zN,getD→zF,replicate→zC,length→zL,map→vK
noncomputable section
set_option maxRecDepth 100000
namespace Go.Dn.F
open Go.Proofs
variable {N:Nat} {g0:G} {w0:World} {R:Exit→Act→World→Prop}
structure ZcY where
  Height:Int
  Version:Int
def ZcY.ls (x:ZcY):List L:=[zK .i64 x.Height,zK .i64 x.Version]
def ZeZ {α:Type} (l:List L) (k:ZcY→Option α):Option α:=match l with | [zK .i64 x0,zK .i64 x1]=>k ⟨x0,x1⟩ | _=>none
theorem Zff {α:Type} {o:Option (List L)} {k:ZcY→Option α} {r:α} (h:ZcS o ZeZ k=some r) : ∃x:ZcY,o=some x.ls∧k x=some r:=by
  obtain ⟨l,e,k1⟩:=Zac h;subst e;unfold ZeZ at k1;split at k1
  · exact ⟨_,rfl,k1⟩
  cases k1
@[simp] theorem Zfx {α:Type} (x:ZcY) (k:ZcY→Option α):ZeZ x.ls k=k x:=rfl
theorem ZcY.bv {st:LL} (x:ZcY):BVs st x.ls x.ls:=(bP (bP bN))
structure Zcw where
  Height:Int
  Id:List Int
def Zcw.ls (x:Zcw):List L:=[zK .i64 x.Height,zI .u8 32 x.Id]
def ZeN {α:Type} (l:List L) (k:Zcw→Option α):Option α:=match l with | [zK .i64 x0,zI .u8 32 x1]=>k ⟨x0,x1⟩ | _=>none
theorem ZeW {α:Type} {o:Option (List L)} {k:Zcw→Option α} {r:α} (h:ZcS o ZeN k=some r) : ∃x:Zcw,o=some x.ls∧k x=some r:=by
  obtain ⟨l,e,k1⟩:=Zac h;subst e;unfold ZeN at k1;split at k1
  · exact ⟨_,rfl,k1⟩
  cases k1
@[simp] theorem Zfg {α:Type} (x:Zcw) (k:Zcw→Option α):ZeN x.ls k=k x:=rfl
theorem Zcw.bv {st:LL} (x:Zcw):BVs st x.ls x.ls:=(bP (bP bN))
structure ZbI where
  Kind:Int
  Header:Zak
  Now:Int
  N:Int
  Right:Bool
def ZbI.ls (x:ZbI):List L:=[zK .i64 x.Kind,zK .i64 x.Header.Version,zI .u8 32 x.Header.Prev,zI .u8 32 x.Header.Root,zK .i64 x.Header.Time,zK .i64 x.Header.Bits,zK .i64 x.Header.Nonce,zK .i64 x.Now,zK .i64 x.N,xW x.Right]
def ZdQ {α:Type} (l:List L) (k:ZbI→Option α):Option α:=match l with | [zK .i64 x0,zK .i64 x1,zI .u8 32 x2,zI .u8 32 x3,zK .i64 x4,zK .i64 x5,zK .i64 x6,zK .i64 x7,zK .i64 x8,xW x9]=>k ⟨x0,⟨x1,x2,x3,x4,x5,x6⟩,x7,x8,x9⟩ | _=>none
theorem ZfI {α:Type} {o:Option (List L)} {k:ZbI→Option α} {r:α} (h:ZcS o ZdQ k=some r) : ∃x:ZbI,o=some x.ls∧k x=some r:=by
  obtain ⟨l,e,k1⟩:=Zac h;subst e;unfold ZdQ at k1;split at k1
  · exact ⟨_,rfl,k1⟩
  cases k1
@[simp] theorem ZfL {α:Type} (x:ZbI) (k:ZbI→Option α):ZdQ x.ls k=k x:=rfl
theorem ZbI.bv {st:LL} (x:ZbI):BVs st x.ls x.ls:=(bP (bP (bP (bP (bP (bP (bP (bP (bP (bP bN))))))))))
structure Zab where
  Rules:Zae
  List_:LL
  Ids:LL
  Ahead:LL
  Works:LL
  Room:Int
def Zab.lo (x:Zab):List L:=[zK .i64 x.Rules.Limit,zK .i64 x.Rules.Interval,zK .i64 x.Rules.Spacing,zK .i64 x.Rules.Future,xW x.Rules.Easy,vW 2 x.Rules.Gates,vW 33 x.Rules.Checks,zI .u64 4 x.Rules.MinWork,zI .u64 4 x.Rules.Margin,zK .i64 x.Rules.Genesis.Version,zI .u8 32 x.Rules.Genesis.Prev,zI .u8 32 x.Rules.Genesis.Root,zK .i64 x.Rules.Genesis.Time,zK .i64 x.Rules.Genesis.Bits,zK .i64 x.Rules.Genesis.Nonce,yD false 68 x.List_,yD false 32 x.Ids,yD false 1 x.Ahead,yD false 4 x.Works,zK .i64 x.Room]
def Zba {α:Type} (l:List L) (k:Zab→Option α):Option α:=match l with | [zK .i64 x0,zK .i64 x1,zK .i64 x2,zK .i64 x3,xW x4,vW 2 x5,vW 33 x6,zI .u64 4 x7,zI .u64 4 x8,zK .i64 x9,zI .u8 32 x10,zI .u8 32 x11,zK .i64 x12,zK .i64 x13,zK .i64 x14,yD false 68 x15,yD false 32 x16,yD false 1 x17,yD false 4 x18,zK .i64 x19]=>k ⟨⟨x0,x1,x2,x3,x4,x5,x6,x7,x8,⟨x9,x10,x11,x12,x13,x14⟩⟩,x15,x16,x17,x18,x19⟩ | _=>none
theorem Zbb {α:Type} {o:Option (List L)} {k:Zab→Option α} {r:α} (h:ZcS o Zba k=some r) : ∃x:Zab,o=some x.lo∧k x=some r:=by
  obtain ⟨l,e,k1⟩:=Zac h;subst e;unfold Zba at k1;split at k1
  · exact ⟨_,rfl,k1⟩
  cases k1
@[simp] theorem Zbd {α:Type} (x:Zab) (k:Zab→Option α):Zba x.lo k=k x:=rfl
structure ZaG where
  Said:List Int
  Out:List Bool
def ZaG.ls (x:ZaG):List L:=[zI .i64 600 x.Said,L.brr 600 x.Out]
def Zcp {α:Type} (l:List L) (k:ZaG→Option α):Option α:=match l with | [zI .i64 600 x0,L.brr 600 x1]=>k ⟨x0,x1⟩ | _=>none
theorem ZcT {α:Type} {o:Option (List L)} {k:ZaG→Option α} {r:α} (h:ZcS o Zcp k=some r) : ∃x:ZaG,o=some x.ls∧k x=some r:=by
  obtain ⟨l,e,k1⟩:=Zac h;subst e;unfold Zcp at k1;split at k1
  · exact ⟨_,rfl,k1⟩
  cases k1
@[simp] theorem Zmq {α:Type} (x:ZaG) (k:ZaG→Option α):Zcp x.ls k=k x:=rfl
theorem ZaG.bv {st:LL} (x:ZaG):BVs st x.ls x.ls:=(bP (bP bN))
def Zab.ls (x:Zab):List L:=[zK .i64 x.Rules.Limit,zK .i64 x.Rules.Interval,zK .i64 x.Rules.Spacing,zK .i64 x.Rules.Future,xW x.Rules.Easy,vW 2 x.Rules.Gates,vW 33 x.Rules.Checks,zI .u64 4 x.Rules.MinWork,zI .u64 4 x.Rules.Margin,zK .i64 x.Rules.Genesis.Version,zI .u8 32 x.Rules.Genesis.Prev,zI .u8 32 x.Rules.Genesis.Root,zK .i64 x.Rules.Genesis.Time,zK .i64 x.Rules.Genesis.Bits,zK .i64 x.Rules.Genesis.Nonce,vW 68 x.List_,vW 32 x.Ids,vW 1 x.Ahead,vW 4 x.Works,zK .i64 x.Room]
theorem Zab.bv {st:LL} (x:Zab):BVs st x.lo x.ls:=(bP (bP (bP (bP (bP (bS (bS (bP (bP (bP (bP (bP (bP (bP (bP (bW (bW (bW (bW (bP bN))))))))))))))))))))
structure Zgz where
  t:Zav
  m:Zjn
  a:Zab
  r:ZaG
def Zgz.ls (x:Zgz):List L:=[L.bx 2 x.t.ls,L.bx 2 x.m.ls,L.bx 88 x.a.ls,L.bx 1200 x.r.ls]
def Zgt {α:Type} (l:List L) (k:(List Int)→Option α):Option α:=match l with | [zI .u64 4 x0]=>k x0 | _=>none
theorem ZhU {α:Type} {o:Option (List L)} {k:(List Int)→Option α} {r:α} (h:ZcS o Zgt k=some r) : ∃x0,o=some [zI .u64 4 x0]∧k x0=some r:=by
  obtain ⟨l,e,k1⟩:=Zac h;subst e;unfold Zgt at k1;split at k1
  · exact ⟨_,rfl,k1⟩
  cases k1
@[simp] theorem ZpX {α:Type} (x0:List Int) (k:(List Int)→Option α):Zgt [zI .u64 4 x0] k=k x0:=rfl
def ZaM {α:Type} (l:List L) (k:(Option Nat)→(Option Nat)→(Option Nat)→(Option Nat)→Option α):Option α:=match l with | [zQ x0,zQ x1,zQ x2,zQ x3]=>k x0 x1 x2 x3 | _=>none
theorem ZaP {α:Type} {o:Option (List L)} {k:(Option Nat)→(Option Nat)→(Option Nat)→(Option Nat)→Option α} {r:α} (h:ZcS o ZaM k=some r) : ∃x0 x1 x2 x3,o=some [zQ x0,zQ x1,zQ x2,zQ x3]∧k x0 x1 x2 x3=some r:=by
  obtain ⟨l,e,k1⟩:=Zac h;subst e;unfold ZaM at k1;split at k1
  · exact ⟨_,_,_,_,rfl,k1⟩
  cases k1
@[simp] theorem ZmA {α:Type} (x0:Option Nat) (x1:Option Nat) (x2:Option Nat) (x3:Option Nat) (k:(Option Nat)→(Option Nat)→(Option Nat)→(Option Nat)→Option α):ZaM [zQ x0,zQ x1,zQ x2,zQ x3] k=k x0 x1 x2 x3:=rfl
theorem slices_Sort_int.snd:SortC zB 154:=slices_Sort_int.holds
theorem Zev.snd {x y z:Int} {r:Int×Int} (h:Zev N x y z=some r):ExtI zB 157 [(.u64,x),(.u64,y),(.u64,z)] [(.u64,r.1),(.u64,r.2)]:=ZmO Tryz.func157 (by kernel_rfl) (by kernel_rfl) (by kernel_rfl) (by kernel_rfl) h
theorem ZfG.snd {x y z:Int} {r:Int×Int} (h:ZfG N x y z=some r):ExtI zB 166 [(.u64,x),(.u64,y),(.u64,z)] [(.u64,r.1),(.u64,r.2)]:=ZmN Tryz.func166 (by kernel_rfl) (by kernel_rfl) (by kernel_rfl) (by kernel_rfl) h
def ZdL.B:Code:=Tryz.f138.body.getD .skip
def ZdL.rs (r:(List Int)):List CV:=[.agg [zI .u64 4 r]]
def ZdL (N:Nat) (A0:Int):Option (List Int):= some [A0,0,0,0]
theorem ZdL.snd {A0:Int} {r:(List Int)} (h:ZdL N A0=some r):ZdP zB 138 [.one (zK .u64 A0)] (ZdL.rs r):=fun st=>
 sO ZdL.B Tryz.func138 fun g0 w0 R hE=>by
  unfold ZdL at h;exact xS fol h hE [rZ,.r [(1,{m:=3})]] trivial
def Zby.B:Code:=Tryz.f139.body.getD .skip
def Zby.rs (r:(List Int)):List CV:=[.agg [zI .u64 4 r]]
def Zby.p2 (N:Nat) (c1_:(Int×(List Int))→Option (List Int)) (F1 v1:Int) (A0_0 A4:List Int):Option (List Int):= c1_ (w64 (v1+1),A4)
def Zby.p1 (N:Nat) (F1:Int) (A0_0:List Int) (c1_:(Int×(List Int))→Option (List Int)):(Int×(List Int))→Option (List Int):=fun (v1,A3)=> if (decide (v1<(w64 (4-(w64 (zS (if (0:Int)>F1 then 0 else F1) 64))))))=true then chk (0≤(w64 (v1+(w64 (zS (if (0:Int)>F1 then 0 else F1) 64)))))<| chk ((w64 (v1+(w64 (zS (if (0:Int)>F1 then 0 else F1) 64))))<4)<| chk (0≤(zX (if (0:Int)>F1 then 0 else F1) 64))<| chk (0≤v1)<| chk (v1<4)<| if (decide ((w64 ((w64 (v1+(w64 (zS (if (0:Int)>F1 then 0 else F1) 64))))+1))<4))=true then chk (0≤(w64 ((w64 (v1+(w64 (zS (if (0:Int)>F1 then 0 else F1) 64))))+1)))<| chk (0≤(w64 (64-(zX (if (0:Int)>F1 then 0 else F1) 64))))<| Zby.p2 N c1_ F1 v1 A0_0 (zN (zN A3 (zD v1) (ZbF .u64 (zF A0_0 (zD (w64 (v1+(w64 (zS (if (0:Int)>F1 then 0 else F1) 64))))) 0) (zX (if (0:Int)>F1 then 0 else F1) 64))) (zD v1) (ZaH .or .u64 (zF (zN A3 (zD v1) (ZbF .u64 (zF A0_0 (zD (w64 (v1+(w64 (zS (if (0:Int)>F1 then 0 else F1) 64))))) 0) (zX (if (0:Int)>F1 then 0 else F1) 64))) (zD v1) 0) (ZbV .u64 (zF A0_0 (zD (w64 ((w64 (v1+(w64 (zS (if (0:Int)>F1 then 0 else F1) 64))))+1))) 0) (w64 (64-(zX (if (0:Int)>F1 then 0 else F1) 64)))))) else Zby.p2 N c1_ F1 v1 A0_0 (zN A3 (zD v1) (ZbF .u64 (zF A0_0 (zD (w64 (v1+(w64 (zS (if (0:Int)>F1 then 0 else F1) 64))))) 0) (zX (if (0:Int)>F1 then 0 else F1) 64))) else some A3
def Zby (N:Nat) (A0_0:List Int) (F1:Int):Option (List Int):= if (decide (F1≥256))=true then some (zC 4 0) else loopN (Zby.p1 N F1 A0_0) N (0,zC 4 0)
def Zby.p2.S (F1 v1:Int) (A0_0 A4:List Int) (st:LL):S:=mkS 53 [(2,sA 2),(4,sA 4),(5,sA 5),(6,sI (w64 (zS (if (0:Int)>F1 then 0 else F1) 64))),(7,sI (zX (if (0:Int)>F1 then 0 else F1) 64)),(19,sI (w64 (4-(w64 (zS (if (0:Int)>F1 then 0 else F1) 64))))),(20,sI v1)] [(2,.cells [zI .u64 4 A0_0]),(4,.cells [zI .u64 4 (zC 4 0)]),(5,.cells [zI .u64 4 A4])] st
def Zby.p1.S (F1 v1:Int) (A0_0 A3:List Int) (st:LL):S:=mkS 53 [(2,sA 2),(4,sA 4),(5,sA 5),(6,sI (w64 (zS (if (0:Int)>F1 then 0 else F1) 64))),(7,sI (zX (if (0:Int)>F1 then 0 else F1) 64)),(19,sI (w64 (4-(w64 (zS (if (0:Int)>F1 then 0 else F1) 64))))),(20,sI v1)] [(2,.cells [zI .u64 4 A0_0]),(4,.cells [zI .u64 4 (zC 4 0)]),(5,.cells [zI .u64 4 A3])] st
theorem Zby.p2_ok {F1 v1 A0_0 A4 st r c1_ J1} (h:Zby.p2 N c1_ F1 v1 A0_0 A4=some r) (hE:En Tryz.f139 g0 w0 (Zby.rs r) st R) (hc1 : ∀v1 A3,c1_ (v1,A3)=some r→At g0 w0 (Zby.p1.S F1 v1 A0_0 A3 st) J1):At g0 w0 (Zby.p2.S F1 v1 A0_0 A4 st) (XK zB R [cK Zby.B [1,1,1,1,0,1,0,0,1,1,1],.h J1,.b 0,cK Zby.B [1,1,1,1,1]]):=by
 unfold Zby.p2 at h;exact an fol [rZ] [2,4,5,6,7,19,20] [2,4,5] trivial (hc1 (w64 (v1+1)) A4 h)
theorem Zby.p1_ok {F1 v1 A0_0 A3 st r c1_ J1} (h:Zby.p1 N F1 A0_0 c1_ (v1,A3)=some r) (hE:En Tryz.f139 g0 w0 (Zby.rs r) st R) (hc1 : ∀v1 A3,c1_ (v1,A3)=some r→At g0 w0 (Zby.p1.S F1 v1 A0_0 A3 st) J1):At g0 w0 (Zby.p1.S F1 v1 A0_0 A3 st) (XK zB R (cK Zby.B [1,1,1,1,0,1,0,0] :: .h J1 :: [.b 0,cK Zby.B [1,1,1,1,1]])):=by
 unfold Zby.p1 at h;refine Zbg h (fun c11 h1=>?_) (fun c11 h2=>?_)
 ·obtain ⟨c12,c13,c14,c15,c16,h3⟩:=ck5 h1;let o1:List PS:=[rZ,cT,rZ,rZ,rZ]
  refine Zbg h3 (fun c17 h4=>?_) (fun c17 h5=>?_)
  ·obtain ⟨c18,c19,h6⟩:=ck2 h4;exact aqd fol (o1++[cT,.d {ds:=[],hv:=16384,Hs:=[16384]},.s 4]) [2,4,5,6,7,19,20] [2,4,5] (aO c11 c12 c13 c14 c15 c16 c17 (aN c15 c16 c18 (oD c17) c19 c15 c16)) (Zby.p2_ok h6 hE hc1)
  exact aq fol (o1++[cF,.s 4]) [2,4,5,6,7,19,20] [2,4,5] (aN c11 c12 c13 c14 c15 c16 c17) (Zby.p2_ok h5 hE hc1)
 exact xS fol h2 hE [rZ,cF,rZ] c11
theorem Zby.snd {A0_0:List Int} {F1:Int} {r:(List Int)} (h:Zby N A0_0 F1=some r):ZdP zB 139 [.agg [zI .u64 4 A0_0],oI F1] (Zby.rs r):=fun st=>
 sO Zby.B Tryz.func139 fun g0 w0 R hE=>by
  unfold Zby at h;refine Zbg h (fun c1 h7=>?_) (fun c1 h8=>?_)
  ·exact xS fol h7 hE [rZ,rZ,cT,rZ] c1
  exact aq fol [rZ,rZ,cF,rZ,rZ,rZ] [2,4,5,6,7,19,20] [2,4,5] (aJ c1 (neI 64) (neI 64)) (At.loop N (At.loopN (fun y:Int×(List Int)=>Zby.p1.S F1 y.1 A0_0 y.2 st) (fun c J hc y h=>Zby.p1_ok (v1:=y.1) (A3:=y.2) h hE (fun v1 A3=>hc (v1,A3))) N (0,zC 4 0) h8))
def Zcj.B:Code:=Tryz.f140.body.getD .skip
def Zcj.rs (r:(List Int)):List CV:=[.agg [zI .u64 4 r]]
def Zcj.p2 (N:Nat) (c1_:(Int×(List Int))→Option (List Int)) (F1 A1:Int) (A0_0 A4:List Int):Option (List Int):= c1_ (w64 (A1+1),A4)
def Zcj.p1 (N:Nat) (F1:Int) (A0_0:List Int) (c1_:(Int×(List Int))→Option (List Int)):(Int×(List Int))→Option (List Int):=fun (A1,A3)=> if (decide (A1<4))=true then chk (0≤(w64 (A1-(w64 (zS (if (0:Int)>F1 then 0 else F1) 64)))))<| chk ((w64 (A1-(w64 (zS (if (0:Int)>F1 then 0 else F1) 64))))<4)<| chk (0≤(zX (if (0:Int)>F1 then 0 else F1) 64))<| chk (0≤A1)<| if (decide (A1>(w64 (zS (if (0:Int)>F1 then 0 else F1) 64))))=true then chk (0≤(w64 ((w64 (A1-(w64 (zS (if (0:Int)>F1 then 0 else F1) 64))))-1)))<| chk ((w64 ((w64 (A1-(w64 (zS (if (0:Int)>F1 then 0 else F1) 64))))-1))<4)<| chk (0≤(w64 (64-(zX (if (0:Int)>F1 then 0 else F1) 64))))<| Zcj.p2 N c1_ F1 A1 A0_0 (zN (zN A3 (zD A1) (ZbV .u64 (zF A0_0 (zD (w64 (A1-(w64 (zS (if (0:Int)>F1 then 0 else F1) 64))))) 0) (zX (if (0:Int)>F1 then 0 else F1) 64))) (zD A1) (ZaH .or .u64 (zF (zN A3 (zD A1) (ZbV .u64 (zF A0_0 (zD (w64 (A1-(w64 (zS (if (0:Int)>F1 then 0 else F1) 64))))) 0) (zX (if (0:Int)>F1 then 0 else F1) 64))) (zD A1) 0) (ZbF .u64 (zF A0_0 (zD (w64 ((w64 (A1-(w64 (zS (if (0:Int)>F1 then 0 else F1) 64))))-1))) 0) (w64 (64-(zX (if (0:Int)>F1 then 0 else F1) 64)))))) else Zcj.p2 N c1_ F1 A1 A0_0 (zN A3 (zD A1) (ZbV .u64 (zF A0_0 (zD (w64 (A1-(w64 (zS (if (0:Int)>F1 then 0 else F1) 64))))) 0) (zX (if (0:Int)>F1 then 0 else F1) 64))) else some A3
def Zcj (N:Nat) (A0_0:List Int) (F1:Int):Option (List Int):= if (decide (F1≥256))=true then some (zC 4 0) else loopN (Zcj.p1 N F1 A0_0) N (w64 (zS (if (0:Int)>F1 then 0 else F1) 64),zC 4 0)
def Zcj.p2.S (F1 A1:Int) (A0_0 A4:List Int) (st:LL):S:=mkS 50 [(2,sA 2),(4,sA 4),(5,sA 5),(6,sI (w64 (zS (if (0:Int)>F1 then 0 else F1) 64))),(7,sI (zX (if (0:Int)>F1 then 0 else F1) 64)),(8,sI A1)] [(2,.cells [zI .u64 4 A0_0]),(4,.cells [zI .u64 4 (zC 4 0)]),(5,.cells [zI .u64 4 A4])] st
def Zcj.p1.S (F1 A1:Int) (A0_0 A3:List Int) (st:LL):S:=mkS 50 [(2,sA 2),(4,sA 4),(5,sA 5),(6,sI (w64 (zS (if (0:Int)>F1 then 0 else F1) 64))),(7,sI (zX (if (0:Int)>F1 then 0 else F1) 64)),(8,sI A1)] [(2,.cells [zI .u64 4 A0_0]),(4,.cells [zI .u64 4 (zC 4 0)]),(5,.cells [zI .u64 4 A3])] st
theorem Zcj.p2_ok {F1 A1 A0_0 A4 st r c1_ J1} (h:Zcj.p2 N c1_ F1 A1 A0_0 A4=some r) (hE:En Tryz.f140 g0 w0 (Zcj.rs r) st R) (hc1 : ∀A1 A3,c1_ (A1,A3)=some r→At g0 w0 (Zcj.p1.S F1 A1 A0_0 A3 st) J1):At g0 w0 (Zcj.p2.S F1 A1 A0_0 A4 st) (XK zB R [cK Zcj.B [1,1,1,1,0,1,0,0,1,1],.h J1,.b 0,cK Zcj.B [1,1,1,1,1]]):=by
 unfold Zcj.p2 at h;exact an fol [rZ] [2,4,5,6,7,8] [2,4,5] trivial (hc1 (w64 (A1+1)) A4 h)
theorem Zcj.p1_ok {F1 A1 A0_0 A3 st r c1_ J1} (h:Zcj.p1 N F1 A0_0 c1_ (A1,A3)=some r) (hE:En Tryz.f140 g0 w0 (Zcj.rs r) st R) (hc1 : ∀A1 A3,c1_ (A1,A3)=some r→At g0 w0 (Zcj.p1.S F1 A1 A0_0 A3 st) J1):At g0 w0 (Zcj.p1.S F1 A1 A0_0 A3 st) (XK zB R (cK Zcj.B [1,1,1,1,0,1,0,0] :: .h J1 :: [.b 0,cK Zcj.B [1,1,1,1,1]])):=by
 unfold Zcj.p1 at h;refine Zbg h (fun c11 h1=>?_) (fun c11 h2=>?_)
 ·obtain ⟨c12,c13,c14,c15,h3⟩:=ck4 h1;refine Zbg h3 (fun c16 h4=>?_) (fun c16 h5=>?_)
  ·obtain ⟨c17,c18,c19,h6⟩:=ck3 h4;exact aqd fol [rZ,cT,rZ,rZ,cT,.d {ds:=[],hv:=16384,Hs:=[16384]},.s 4] [2,4,5,6,7,8] [2,4,5] (aO c11 c12 c13 c14 c15 (oD c11) c16 (aN c15 (oD c11) c17 c18 c19 c15 (oD c11))) (Zcj.p2_ok h6 hE hc1)
  exact aq fol [rZ,cT,rZ,rZ,cF,.s 4] [2,4,5,6,7,8] [2,4,5] (aN c11 c12 c13 c14 c15 (oD c11) c16) (Zcj.p2_ok h5 hE hc1)
 exact xS fol h2 hE [rZ,cF,rZ] c11
theorem Zcj.snd {A0_0:List Int} {F1:Int} {r:(List Int)} (h:Zcj N A0_0 F1=some r):ZdP zB 140 [.agg [zI .u64 4 A0_0],oI F1] (Zcj.rs r):=fun st=>
 sO Zcj.B Tryz.func140 fun g0 w0 R hE=>by
  unfold Zcj at h;refine Zbg h (fun c1 h7=>?_) (fun c1 h8=>?_)
  ·exact xS fol h7 hE [rZ,rZ,cT,rZ] c1
  exact aq fol [rZ,rZ,cF,rZ,rZ,rZ] [2,4,5,6,7,8] [2,4,5] (aJ c1 (neI 64) (neI 64)) (At.loop N (At.loopN (fun y:Int×(List Int)=>Zcj.p1.S F1 y.1 A0_0 y.2 st) (fun c J hc y h=>Zcj.p1_ok (A1:=y.1) (A3:=y.2) h hE (fun A1 A3=>hc (A1,A3))) N (w64 (zS (if (0:Int)>F1 then 0 else F1) 64),zC 4 0) h8))
def ZaW.B:Code:=Tryz.f121.body.getD .skip
def ZaW.rs (r:(List Int)×Bool×Bool):List CV:=[.agg [zI .u64 4 r.1],oB r.2.1,oB r.2.2]
def ZaW.p2 (N:Nat) (A0:Int) (A6:Bool) (A5:List Int):Option ((List Int)×Bool×Bool):= if ((ZaH .and .i64 A0 8388607) != 0)=true then if (decide ((ZbF .i64 A0 24)>34))=true then some (A5,A6,true) else if (decide ((ZaH .and .i64 A0 8388607)>255))=true then if (decide ((ZbF .i64 A0 24)>33))=true then some (A5,A6,true) else if (decide ((ZaH .and .i64 A0 8388607)>65535))=true then some (A5,A6,decide ((ZbF .i64 A0 24)>32)) else some (A5,A6,false) else if (decide ((ZaH .and .i64 A0 8388607)>65535))=true then some (A5,A6,decide ((ZbF .i64 A0 24)>32)) else some (A5,A6,false) else some (A5,A6,false)
def ZaW.p1 (N:Nat) (A0:Int) (A5:List Int):Option ((List Int)×Bool×Bool):= if ((ZaH .and .i64 A0 8388607) != 0)=true then ZaW.p2 N A0 ((ZaH .and .i64 A0 8388608) != 0) A5 else ZaW.p2 N A0 false A5
def ZaW (N:Nat) (A0:Int):Option ((List Int)×Bool×Bool):= Zbj (ZdK N A0) fun x1=> if (!x1)=true then some (zC 4 0,false,false) else Zbj (ZdL N (v64 (ZaH .and .i64 A0 8388607))) fun x2=> if (decide ((ZbF .i64 A0 24)≤3))=true then Zbj (Zby N x2 (w64 (8*(w64 (3-(ZbF .i64 A0 24)))))) fun x3=> ZaW.p1 N A0 x3 else Zbj (Zcj N x2 (w64 (8*(w64 ((ZbF .i64 A0 24)-3))))) fun x4=> ZaW.p1 N A0 x4
def ZaW.p2.S (A0:Int) (A6:Bool) (A5:List Int) (st:LL):S:=mkS 65 [(2,sA 2),(5,sI (ZbF .i64 A0 24)),(6,sI (ZaH .and .i64 A0 8388607)),(7,sA 7),(8,.one (.l (xW A6)))] [(2,.cells [zI .u64 4 (zC 4 0)]),(7,.cells [zI .u64 4 A5])] st
def ZaW.p1.S (A0:Int) (A5:List Int) (st:LL):S:=mkS 65 [(0,sI A0),(2,sA 2),(5,sI (ZbF .i64 A0 24)),(6,sI (ZaH .and .i64 A0 8388607)),(7,sA 7)] [(2,.cells [zI .u64 4 (zC 4 0)]),(7,.cells [zI .u64 4 A5])] st
theorem ZaW.p2_ok {A0 A6 A5 st r} (h:ZaW.p2 N A0 A6 A5=some r) (hE:En Tryz.f121 g0 w0 (ZaW.rs r) st R):At g0 w0 (ZaW.p2.S A0 A6 A5 st) (XK zB R [cK ZaW.B [1,1,1,1,1,1]]):=by
 unfold ZaW.p2 at h;refine Zbg h (fun c8 h1=>?_) (fun c8 h2=>?_)
 ·have t1 {Q:Prop} (q:Q):=aK c8 c8 c8 q;refine Zbg h1 (fun c9 h3=>?_) (fun c9 h4=>?_)
  ·exact xS fol h3 hE [.r [(6,wF),(7,wF),(8,wF),(11,wF),(14,wF),(15,wF),(16,wF),(19,wF)],rZ] (t1 (aO c9 c9 c9 c9 c8 c9 c8 (aN eT eT eT eT c8 eT c8)))
  have t2 {Q:Prop} (q:Q):=t1 (aK c9 c9 c9 q);refine Zbg h4 (fun c10 h5=>?_) (fun c10 h6=>?_)
  ·have t3 {Q:Prop} (q:Q):=t2 (aO c10 c10 c9 c10 c8 c9 c8 q);refine Zbg h5 (fun c11 h7=>?_) (fun c11 h8=>?_)
   ·exact xS fol h7 hE [.r [(12,yF),(14,wF),(15,wF),(16,wF),(19,wF)],rZ] (t3 (aN c11 c11 c11 c11 c8 c11 c8))
   refine Zbg h8 (fun c12 h9=>?_) (fun c12 h10=>?_)
   ·exact xS fol h9 hE [.r [(12,yF),(20,yF)],rZ] (t3 (aO c11 c11 c11 c12 c12 c11 c12 (aJ c8 c11 c8)))
   exact xS fol h10 hE [.r [(12,yF),(17,wF),(18,wF),(19,yF),(20,yF)],rZ] (t3 (aO c11 c11 c11 c12 c12 c11 c12 (aJ c8 c11 c8)))
  have t4 {Q:Prop} (q:Q):=t2 (aO c10 c10 c9 c10 c8 c9 c8 (aK eF eF eF q));refine Zbg h6 (fun c13 h11=>?_) (fun c13 h12=>?_)
  ·exact xS fol h11 hE [.r [(9,wF),(10,wF),(11,yF),(12,yF),(20,yF)],rZ] (t4 (aN c13 c13 eF c13 c8 eF c8))
  exact xS fol h12 hE [.r [(9,wF),(10,wF),(11,yF),(12,yF),(17,wF),(18,wF),(19,yF),(20,yF)],rZ] (t4 (aN c13 c13 eF c13 c8 eF c8))
 exact xS fol h2 hE [.r [(3,wF),(4,wF),(5,wF),(12,wF),(13,wF),(20,wF),(21,yF)],rZ] (aN c8 c8 c8 c8 c8 c8 c8)
theorem ZaW.p1_ok {A0 A5 st r} (h:ZaW.p1 N A0 A5=some r) (hE:En Tryz.f121 g0 w0 (ZaW.rs r) st R):At g0 w0 (ZaW.p1.S A0 A5 st) (XK zB R [cK ZaW.B [1,1,1,1,1]]):=by
 unfold ZaW.p1 at h;refine Zbg h (fun c7 h13=>?_) (fun c7 h14=>?_)
 ·exact aq fol [rZ,.s 1] [2,5,6,7,8] [2,7] (aK c7 c7 c7 c7) (ZaW.p2_ok h13 hE)
 exact aq fol [.r [(3,wF),(4,wF),(5,wF),(6,yF)],.s 1] [2,5,6,7,8] [2,7] (aK c7 c7 c7 c7) (ZaW.p2_ok h14 hE)
theorem ZaW.snd {A0:Int} {r:(List Int)×Bool×Bool} (h:ZaW N A0=some r):ZdP zB 121 [oI A0] (ZaW.rs r):=fun st=>
 sO ZaW.B Tryz.func121 fun g0 w0 R hE=>by
  unfold ZaW at h;obtain ⟨x1,c1,h15⟩:=Zac h;let o1:List PS:=[rZ,.r [(1,q1 [oB x1])]]
  have t5 {Q:Prop} (q:Q):=aI (ZdK.snd c1) q;refine Zbg h15 (fun c2 h16=>?_) (fun c2 h17=>?_)
  ·exact xS fol h16 hE (o1++[cT,rZ]) (t5 c2)
  obtain ⟨x2,c3,h18⟩:=Zac h17;let o2:List PS:=o1++[cF,rZ,.r [(2,q1 [.agg [zI .u64 4 x2]])],rZ]
  refine Zbg h18 (fun c4 h19=>?_) (fun c4 h20=>?_)
  ·obtain ⟨x3,c5,h21⟩:=Zac h19;exact aq fol (o2++[cT,.r [(4,q1 [.agg [zI .u64 4 x3]])],.s 1]) [0,2,5,6,7] [2,7] (t5 (aL c2 (leI 0 24) (ZdL.snd c3) c4 (Zby.snd c5))) (ZaW.p1_ok h21 hE)
  obtain ⟨x4,c6,h22⟩:=Zac h20;exact aq fol (o2++[cF,.r [(4,q1 [.agg [zI .u64 4 x4]])],.s 1]) [0,2,5,6,7] [2,7] (t5 (aL c2 (leI 0 24) (ZdL.snd c3) c4 (Zcj.snd c6))) (ZaW.p1_ok h22 hE)
def Zdu.B:Code:=Tryz.f122.body.getD .skip
def Zdu.rs (r:Bool):List CV:=[oB r]
def Zdu (N:Nat) (A0_0:List Int):Option Bool:= some (A0_0==(zC 4 0))
theorem Zdu.snd {A0_0:List Int} {r:Bool} (h:Zdu N A0_0=some r):ZdP zB 122 [.agg [zI .u64 4 A0_0]] (Zdu.rs r):=fun st=>
 sO Zdu.B Tryz.func122 fun g0 w0 R hE=>by
  unfold Zdu at h;exact xS fol h hE [rZ,rZ] trivial
def ZbM.B:Code:=Tryz.f69.body.getD .skip
def ZbM.rs (r:Int):List CV:=[oI r]
def ZbM.p1 (N:Nat) (A0_0 A1_0:List Int) (c1_:Int→Option Int):Int→Option Int:=fun A1=> if (decide (A1≥0))=true then chk (0≤A1)<| chk (A1<4)<| if (decide ((zF A0_0 (zD A1) 0)<(zF A1_0 (zD A1) 0)))=true then some (-1) else if (decide ((zF A0_0 (zD A1) 0)>(zF A1_0 (zD A1) 0)))=true then some 1 else c1_ (w64 (A1-1)) else some 0
def ZbM (N:Nat) (A0_0 A1_0:List Int):Option Int:= loopN (ZbM.p1 N A0_0 A1_0) N 3
def ZbM.p1.S (A1:Int) (A0_0 A1_0:List Int) (st:LL):S:=mkS 26 [(2,sA 2),(3,sA 3),(5,sI A1)] [(2,.cells [zI .u64 4 A0_0]),(3,.cells [zI .u64 4 A1_0])] st
theorem ZbM.p1_ok {A1 A0_0 A1_0 st r c1_ J1} (h:ZbM.p1 N A0_0 A1_0 c1_ A1=some r) (hE:En Tryz.f69 g0 w0 (ZbM.rs r) st R) (hc1 : ∀A1,c1_ A1=some r→At g0 w0 (ZbM.p1.S A1 A0_0 A1_0 st) J1):At g0 w0 (ZbM.p1.S A1 A0_0 A1_0 st) (XK zB R (cK ZbM.B [1,0,1,0,0] :: .h J1 :: [.b 0,cK ZbM.B [1,1]])):=by
 unfold ZbM.p1 at h;refine Zbg h (fun c1 h1=>?_) (fun c1 h2=>?_)
 ·obtain ⟨c2,c3,h3⟩:=ck2 h1;let o1:List PS:=[rZ,cT,.d {ds:=[],hv:=0,Hs:=[]}]
  refine Zbg h3 (fun c4 h4=>?_) (fun c4 h5=>?_)
  ·exact xSd fol h4 hE (o1++[cT,rZ]) (aM c1 c2 c3 c2 c3 c4)
  let o2:List PS:=o1++[cF,.d {ds:=[],hv:=0,Hs:=[]}]
  refine Zbg h5 (fun c5 h6=>?_) (fun c5 h7=>?_)
  ·exact xSd fol h6 hE (o2++[cT,rZ]) (aO c1 c2 c3 c2 c3 c4 c2 (aK c3 c2 c3 c5))
  exact Zkb fol (o2++[cF,rZ]) [2,3,5] [2,3] (aO c1 c2 c3 c2 c3 c4 c2 (aK c3 c2 c3 c5)) (hc1 (w64 (A1-1)) h7)
 exact xS fol h2 hE [rZ,cF,rZ] c1
theorem ZbM.snd {A0_0 A1_0:List Int} {r:Int} (h:ZbM N A0_0 A1_0=some r):ZdP zB 69 [.agg [zI .u64 4 A0_0],.agg [zI .u64 4 A1_0]] (ZbM.rs r):=fun st=>
 sO ZbM.B Tryz.func69 fun g0 w0 R hE=>by
  unfold ZbM at h;exact aq fol [rZ,rZ] [2,3,5] [2,3] trivial (At.loop N (At.loopN (fun y:Int=>ZbM.p1.S y A0_0 A1_0 st) (fun c J hc y h=>ZbM.p1_ok h hE (fun A1=>hc A1)) N 3 h))
def ZdF.B:Code:=Tryz.f137.body.getD .skip
def ZdF.rs (r:Bool):List CV:=[oB r]
def ZdF (N:Nat) (A0_0 A1_0:List Int):Option Bool:= Zbj (ZbM N A0_0 A1_0) fun x1=> some (decide (x1<0))
theorem ZdF.snd {A0_0 A1_0:List Int} {r:Bool} (h:ZdF N A0_0 A1_0=some r):ZdP zB 137 [.agg [zI .u64 4 A0_0],.agg [zI .u64 4 A1_0]] (ZdF.rs r):=fun st=>
 sO ZdF.B Tryz.func137 fun g0 w0 R hE=>by
  unfold ZdF at h;obtain ⟨x1,c1,h1⟩:=Zac h;exact xS fol h1 hE [rZ,.r [(2,q1 [oI x1])]] (ZbM.snd c1)
def ZcV.B:Code:=Tryz.f120.body.getD .skip
def ZcV.rs (r:(List Int)×Bool):List CV:=[.agg [zI .u64 4 r.1],oB r.2]
def ZcV (N:Nat) (A0 A1:Int):Option ((List Int)×Bool):= Zbj (ZaW N A0) fun (x1,x2,x3)=> Zbj (ZaW N A1) fun (x4,x5,x6)=> if x2=true then some (zC 4 0,false) else if x3=true then some (zC 4 0,false) else if x5=true then some (zC 4 0,false) else if x6=true then some (zC 4 0,false) else Zbj (Zdu N x1) fun x7=> if x7=true then some (zC 4 0,false) else Zbj (ZdF N x4 x1) fun x8=> if x8=true then some (zC 4 0,false) else some (x1,true)
theorem ZcV.snd {A0 A1:Int} {r:(List Int)×Bool} (h:ZcV N A0 A1=some r):ZdP zB 120 [oI A0,oI A1] (ZcV.rs r):=fun st=>
 sO ZcV.B Tryz.func120 fun g0 w0 R hE=>by
  unfold ZcV at h;obtain ⟨⟨x1,x2,x3⟩,c1,h1⟩:=Zac h;obtain ⟨⟨x4,x5,x6⟩,c2,h2⟩:=Zac h1;let o1:List PS:=[rZ,.r [(1,q1 [.agg [zI .u64 4 x1],oB x2,oB x3])],.r [(1,q1 [.agg [zI .u64 4 x4],oB x5,oB x6])]]
  have t1 {Q:Prop} (q:Q):=aJ (ZaW.snd c1) (ZaW.snd c2) q;refine Zbg h2 (fun c3 h3=>?_) (fun c3 h4=>?_)
  ·exact xS fol h3 hE (o1++[.r [(2,wF),(5,wF),(8,wF),(11,wF),(12,wF),(15,wF),(16,wF),(17,wF)],cT,rZ]) (t1 (aO c3 c3 eT eT eT eT eT (aN eT eT eT eT eT eT eT)))
  refine Zbg h4 (fun c4 h5=>?_) (fun c4 h6=>?_)
  ·exact xS fol h5 hE (o1++[.r [(3,yF),(5,wF),(8,wF),(11,wF),(12,wF),(15,wF),(16,wF),(17,wF)],cT,rZ]) (t1 (aO c3 c3 c4 c4 eT eT eT (aN eT eT eT eT eT eT eT)))
  have t2 {Q:Prop} (q:Q):=t1 (aL c3 c3 c4 c4 q);refine Zbg h6 (fun c5 h7=>?_) (fun c5 h8=>?_)
  ·exact xS fol h7 hE (o1++[.r [(3,yF),(6,yF),(8,wF),(11,wF),(12,wF),(15,wF),(16,wF),(17,wF)],cT,rZ]) (t2 (aO c5 c5 eT eT eT eT eT (aJ eT eT eT)))
  refine Zbg h8 (fun c6 h9=>?_) (fun c6 h10=>?_)
  ·exact xS fol h9 hE (o1++[.r [(3,yF),(6,yF),(9,yF),(11,wF),(12,wF),(15,wF),(16,wF),(17,wF)],cT,rZ]) (t2 (aO c5 c5 c6 c6 c6 eT eT (aJ eT eT eT)))
  obtain ⟨x7,c7,h11⟩:=Zac h10;have t3 {Q:Prop} (q:Q):=t2 (aN c5 c5 c6 c6 (Zdu.snd c7) c6 q);refine Zbg h11 (fun c8 h12=>?_) (fun c8 h13=>?_)
  ·exact xS fol h12 hE (o1++[.r [(3,yF),(6,yF),(9,yF),(12,q1 [oB x7]),(13,yF),(15,wF),(16,wF),(17,wF)],cT,rZ]) (t3 (aL c8 c8 c8 c8 eT))
  obtain ⟨x8,c9,h14⟩:=Zac h13;let o2:List PS:=o1++[.r [(3,yF),(6,yF),(9,yF),(12,q1 [oB x7]),(13,yF),(17,q1 [oB x8]),(18,yF)]]
  refine Zbg h14 (fun c10 h15=>?_) (fun c10 h16=>?_)
  ·exact xS fol h15 hE (o2++[cT,rZ]) (t3 (aM c8 c8 c8 (ZdF.snd c9) c8 c10))
  exact xS fol h16 hE (o2++[cF,rZ]) (t3 (aM c8 c8 c8 (ZdF.snd c9) c8 c10))
def ZeR.B:Code:=Tryz.f94.body.getD .skip
def ZeR.rs (r:Bool):List CV:=[oB r]
def ZeR (N:Nat) (A0:Zae):Option Bool:= Zbj (ZcV N A0.Limit A0.Limit) fun (x1,x2)=> if x2=true then if (decide (A0.Interval≥2))=true then if (decide (A0.Interval≤64))=true then if (decide (A0.Spacing≥1))=true then if (decide (A0.Spacing≤10000))=true then if (decide (A0.Future≥0))=true then some (decide (A0.Future<4294967296)) else some false else some false else some false else some false else some false else some false
theorem ZeR.snd {A0:Zae} {r:Bool} (h:ZeR N A0=some r):ZdP zB 94 [.agg A0.ls] (ZeR.rs r):=fun st=>
 sO ZeR.B Tryz.func94 fun g0 w0 R hE=>by
  unfold ZeR at h;obtain ⟨⟨x1,x2⟩,c1,h1⟩:=Zac h;let o1:List PS:=[rZ,.r [(4,q1 [.agg [zI .u64 4 x1],oB x2])]]
  have t1 {Q:Prop} (q:Q):=aI (ZcV.snd c1) q;refine Zbg h1 (fun c2 h2=>?_) (fun c2 h3=>?_)
  ·have t2 {Q:Prop} (q:Q):=t1 (aL c2 c2 c2 c2 q);refine Zbg h2 (fun c3 h4=>?_) (fun c3 h5=>?_)
   ·have t3 {Q:Prop} (q:Q):=t2 (aL c3 c3 c3 c3 q);refine Zbg h4 (fun c4 h6=>?_) (fun c4 h7=>?_)
    ·have t4 {Q:Prop} (q:Q):=t3 (aL c4 c4 c4 c4 q);refine Zbg h6 (fun c5 h8=>?_) (fun c5 h9=>?_)
     ·refine Zbg h8 (fun c6 h10=>?_) (fun c6 h11=>?_)
      ·refine Zbg h10 (fun c7 h12=>?_) (fun c7 h13=>?_)
       ·exact xS fol h12 hE (o1++[rZ]) (t4 (aO c5 c5 c5 c5 c6 c6 c6 (aL c6 c7 c7 c7 c7)))
       exact xS fol h13 hE (o1++[.r [(27,wF),(28,wF),(29,wF),(30,yF)]]) (t4 (aO c5 c5 c5 c5 c6 c6 c6 (aL c6 c7 c7 c7 c7)))
      exact xS fol h11 hE (o1++[.r [(22,wF),(23,wF),(24,wF),(25,yF),(27,wF),(28,wF),(29,wF),(30,yF)]]) (t4 (aO c5 c5 c5 c5 c6 c6 c6 (aL c6 eF eF eF eF)))
     exact xS fol h9 hE (o1++[.r [(17,wF),(18,wF),(19,wF),(20,yF),(22,wF),(23,wF),(24,wF),(25,yF),(27,wF),(28,wF),(29,wF),(30,yF)]]) (t4 (aO c5 c5 c5 c5 eF eF eF (aL eF eF eF eF eF)))
    exact xS fol h7 hE (o1++[.r [(12,wF),(13,wF),(14,wF),(15,yF),(17,wF),(18,wF),(19,wF),(20,yF),(22,wF),(23,wF),(24,wF),(25,yF),(27,wF),(28,wF),(29,wF),(30,yF)]]) (t3 (aO c4 c4 c4 c4 eF eF eF (aO eF eF eF eF eF eF eF (aI eF eF))))
   exact xS fol h5 hE (o1++[.r [(7,wF),(8,wF),(9,wF),(10,yF),(12,wF),(13,wF),(14,wF),(15,yF),(17,wF),(18,wF),(19,wF),(20,yF),(22,wF),(23,wF),(24,wF),(25,yF),(27,wF),(28,wF),(29,wF),(30,yF)]]) (t2 (aO c3 c3 c3 c3 eF eF eF (aO eF eF eF eF eF eF eF (aM eF eF eF eF eF eF))))
  exact xS fol h3 hE (o1++[.r [(2,wF),(3,wF),(4,wF),(5,yF),(7,wF),(8,wF),(9,wF),(10,yF),(12,wF),(13,wF),(14,wF),(15,yF),(17,wF),(18,wF),(19,wF),(20,yF),(22,wF),(23,wF),(24,wF),(25,yF),(27,wF),(28,wF),(29,wF),(30,yF)]]) (t1 (aO c2 c2 c2 c2 eF eF eF (aO eF eF eF eF eF eF eF (aO eF eF eF eF eF eF eF (aJ eF eF eF)))))
def Zcl.B:Code:=Tryz.f72.body.getD .skip
def Zcl.rs (r:Bool):List CV:=[oB r]
def Zcl.p2 (N:Nat) (A0:Zae) (c2_:Int→Option Bool):Int→Option Bool:=fun v6=> if (decide (v6<(len A0.Checks)))=true then chk (0≤v6)<| ZcS (A0.Checks[zD v6]?) ZeN fun x7=> if (decide (x7.Height<1))=true then some false else if (decide (v6>0))=true then chk (0≤(w64 (v6-1)))<| chk ((w64 (v6-1))<(len A0.Checks))<| ZcS (A0.Checks[zD (w64 (v6-1))]?) ZeN fun x8=> if (decide (x7.Height≤x8.Height))=true then some false else c2_ (w64 (v6+1)) else c2_ (w64 (v6+1)) else some true
def Zcl.p1 (N:Nat) (A0:Zae) (c1_:Int→Option Bool):Int→Option Bool:=fun v3=> if (decide (v3<(len A0.Gates)))=true then chk (0≤v3)<| ZcS (A0.Gates[zD v3]?) ZeZ fun x4=> if (decide (x4.Height<0))=true then some false else if (decide (v3>0))=true then chk (0≤(w64 (v3-1)))<| chk ((w64 (v3-1))<(len A0.Gates))<| ZcS (A0.Gates[zD (w64 (v3-1))]?) ZeZ fun x5=> if (decide (x4.Height≤x5.Height))=true then some false else c1_ (w64 (v3+1)) else c1_ (w64 (v3+1)) else loopN (Zcl.p2 N A0) N 0
def Zcl (N:Nat) (A0:Zae):Option Bool:= Zbj (ZeR N A0) fun x1=> if (!x1)=true then some false else Zbj (Zdb N A0.Genesis) fun x2=> if (!x2)=true then some false else loopN (Zcl.p1 N A0) N 0
def Zcl.p2.S (A0:Zae) (v6:Int) (st:LL):S:=mkS 72 [(1,sA 1),(45,sV 33 A0.Checks),(46,sI (len A0.Checks)),(47,sI v6)] [(1,.cells A0.ls)] st
def Zcl.p1.S (A0:Zae) (v3:Int) (st:LL):S:=mkS 72 [(1,sA 1),(17,sV 2 A0.Gates),(18,sI (len A0.Gates)),(19,sI v3)] [(1,.cells A0.ls)] st
theorem Zcl.p2_ok {A0 v6 st r c2_ J2} (h:Zcl.p2 N A0 c2_ v6=some r) (hE:En Tryz.f72 g0 w0 (Zcl.rs r) st R) (hc2 : ∀v6,c2_ v6=some r→At g0 w0 (Zcl.p2.S A0 v6 st) J2):At g0 w0 (Zcl.p2.S A0 v6 st) (XK zB R (cK Zcl.B [1,1,1,0,1,0,0] :: .h J2 :: [.b 2,cK Zcl.B [1,1,1,1]])):=by
 unfold Zcl.p2 at h;refine Zbg h (fun c14 h1=>?_) (fun c14 h2=>?_)
 ·obtain ⟨c15,h3⟩:=Zbh h1;obtain ⟨x7,c16,h4⟩:=ZeW h3;let o1:List PS:=[rZ,cT,.r [(2,{oe:=x7.ls})]]
  have t1 {Q:Prop} (q:Q):=aL c14 c15 (oD c14) c16 q;refine Zbg h4 (fun c17 h5=>?_) (fun c17 h6=>?_)
  ·exact xSd fol h5 hE (o1++[.d {ds:=[(4,wF),(5,wF),(6,wF),(17,wF)],hv:=0,Hs:=[]},cT,rZ]) (t1 (aM c17 c17 c17 c17 c17 eT))
  refine Zbg h6 (fun c18 h7=>?_) (fun c18 h8=>?_)
  ·obtain ⟨c19,c20,h9⟩:=ck2 h7;obtain ⟨x8,c21,h10⟩:=ZeW h9;let o2:List PS:=o1++[.d {ds:=[(15,{oe:=x8.ls}),(18,yF)],hv:=0,Hs:=[]}]
   have t2 {Q:Prop} (q:Q):=t1 (aO c17 c17 c17 c18 c18 c18 c18 (aO c18 c18 c18 c19 c20 c18 c18 (aM c21 c18 c17 c18 c17 q)));refine Zbg h10 (fun c22 h11=>?_) (fun c22 h12=>?_)
   ·exact xSd fol h11 hE (o2++[cT,rZ]) (t2 c22)
   exact Zkb fol (o2++[cF,rZ]) [1,45,46,47] [1] (t2 c22) (hc2 (w64 (v6+1)) h12)
  exact Zkb fol (o1++[.d {ds:=[(7,wF),(8,wF),(9,wF),(10,wF),(11,wF),(12,wF),(13,wF),(14,wF),(15,wF),(16,wF),(17,yF),(18,yF)],hv:=0,Hs:=[]},cF,rZ]) [1,45,46,47] [1] (t1 (aO c17 c17 c17 c18 c18 c18 c18 (aO c18 c18 c18 c18 c18 c18 c17 (aJ c18 c17 eF)))) (hc2 (w64 (v6+1)) h8)
 exact xS fol h2 hE [rZ,cF,rZ] c14
theorem Zcl.p1_ok {A0 v3 st r c1_ J1} (h:Zcl.p1 N A0 c1_ v3=some r) (hE:En Tryz.f72 g0 w0 (Zcl.rs r) st R) (hc1 : ∀v3,c1_ v3=some r→At g0 w0 (Zcl.p1.S A0 v3 st) J1):At g0 w0 (Zcl.p1.S A0 v3 st) (XK zB R (cK Zcl.B [1,1,0,1,0,0] :: .h J1 :: [.b 0,cK Zcl.B [1,1,1]])):=by
 unfold Zcl.p1 at h;refine Zbg h (fun c5 h13=>?_) (fun c5 h14=>?_)
 ·obtain ⟨c6,h15⟩:=Zbh h13;obtain ⟨x4,c7,h16⟩:=Zff h15;let o3:List PS:=[rZ,cT,.r [(2,{oe:=x4.ls})]]
  have t3 {Q:Prop} (q:Q):=aL c5 c6 (oD c5) c7 q;refine Zbg h16 (fun c8 h17=>?_) (fun c8 h18=>?_)
  ·exact xSd fol h17 hE (o3++[.d {ds:=[(4,wF),(5,wF),(6,wF),(17,wF)],hv:=0,Hs:=[]},cT,rZ]) (t3 (aM c8 c8 c8 c8 c8 eT))
  refine Zbg h18 (fun c9 h19=>?_) (fun c9 h20=>?_)
  ·obtain ⟨c10,c11,h21⟩:=ck2 h19;obtain ⟨x5,c12,h22⟩:=Zff h21;let o4:List PS:=o3++[.d {ds:=[(15,{oe:=x5.ls}),(18,yF)],hv:=0,Hs:=[]}]
   have t4 {Q:Prop} (q:Q):=t3 (aO c8 c8 c8 c9 c9 c9 c9 (aO c9 c9 c9 c10 c11 c9 c9 (aM c12 c9 c8 c9 c8 q)));refine Zbg h22 (fun c13 h23=>?_) (fun c13 h24=>?_)
   ·exact xSd fol h23 hE (o4++[cT,rZ]) (t4 c13)
   exact Zkb fol (o4++[cF,rZ]) [1,17,18,19] [1] (t4 c13) (hc1 (w64 (v3+1)) h24)
  exact Zkb fol (o3++[.d {ds:=[(7,wF),(8,wF),(9,wF),(10,wF),(11,wF),(12,wF),(13,wF),(14,wF),(15,wF),(16,wF),(17,yF),(18,yF)],hv:=0,Hs:=[]},cF,rZ]) [1,17,18,19] [1] (t3 (aO c8 c8 c8 c9 c9 c9 c9 (aO c9 c9 c9 c9 c9 c9 c8 (aJ c9 c8 eF)))) (hc1 (w64 (v3+1)) h20)
 exact aq fol [rZ,cF,rZ] [1,45,46,47] [1] c5 (At.loop N (At.loopN (fun y:Int=>Zcl.p2.S A0 y st) (fun c J hc y h=>Zcl.p2_ok h hE (fun v6=>hc v6)) N 0 h14))
theorem Zcl.snd {A0:Zae} {r:Bool} (h:Zcl N A0=some r):ZdP zB 72 [.agg A0.ls] (Zcl.rs r):=fun st=>
 sO Zcl.B Tryz.func72 fun g0 w0 R hE=>by
  unfold Zcl at h;obtain ⟨x1,c1,h25⟩:=Zac h;have t5 {Q:Prop} (q:Q):=aI (ZeR.snd c1) q;refine Zbg h25 (fun c2 h26=>?_) (fun c2 h27=>?_)
  ·exact xS fol h26 hE [rZ,.r [(1,q1 [oB x1]),(4,wF),(5,wF),(6,wF),(7,wF)],cT,rZ] (t5 (aM (not_false (ZbR c2)) (not_false (ZbR c2)) (not_false (ZbR c2)) (not_false (ZbR c2)) (not_false (ZbR c2)) eT))
  obtain ⟨x2,c3,h28⟩:=Zac h27;let o5:List PS:=[rZ,.r [(1,q1 [oB x1]),(6,q1 [oB x2]),(8,yF)]]
  have t6 {Q:Prop} (q:Q):=t5 (aN (not_true (ZbS c2)) (not_true (ZbS c2)) (not_true (ZbS c2)) (Zdb.snd c3) (not_true (ZbS c2)) (not_true (ZbS c2)) q);refine Zbg h28 (fun c4 h29=>?_) (fun c4 h30=>?_)
  ·exact xS fol h29 hE (o5++[cT,rZ]) (t6 c4)
  exact aq fol (o5++[cF,rZ]) [1,17,18,19] [1] (t6 c4) (At.loop N (At.loopN (fun y:Int=>Zcl.p1.S A0 y st) (fun c J hc y h=>Zcl.p1_ok h hE (fun v3=>hc v3)) N 0 h30))
def Zcs.B:Code:=Tryz.f141.body.getD .skip
def Zcs.rs (r:(List Int)×Bool):List CV:=[.agg [zI .u64 4 r.1],oB r.2]
def Zcs.p1 (N:Nat) (A1_0:List Int) (c1_:(Int×Int×(List Int))→Option ((List Int)×Bool)):(Int×Int×(List Int))→Option ((List Int)×Bool):=fun (A1,v2,A5)=> if (decide (v2<4))=true then chk (0≤v2)<| Zbj (Zev N (zF A5 (zD v2) 0) (zF A1_0 (zD v2) 0) A1) fun (x6,x7)=> c1_ (x7,w64 (v2+1),zN A5 (zD v2) x6) else some (A5,A1 != 0)
def Zcs (N:Nat) (A0_0 A1_0:List Int):Option ((List Int)×Bool):= loopN (Zcs.p1 N A1_0) N (0,0,A0_0)
def Zcs.p1.S (A1 v2:Int) (A5 A1_0:List Int) (st:LL):S:=mkS 28 [(2,sA 2),(3,sA 3),(4,sA 4),(6,.one (.l (zK .u64 A1))),(8,sI v2)] [(2,.cells [zI .u64 4 A5]),(3,.cells [zI .u64 4 A1_0]),(4,.cells [zI .u64 4 (zC 4 0)])] st
theorem Zcs.p1_ok {A1 v2 A5 A1_0 st r c1_ J1} (h:Zcs.p1 N A1_0 c1_ (A1,v2,A5)=some r) (hE:En Tryz.f141 g0 w0 (Zcs.rs r) st R) (hc1 : ∀A1 v2 A5,c1_ (A1,v2,A5)=some r→At g0 w0 (Zcs.p1.S A1 v2 A5 A1_0 st) J1):At g0 w0 (Zcs.p1.S A1 v2 A5 A1_0 st) (XK zB R (cK Zcs.B [1,1,0,1,0,0] :: .h J1 :: [.b 0,cK Zcs.B [1,1,1]])):=by
 unfold Zcs.p1 at h;refine Zbg h (fun c4 h1=>?_) (fun c4 h2=>?_)
 ·obtain ⟨c5,h3⟩:=Zbh h1;obtain ⟨⟨x6,x7⟩,c6,h4⟩:=Zac h3;exact Zkb fol [rZ,cT,rZ,.d {ds:=[(8,{rs:=[.one (zK .u64 x6),.one (zK .u64 x7)],m:=4})],hv:=8192,Hs:=[8192]},rZ] [2,3,4,6,8] [2,3,4] (aO c4 c5 (oD c4) c5 (oD c4) (Zev.snd c6) c5 (oD c4)) (hc1 x7 (w64 (v2+1)) (zN A5 (zD v2) x6) h4)
 exact xS fol h2 hE [rZ,cF,rZ] c4
theorem Zcs.snd {A0_0 A1_0:List Int} {r:(List Int)×Bool} (h:Zcs N A0_0 A1_0=some r):ZdP zB 141 [.agg [zI .u64 4 A0_0],.agg [zI .u64 4 A1_0]] (Zcs.rs r):=fun st=>
 sO Zcs.B Tryz.func141 fun g0 w0 R hE=>by
  unfold Zcs at h;exact aq fol [rZ,rZ,rZ] [2,3,4,6,8] [2,3,4] trivial (At.loop N (At.loopN (fun y:Int×Int×(List Int)=>Zcs.p1.S y.1 y.2.1 y.2.2 A1_0 st) (fun c J hc y h=>Zcs.p1_ok (A1:=y.1) (v2:=y.2.1) (A5:=y.2.2) h hE (fun A1 v2 A5=>hc (A1,v2,A5))) N (0,0,A0_0) h))
def ZcP.B:Code:=Tryz.f143.body.getD .skip
def ZcP.rs (r:(List Int)):List CV:=[.agg [zI .u64 4 r]]
def ZcP.p1 (N:Nat) (c1_:(Int×(List Int))→Option (List Int)):(Int×(List Int))→Option (List Int):=fun (v1,A2)=> if (decide (v1<4))=true then chk (0≤v1)<| c1_ (w64 (v1+1),zN A2 (zD v1) (ZaH .xor .u64 (IntKind.max IntKind.u64) (zF A2 (zD v1) 0))) else some A2
def ZcP (N:Nat) (A0_0:List Int):Option (List Int):= loopN (ZcP.p1 N) N (0,A0_0)
def ZcP.p1.S (v1:Int) (A2:List Int) (st:LL):S:=mkS 15 [(1,sA 1),(2,sA 2),(4,sI v1)] [(1,.cells [zI .u64 4 A2]),(2,.cells [zI .u64 4 (zC 4 0)])] st
theorem ZcP.p1_ok {v1 A2 st r c1_ J1} (h:ZcP.p1 N c1_ (v1,A2)=some r) (hE:En Tryz.f143 g0 w0 (ZcP.rs r) st R) (hc1 : ∀v1 A2,c1_ (v1,A2)=some r→At g0 w0 (ZcP.p1.S v1 A2 st) J1):At g0 w0 (ZcP.p1.S v1 A2 st) (XK zB R (cK ZcP.B [1,0,1,0,0] :: .h J1 :: [.b 0,cK ZcP.B [1,1]])):=by
 unfold ZcP.p1 at h;refine Zbg h (fun c3 h1=>?_) (fun c3 h2=>?_)
 ·obtain ⟨c4,h3⟩:=Zbh h1;exact an fol [rZ,cT,rZ,rZ,rZ] [1,2,4] [1,2] (aL c3 c4 (oD c3) c4 (oD c3)) (hc1 (w64 (v1+1)) (zN A2 (zD v1) (ZaH .xor .u64 (IntKind.max IntKind.u64) (zF A2 (zD v1) 0))) h3)
 exact xS fol h2 hE [rZ,cF,rZ] c3
theorem ZcP.snd {A0_0:List Int} {r:(List Int)} (h:ZcP N A0_0=some r):ZdP zB 143 [.agg [zI .u64 4 A0_0]] (ZcP.rs r):=fun st=>
 sO ZcP.B Tryz.func143 fun g0 w0 R hE=>by
  unfold ZcP at h;exact aq fol [rZ,rZ] [1,2,4] [1,2] trivial (At.loop N (At.loopN (fun y:Int×(List Int)=>ZcP.p1.S y.1 y.2 st) (fun c J hc y h=>ZcP.p1_ok (v1:=y.1) (A2:=y.2) h hE (fun v1 A2=>hc (v1,A2))) N (0,A0_0) h))
def ZaA.B:Code:=Tryz.f165.body.getD .skip
def ZaA.rs (r:Int):List CV:=[oI r]
def ZaA.p3 (N:Nat) (A5 A6:Int):Option Int:= chk (0≤(v8 (A5)))<| chk ((v8 (A5))<((zZ (wG #[0,1,2,2,3,3,3,3,4,4,4,4,4,4,4,4,5,5,5,5,5,5,5,5,5,5,5,5,5,5,5,5,6,6,6,6,6,6,6,6,6,6,6,6,6,6,6,6,6,6,6,6,6,6,6,6,6,6,6,6,6,6,6,6,7,7,7,7,7,7,7,7,7,7,7,7,7,7,7,7,7,7,7,7,7,7,7,7,7,7,7,7,7,7,7,7,7,7,7,7,7,7,7,7,7,7,7,7,7,7,7,7,7,7,7,7,7,7,7,7,7,7,7,7,7,7,7,7,8,8,8,8,8,8,8,8,8,8,8,8,8,8,8,8,8,8,8,8,8,8,8,8,8,8,8,8,8,8,8,8,8,8,8,8,8,8,8,8,8,8,8,8,8,8,8,8,8,8,8,8,8,8,8,8,8,8,8,8,8,8,8,8,8,8,8,8,8,8,8,8,8,8,8,8,8,8,8,8,8,8,8,8,8,8,8,8,8,8,8,8,8,8,8,8,8,8,8,8,8,8,8,8,8,8,8,8,8,8,8,8,8,8,8,8,8,8,8,8,8,8,8,8,8,8,8,8]):Nat):Int))<| some (w64 (A6+(w64 (((UInt8.toNat (zF (rR (rA (wG #[0,1,2,2,3,3,3,3,4,4,4,4,4,4,4,4,5,5,5,5,5,5,5,5,5,5,5,5,5,5,5,5,6,6,6,6,6,6,6,6,6,6,6,6,6,6,6,6,6,6,6,6,6,6,6,6,6,6,6,6,6,6,6,6,7,7,7,7,7,7,7,7,7,7,7,7,7,7,7,7,7,7,7,7,7,7,7,7,7,7,7,7,7,7,7,7,7,7,7,7,7,7,7,7,7,7,7,7,7,7,7,7,7,7,7,7,7,7,7,7,7,7,7,7,7,7,7,7,8,8,8,8,8,8,8,8,8,8,8,8,8,8,8,8,8,8,8,8,8,8,8,8,8,8,8,8,8,8,8,8,8,8,8,8,8,8,8,8,8,8,8,8,8,8,8,8,8,8,8,8,8,8,8,8,8,8,8,8,8,8,8,8,8,8,8,8,8,8,8,8,8,8,8,8,8,8,8,8,8,8,8,8,8,8,8,8,8,8,8,8,8,8,8,8,8,8,8,8,8,8,8,8,8,8,8,8,8,8,8,8,8,8,8,8,8,8,8,8,8,8,8,8,8,8,8,8]))) (zD (v8 (A5))) 0):Nat):Int)))))
def ZaA.p2 (N:Nat) (A3 A4:Int):Option Int:= if (decide (A3≥256))=true then ZaA.p3 N (ZbF .u64 A3 8) (w64 (A4+8)) else ZaA.p3 N A3 A4
def ZaA.p1 (N:Nat) (A1 A2:Int):Option Int:= if (decide (A1≥65536))=true then ZaA.p2 N (ZbF .u64 A1 16) (w64 (A2+16)) else ZaA.p2 N A1 A2
def ZaA (N:Nat) (A0:Int):Option Int:= if (decide (A0≥4294967296))=true then ZaA.p1 N (ZbF .u64 A0 32) 32 else ZaA.p1 N A0 0
def ZaA.p3.S (A5 A6:Int) (st:LL):S:=mkS 25 [(0,.one (.l (zK .u64 A5))),(2,sI A6)] [] st
def ZaA.p2.S (A3 A4:Int) (st:LL):S:=mkS 25 [(0,.one (.l (zK .u64 A3))),(2,sI A4)] [] st
def ZaA.p1.S (A1 A2:Int) (st:LL):S:=mkS 25 [(0,.one (.l (zK .u64 A1))),(2,sI A2)] [] st
theorem ZaA.p3_ok {A5 A6 st r} (h:ZaA.p3 N A5 A6=some r) (hE:En Tryz.f165 g0 w0 (ZaA.rs r) st R):At g0 w0 (ZaA.p3.S A5 A6 st) (XK zB R [cK ZaA.B [1,1,1,1]]):=by
 unfold ZaA.p3 at h;obtain ⟨c4,c5,h1⟩:=ck2 h;exact xS fol h1 hE [rZ] (aI c4 c5)
theorem ZaA.p2_ok {A3 A4 st r} (h:ZaA.p2 N A3 A4=some r) (hE:En Tryz.f165 g0 w0 (ZaA.rs r) st R):At g0 w0 (ZaA.p2.S A3 A4 st) (XK zB R [cK ZaA.B [1,1,1]]):=by
 unfold ZaA.p2 at h;refine Zbg h (fun c3 h2=>?_) (fun c3 h3=>?_)
 ·exact aq fol [rZ,cT,rZ,rZ,.s 1] [0,2] [] (aI c3 (leI 0 8)) (ZaA.p3_ok h2 hE)
 exact aq fol [rZ,cF,.s 1] [0,2] [] c3 (ZaA.p3_ok h3 hE)
theorem ZaA.p1_ok {A1 A2 st r} (h:ZaA.p1 N A1 A2=some r) (hE:En Tryz.f165 g0 w0 (ZaA.rs r) st R):At g0 w0 (ZaA.p1.S A1 A2 st) (XK zB R [cK ZaA.B [1,1]]):=by
 unfold ZaA.p1 at h;refine Zbg h (fun c2 h4=>?_) (fun c2 h5=>?_)
 ·exact aq fol [rZ,cT,rZ,rZ,.s 1] [0,2] [] (aI c2 (leI 0 16)) (ZaA.p2_ok h4 hE)
 exact aq fol [rZ,cF,.s 1] [0,2] [] c2 (ZaA.p2_ok h5 hE)
theorem ZaA.snd {A0:Int} {r:Int} (h:ZaA N A0=some r):ZdP zB 165 [.one (zK .u64 A0)] (ZaA.rs r):=fun st=>
 sO ZaA.B Tryz.func165 fun g0 w0 R hE=>by
  unfold ZaA at h;refine Zbg h (fun c1 h6=>?_) (fun c1 h7=>?_)
  ·exact aq fol [rZ,rZ,cT,rZ,rZ,.s 1] [0,2] [] (aI c1 (leI 0 32)) (ZaA.p1_ok h6 hE)
  exact aq fol [rZ,rZ,cF,.s 1] [0,2] [] c1 (ZaA.p1_ok h7 hE)
def Zda.B:Code:=Tryz.f158.body.getD .skip
def Zda.rs (r:Int):List CV:=[oI r]
def Zda.p1 (N:Nat) (A0_0:List Int) (c1_:Int→Option Int):Int→Option Int:=fun A1=> if (decide (A1≥0))=true then chk (0≤A1)<| chk (A1<4)<| if ((zF A0_0 (zD A1) 0) != 0)=true then Zbj (ZaA N (zF A0_0 (zD A1) 0)) fun x2=> some (w64 ((w64 (64*A1))+x2)) else c1_ (w64 (A1-1)) else some 0
def Zda (N:Nat) (A0_0:List Int):Option Int:= loopN (Zda.p1 N A0_0) N 3
def Zda.p1.S (A1:Int) (A0_0:List Int) (st:LL):S:=mkS 19 [(1,sA 1),(3,sI A1)] [(1,.cells [zI .u64 4 A0_0])] st
theorem Zda.p1_ok {A1 A0_0 st r c1_ J1} (h:Zda.p1 N A0_0 c1_ A1=some r) (hE:En Tryz.f158 g0 w0 (Zda.rs r) st R) (hc1 : ∀A1,c1_ A1=some r→At g0 w0 (Zda.p1.S A1 A0_0 st) J1):At g0 w0 (Zda.p1.S A1 A0_0 st) (XK zB R (cK Zda.B [1,0,1,0,0] :: .h J1 :: [.b 0,cK Zda.B [1,1]])):=by
 unfold Zda.p1 at h;refine Zbg h (fun c1 h1=>?_) (fun c1 h2=>?_)
 ·obtain ⟨c2,c3,h3⟩:=ck2 h1;refine Zbg h3 (fun c4 h4=>?_) (fun c4 h5=>?_)
  ·obtain ⟨x2,c5,h6⟩:=Zac h4;exact xS fol h6 hE [rZ,cT,rZ,cT,.r [(5,q1 [oI x2])]] (aN c1 c2 c3 c4 c2 c3 (ZaA.snd c5))
  exact an fol [rZ,cT,rZ,cF,rZ] [1,3] [1] (aK c1 c2 c3 c4) (hc1 (w64 (A1-1)) h5)
 exact xS fol h2 hE [rZ,cF,rZ] c1
theorem Zda.snd {A0_0:List Int} {r:Int} (h:Zda N A0_0=some r):ZdP zB 158 [.agg [zI .u64 4 A0_0]] (Zda.rs r):=fun st=>
 sO Zda.B Tryz.func158 fun g0 w0 R hE=>by
  unfold Zda at h;exact aq fol [rZ,rZ] [1,3] [1] trivial (At.loop N (At.loopN (fun y:Int=>Zda.p1.S y A0_0 st) (fun c J hc y h=>Zda.p1_ok h hE (fun A1=>hc A1)) N 3 h))
def Zdd.B:Code:=Tryz.f159.body.getD .skip
def Zdd.rs (r:(List Int)×Bool):List CV:=[.agg [zI .u64 4 r.1],oB r.2]
def Zdd.p1 (N:Nat) (A1_0:List Int) (c1_:(Int×Int×(List Int))→Option ((List Int)×Bool)):(Int×Int×(List Int))→Option ((List Int)×Bool):=fun (A1,v2,A5)=> if (decide (v2<4))=true then chk (0≤v2)<| Zbj (ZfG N (zF A5 (zD v2) 0) (zF A1_0 (zD v2) 0) A1) fun (x6,x7)=> c1_ (x7,w64 (v2+1),zN A5 (zD v2) x6) else some (A5,A1 != 0)
def Zdd (N:Nat) (A0_0 A1_0:List Int):Option ((List Int)×Bool):= loopN (Zdd.p1 N A1_0) N (0,0,A0_0)
def Zdd.p1.S (A1 v2:Int) (A5 A1_0:List Int) (st:LL):S:=mkS 28 [(2,sA 2),(3,sA 3),(4,sA 4),(6,.one (.l (zK .u64 A1))),(8,sI v2)] [(2,.cells [zI .u64 4 A5]),(3,.cells [zI .u64 4 A1_0]),(4,.cells [zI .u64 4 (zC 4 0)])] st
theorem Zdd.p1_ok {A1 v2 A5 A1_0 st r c1_ J1} (h:Zdd.p1 N A1_0 c1_ (A1,v2,A5)=some r) (hE:En Tryz.f159 g0 w0 (Zdd.rs r) st R) (hc1 : ∀A1 v2 A5,c1_ (A1,v2,A5)=some r→At g0 w0 (Zdd.p1.S A1 v2 A5 A1_0 st) J1):At g0 w0 (Zdd.p1.S A1 v2 A5 A1_0 st) (XK zB R (cK Zdd.B [1,1,0,1,0,0] :: .h J1 :: [.b 0,cK Zdd.B [1,1,1]])):=by
 unfold Zdd.p1 at h;refine Zbg h (fun c4 h1=>?_) (fun c4 h2=>?_)
 ·obtain ⟨c5,h3⟩:=Zbh h1;obtain ⟨⟨x6,x7⟩,c6,h4⟩:=Zac h3;exact Zkb fol [rZ,cT,rZ,.d {ds:=[(8,{rs:=[.one (zK .u64 x6),.one (zK .u64 x7)],m:=4})],hv:=8192,Hs:=[8192]},rZ] [2,3,4,6,8] [2,3,4] (aO c4 c5 (oD c4) c5 (oD c4) (ZfG.snd c6) c5 (oD c4)) (hc1 x7 (w64 (v2+1)) (zN A5 (zD v2) x6) h4)
 exact xS fol h2 hE [rZ,cF,rZ] c4
theorem Zdd.snd {A0_0 A1_0:List Int} {r:(List Int)×Bool} (h:Zdd N A0_0 A1_0=some r):ZdP zB 159 [.agg [zI .u64 4 A0_0],.agg [zI .u64 4 A1_0]] (Zdd.rs r):=fun st=>
 sO Zdd.B Tryz.func159 fun g0 w0 R hE=>by
  unfold Zdd at h;exact aq fol [rZ,rZ,rZ] [2,3,4,6,8] [2,3,4] trivial (At.loop N (At.loopN (fun y:Int×Int×(List Int)=>Zdd.p1.S y.1 y.2.1 y.2.2 A1_0 st) (fun c J hc y h=>Zdd.p1_ok (A1:=y.1) (v2:=y.2.1) (A5:=y.2.2) h hE (fun A1 v2 A5=>hc (A1,v2,A5))) N (0,0,A0_0) h))
def ZbY.B:Code:=Tryz.f142.body.getD .skip
def ZbY.rs (r:(List Int)×(List Int)):List CV:=[.agg [zI .u64 4 r.1],.agg [zI .u64 4 r.2]]
def ZbY.p2 (N:Nat) (c1_:(Int×(List Int)×(List Int))→Option ((List Int)×(List Int))) (A3:Int) (A0_0 A1_0 A21 A20:List Int):Option ((List Int)×(List Int)):= c1_ (w64 (A3-1),A21,A20)
def ZbY.p1 (N:Nat) (A0_0 A1_0:List Int) (c1_:(Int×(List Int)×(List Int))→Option ((List Int)×(List Int))):(Int×(List Int)×(List Int))→Option ((List Int)×(List Int)):=fun (A3,A12,A13)=> if (decide (A3≥0))=true then Zbj (Zcj N A13 1) fun x14=> chk (0≤(w64 (zS A3 64)))<| chk ((w64 (zS A3 64))<4)<| chk (0≤(zX A3 64))<| if ((ZbF .u64 (zF A13 3 0) 63)==1)=true then Zbj (Zdd N (zN x14 0 (ZaH .or .u64 (zF x14 0 0) (ZaH .and .u64 (ZbF .u64 (zF A0_0 (zD (w64 (zS A3 64))) 0) (zX A3 64)) 1))) A1_0) fun (x15,x16)=> ZbY.p2 N c1_ A3 A0_0 A1_0 (zN A12 (zD (w64 (zS A3 64))) (ZaH .or .u64 (zF A12 (zD (w64 (zS A3 64))) 0) (ZbV .u64 1 (zX A3 64)))) x15 else Zbj (ZdF N (zN x14 0 (ZaH .or .u64 (zF x14 0 0) (ZaH .and .u64 (ZbF .u64 (zF A0_0 (zD (w64 (zS A3 64))) 0) (zX A3 64)) 1))) A1_0) fun x17=> if (!x17)=true then Zbj (Zdd N (zN x14 0 (ZaH .or .u64 (zF x14 0 0) (ZaH .and .u64 (ZbF .u64 (zF A0_0 (zD (w64 (zS A3 64))) 0) (zX A3 64)) 1))) A1_0) fun (x18,x19)=> ZbY.p2 N c1_ A3 A0_0 A1_0 (zN A12 (zD (w64 (zS A3 64))) (ZaH .or .u64 (zF A12 (zD (w64 (zS A3 64))) 0) (ZbV .u64 1 (zX A3 64)))) x18 else ZbY.p2 N c1_ A3 A0_0 A1_0 A12 (zN x14 0 (ZaH .or .u64 (zF x14 0 0) (ZaH .and .u64 (ZbF .u64 (zF A0_0 (zD (w64 (zS A3 64))) 0) (zX A3 64)) 1))) else some (A12,A13)
def ZbY (N:Nat) (A0_0 A1_0:List Int):Option ((List Int)×(List Int)):= Zbj (Zdu N A1_0) fun x1=> if x1=true then some (zC 4 0,zC 4 0) else Zbj (Zda N A0_0) fun x2=> loopN (ZbY.p1 N A0_0 A1_0) N (w64 (x2-1),zC 4 0,zC 4 0)
def ZbY.p2.S (A3:Int) (A0_0 A1_0 A21 A20:List Int) (st:LL):S:=mkS 63 [(2,sA 2),(3,sA 3),(4,sA 4),(5,sA 5),(6,sA 6),(7,sA 7),(8,sI A3)] [(2,.cells [zI .u64 4 A0_0]),(3,.cells [zI .u64 4 A1_0]),(4,.cells [zI .u64 4 (zC 4 0)]),(5,.cells [zI .u64 4 (zC 4 0)]),(6,.cells [zI .u64 4 A21]),(7,.cells [zI .u64 4 A20])] st
def ZbY.p1.S (A3:Int) (A0_0 A1_0 A12 A13:List Int) (st:LL):S:=mkS 63 [(2,sA 2),(3,sA 3),(4,sA 4),(5,sA 5),(6,sA 6),(7,sA 7),(8,sI A3)] [(2,.cells [zI .u64 4 A0_0]),(3,.cells [zI .u64 4 A1_0]),(4,.cells [zI .u64 4 (zC 4 0)]),(5,.cells [zI .u64 4 (zC 4 0)]),(6,.cells [zI .u64 4 A12]),(7,.cells [zI .u64 4 A13])] st
theorem ZbY.p2_ok {A3 A0_0 A1_0 A21 A20 st r c1_ J1} (h:ZbY.p2 N c1_ A3 A0_0 A1_0 A21 A20=some r) (hE:En Tryz.f142 g0 w0 (ZbY.rs r) st R) (hc1 : ∀A3 A12 A13,c1_ (A3,A12,A13)=some r→At g0 w0 (ZbY.p1.S A3 A0_0 A1_0 A12 A13 st) J1):At g0 w0 (ZbY.p2.S A3 A0_0 A1_0 A21 A20 st) (XK zB R [cK ZbY.B [1,1,1,0,1,0,0,1,1],.h J1,.b 0,cK ZbY.B [1,1,1,1]]):=by
 unfold ZbY.p2 at h;exact an fol [rZ] [2,3,4,5,6,7,8] [2,3,4,5,6,7] trivial (hc1 (w64 (A3-1)) A21 A20 h)
theorem ZbY.p1_ok {A3 A0_0 A1_0 A12 A13 st r c1_ J1} (h:ZbY.p1 N A0_0 A1_0 c1_ (A3,A12,A13)=some r) (hE:En Tryz.f142 g0 w0 (ZbY.rs r) st R) (hc1 : ∀A3 A12 A13,c1_ (A3,A12,A13)=some r→At g0 w0 (ZbY.p1.S A3 A0_0 A1_0 A12 A13 st) J1):At g0 w0 (ZbY.p1.S A3 A0_0 A1_0 A12 A13 st) (XK zB R (cK ZbY.B [1,1,1,0,1,0,0] :: .h J1 :: [.b 0,cK ZbY.B [1,1,1,1]])):=by
 unfold ZbY.p1 at h;refine Zbg h (fun c14 h1=>?_) (fun c14 h2=>?_)
 ·obtain ⟨x14,c15,h3⟩:=Zac h1;obtain ⟨c16,c17,c18,h4⟩:=ck3 h3;let o1:List PS:=[rZ,cT,rZ,.r [(1,q1 [.agg [zI .u64 4 x14]])],.d {ds:=[],hv:=4096,Hs:=[4096]}]
  have t1 {Q:Prop} (q:Q):=aI c14 (ix 3 4 (aJ (leI 0 63) (Zcj.snd c15) (ix 0 4 (aM (neI 64) c16 c17 (neI 64) c18 (ix 0 4 q)))));refine Zbg h4 (fun c19 h5=>?_) (fun c19 h6=>?_)
  ·obtain ⟨⟨x15,x16⟩,c20,h7⟩:=Zac h5;exact aqd fol (o1++[.r [(2,wF),(3,wF),(4,wF),(5,wF)],cT,.r [(2,q1 [.agg [zI .u64 4 x15],oB x16])],.d {ds:=[],hv:=512,Hs:=[512]},.s 4]) [2,3,4,5,6,7,8] [2,3,4,5,6,7] (t1 (aO c19 c19 c19 c19 c19 eT (Zdd.snd c20) (aN (neI 64) c16 c17 (neI 64) c18 c16 c17))) (ZbY.p2_ok h7 hE hc1)
  obtain ⟨x17,c21,h8⟩:=Zac h6;let o2:List PS:=o1++[.r [(4,q1 [oB x17]),(6,yF)]]
  have t2 {Q:Prop} (q:Q):=t1 (aN c19 c19 c19 (ZdF.snd c21) c19 c19 q);refine Zbg h8 (fun c22 h9=>?_) (fun c22 h10=>?_)
  ·obtain ⟨⟨x18,x19⟩,c23,h11⟩:=Zac h9;exact aqd fol (o2++[cT,.r [(2,q1 [.agg [zI .u64 4 x18],oB x19])],.d {ds:=[],hv:=512,Hs:=[512]},.s 4]) [2,3,4,5,6,7,8] [2,3,4,5,6,7] (t2 (aO c22 (Zdd.snd c23) (neI 64) c16 c17 (neI 64) c18 (aI c16 c17))) (ZbY.p2_ok h11 hE hc1)
  exact aqd fol (o2++[cF,.s 4]) [2,3,4,5,6,7,8] [2,3,4,5,6,7] (t2 c22) (ZbY.p2_ok h10 hE hc1)
 exact xSd fol h2 hE [rZ,cF,.d {ds:=[],hv:=12,Hs:=[4,12]}] c14
theorem ZbY.snd {A0_0 A1_0:List Int} {r:(List Int)×(List Int)} (h:ZbY N A0_0 A1_0=some r):ZdP zB 142 [.agg [zI .u64 4 A0_0],.agg [zI .u64 4 A1_0]] (ZbY.rs r):=fun st=>
 sO ZbY.B Tryz.func142 fun g0 w0 R hE=>by
  unfold ZbY at h;obtain ⟨x1,c1,h12⟩:=Zac h;let o3:List PS:=[rZ,rZ,.r [(1,q1 [oB x1])]]
  refine Zbg h12 (fun c2 h13=>?_) (fun c2 h14=>?_)
  ·exact xSd fol h13 hE (o3++[cT,.d {ds:=[],hv:=12,Hs:=[4,12]}]) (aI (Zdu.snd c1) c2)
  obtain ⟨x2,c3,h15⟩:=Zac h14;exact aq fol (o3++[cF,.r [(1,q1 [oI x2])]]) [2,3,4,5,6,7,8] [2,3,4,5,6,7] (aJ (Zdu.snd c1) c2 (Zda.snd c3)) (At.loop N (At.loopN (fun y:Int×(List Int)×(List Int)=>ZbY.p1.S y.1 A0_0 A1_0 y.2.1 y.2.2 st) (fun c J hc y h=>ZbY.p1_ok (A3:=y.1) (A12:=y.2.1) (A13:=y.2.2) h hE (fun A3 A12 A13=>hc (A3,A12,A13))) N (w64 (x2-1),zC 4 0,zC 4 0) h15))
def Zet.B:Code:=Tryz.f125.body.getD .skip
def Zet.rs (r:(List Int)):List CV:=[.agg [zI .u64 4 r]]
def Zet (N:Nat):Option (List Int):= Zbj (ZcP N (zC 4 0)) fun x1=> some x1
theorem Zet.snd {r:(List Int)} (h:Zet N=some r):ZdP zB 125 [] (Zet.rs r):=fun st=>
 sO Zet.B Tryz.func125 fun g0 w0 R hE=>by
  unfold Zet at h;obtain ⟨x1,c1,h1⟩:=Zac h;exact xS fol h1 hE [rZ,.r [(1,q1 [.agg [zI .u64 4 x1]])]] (ZcP.snd c1)
def ZgQ.B:Code:=Tryz.f123.body.getD .skip
def ZgQ.rs (r:(List Int)):List CV:=[.agg [zI .u64 4 r]]
def ZgQ (N:Nat) (A0_0:List Int):Option (List Int):= Zbj (ZdL N 1) fun x1=> Zbj (Zcs N A0_0 x1) fun (x2,x3)=> if x3=true then some x1 else Zbj (ZcP N A0_0) fun x4=> Zbj (ZbY N x4 x2) fun (x5,x6)=> Zbj (Zcs N x5 x1) fun (x7,x8)=> if x8=true then Zbj (Zet N ) fun x9=> some x9 else some x7
theorem ZgQ.snd {A0_0:List Int} {r:(List Int)} (h:ZgQ N A0_0=some r):ZdP zB 123 [.agg [zI .u64 4 A0_0]] (ZgQ.rs r):=fun st=>
 sO ZgQ.B Tryz.func123 fun g0 w0 R hE=>by
  unfold ZgQ at h;obtain ⟨x1,c1,h1⟩:=Zac h;obtain ⟨⟨x2,x3⟩,c2,h2⟩:=Zac h1;let o1:List PS:=[rZ,.d {ds:=[(1,q1 [.agg [zI .u64 4 x1]]),(2,q1 [.agg [zI .u64 4 x2],oB x3])],hv:=192,Hs:=[64,192]},rZ]
  have t1 {Q:Prop} (q:Q):=aL (ZdL.snd c1) (ZdL.snd c1) (Zcs.snd c2) (Zcs.snd c2) q;refine Zbg h2 (fun c3 h3=>?_) (fun c3 h4=>?_)
  ·exact xSd fol h3 hE (o1++[cT,.r [(0,q1 [.agg [zI .u64 4 x1]])]]) (t1 (aI c3 (ZdL.snd c1)))
  obtain ⟨x4,c4,h5⟩:=Zac h4;obtain ⟨⟨x5,x6⟩,c5,h6⟩:=Zac h5;obtain ⟨⟨x7,x8⟩,c6,h7⟩:=Zac h6;let o2:List PS:=o1++[cF,.d {ds:=[(1,q1 [.agg [zI .u64 4 x4]]),(3,q1 [.agg [zI .u64 4 x5],.agg [zI .u64 4 x6]])],hv:=1920,Hs:=[128,256,384,896,1920]},.d {ds:=[(1,q1 [.agg [zI .u64 4 x1]]),(2,q1 [.agg [zI .u64 4 x7],oB x8])],hv:=192,Hs:=[64,192]},rZ]
  have t2 {Q:Prop} (q:Q):=t1 (aO c3 (ZcP.snd c4) (ZcP.snd c4) (ZcP.snd c4) (ZcP.snd c4) (ZbY.snd c5) (ZbY.snd c5) (aN (ZbY.snd c5) (ZbY.snd c5) (ZdL.snd c1) (ZdL.snd c1) (Zcs.snd c6) (Zcs.snd c6) q));refine Zbg h7 (fun c7 h8=>?_) (fun c7 h9=>?_)
  ·obtain ⟨x9,c8,h10⟩:=Zac h8;exact xSd fol h10 hE (o2++[cT,.r [(0,q1 [.agg [zI .u64 4 x9]])]]) (t2 (aI c7 (Zet.snd c8)))
  exact xSd fol h9 hE (o2++[cF,rZ]) (t2 c7)
def Zel.B:Code:=Tryz.f95.body.getD .skip
def Zel.rs (r:(List Int)):List CV:=[.agg [zI .u64 4 r]]
def Zel (N:Nat) (A0:Int):Option (List Int):= Zbj (ZaW N A0) fun (x1,x2,x3)=> if x2=true then some (zC 4 0) else if x3=true then some (zC 4 0) else Zbj (Zdu N x1) fun x4=> if x4=true then some (zC 4 0) else Zbj (ZgQ N x1) fun x5=> some x5
theorem Zel.snd {A0:Int} {r:(List Int)} (h:Zel N A0=some r):ZdP zB 95 [oI A0] (Zel.rs r):=fun st=>
 sO Zel.B Tryz.func95 fun g0 w0 R hE=>by
  unfold Zel at h;obtain ⟨⟨x1,x2,x3⟩,c1,h1⟩:=Zac h;let o1:List PS:=[rZ,.r [(1,q1 [.agg [zI .u64 4 x1],oB x2,oB x3])]]
  have t1 {Q:Prop} (q:Q):=aI (ZaW.snd c1) q;refine Zbg h1 (fun c2 h2=>?_) (fun c2 h3=>?_)
  ·exact xS fol h2 hE (o1++[.r [(2,wF),(5,wF),(6,wF)],cT,rZ]) (t1 (aM c2 c2 eT eT eT eT))
  refine Zbg h3 (fun c3 h4=>?_) (fun c3 h5=>?_)
  ·exact xS fol h4 hE (o1++[.r [(3,yF),(5,wF),(6,wF)],cT,rZ]) (t1 (aM c2 c2 c3 c3 c3 eT))
  obtain ⟨x4,c4,h6⟩:=Zac h5;let o2:List PS:=o1++[.r [(3,yF),(6,q1 [oB x4]),(7,yF)]]
  refine Zbg h6 (fun c5 h7=>?_) (fun c5 h8=>?_)
  ·exact xS fol h7 hE (o2++[cT,rZ]) (t1 (aN c2 c2 c3 c3 (Zdu.snd c4) c3 c5))
  obtain ⟨x5,c6,h9⟩:=Zac h8;exact xS fol h9 hE (o2++[cF,.r [(1,q1 [.agg [zI .u64 4 x5]])]]) (t1 (aO c2 c2 c3 c3 (Zdu.snd c4) c3 c5 (ZgQ.snd c6)))
def ZcZ.B:Code:=Tryz.f124.body.getD .skip
def ZcZ.rs (r:(List Int)×Bool):List CV:=[.agg [zI .u64 4 r.1],oB r.2]
def ZcZ.p1 (N:Nat) (A0:LL) (c1_:(Bool×Int×(List Int))→Option ((List Int)×Bool)):(Bool×Int×(List Int))→Option ((List Int)×Bool):=fun (A1,v2,A6)=> if (decide (v2<(len A0)))=true then chk (0≤v2)<| ZcS (A0[zD v2]?) Zgt fun x7=> Zbj (Zcs N A6 x7) fun (x8,x9)=> if A1=true then c1_ (true,w64 (v2+1),x8) else c1_ (x9,w64 (v2+1),x8) else some (A6,A1)
def ZcZ (N:Nat) (A0:LL):Option ((List Int)×Bool):= loopN (ZcZ.p1 N A0) N (false,0,zC 4 0)
def ZcZ.p1.S (A1:Bool) (A0:LL) (v2:Int) (A6:List Int) (st:LL):S:=mkS 28 [(2,sA 2),(4,sA 4),(5,.one (.l (xW A1))),(9,sV 4 A0),(10,sI (len A0)),(11,sI v2)] [(2,.cells [zI .u64 4 (zC 4 0)]),(4,.cells [zI .u64 4 A6])] st
theorem ZcZ.p1_ok {A1 A0 v2 A6 st r c1_ J1} (h:ZcZ.p1 N A0 c1_ (A1,v2,A6)=some r) (hE:En Tryz.f124 g0 w0 (ZcZ.rs r) st R) (hc1 : ∀A1 v2 A6,c1_ (A1,v2,A6)=some r→At g0 w0 (ZcZ.p1.S A1 A0 v2 A6 st) J1):At g0 w0 (ZcZ.p1.S A1 A0 v2 A6 st) (XK zB R (cK ZcZ.B [1,1,1,0,1,0,0] :: .h J1 :: [.b 0,cK ZcZ.B [1,1,1,1]])):=by
 unfold ZcZ.p1 at h;refine Zbg h (fun c6 h1=>?_) (fun c6 h2=>?_)
 ·obtain ⟨c7,h3⟩:=Zbh h1;obtain ⟨x7,c8,h4⟩:=ZhU h3;obtain ⟨⟨x8,x9⟩,c9,h5⟩:=Zac h4;let o1:List PS:=[rZ,cT,.r [(1,{oe:=[zI .u64 4 x7]})],rZ,.r [(2,q1 [.agg [zI .u64 4 x8],oB x9])]]
  refine Zbg h5 (fun c10 h6=>?_) (fun c10 h7=>?_)
  ·exact an fol (o1++[.r [(2,wF)],rZ]) [2,4,5,9,10,11] [2,4] (aN c6 c7 (oD c6) c8 (Zcs.snd c9) c10 c10) (hc1 true (w64 (v2+1)) x8 h6)
  exact an fol (o1++[.r [(3,yF)],rZ]) [2,4,5,9,10,11] [2,4] (aN c6 c7 (oD c6) c8 (Zcs.snd c9) c10 c10) (hc1 x9 (w64 (v2+1)) x8 h7)
 exact xS fol h2 hE [rZ,cF,rZ] c6
theorem ZcZ.snd {A0:LL} {r:(List Int)×Bool} (h:ZcZ N A0=some r):ZdP zB 124 [.one (vW 4 A0)] (ZcZ.rs r):=fun st=>
 sO ZcZ.B Tryz.func124 fun g0 w0 R hE=>by
  unfold ZcZ at h;exact aq fol [rZ,rZ,rZ,rZ] [2,4,5,9,10,11] [2,4] trivial (At.loop N (At.loopN (fun y:Bool×Int×(List Int)=>ZcZ.p1.S y.1 A0 y.2.1 y.2.2 st) (fun c J hc y h=>ZcZ.p1_ok (A1:=y.1) (v2:=y.2.1) (A6:=y.2.2) h hE (fun A1 v2 A6=>hc (A1,v2,A6))) N (false,0,zC 4 0) h))
def ZfU.B:Code:=Tryz.f96.body.getD .skip
def ZfU.rs (r:(List Int)):List CV:=[.agg [zI .u64 4 r]]
def ZfU (N:Nat) (A0:LL):Option (List Int):= Zbj (ZcZ N A0) fun (x1,x2)=> if x2=true then Zbj (Zet N ) fun x3=> some x3 else some x1
theorem ZfU.snd {A0:LL} {r:(List Int)} (h:ZfU N A0=some r):ZdP zB 96 [.one (vW 4 A0)] (ZfU.rs r):=fun st=>
 sO ZfU.B Tryz.func96 fun g0 w0 R hE=>by
  unfold ZfU at h;obtain ⟨⟨x1,x2⟩,c1,h1⟩:=Zac h;let o1:List PS:=[rZ,.r [(1,q1 [.agg [zI .u64 4 x1],oB x2])],rZ]
  refine Zbg h1 (fun c2 h2=>?_) (fun c2 h3=>?_)
  ·obtain ⟨x3,c3,h4⟩:=Zac h2;exact xS fol h4 hE (o1++[cT,.r [(0,q1 [.agg [zI .u64 4 x3]])]]) (aJ (ZcZ.snd c1) c2 (Zet.snd c3))
  exact xS fol h3 hE (o1++[cF,rZ]) (aI (ZcZ.snd c1) c2)
def Zbr.B:Code:=Tryz.f73.body.getD .skip
def Zbr.rs (r:Int×LL):List CV:=[oI r.1]
def Zbr.p1 (N:Nat) (A7:Option Nat) (A3:Zbc) (A6:Zcy) (st:LL):Option (Int×LL):= Zbj A7 fun i8=> ZcS (st[i8]?) ZbN fun x9=> chk (zL (x9.list++[A6.ls])*176≤140737488355328)<| chk (zL (x9.spots++[A3.ls])*96≤140737488355328)<| optM (Zix x9.places (zI .u8 32 A6.Id)) (fun j10 e=>ZdX [e] fun x11=> some (w64 ((len (x9.list++[A6.ls]))-1),zN (zN (zN (zN (zN st i8 (gs x9.lo 15)) i8 (gs (gs x9.lo 15) 16)) i8 (gs (ZaE.lo {x9 with list:=x9.list++[A6.ls]}) 16)) i8 (ZaE.lo {x9 with list:=x9.list++[A6.ls],spots:=x9.spots++[A3.ls]})) i8 (ZaE.lo (ZaE.mk x9.rules (x9.list++[A6.ls]) (x9.spots++[A3.ls]) (zN x9.places j10 (zI .u8 32 A6.Id,zK .i64 (w64 ((len (x9.list++[A6.ls]))-1)))) x9.room)))) ( some (w64 ((len (x9.list++[A6.ls]))-1),zN (zN (zN (zN (zN st i8 (gs x9.lo 15)) i8 (gs (gs x9.lo 15) 16)) i8 (gs (ZaE.lo {x9 with list:=x9.list++[A6.ls]}) 16)) i8 (ZaE.lo {x9 with list:=x9.list++[A6.ls],spots:=x9.spots++[A3.ls]})) i8 (ZaE.lo (ZaE.mk x9.rules (x9.list++[A6.ls]) (x9.spots++[A3.ls]) (x9.places++[(zI .u8 32 A6.Id,zK .i64 (w64 ((len (x9.list++[A6.ls]))-1)))]) x9.room))))
def Zbr (N:Nat) (A0:Option Nat) (A1:Zak) (A2:Int) (A3:Zbc) (st:LL):Option (Int×LL):= Zbj (Zel N A1.Bits) fun x1=> if (A2 != (-1))=true then Zbj A0 fun i2=> ZcS (st[i2]?) ZbN fun x3=> chk (0≤A2)<| chk (A2<(len x3.list))<| ZcS (x3.list[0+(zD A2)]?) ZeB fun x4=> Zbj (ZfU N [[zI .u64 4 x4.Work],[zI .u64 4 x1]]) fun x5=> Zbr.p1 N (some i2) A3 (Zcy.mk A1 A3.Prev A2 (w64 (x4.Height+1)) x5) st else Zbr.p1 N A0 A3 (Zcy.mk A1 A3.Prev A2 0 x1) st
def Zbr.p1.S (A7:Option Nat) (A3:Zbc) (A6:Zcy) (st:LL):S:=mkS 81 [(0,sP A7),(7,sA 7),(9,sA 9)] [(7,.cells A3.ls),(9,.cells A6.ls)] st
theorem Zbr.p1_ok {A7 A3 A6 st r} (h:Zbr.p1 N A7 A3 A6 st=some r) (hE:En Tryz.f73 g0 w0 (Zbr.rs r) r.2 R):At g0 w0 (Zbr.p1.S A7 A3 A6 st) (XK zB R [cK Zbr.B [1,1,1]]):=by
 unfold Zbr.p1 at h;obtain ⟨i8,rfl,h1⟩:=Zac h;obtain ⟨x9,c10,h2⟩:=Zbz h1;obtain ⟨c11,c12,h3⟩:=ck2 h2;let o1:List PS:=[.d {ds:=[(5,{oc:=x9.lo}),(8,{oe:=x9.lo}),(12,{oc:=gs x9.lo 15}),(15,{oe:=gs x9.lo 15}),(18,{oc:=gs (gs x9.lo 15) 16,mv:=[51]}),(21,{oc:=gs (ZaE.lo {x9 with list:=x9.list++[A6.ls]}) 16,mv:=[58]})],hv:=2408832,Hs:=[128,384,16384,16512,16768,49536,311680,2408832],dh:=[(12,0,{oc:=x9.lo}),(12,128,{oc:=x9.lo}),(12,16384,{oc:=x9.lo}),(12,16512,{oc:=x9.lo})]}]
 have t1 {Q:Prop} (q:Q):=aO c10 c10 c10 c10 z0 (eN (zL x9.list)) c10 (aO z0 (eN (1)) c11 z0 (eN (zL x9.list)) c10 z0 (aO (eN (1)) c11 c10 c10 (Zar c10 (gs x9.lo 15)) c10 c10 (aO (Zar c10 (gs x9.lo 15)) z0 (eN (zL x9.spots)) (Zar c10 (gs x9.lo 15)) z0 (eN (1)) c12 (aO (Zar (Zar c10 (gs x9.lo 15)) (gs (gs x9.lo 15) 16)) z0 (eN (zL (x9.list++[A6.ls]))) (Zar (Zar (Zar c10 (gs x9.lo 15)) (gs (gs x9.lo 15) 16)) (gs (ZaE.lo {x9 with list:=x9.list++[A6.ls]}) 16)) z0 (eN (zL (x9.spots++[A3.ls]))) (Zar (Zar (Zar (Zar c10 (gs x9.lo 15)) (gs (gs x9.lo 15) 16)) (gs (ZaE.lo {x9 with list:=x9.list++[A6.ls]}) 16)) (ZaE.lo {x9 with list:=x9.list++[A6.ls],spots:=x9.spots++[A3.ls]})) (aI (Zar (Zar (Zar (Zar c10 (gs x9.lo 15)) (gs (gs x9.lo 15) 16)) (gs (ZaE.lo {x9 with list:=x9.list++[A6.ls]}) 16)) (ZaE.lo {x9 with list:=x9.list++[A6.ls],spots:=x9.spots++[A3.ls]})) q)))));rcases Zof h3 with ⟨j10,h7,c13,h4⟩ | ⟨c13,h5⟩
 ·obtain ⟨x11,h8,h6⟩:=Zjr h4;obtain rfl:=Zkk h8;exact xTd fol h6 hE (o1++[.d {ds:=[(3,{oc:=ZaE.lo {x9 with list:=x9.list++[A6.ls],spots:=x9.spots++[A3.ls]}}),(9,{oc:=ZaE.lo {x9 with list:=x9.list++[A6.ls],spots:=x9.spots++[A3.ls]}}),(12,{oc:=ZaE.lo {x9 with list:=x9.list++[A6.ls],spots:=x9.spots++[A3.ls]},m:=j10})],hv:=4096,Hs:=[4096]},.r [(3,{oc:=ZaE.lo (ZaE.mk x9.rules (x9.list++[A6.ls]) (x9.spots++[A3.ls]) (zN x9.places j10 (zI .u8 32 A6.Id,zK .i64 (w64 ((len (x9.list++[A6.ls]))-1)))) x9.room)})]]) (t1 (aJ (ex_at c13) (Zar (Zar (Zar (Zar c10 (gs x9.lo 15)) (gs (gs x9.lo 15) 16)) (gs (ZaE.lo {x9 with list:=x9.list++[A6.ls]}) 16)) (ZaE.lo {x9 with list:=x9.list++[A6.ls],spots:=x9.spots++[A3.ls]})) (Zar (Zar (Zar (Zar (Zar c10 (gs x9.lo 15)) (gs (gs x9.lo 15) 16)) (gs (ZaE.lo {x9 with list:=x9.list++[A6.ls]}) 16)) (ZaE.lo {x9 with list:=x9.list++[A6.ls],spots:=x9.spots++[A3.ls]})) (ZaE.lo (ZaE.mk x9.rules (x9.list++[A6.ls]) (x9.spots++[A3.ls]) (zN x9.places j10 (zI .u8 32 A6.Id,zK .i64 (w64 ((len (x9.list++[A6.ls]))-1)))) x9.room)))))
 exact xTd fol h5 hE (o1++[.d {ds:=[(3,{oc:=ZaE.lo {x9 with list:=x9.list++[A6.ls],spots:=x9.spots++[A3.ls]}}),(9,{oc:=ZaE.lo {x9 with list:=x9.list++[A6.ls],spots:=x9.spots++[A3.ls]}}),(12,{oc:=ZaE.lo {x9 with list:=x9.list++[A6.ls],spots:=x9.spots++[A3.ls]},yes:=false})],hv:=4096,Hs:=[4096]},.r [(3,{oc:=ZaE.lo (ZaE.mk x9.rules (x9.list++[A6.ls]) (x9.spots++[A3.ls]) (x9.places++[(zI .u8 32 A6.Id,zK .i64 (w64 ((len (x9.list++[A6.ls]))-1)))]) x9.room)})]]) (t1 (aJ c13 (Zar (Zar (Zar (Zar c10 (gs x9.lo 15)) (gs (gs x9.lo 15) 16)) (gs (ZaE.lo {x9 with list:=x9.list++[A6.ls]}) 16)) (ZaE.lo {x9 with list:=x9.list++[A6.ls],spots:=x9.spots++[A3.ls]})) (Zar (Zar (Zar (Zar (Zar c10 (gs x9.lo 15)) (gs (gs x9.lo 15) 16)) (gs (ZaE.lo {x9 with list:=x9.list++[A6.ls]}) 16)) (ZaE.lo {x9 with list:=x9.list++[A6.ls],spots:=x9.spots++[A3.ls]})) (ZaE.lo (ZaE.mk x9.rules (x9.list++[A6.ls]) (x9.spots++[A3.ls]) (x9.places++[(zI .u8 32 A6.Id,zK .i64 (w64 ((len (x9.list++[A6.ls]))-1)))]) x9.room)))))
theorem Zbr.snd {A0:Option Nat} {A1:Zak} {A2:Int} {A3:Zbc} {st:LL} {r:Int×LL} (h:Zbr N A0 A1 A2 A3 st=some r):Snd zB 73 [.one (zQ A0),.agg A1.ls,oI A2,.agg A3.ls] st (Zbr.rs r) r.2:=
 sO Zbr.B Tryz.func73 fun g0 w0 R hE=>by
  unfold Zbr at h;obtain ⟨x1,c1,h9⟩:=Zac h;let o2:List PS:=[rZ,.d {ds:=[(6,q1 [.agg [zI .u64 4 x1]])],hv:=768,Hs:=[256,768]},rZ]
  have t2 {Q:Prop} (q:Q):=aJ (Zel.snd c1) (Zel.snd c1) q;refine Zbg h9 (fun c2 h10=>?_) (fun c2 h11=>?_)
  ·obtain ⟨i2,rfl,h12⟩:=Zac h10;obtain ⟨x3,c4,h13⟩:=Zbz h12;obtain ⟨c5,c6,h14⟩:=ck2 h13;obtain ⟨x4,c7,h15⟩:=Zfe h14;obtain ⟨x5,c8,h16⟩:=Zac h15;exact aqd fol (o2++[cT,.r [(3,{oc:=x3.lo}),(7,{oc:=x3.lo,oe:=x4.ls})],.d {ds:=[(3,{oc:=x3.lo}),(7,{oc:=x3.lo,oe:=x4.ls}),(11,{rs:=[.agg [zI .u64 4 x5]],m:=2})],hv:=9216,Hs:=[1024,9216]},.s 1]) [0,7,9] [7,9] (t2 (aO c2 c4 c5 c6 c7 c4 c4 (aN c5 c6 c7 c4 z0 (eN (2)) (ZfU.snd c8)))) (Zbr.p1_ok h16 hE)
  exact aqd fol (o2++[cF,.s 1]) [0,7,9] [7,9] (t2 c2) (Zbr.p1_ok h11 hE)
def Zfh.B:Code:=Tryz.f51.body.getD .skip
def Zfh.rs (r:(Option Nat)×Int×LL):List CV:=[.one (zQ r.1),oI r.2.1]
def Zfh (N:Nat) (A0:Zae) (A1:Int) (st:LL):Option ((Option Nat)×Int×LL):= Zbj (Zcl N A0) fun x1=> if (!x1)=true then some (none,1,st) else chk (zL ([]++A0.Gates)*16≤140737488355328)<| chk (zL ([]++A0.Checks)*40≤140737488355328)<| Zbj (Zgg N {A0 with Gates:=[]++A0.Gates,Checks:=[]++A0.Checks}) fun x2=> Zbj (Zbr N (some (zL st)) A0.Genesis (-1) x2 (st++[ZaE.lo (ZaE.mk {A0 with Gates:=[]++A0.Gates,Checks:=[]++A0.Checks} [] [] [] (if (512:Int)<(if (1:Int)>A1 then 1 else A1) then 512 else (if (1:Int)>A1 then 1 else A1)))])) fun (x3,st4)=> some ((some (zL st)),0,st4)
theorem Zfh.snd {A0:Zae} {A1:Int} {st:LL} {r:(Option Nat)×Int×LL} (h:Zfh N A0 A1 st=some r):Snd zB 51 [.agg A0.ls,oI A1] st (Zfh.rs r) r.2.2:=
 sO Zfh.B Tryz.func51 fun g0 w0 R hE=>by
  unfold Zfh at h;obtain ⟨x1,c1,h1⟩:=Zac h;let o1:List PS:=[rZ,.r [(1,q1 [oB x1])]]
  refine Zbg h1 (fun c2 h2=>?_) (fun c2 h3=>?_)
  ·exact xU fol h2 hE (o1++[cT,rZ]) (aI (Zcl.snd c1) c2)
  obtain ⟨c3,c4,h4⟩:=ck2 h3;obtain ⟨x2,c5,h5⟩:=Zac h4;obtain ⟨⟨x3,st4⟩,c6,h6⟩:=Zac h5;exact xUd fol h6 hE (o1++[cF,.d {ds:=[(7,{fz:=[12]}),(9,{fz:=[15]})],hv:=676,Hs:=[4,36,164,676]},.r [(5,{ns:=[15,16]}),(6,{m:=1})],.d {ds:=[(4,q1 [.agg x2.ls]),(5,{rs:=[oI x3],st:=st4})],hv:=32,Hs:=[32]},rZ]) (aO (Zcl.snd c1) c2 c3 c4 z0 (eN (zL ([]++A0.Gates))) z0 (aJ (eN (zL ([]++A0.Checks))) (Zgg.snd c5) (Zbr.snd c6)))
def ZfB.B:Code:=Tryz.f28.body.getD .skip
def ZfB.rs (r:(Option Nat)×Int×LL):List CV:=[.one (zQ r.1),oI r.2.1]
def ZfB (N:Nat) (A0:Zae) (A1:Int) (st:LL):Option ((Option Nat)×Int×LL):= Zbj (Zfh N A0 A1 st) fun (x1,x2,st3)=> if (x2 != 0)=true then some (none,x2,st3) else some ((some (zL st3)),0,st3++[[zQ x1,yD true 1 [[zK .i64 (-1)]]]])
theorem ZfB.snd {A0:Zae} {A1:Int} {st:LL} {r:(Option Nat)×Int×LL} (h:ZfB N A0 A1 st=some r):Snd zB 28 [.agg A0.ls,oI A1] st (ZfB.rs r) r.2.2:=
 sO ZfB.B Tryz.func28 fun g0 w0 R hE=>by
  unfold ZfB at h;obtain ⟨⟨x1,x2,st3⟩,c1,h1⟩:=Zac h;let o1:List PS:=[rZ,.r [(2,{rs:=[.one (zQ x1),oI x2],st:=st3})],rZ]
  refine Zbg h1 (fun c2 h2=>?_) (fun c2 h3=>?_)
  ·exact xU fol h2 hE (o1++[cT,rZ]) (aI (Zfh.snd c1) c2)
  exact xU fol h3 hE (o1++[cF,.r [(2,{ns:=[1]}),(3,{m:=1,mv:=[18]})]]) (aK (Zfh.snd c1) c2 z0 (eN (1)))
def ZfE.B:Code:=Tryz.f24.body.getD .skip
def ZfE.rs (r:(Option Nat)×LL):List CV:=[.one (zQ r.1)]
def ZfE (N:Nat) (A0:Option Nat) (st:LL):Option ((Option Nat)×LL):= some ((some (zL st)),st++[[zQ A0,yD true 3 []]])
theorem ZfE.snd {A0:Option Nat} {st:LL} {r:(Option Nat)×LL} (h:ZfE N A0 st=some r):Snd zB 24 [.one (zQ A0)] st (ZfE.rs r) r.2:=
 sO ZfE.B Tryz.func24 fun g0 w0 R hE=>by
  unfold ZfE at h;exact xT fol h hE [rZ,.r [(1,{ns:=[1]}),(2,{m:=1})]] trivial
def ZcJ.B:Code:=Tryz.f42.body.getD .skip
def ZcJ.rs (r:Bool):List CV:=[oB r]
def ZcJ (N:Nat) (A0:ZaE) (A1 A2:Int):Option Bool:= Zbj (Zca N A0 A1) fun x1=> if (!x1)=true then some x1 else Zbj (Zca N A0 A2) fun x2=> if (!x2)=true then some x1 else chk (0≤A1)<| chk (A1<(len A0.list))<| ZcS (A0.list[zD A1]?) ZeB fun x3=> chk (0≤A2)<| chk (A2<(len A0.list))<| ZcS (A0.list[zD A2]?) ZeB fun x4=> Zbj (ZbM N x3.Work x4.Work) fun x5=> if (decide (x5>0))=true then some true else if (x5==0)=true then some (decide (A1<A2)) else some false
theorem ZcJ.snd {A0:ZaE} {A1 A2:Int} {r:Bool} (h:ZcJ N A0 A1 A2=some r):ZdP zB 42 [.one (L.bx 87 A0.ls),oI A1,oI A2] (ZcJ.rs r):=fun st=>
 sO ZcJ.B Tryz.func42 fun g0 w0 R hE=>by
  unfold ZcJ at h;obtain ⟨x1,c1,h1⟩:=Zac h;have t1 {Q:Prop} (q:Q):=aI (Zca.snd c1) q;refine Zbg h1 (fun c2 h2=>?_) (fun c2 h3=>?_)
  ·exact xS fol h2 hE [rZ,.r [(2,q0 [oB x1]),(5,wF),(6,wF),(7,wF),(8,wF)],cT,.r [(2,q0 [oB x1])]] (t1 (aN (not_false (ZbR c2)) (not_false (ZbR c2)) (not_false (ZbR c2)) (not_false (ZbR c2)) (not_false (ZbR c2)) eT (Zca.snd c1)))
  obtain ⟨x2,c3,h4⟩:=Zac h3;let o1:List PS:=[rZ,.r [(2,q0 [oB x1]),(7,q0 [oB x2]),(9,yF)]]
  have t2 {Q:Prop} (q:Q):=t1 (aN (not_true (ZbS c2)) (not_true (ZbS c2)) (not_true (ZbS c2)) (Zca.snd c3) (not_true (ZbS c2)) (not_true (ZbS c2)) q);refine Zbg h4 (fun c4 h5=>?_) (fun c4 h6=>?_)
  ·exact xS fol h5 hE (o1++[cT,.r [(2,q0 [oB x1])]]) (t2 (aI c4 (Zca.snd c1)))
  obtain ⟨c5,c6,h7⟩:=ck2 h6;obtain ⟨x3,c7,h8⟩:=Zfe h7;obtain ⟨c8,c9,h9⟩:=ck2 h8;obtain ⟨x4,c10,h10⟩:=Zfe h9;obtain ⟨x5,c11,h11⟩:=Zac h10;let o2:List PS:=o1++[cF,.d {ds:=[(3,{oe:=A0.ls}),(7,{oe:=x3.ls}),(11,{oe:=A0.ls}),(15,{oe:=x4.ls}),(16,q1 [oI x5])],hv:=0,Hs:=[]}]
  have t3 {Q:Prop} (q:Q):=t2 (aO c4 (eO A0.ls) c5 c6 c7 (eO A0.ls) c8 (aK c9 c10 (ZbM.snd c11) q));refine Zbg h11 (fun c12 h12=>?_) (fun c12 h13=>?_)
  ·exact xSd fol h12 hE (o2++[.r [(3,wF),(4,wF),(5,wF),(9,wF)]]) (t3 (aL c12 c12 c12 c12 c12))
  refine Zbg h13 (fun c13 h14=>?_) (fun c13 h15=>?_)
  ·exact xSd fol h14 hE (o2++[.r [(10,yF)]]) (t3 (aO c12 c12 c12 c13 c13 c13 c12 (aI c13 c12)))
  exact xSd fol h15 hE (o2++[.r [(6,wF),(7,wF),(8,wF),(9,yF),(10,yF)]]) (t3 (aO c12 c12 c12 c13 c13 c13 c12 (aI c13 c12)))
def Zch.B:Code:=Tryz.f17.body.getD .skip
def Zch.rs (r:Bool):List CV:=[oB r]
def Zch (N:Nat) (A0:Zav) (A1 A2:Int):Option Bool:= Zbj (ZcJ N A0.store A1 A2) fun x1=> some x1
theorem Zch.snd {A0:Zav} {A1 A2:Int} {r:Bool} (h:Zch N A0 A1 A2=some r):ZdP zB 17 [.one (L.bx 2 A0.ls),oI A1,oI A2] (Zch.rs r):=fun st=>
 sO Zch.B Tryz.func17 fun g0 w0 R hE=>by
  unfold Zch at h;obtain ⟨x1,c1,h1⟩:=Zac h;exact xS fol h1 hE [rZ,.r [(6,{oe:=A0.ls}),(9,q0 [oB x1])]] (aO eT eT eT eT (eO A0.ls) eT eT (aJ eT (ZcJ.snd c1) eT))
def Zah.B:Code:=Tryz.f37.body.getD .skip
def Zah.rs (r:Int×LL):List CV:=[oI r.1]
def Zah.p2 (N:Nat) (c1_:(Int×Int×LL)→Option (Int×LL)) (i3:Nat) (A1_0:Option Nat) (A30:Int) (x5:LL) (v7:Int) (st21:LL):Option (Int×LL):= c1_ (A30,w64 (v7+1),st21)
def Zah.p1 (N:Nat) (i3:Nat) (A1_0:Option Nat) (x5:LL) (c1_:(Int×Int×LL)→Option (Int×LL)):(Int×Int×LL)→Option (Int×LL):=fun (A6,v7,st19)=> if (decide (v7<(len x5)))=true then Zbj (Zbo N A1_0 v7 st19) fun (x20,st21)=> if x20=true then ZcS (st21[i3]?) Zcb fun x22 x23=> Zbj x22 fun i24=> ZcS (st21[i24]?) Zdg fun x25 x26=> Zbj x25 fun i27=> ZcS (st21[i27]?) ZbN fun x28=> Zbj (Zch N (Zav.mk x28 x26) v7 A6) fun x29=> if x29=true then Zah.p2 N c1_ i3 A1_0 v7 x5 v7 st21 else Zah.p2 N c1_ i3 A1_0 A6 x5 v7 st21 else Zah.p2 N c1_ i3 A1_0 A6 x5 v7 st21 else some (A6,st19)
def Zah (N:Nat) (m_0 A1_0:Option Nat) (st:LL):Option (Int×LL):= Zbj (ZbU N m_0 0 st) fun (x1,st2)=> if (!x1)=true then some ((-1),st2) else Zbj m_0 fun i3=> ZcS (st2[i3]?) Zcb fun x4 x5=> loopN (Zah.p1 N i3 A1_0 x5) N ((-1),0,st2)
def Zah.p2.S (i3:Nat) (A1_0:Option Nat) (A30:Int) (x5:LL) (v7:Int) (st21:LL):S:=mkS 34 [(0,sP (some i3)),(1,.one (.l (L.fn 16 1 [zQ A1_0]))),(5,sI A30),(15,sI (len x5)),(16,sI v7)] [] st21
def Zah.p1.S (i3:Nat) (A1_0:Option Nat) (A6:Int) (x5:LL) (v7:Int) (st19:LL):S:=mkS 34 [(0,sP (some i3)),(1,.one (.l (L.fn 16 1 [zQ A1_0]))),(5,sI A6),(15,sI (len x5)),(16,sI v7)] [] st19
theorem Zah.p2_ok {i3 A1_0 A30 x5 v7 st21 r c1_ J1} (h:Zah.p2 N c1_ i3 A1_0 A30 x5 v7 st21=some r) (hE:En Tryz.f37 g0 w0 (Zah.rs r) r.2 R) (hc1 : ∀A6 v7 st19,c1_ (A6,v7,st19)=some r→At g0 w0 (Zah.p1.S i3 A1_0 A6 x5 v7 st19) J1):At g0 w0 (Zah.p2.S i3 A1_0 A30 x5 v7 st21) (XK zB R [cK Zah.B [1,1,1,0,1,0,0,1,1,1],.h J1,.b 0,cK Zah.B [1,1,1,1]]):=by
 unfold Zah.p2 at h;exact an fol [rZ] [0,1,5,15,16] [] trivial (hc1 A30 (w64 (v7+1)) st21 h)
theorem Zah.p1_ok {i3 A1_0 A6 x5 v7 st19 r c1_ J1} (h:Zah.p1 N i3 A1_0 x5 c1_ (A6,v7,st19)=some r) (hE:En Tryz.f37 g0 w0 (Zah.rs r) r.2 R) (hc1 : ∀A6 v7 st19,c1_ (A6,v7,st19)=some r→At g0 w0 (Zah.p1.S i3 A1_0 A6 x5 v7 st19) J1):At g0 w0 (Zah.p1.S i3 A1_0 A6 x5 v7 st19) (XK zB R (cK Zah.B [1,1,1,0,1,0,0] :: .h J1 :: [.b 0,cK Zah.B [1,1,1,1]])):=by
 unfold Zah.p1 at h;refine Zbg h (fun c15 h1=>?_) (fun c15 h2=>?_)
 ·obtain ⟨⟨x20,st21⟩,c16,h3⟩:=Zac h1;let o1:List PS:=[rZ,cT,rZ]
  have t1 {Q:Prop} (q:Q):=aJ c15 (Zbo.snd c16) q;refine Zbg h3 (fun c17 h4=>?_) (fun c17 h5=>?_)
  ·obtain ⟨x22,x23,c18,h6⟩:=ZbQ h4;obtain ⟨i24,rfl,h7⟩:=Zac h6;obtain ⟨x25,x26,c20,h8⟩:=ZcK h7;obtain ⟨i27,rfl,h9⟩:=Zac h8;obtain ⟨x28,c22,h10⟩:=Zbz h9;obtain ⟨x29,c23,h11⟩:=Zac h10;let o2:List PS:=o1++[.r [(2,{rs:=[oB x20],st:=st21,m:=5}),(7,{oc:=[zQ (some i24),yD true 3 x23]}),(10,{rs:=[oB x29],m:=10,cv:=[.one (L.bx 2 (Zav.ls (Zav.mk x28 x26)))]})]]
   have t2 {Q:Prop} (q:Q):=t1 (aO c17 c17 c17 c17 c18 c17 c17 (aL c17 (bO 2 c20 ((bC 87 c22 (ZaE.bv x28) (bW bN)):BVs st21 [zQ (some i27),yD true 1 x26] (Zav.ls (Zav.mk x28 x26)))) (Zch.snd c23) c17 q));refine Zbg h11 (fun c24 h12=>?_) (fun c24 h13=>?_)
   ·exact aq fol (o2++[cT,rZ,.s 4]) [0,1,5,15,16] [] (t2 c24) (Zah.p2_ok h12 hE hc1)
   exact aq fol (o2++[cF,.s 4]) [0,1,5,15,16] [] (t2 c24) (Zah.p2_ok h13 hE hc1)
  exact aq fol (o1++[.r [(2,{rs:=[oB x20],st:=st21,m:=5}),(4,wF),(5,wF),(6,wF),(7,wF),(8,wF),(9,wF),(10,wF),(11,yF)],cF,.s 4]) [0,1,5,15,16] [] (t1 (aO c17 c17 c17 c17 c17 c17 c17 (aI c17 eF))) (Zah.p2_ok h5 hE hc1)
 exact xT fol h2 hE [rZ,cF,rZ] c15
theorem Zah.snd {m_0 A1_0:Option Nat} {st:LL} {r:Int×LL} (h:Zah N m_0 A1_0 st=some r):Snd zB 37 [.one (zQ m_0),.one (L.fn 16 1 [zQ A1_0])] st (Zah.rs r) r.2:=
 sO Zah.B Tryz.func37 fun g0 w0 R hE=>by
  unfold Zah at h;obtain ⟨⟨x1,st2⟩,c1,h14⟩:=Zac h;let o3:List PS:=[rZ,rZ,.r [(1,{rs:=[oB x1],st:=st2})]]
  refine Zbg h14 (fun c2 h15=>?_) (fun c2 h16=>?_)
  ·exact xT fol h15 hE (o3++[cT,rZ]) (aI (ZbU.snd c1) c2)
  obtain ⟨i3,rfl,h17⟩:=Zac h16;obtain ⟨x4,x5,c4,h18⟩:=ZbQ h17;exact aq fol (o3++[cF,.r [(3,{oc:=[zQ x4,yD true 3 x5]})]]) [0,1,5,15,16] [] (aJ (ZbU.snd c1) c2 c4) (At.loop N (At.loopN (fun y:Int×Int×LL=>Zah.p1.S i3 A1_0 y.1 x5 y.2.1 y.2.2) (fun c J hc y h=>Zah.p1_ok (A6:=y.1) (v7:=y.2.1) (st19:=y.2.2) h hE (fun A6 v7 st19=>hc (A6,v7,st19))) N ((-1),0,st2) h18))
def ZcQ.B:Code:=Tryz.f13.body.getD .skip
def ZcQ.rs (r:Int×LL):List CV:=[oI r.1]
def ZcQ (N:Nat) (m_0:Option Nat) (st:LL):Option (Int×LL):= Zbj (Zah N m_0 m_0 st) fun (x1,st2)=> some (x1,st2)
theorem ZcQ.snd {m_0:Option Nat} {st:LL} {r:Int×LL} (h:ZcQ N m_0 st=some r):Snd zB 13 [.one (zQ m_0)] st (ZcQ.rs r) r.2:=
 sO ZcQ.B Tryz.func13 fun g0 w0 R hE=>by
  unfold ZcQ at h;obtain ⟨⟨x1,st2⟩,c1,h1⟩:=Zac h;exact xT fol h1 hE [rZ,.r [(3,{rs:=[oI x1],st:=st2})]] (Zah.snd c1)
def Zcn.B:Code:=Tryz.f43.body.getD .skip
def Zcn.rs (r:Int×LL):List CV:=[oI r.1]
def Zcn (N:Nat) (m_0:Option Nat) (at_1:Int) (st:LL):Option (Int×LL):= if (Option.isNone m_0)=true then some (2,st) else Zbj (ZbU N m_0 at_1 st) fun (x1,st2)=> if (!x1)=true then some (5,st2) else if (at_1==0)=true then some (1,st2) else some (0,st2)
theorem Zcn.snd {m_0:Option Nat} {at_1:Int} {st:LL} {r:Int×LL} (h:Zcn N m_0 at_1 st=some r):Snd zB 43 [.one (zQ m_0),oI at_1] st (Zcn.rs r) r.2:=
 sO Zcn.B Tryz.func43 fun g0 w0 R hE=>by
  unfold Zcn at h;refine Zbg h (fun c1 h1=>?_) (fun c1 h2=>?_)
  ·exact xT fol h1 hE [rZ,rZ,cT,rZ] c1
  obtain ⟨⟨x1,st2⟩,c2,h3⟩:=Zac h2;let o1:List PS:=[rZ,rZ,cF,.r [(2,{rs:=[oB x1],st:=st2})]]
  have t1 {Q:Prop} (q:Q):=aJ c1 (ZbU.snd c2) q;refine Zbg h3 (fun c3 h4=>?_) (fun c3 h5=>?_)
  ·exact xT fol h4 hE (o1++[cT,rZ]) (t1 c3)
  refine Zbg h5 (fun c4 h6=>?_) (fun c4 h7=>?_)
  ·exact xT fol h6 hE (o1++[cF,rZ,cT,rZ]) (t1 (aI c3 c4))
  exact xT fol h7 hE (o1++[cF,rZ,cF,rZ]) (t1 (aI c3 c4))
def Zbl.B:Code:=Tryz.f44.body.getD .skip
def Zbl.rs (r:LL):List CV:=[]
def Zbl.p1 (N:Nat) (c1_:((Option Nat)×Int×LL)→Option LL):((Option Nat)×Int×LL)→Option LL:=fun (A16,at_1,st17)=> Zbj A16 fun i18=> ZcS (st17[i18]?) Zcb fun x19 x20=> if (decide (at_1<(len x20)))=true then Zbj x19 fun i21=> ZcS (st17[i21]?) Zdg fun x22 x23=> Zbj x22 fun i24=> ZcS (st17[i24]?) ZbN fun x25=> Zbj (ZbX N (Zav.mk x25 x23) at_1) fun (x26,x27)=> chk (0≤x26.Ahead)<| chk (x26.Ahead<(len x20))<| ZcS (x20[0+(zD x26.Ahead)]?) ZcA fun x28=> if x28.child=true then chk (0≤at_1)<| ZcS (x20[0+(zD at_1)]?) ZcA fun x29=> c1_ ((some i18),w64 (at_1+1),zN st17 i18 [zQ (some i21),yD true 3 (zN x20 (0+(zD at_1)) (ZaV.ls {x29 with child:=true}))]) else Zbj (ZcC N x28) fun x30=> chk (0≤at_1)<| ZcS (x20[0+(zD at_1)]?) ZcA fun x31=> c1_ ((some i18),w64 (at_1+1),zN st17 i18 [zQ (some i21),yD true 3 (zN x20 (0+(zD at_1)) (ZaV.ls {x31 with child:=x30}))]) else some st17
def Zbl (N:Nat) (m_0:Option Nat) (A1:Int) (st:LL):Option LL:= loopN (Zbl.p1 N) N (m_0,if (1:Int)>A1 then 1 else A1,st)
def Zbl.p1.S (A16:Option Nat) (at_1:Int) (st17:LL):S:=mkS 49 [(0,sP A16),(4,sI at_1)] [] st17
theorem Zbl.p1_ok {A16 at_1 st17 r c1_ J1} (h:Zbl.p1 N c1_ (A16,at_1,st17)=some r) (hE:En Tryz.f44 g0 w0 (Zbl.rs r) r R) (hc1 : ∀A16 at_1 st17,c1_ (A16,at_1,st17)=some r→At g0 w0 (Zbl.p1.S A16 at_1 st17) J1):At g0 w0 (Zbl.p1.S A16 at_1 st17) (XK zB R (cK Zbl.B [1,0,0] :: .h J1 :: [.b 0])):=by
 unfold Zbl.p1 at h;obtain ⟨i18,rfl,h1⟩:=Zac h;obtain ⟨x19,x20,c19,h2⟩:=ZbQ h1;refine Zbg h2 (fun c20 h3=>?_) (fun c20 h4=>?_)
 ·obtain ⟨i21,rfl,h5⟩:=Zac h3;obtain ⟨x22,x23,c22,h6⟩:=ZcK h5;obtain ⟨i24,rfl,h7⟩:=Zac h6;obtain ⟨x25,c24,h8⟩:=Zbz h7;obtain ⟨⟨x26,x27⟩,c25,h9⟩:=Zac h8;obtain ⟨c26,c27,h10⟩:=ck2 h9;obtain ⟨x28,c28,h11⟩:=Zct h10;let o1:List PS:=[.r [(4,{oc:=[zQ (some i21),yD true 3 x20]})],cT,.r [(3,{oc:=[zQ (some i21),yD true 3 x20]}),(5,{rs:=[.agg x26.ls,oB x27],m:=10,cv:=[.one (L.bx 2 (Zav.ls (Zav.mk x25 x23)))]})],.d {ds:=[(3,{oc:=[zQ (some i21),yD true 3 x20]}),(7,{oc:=[zQ (some i21),yD true 3 x20],oe:=x28.ls})],hv:=768,Hs:=[256,768]}]
  have t1 {Q:Prop} (q:Q):=aO c19 c20 c19 (bO 2 c22 ((bC 87 c24 (ZaE.bv x25) (bW bN)):BVs st17 [zQ (some i24),yD true 1 x23] (Zav.ls (Zav.mk x25 x23)))) (ZbX.snd c25) c19 c19 (aO c26 c27 c26 c27 c28 c19 c28 (aJ c19 c19 q));refine Zbg h11 (fun c29 h12=>?_) (fun c29 h13=>?_)
  ·obtain ⟨c30,h14⟩:=Zbh h12;obtain ⟨x29,c31,h15⟩:=Zct h14;exact Zkb fol (o1++[.d {ds:=[(3,{oc:=[zQ (some i21),yD true 3 x20]}),(8,wF),(9,wF),(13,{oc:=[zQ (some i21),yD true 3 x20],oe:=x29.ls,yes:=false})],hv:=8192,Hs:=[8192]},rZ]) [0,4] [] (t1 (aN c29 c29 c29 c30 (oD c20) c31 c19)) (hc1 (some i18) (w64 (at_1+1)) (zN st17 i18 [zQ (some i21),yD true 3 (zN x20 (0+(zD at_1)) (ZaV.ls {x29 with child:=true}))]) h15)
  obtain ⟨x30,c32,h16⟩:=Zac h13;obtain ⟨c33,h17⟩:=Zbh h16;obtain ⟨x31,c34,h18⟩:=Zct h17;exact Zkb fol (o1++[.d {ds:=[(3,{oc:=[zQ (some i21),yD true 3 x20]}),(9,q1 [oB x30]),(10,yF),(13,{oc:=[zQ (some i21),yD true 3 x20],oe:=x31.ls,yes:=false})],hv:=8192,Hs:=[8192]},rZ]) [0,4] [] (t1 (aO c29 c29 (ZcC.snd c32) c29 c33 (oD c20) c34 c19)) (hc1 (some i18) (w64 (at_1+1)) (zN st17 i18 [zQ (some i21),yD true 3 (zN x20 (0+(zD at_1)) (ZaV.ls {x31 with child:=x30}))]) h18)
 exact xR fol h4 hE [.r [(4,{oc:=[zQ x19,yD true 3 x20]})],cF] (aI c19 c20)
theorem Zbl.snd {m_0:Option Nat} {A1:Int} {st:LL} {r:LL} (h:Zbl N m_0 A1 st=some r):Snd zB 44 [.one (zQ m_0),oI A1] st (Zbl.rs r) r:=
 sO Zbl.B Tryz.func44 fun g0 w0 R hE=>by
  unfold Zbl at h;exact aq fol [rZ] [0,4] [] trivial (At.loop N (At.loopN (fun y:(Option Nat)×Int×LL=>Zbl.p1.S y.1 y.2.1 y.2.2) (fun c J hc y h=>Zbl.p1_ok (A16:=y.1) (at_1:=y.2.1) (st17:=y.2.2) h hE (fun A16 at_1 st17=>hc (A16,at_1,st17))) N (m_0,if (1:Int)>A1 then 1 else A1,st) h))
def Zbt.B:Code:=Tryz.f22.body.getD .skip
def Zbt.rs (r:Int×LL):List CV:=[oI r.1]
def Zbt (N:Nat) (m_0:Option Nat) (at_1:Int) (st:LL):Option (Int×LL):= Zbj (Zcn N m_0 at_1 st) fun (x1,st2)=> if (x1 != 0)=true then some (x1,st2) else Zbj m_0 fun i3=> ZcS (st2[i3]?) Zcb fun x4 x5=> chk (0≤at_1)<| chk (at_1<(len x5))<| ZcS (x5[0+(zD at_1)]?) ZcA fun x6=> Zbj (Zbl N (some i3) at_1 (zN st2 i3 [zQ x4,yD true 3 (zN x5 (0+(zD at_1)) (ZaV.ls {x6 with out:=true}))])) fun st7=> some (0,st7)
theorem Zbt.snd {m_0:Option Nat} {at_1:Int} {st:LL} {r:Int×LL} (h:Zbt N m_0 at_1 st=some r):Snd zB 22 [.one (zQ m_0),oI at_1] st (Zbt.rs r) r.2:=
 sO Zbt.B Tryz.func22 fun g0 w0 R hE=>by
  unfold Zbt at h;obtain ⟨⟨x1,st2⟩,c1,h1⟩:=Zac h;let o1:List PS:=[rZ,.r [(2,{rs:=[oI x1],st:=st2})],rZ]
  refine Zbg h1 (fun c2 h2=>?_) (fun c2 h3=>?_)
  ·exact xT fol h2 hE (o1++[cT,rZ]) (aI (Zcn.snd c1) c2)
  obtain ⟨i3,rfl,h4⟩:=Zac h3;obtain ⟨x4,x5,c4,h5⟩:=ZbQ h4;obtain ⟨c5,c6,h6⟩:=ck2 h5;obtain ⟨x6,c7,h7⟩:=Zct h6;obtain ⟨st7,c8,h8⟩:=Zac h7;exact xT fol h8 hE (o1++[cF,.r [(3,{oc:=[zQ x4,yD true 3 x5]}),(7,{oc:=[zQ x4,yD true 3 x5],oe:=x6.ls,yes:=false})],.r [(2,{st:=st7})],rZ]) (aO (Zcn.snd c1) c2 c4 c5 c6 c7 c4 (Zbl.snd c8))
def Zef.B:Code:=Tryz.f9.body.getD .skip
def Zef.rs (r:Bool×LL):List CV:=[oB r.1]
def Zef (N:Nat) (st:LL):Option (Bool×LL):= Zbj (ZfB N (Zae.mk 545259519 4 10 0 false [] [] (zC 4 0) (zC 4 0) (Zak.mk 0 (zC 32 0) (zC 32 0) 0 0 0)) 5 st) fun (x1,x2,st3)=> if (x2 != 0)=true then some (false,st3) else Zbj (ZfE N x1 st3) fun (x4,st5)=> Zbj (ZcQ N x4 st5) fun (x6,st7)=> if (x6==0)=true then Zbj (Zbo N x4 0 st7) fun (x8,st9)=> if x8=true then Zbj (Zbt N x4 0 st9) fun (x10,st11)=> some (x10==1,st11) else some (false,st9) else some (false,st7)
theorem Zef.snd {st:LL} {r:Bool×LL} (h:Zef N st=some r):Snd zB 9 [] st (Zef.rs r) r.2:=
 sO Zef.B Tryz.func9 fun g0 w0 R hE=>by
  unfold Zef at h;obtain ⟨⟨x1,x2,st3⟩,c1,h1⟩:=Zac h;let o1:List PS:=[rZ,.r [(1,{rs:=[.one (zQ x1),oI x2],st:=st3})],rZ]
  have t1 {Q:Prop} (q:Q):=aI (ZfB.snd c1) q;refine Zbg h1 (fun c2 h2=>?_) (fun c2 h3=>?_)
  ·exact xT fol h2 hE (o1++[cT,rZ]) (t1 c2)
  obtain ⟨⟨x4,st5⟩,c3,h4⟩:=Zac h3;obtain ⟨⟨x6,st7⟩,c4,h5⟩:=Zac h4;let o2:List PS:=o1++[cF,.r [(1,{rs:=[.one (zQ x4)],st:=st5})]]
  have t2 {Q:Prop} (q:Q):=t1 (aK c2 (ZfE.snd c3) (ZcQ.snd c4) q);refine Zbg h5 (fun c5 h6=>?_) (fun c5 h7=>?_)
  ·obtain ⟨⟨x8,st9⟩,c6,h8⟩:=Zac h6;refine Zbg h8 (fun c7 h9=>?_) (fun c7 h10=>?_)
   ·obtain ⟨⟨x10,st11⟩,c8,h11⟩:=Zac h9;exact xT fol h11 hE (o2++[.r [(1,{rs:=[oI x6],st:=st7}),(5,{rs:=[oB x8],st:=st9}),(9,{rs:=[oI x10],st:=st11})]]) (t2 (aO c5 c5 (Zbo.snd c6) c5 c7 c7 (Zbt.snd c8) (aI c7 c7)))
   exact xT fol h10 hE (o2++[.r [(1,{rs:=[oI x6],st:=st7}),(5,{rs:=[oB x8],st:=st9}),(8,wF),(9,wF),(10,wF),(11,yF)]]) (t2 (aO c5 c5 (Zbo.snd c6) c5 c7 c7 c7 c7))
  exact xT fol h7 hE (o2++[.r [(1,{rs:=[oI x6],st:=st7}),(4,wF),(5,wF),(6,yF),(8,wF),(9,wF),(10,wF),(11,yF)]]) (t2 (aN c5 c5 c5 eF eF eF eF))
def Zaq.B:Code:=Tryz.f100.body.getD .skip
def Zaq.rs (r:(List Int)):List CV:=[.agg [zI .u64 4 r]]
def Zaq.p4 (N:Nat) (c3_:(Int×(List Int))→Option (List Int)) (A13 A19:Int) (A18 A22:List Int):Option (List Int):= c3_ (w64 (A19+1),A22)
def Zaq.p3 (N:Nat) (A13:Int) (A18:List Int) (c3_:(Int×(List Int))→Option (List Int)):(Int×(List Int))→Option (List Int):=fun (A19,A21)=> if (decide (A19<4))=true then if (decide (A13>0))=true then chk (0≤A19)<| chk (0≤(v64 (A13)))<| if (decide (A19>0))=true then chk (0≤(w64 (A19-1)))<| chk ((w64 (A19-1))<4)<| chk (0≤(v64 (w64 (64-A13))))<| Zaq.p4 N c3_ A13 A19 A18 (zN (zN A21 (zD A19) (ZbV .u64 (zF A18 (zD A19) 0) (v64 (A13)))) (zD A19) (v64 ((zF (zN A21 (zD A19) (ZbV .u64 (zF A18 (zD A19) 0) (v64 (A13)))) (zD A19) 0)+(ZbF .u64 (zF A18 (zD (w64 (A19-1))) 0) (v64 (w64 (64-A13))))))) else Zaq.p4 N c3_ A13 A19 A18 (zN A21 (zD A19) (ZbV .u64 (zF A18 (zD A19) 0) (v64 (A13)))) else chk (0≤A19)<| chk (0≤(v64 (w64 (0-A13))))<| if (decide (A19<3))=true then chk (0≤(w64 (A19+1)))<| chk ((w64 (A19+1))<4)<| chk (0≤(v64 (w64 (64+A13))))<| Zaq.p4 N c3_ A13 A19 A18 (zN (zN A21 (zD A19) (ZbF .u64 (zF A18 (zD A19) 0) (v64 (w64 (0-A13))))) (zD A19) (v64 ((zF (zN A21 (zD A19) (ZbF .u64 (zF A18 (zD A19) 0) (v64 (w64 (0-A13))))) (zD A19) 0)+(ZbV .u64 (zF A18 (zD (w64 (A19+1))) 0) (v64 (w64 (64+A13))))))) else Zaq.p4 N c3_ A13 A19 A18 (zN A21 (zD A19) (ZbF .u64 (zF A18 (zD A19) 0) (v64 (w64 (0-A13))))) else some A21
def Zaq.p2 (N:Nat) (c2_:(Int×(List Int))→Option (List Int)):(Int×(List Int))→Option (List Int):=fun (A13,A18)=> if (decide (A13≤(-64)))=true then c2_ (w64 (A13+64),[zF A18 1 0,zF A18 2 0,zF A18 3 0,0]) else if (A13==0)=true then some A18 else loopN (Zaq.p3 N A13 A18) N (0,zC 4 0)
def Zaq.p1 (N:Nat) (c1_:(Int×(List Int))→Option (List Int)):(Int×(List Int))→Option (List Int):=fun (F1,A12)=> if (decide (F1≥64))=true then c1_ (w64 (F1-64),[0,zF A12 0 0,zF A12 1 0,zF A12 2 0]) else loopN (Zaq.p2 N) N (F1,A12)
def Zaq (N:Nat) (A0_0:List Int) (F1:Int):Option (List Int):= if (decide (F1≤(-256)))=true then some (zC 4 0) else if (decide (F1≥256))=true then some (zC 4 0) else loopN (Zaq.p1 N) N (F1,A0_0)
def Zaq.p4.S (A13 A19:Int) (A18 A22:List Int) (st:LL):S:=mkS 96 [(1,sI A13),(2,sA 2),(4,sA 4),(5,sA 5),(6,sI A19)] [(2,.cells [zI .u64 4 A18]),(4,.cells [zI .u64 4 (zC 4 0)]),(5,.cells [zI .u64 4 A22])] st
def Zaq.p3.S (A13 A19:Int) (A18 A21:List Int) (st:LL):S:=mkS 96 [(1,sI A13),(2,sA 2),(4,sA 4),(5,sA 5),(6,sI A19)] [(2,.cells [zI .u64 4 A18]),(4,.cells [zI .u64 4 (zC 4 0)]),(5,.cells [zI .u64 4 A21])] st
def Zaq.p2.S (A13:Int) (A18:List Int) (st:LL):S:=mkS 96 [(1,sI A13),(2,sA 2),(4,sA 4),(5,sA 5)] [(2,.cells [zI .u64 4 A18]),(4,.cells [zI .u64 4 (zC 4 0)]),(5,.cells [zI .u64 4 (zC 4 0)])] st
def Zaq.p1.S (F1:Int) (A12:List Int) (st:LL):S:=mkS 96 [(1,sI F1),(2,sA 2),(4,sA 4),(5,sA 5)] [(2,.cells [zI .u64 4 A12]),(4,.cells [zI .u64 4 (zC 4 0)]),(5,.cells [zI .u64 4 (zC 4 0)])] st
theorem Zaq.p4_ok {A13 A19 A18 A22 st r c3_ J3} (h:Zaq.p4 N c3_ A13 A19 A18 A22=some r) (hE:En Tryz.f100 g0 w0 (Zaq.rs r) st R) (hc3 : ∀A19 A21,c3_ (A19,A21)=some r→At g0 w0 (Zaq.p3.S A13 A19 A18 A21 st) J3):At g0 w0 (Zaq.p4.S A13 A19 A18 A22 st) (XK zB R [cK Zaq.B [1,1,1,1,1,1,0,1,0,0,1,1],.h J3,.b 4,cK Zaq.B [1,1,1,1,1,1,1]]):=by
 unfold Zaq.p4 at h;exact an fol [rZ] [1,2,4,5,6] [2,4,5] trivial (hc3 (w64 (A19+1)) A22 h)
theorem Zaq.p3_ok {A13 A19 A18 A21 st r c3_ J3} (h:Zaq.p3 N A13 A18 c3_ (A19,A21)=some r) (hE:En Tryz.f100 g0 w0 (Zaq.rs r) st R) (hc3 : ∀A19 A21,c3_ (A19,A21)=some r→At g0 w0 (Zaq.p3.S A13 A19 A18 A21 st) J3):At g0 w0 (Zaq.p3.S A13 A19 A18 A21 st) (XK zB R (cK Zaq.B [1,1,1,1,1,1,0,1,0,0] :: .h J3 :: [.b 4,cK Zaq.B [1,1,1,1,1,1,1]])):=by
 unfold Zaq.p3 at h;refine Zbg h (fun c111 h1=>?_) (fun c111 h2=>?_)
 ·let o1:List PS:=[rZ,cT,rZ]
  refine Zbg h1 (fun c112 h3=>?_) (fun c112 h4=>?_)
  ·obtain ⟨c113,c114,h5⟩:=ck2 h3;have t1 {Q:Prop} (q:Q):=aO c111 c112 c113 (oD c111) c114 c113 (oD c111) q;refine Zbg h5 (fun c115 h6=>?_) (fun c115 h7=>?_)
   ·obtain ⟨c116,c117,c118,h8⟩:=ck3 h6;exact aqd fol (o1++[cT,rZ,rZ,cT,.d {ds:=[],hv:=16384,Hs:=[16384]},.s 4]) [1,2,4,5,6] [2,4,5] (t1 (aO c115 c113 (oD c111) c116 c117 c118 c113 (oD c111))) (Zaq.p4_ok h8 hE hc3)
   exact aq fol (o1++[cT,rZ,rZ,cF,.s 4]) [1,2,4,5,6] [2,4,5] (t1 c115) (Zaq.p4_ok h7 hE hc3)
  obtain ⟨c119,c120,h9⟩:=ck2 h4;have t2 {Q:Prop} (q:Q):=aO c111 c112 c119 (oD c111) c120 c119 (oD c111) q;refine Zbg h9 (fun c121 h10=>?_) (fun c121 h11=>?_)
  ·obtain ⟨c122,c123,c124,h12⟩:=ck3 h10;exact aqd fol (o1++[cF,rZ,rZ,cT,.d {ds:=[],hv:=16384,Hs:=[16384]},.s 4]) [1,2,4,5,6] [2,4,5] (t2 (aO c121 c119 (oD c111) c122 c123 c124 c119 (oD c111))) (Zaq.p4_ok h12 hE hc3)
  exact aq fol (o1++[cF,rZ,rZ,cF,.s 4]) [1,2,4,5,6] [2,4,5] (t2 c121) (Zaq.p4_ok h11 hE hc3)
 exact xS fol h2 hE [rZ,cF,rZ] c111
theorem Zaq.p2_ok {A13 A18 st r c2_ J2} (h:Zaq.p2 N c2_ (A13,A18)=some r) (hE:En Tryz.f100 g0 w0 (Zaq.rs r) st R) (hc2 : ∀A13 A18,c2_ (A13,A18)=some r→At g0 w0 (Zaq.p2.S A13 A18 st) J2):At g0 w0 (Zaq.p2.S A13 A18 st) (XK zB R (cK Zaq.B [1,1,1,1,0,0,0] :: .h J2 :: [.b 2,cK Zaq.B [1,1,1,1,1]])):=by
 unfold Zaq.p2 at h;refine Zbg h (fun c95 h13=>?_) (fun c95 h14=>?_)
 ·exact an fol [rZ,cT,.r [(6,{m:=3})],rZ] [1,2,4,5] [2,4,5] (aI c95 (ix 1 4 (ix 2 4 (aI (leI 0 3) (ltI 3 4))))) (hc2 (w64 (A13+64)) [zF A18 1 0,zF A18 2 0,zF A18 3 0,0] h13)
 refine Zbg h14 (fun c96 h15=>?_) (fun c96 h16=>?_)
 ·exact xS fol h15 hE [rZ,cF,rZ,cT,rZ] (aI c95 c96)
 exact aq fol [rZ,cF,rZ,cF,rZ] [1,2,4,5,6] [2,4,5] (aI c95 c96) (At.loop N (At.loopN (fun y:Int×(List Int)=>Zaq.p3.S A13 y.1 A18 y.2 st) (fun c J hc y h=>Zaq.p3_ok (A19:=y.1) (A21:=y.2) h hE (fun A19 A21=>hc (A19,A21))) N (0,zC 4 0) h16))
theorem Zaq.p1_ok {F1 A12 st r c1_ J1} (h:Zaq.p1 N c1_ (F1,A12)=some r) (hE:En Tryz.f100 g0 w0 (Zaq.rs r) st R) (hc1 : ∀F1 A12,c1_ (F1,A12)=some r→At g0 w0 (Zaq.p1.S F1 A12 st) J1):At g0 w0 (Zaq.p1.S F1 A12 st) (XK zB R (cK Zaq.B [1,1,1,0,0,0] :: .h J1 :: [.b 0,cK Zaq.B [1,1,1,1]])):=by
 unfold Zaq.p1 at h;refine Zbg h (fun c64 h17=>?_) (fun c64 h18=>?_)
 ·exact an fol [rZ,cT,.r [(6,{m:=3})],rZ] [1,2,4,5] [2,4,5] (aI c64 (ix 0 4 (ix 1 4 (aI (leI 0 2) (ltI 2 4))))) (hc1 (w64 (F1-64)) [0,zF A12 0 0,zF A12 1 0,zF A12 2 0] h17)
 exact aq fol [rZ,cF] [1,2,4,5] [2,4,5] c64 (At.loop N (At.loopN (fun y:Int×(List Int)=>Zaq.p2.S y.1 y.2 st) (fun c J hc y h=>Zaq.p2_ok (A13:=y.1) (A18:=y.2) h hE (fun A13 A18=>hc (A13,A18))) N (F1,A12) h18))
theorem Zaq.snd {A0_0:List Int} {F1:Int} {r:(List Int)} (h:Zaq N A0_0 F1=some r):ZdP zB 100 [.agg [zI .u64 4 A0_0],oI F1] (Zaq.rs r):=fun st=>
 sO Zaq.B Tryz.func100 fun g0 w0 R hE=>by
  unfold Zaq at h;refine Zbg h (fun c1 h19=>?_) (fun c1 h20=>?_)
  ·exact xS fol h19 hE [rZ,rZ,.r [(3,wF),(4,wF)],cT,rZ] (aK c1 c1 c1 eT)
  let o2:List PS:=[rZ,rZ,.r [(5,yF)]]
  refine Zbg h20 (fun c2 h21=>?_) (fun c2 h22=>?_)
  ·exact xS fol h21 hE (o2++[cT,rZ]) (aK c1 c1 c1 c2)
  exact aq fol (o2++[cF]) [1,2,4,5] [2,4,5] (aK c1 c1 c1 c2) (At.loop N (At.loopN (fun y:Int×(List Int)=>Zaq.p1.S y.1 y.2 st) (fun c J hc y h=>Zaq.p1_ok (F1:=y.1) (A12:=y.2) h hE (fun F1 A12=>hc (F1,A12))) N (F1,A0_0) h22))
def ZaY.B:Code:=Tryz.f78.body.getD .skip
def ZaY.rs (r:(List Int)×Bool×Bool):List CV:=[.agg [zI .u64 4 r.1],oB r.2.1,oB r.2.2]
def ZaY.p1 (N:Nat) (A0:Int) (F2:Bool) (x1:List Int):Option ((List Int)×Bool×Bool):= if (decide ((zX A0 8388608)>0))=true then some (x1,(zX (w64 (zS A0 8388608)) 2)==1,F2) else some (x1,false,F2)
def ZaY (N:Nat) (A0:Int):Option ((List Int)×Bool×Bool):= if (decide (A0<0))=true then some (zC 4 0,false,false) else if (decide (A0>4294967295))=true then some (zC 4 0,false,false) else Zbj (Zaq N [v64 (zX A0 8388608),0,0,0] (w64 (8*(w64 ((w64 (zS A0 16777216))-3))))) fun x1=> if (decide ((zX A0 8388608)>0))=true then if (decide ((w64 (zS A0 16777216))>34))=true then ZaY.p1 N A0 true x1 else if (decide ((zX A0 8388608)>255))=true then if (decide ((w64 (zS A0 16777216))>33))=true then ZaY.p1 N A0 true x1 else if (decide ((zX A0 8388608)>65535))=true then ZaY.p1 N A0 (decide ((w64 (zS A0 16777216))>32)) x1 else ZaY.p1 N A0 false x1 else if (decide ((zX A0 8388608)>65535))=true then ZaY.p1 N A0 (decide ((w64 (zS A0 16777216))>32)) x1 else ZaY.p1 N A0 false x1 else if (decide ((zX A0 8388608)>255))=true then if (decide ((w64 (zS A0 16777216))>33))=true then ZaY.p1 N A0 true x1 else if (decide ((zX A0 8388608)>65535))=true then ZaY.p1 N A0 (decide ((w64 (zS A0 16777216))>32)) x1 else ZaY.p1 N A0 false x1 else if (decide ((zX A0 8388608)>65535))=true then ZaY.p1 N A0 (decide ((w64 (zS A0 16777216))>32)) x1 else ZaY.p1 N A0 false x1
def ZaY.p1.S (A0:Int) (F2:Bool) (x1:List Int) (st:LL):S:=mkS 61 [(2,sA 2),(6,sI (zX A0 8388608)),(7,.one (.l (xW ((zX (w64 (zS A0 8388608)) 2)==1)))),(8,sA 8),(9,.one (.l (xW F2)))] [(2,.cells [zI .u64 4 (zC 4 0)]),(8,.cells [zI .u64 4 x1])] st
theorem ZaY.p1_ok {A0 F2 x1 st r} (h:ZaY.p1 N A0 F2 x1=some r) (hE:En Tryz.f78 g0 w0 (ZaY.rs r) st R):At g0 w0 (ZaY.p1.S A0 F2 x1 st) (XK zB R [cK ZaY.B [1,1,1,1,1,1,1]]):=by
 unfold ZaY.p1 at h;refine Zbg h (fun c14 h1=>?_) (fun c14 h2=>?_)
 ·exact xS fol h1 hE [rZ] (aI c14 c14)
 exact xS fol h2 hE [.r [(4,wF),(5,yF)]] (aI c14 c14)
theorem ZaY.snd {A0:Int} {r:(List Int)×Bool×Bool} (h:ZaY N A0=some r):ZdP zB 78 [oI A0] (ZaY.rs r):=fun st=>
 sO ZaY.B Tryz.func78 fun g0 w0 R hE=>by
  unfold ZaY at h;refine Zbg h (fun c1 h3=>?_) (fun c1 h4=>?_)
  ·exact xS fol h3 hE [rZ,.r [(3,wF),(4,wF)],cT,rZ] (aK c1 c1 c1 eT)
  let o1:List PS:=[rZ,.r [(5,yF)]]
  have t1 {Q:Prop} (q:Q):=aK c1 c1 c1 q;refine Zbg h4 (fun c2 h5=>?_) (fun c2 h6=>?_)
  ·exact xS fol h5 hE (o1++[cT,rZ]) (t1 c2)
  obtain ⟨x1,c3,h7⟩:=Zac h6;let o2:List PS:=o1++[cF,rZ,rZ,rZ,.r [(2,{m:=3}),(6,q1 [.agg [zI .u64 4 x1]])]]
  have t2 {Q:Prop} (q:Q):=t1 (aN c2 (neI 16777216) (neI 8388608) (neI 8388608) (neI 2) (Zaq.snd c3) q);refine Zbg h7 (fun c4 h8=>?_) (fun c4 h9=>?_)
  ·have t3 {Q:Prop} (q:Q):=t2 (aK c4 c4 c4 q);refine Zbg h8 (fun c5 h10=>?_) (fun c5 h11=>?_)
   ·exact aq fol (o2++[.r [(7,wF),(8,wF),(9,wF),(12,wF),(15,wF),(16,wF),(17,wF),(20,wF)],.s 1]) [2,6,7,8,9] [2,8] (t3 (aO c5 c5 c5 c5 c5 eT eT (aJ eT eT eT))) (ZaY.p1_ok h10 hE)
   have t4 {Q:Prop} (q:Q):=t3 (aK c5 c5 c5 q);refine Zbg h11 (fun c6 h12=>?_) (fun c6 h13=>?_)
   ·refine Zbg h12 (fun c7 h14=>?_) (fun c7 h15=>?_)
    ·exact aq fol (o2++[.r [(13,yF),(15,wF),(16,wF),(17,wF),(20,wF)],.s 1]) [2,6,7,8,9] [2,8] (t4 (aO c6 c6 c5 c6 c5 c7 c7 (aJ c7 c7 c7))) (ZaY.p1_ok h14 hE)
    refine Zbg h15 (fun c8 h16=>?_) (fun c8 h17=>?_)
    ·exact aq fol (o2++[.r [(13,yF),(21,yF)],.s 1]) [2,6,7,8,9] [2,8] (t4 (aO c6 c6 c5 c6 c5 c7 c7 (aM c7 c8 c8 c7 c8 c7))) (ZaY.p1_ok h16 hE)
    exact aq fol (o2++[.r [(13,yF),(18,wF),(19,wF),(20,yF),(21,yF)],.s 1]) [2,6,7,8,9] [2,8] (t4 (aO c6 c6 c5 c6 c5 c7 c7 (aM c7 c8 c8 c7 c8 c7))) (ZaY.p1_ok h17 hE)
   have t5 {Q:Prop} (q:Q):=t4 (aO c6 c6 c5 c6 c5 eF eF (aI eF q));refine Zbg h13 (fun c9 h18=>?_) (fun c9 h19=>?_)
   ·exact aq fol (o2++[.r [(10,wF),(11,wF),(12,yF),(13,yF),(21,yF)],.s 1]) [2,6,7,8,9] [2,8] (t5 (aL c9 c9 eF c9 eF)) (ZaY.p1_ok h18 hE)
   exact aq fol (o2++[.r [(10,wF),(11,wF),(12,yF),(13,yF),(18,wF),(19,wF),(20,yF),(21,yF)],.s 1]) [2,6,7,8,9] [2,8] (t5 (aL c9 c9 eF c9 eF)) (ZaY.p1_ok h19 hE)
  have t6 {Q:Prop} (q:Q):=t2 (aN c4 c4 c4 eF eF eF q);refine Zbg h9 (fun c10 h20=>?_) (fun c10 h21=>?_)
  ·have t7 {Q:Prop} (q:Q):=t6 (aM c10 c10 eF c10 eF q);refine Zbg h20 (fun c11 h22=>?_) (fun c11 h23=>?_)
   ·exact aq fol (o2++[.r [(3,wF),(4,wF),(5,yF),(13,yF),(15,wF),(16,wF),(17,wF),(20,wF)],.s 1]) [2,6,7,8,9] [2,8] (t7 (aL c11 c11 c11 c11 c11)) (ZaY.p1_ok h22 hE)
   refine Zbg h23 (fun c12 h24=>?_) (fun c12 h25=>?_)
   ·exact aq fol (o2++[.r [(3,wF),(4,wF),(5,yF),(13,yF),(21,yF)],.s 1]) [2,6,7,8,9] [2,8] (t7 (aO c11 c11 c11 c12 c12 c11 c12 c11)) (ZaY.p1_ok h24 hE)
   exact aq fol (o2++[.r [(3,wF),(4,wF),(5,yF),(13,yF),(18,wF),(19,wF),(20,yF),(21,yF)],.s 1]) [2,6,7,8,9] [2,8] (t7 (aO c11 c11 c11 c12 c12 c11 c12 c11)) (ZaY.p1_ok h25 hE)
  have t8 {Q:Prop} (q:Q):=t6 (aO c10 c10 eF c10 eF eF eF (aI eF q));refine Zbg h21 (fun c13 h26=>?_) (fun c13 h27=>?_)
  ·exact aq fol (o2++[.r [(3,wF),(4,wF),(5,yF),(10,wF),(11,wF),(12,yF),(13,yF),(21,yF)],.s 1]) [2,6,7,8,9] [2,8] (t8 (aL c13 c13 eF c13 eF)) (ZaY.p1_ok h26 hE)
  exact aq fol (o2++[.r [(3,wF),(4,wF),(5,yF),(10,wF),(11,wF),(12,yF),(13,yF),(18,wF),(19,wF),(20,yF),(21,yF)],.s 1]) [2,6,7,8,9] [2,8] (t8 (aL c13 c13 eF c13 eF)) (ZaY.p1_ok h27 hE)
def Zdn.B:Code:=Tryz.f116.body.getD .skip
def Zdn.rs (r:Int):List CV:=[oI r]
def Zdn (N:Nat) (A0_0:List Int) (A1:Int):Option Int:= if (decide (A1<0))=true then some 0 else if (decide (A1>255))=true then some 0 else chk (0≤(w64 (zS A1 64)))<| chk ((w64 (zS A1 64))<4)<| chk (0≤(v64 (zX A1 64)))<| some (w64 (zX (ZbF .u64 (zF A0_0 (zD (w64 (zS A1 64))) 0) (v64 (zX A1 64))) 2))
theorem Zdn.snd {A0_0:List Int} {A1:Int} {r:Int} (h:Zdn N A0_0 A1=some r):ZdP zB 116 [.agg [zI .u64 4 A0_0],oI A1] (Zdn.rs r):=fun st=>
 sO Zdn.B Tryz.func116 fun g0 w0 R hE=>by
  unfold Zdn at h;refine Zbg h (fun c1 h1=>?_) (fun c1 h2=>?_)
  ·exact xS fol h1 hE [rZ,.r [(3,wF),(4,wF)],cT,rZ] (aK c1 c1 c1 eT)
  refine Zbg h2 (fun c2 h3=>?_) (fun c2 h4=>?_)
  ·exact xS fol h3 hE [rZ,.r [(5,yF)],cT,rZ] (aK c1 c1 c1 c2)
  obtain ⟨c3,c4,c5,h5⟩:=ck3 h4;exact xS fol h5 hE [rZ,.r [(5,yF)],cF,rZ] (aO c1 c1 c1 c2 (neI 64) c3 c4 (aJ (neI 64) c5 (neI 2)))
def ZbH.B:Code:=Tryz.f93.body.getD .skip
def ZbH.rs (r:Bool):List CV:=[oB r]
def ZbH.p1 (N:Nat) (A0_0 A1_0:List Int) (c1_:Int→Option Bool):Int→Option Bool:=fun A1=> if (decide (A1≥0))=true then Zbj (Zdn N A0_0 A1) fun x2=> Zbj (Zdn N A1_0 A1) fun x3=> if (x2 != x3)=true then some (decide (x2<x3)) else c1_ (w64 (A1-1)) else some false
def ZbH (N:Nat) (A0_0 A1_0:List Int):Option Bool:= loopN (ZbH.p1 N A0_0 A1_0) N 255
def ZbH.p1.S (A1:Int) (A0_0 A1_0:List Int) (st:LL):S:=mkS 24 [(2,sA 2),(3,sA 3),(5,sI A1)] [(2,.cells [zI .u64 4 A0_0]),(3,.cells [zI .u64 4 A1_0])] st
theorem ZbH.p1_ok {A1 A0_0 A1_0 st r c1_ J1} (h:ZbH.p1 N A0_0 A1_0 c1_ A1=some r) (hE:En Tryz.f93 g0 w0 (ZbH.rs r) st R) (hc1 : ∀A1,c1_ A1=some r→At g0 w0 (ZbH.p1.S A1 A0_0 A1_0 st) J1):At g0 w0 (ZbH.p1.S A1 A0_0 A1_0 st) (XK zB R (cK ZbH.B [1,0,1,0,0] :: .h J1 :: [.b 0,cK ZbH.B [1,1]])):=by
 unfold ZbH.p1 at h;refine Zbg h (fun c1 h1=>?_) (fun c1 h2=>?_)
 ·obtain ⟨x2,c2,h3⟩:=Zac h1;obtain ⟨x3,c3,h4⟩:=Zac h3;let o1:List PS:=[rZ,cT,.d {ds:=[(2,q1 [oI x2]),(5,q1 [oI x3])],hv:=0,Hs:=[]}]
  have t1 {Q:Prop} (q:Q):=aK c1 (Zdn.snd c2) (Zdn.snd c3) q;refine Zbg h4 (fun c4 h5=>?_) (fun c4 h6=>?_)
  ·exact xSd fol h5 hE (o1++[cT,.d {ds:=[(2,q1 [oI x2]),(5,q1 [oI x3])],hv:=0,Hs:=[]}]) (t1 (aJ c4 (Zdn.snd c2) (Zdn.snd c3)))
  exact Zkb fol (o1++[cF,rZ]) [2,3,5] [2,3] (t1 c4) (hc1 (w64 (A1-1)) h6)
 exact xS fol h2 hE [rZ,cF,rZ] c1
theorem ZbH.snd {A0_0 A1_0:List Int} {r:Bool} (h:ZbH N A0_0 A1_0=some r):ZdP zB 93 [.agg [zI .u64 4 A0_0],.agg [zI .u64 4 A1_0]] (ZbH.rs r):=fun st=>
 sO ZbH.B Tryz.func93 fun g0 w0 R hE=>by
  unfold ZbH at h;exact aq fol [rZ,rZ] [2,3,5] [2,3] trivial (At.loop N (At.loopN (fun y:Int=>ZbH.p1.S y A0_0 A1_0 st) (fun c J hc y h=>ZbH.p1_ok h hE (fun A1=>hc A1)) N 255 h))
def Zdc.B:Code:=Tryz.f75.body.getD .skip
def Zdc.rs (r:(List Int)×Bool):List CV:=[.agg [zI .u64 4 r.1],oB r.2]
def Zdc (N:Nat) (A0 A1:Int):Option ((List Int)×Bool):= Zbj (ZaY N A0) fun (x1,x2,x3)=> Zbj (ZaY N A1) fun (x4,x5,x6)=> if x2=true then some (zC 4 0,false) else if x3=true then some (zC 4 0,false) else if x5=true then some (zC 4 0,false) else if x6=true then some (zC 4 0,false) else if (x1==(zC 4 0))=true then some (zC 4 0,false) else Zbj (ZbH N x4 x1) fun x7=> if x7=true then some (zC 4 0,false) else some (x1,true)
theorem Zdc.snd {A0 A1:Int} {r:(List Int)×Bool} (h:Zdc N A0 A1=some r):ZdP zB 75 [oI A0,oI A1] (Zdc.rs r):=fun st=>
 sO Zdc.B Tryz.func75 fun g0 w0 R hE=>by
  unfold Zdc at h;obtain ⟨⟨x1,x2,x3⟩,c1,h1⟩:=Zac h;obtain ⟨⟨x4,x5,x6⟩,c2,h2⟩:=Zac h1;let o1:List PS:=[rZ,.r [(1,q1 [.agg [zI .u64 4 x1],oB x2,oB x3])],.r [(1,q1 [.agg [zI .u64 4 x4],oB x5,oB x6])]]
  have t1 {Q:Prop} (q:Q):=aJ (ZaY.snd c1) (ZaY.snd c2) q;refine Zbg h2 (fun c3 h3=>?_) (fun c3 h4=>?_)
  ·exact xS fol h3 hE (o1++[.r [(2,wF),(5,wF),(8,wF),(11,wF),(12,wF),(13,wF),(16,wF),(17,wF),(18,wF)],cT,rZ]) (t1 (aO c3 c3 eT eT eT eT eT (aO eT eT eT eT eT eT eT eT)))
  refine Zbg h4 (fun c4 h5=>?_) (fun c4 h6=>?_)
  ·exact xS fol h5 hE (o1++[.r [(3,yF),(5,wF),(8,wF),(11,wF),(12,wF),(13,wF),(16,wF),(17,wF),(18,wF)],cT,rZ]) (t1 (aO c3 c3 c4 c4 eT eT eT (aO eT eT eT eT eT eT eT eT)))
  have t2 {Q:Prop} (q:Q):=t1 (aL c3 c3 c4 c4 q);refine Zbg h6 (fun c5 h7=>?_) (fun c5 h8=>?_)
  ·exact xS fol h7 hE (o1++[.r [(3,yF),(6,yF),(8,wF),(11,wF),(12,wF),(13,wF),(16,wF),(17,wF),(18,wF)],cT,rZ]) (t2 (aO c5 c5 eT eT eT eT eT (aK eT eT eT eT)))
  refine Zbg h8 (fun c6 h9=>?_) (fun c6 h10=>?_)
  ·exact xS fol h9 hE (o1++[.r [(3,yF),(6,yF),(9,yF),(11,wF),(12,wF),(13,wF),(16,wF),(17,wF),(18,wF)],cT,rZ]) (t2 (aO c5 c5 c6 c6 c6 c6 eT (aK eT eT eT eT)))
  have t3 {Q:Prop} (q:Q):=t2 (aN c5 c5 c6 c6 c6 c6 q);refine Zbg h10 (fun c7 h11=>?_) (fun c7 h12=>?_)
  ·exact xS fol h11 hE (o1++[.r [(3,yF),(6,yF),(9,yF),(14,yF),(16,wF),(17,wF),(18,wF)],cT,rZ]) (t3 (aL c7 c7 c7 c7 eT))
  obtain ⟨x7,c8,h13⟩:=Zac h12;let o2:List PS:=o1++[.r [(3,yF),(6,yF),(9,yF),(14,yF),(18,q1 [oB x7]),(19,yF)]]
  refine Zbg h13 (fun c9 h14=>?_) (fun c9 h15=>?_)
  ·exact xS fol h14 hE (o2++[cT,rZ]) (t3 (aM c7 c7 c7 (ZbH.snd c8) c7 c9))
  exact xS fol h15 hE (o2++[cF,rZ]) (t3 (aM c7 c7 c7 (ZbH.snd c8) c7 c9))
def ZdY.B:Code:=Tryz.f52.body.getD .skip
def ZdY.rs (r:Bool):List CV:=[oB r]
def ZdY (N:Nat) (A0:Zae):Option Bool:= Zbj (Zdc N A0.Limit A0.Limit) fun (x1,x2)=> if x2=true then if (decide (A0.Interval≥2))=true then if (decide (A0.Interval≤64))=true then if (decide (A0.Spacing≥1))=true then if (decide (A0.Spacing≤10000))=true then if (decide (A0.Future≥0))=true then some (decide (A0.Future<4294967296)) else some false else some false else some false else some false else some false else some false
theorem ZdY.snd {A0:Zae} {r:Bool} (h:ZdY N A0=some r):ZdP zB 52 [.agg A0.ls] (ZdY.rs r):=fun st=>
 sO ZdY.B Tryz.func52 fun g0 w0 R hE=>by
  unfold ZdY at h;obtain ⟨⟨x1,x2⟩,c1,h1⟩:=Zac h;let o1:List PS:=[rZ,.r [(4,q1 [.agg [zI .u64 4 x1],oB x2])]]
  have t1 {Q:Prop} (q:Q):=aI (Zdc.snd c1) q;refine Zbg h1 (fun c2 h2=>?_) (fun c2 h3=>?_)
  ·have t2 {Q:Prop} (q:Q):=t1 (aL c2 c2 c2 c2 q);refine Zbg h2 (fun c3 h4=>?_) (fun c3 h5=>?_)
   ·have t3 {Q:Prop} (q:Q):=t2 (aL c3 c3 c3 c3 q);refine Zbg h4 (fun c4 h6=>?_) (fun c4 h7=>?_)
    ·have t4 {Q:Prop} (q:Q):=t3 (aL c4 c4 c4 c4 q);refine Zbg h6 (fun c5 h8=>?_) (fun c5 h9=>?_)
     ·refine Zbg h8 (fun c6 h10=>?_) (fun c6 h11=>?_)
      ·refine Zbg h10 (fun c7 h12=>?_) (fun c7 h13=>?_)
       ·exact xS fol h12 hE (o1++[rZ]) (t4 (aO c5 c5 c5 c5 c6 c6 c6 (aL c6 c7 c7 c7 c7)))
       exact xS fol h13 hE (o1++[.r [(27,wF),(28,wF),(29,wF),(30,yF)]]) (t4 (aO c5 c5 c5 c5 c6 c6 c6 (aL c6 c7 c7 c7 c7)))
      exact xS fol h11 hE (o1++[.r [(22,wF),(23,wF),(24,wF),(25,yF),(27,wF),(28,wF),(29,wF),(30,yF)]]) (t4 (aO c5 c5 c5 c5 c6 c6 c6 (aL c6 eF eF eF eF)))
     exact xS fol h9 hE (o1++[.r [(17,wF),(18,wF),(19,wF),(20,yF),(22,wF),(23,wF),(24,wF),(25,yF),(27,wF),(28,wF),(29,wF),(30,yF)]]) (t4 (aO c5 c5 c5 c5 eF eF eF (aL eF eF eF eF eF)))
    exact xS fol h7 hE (o1++[.r [(12,wF),(13,wF),(14,wF),(15,yF),(17,wF),(18,wF),(19,wF),(20,yF),(22,wF),(23,wF),(24,wF),(25,yF),(27,wF),(28,wF),(29,wF),(30,yF)]]) (t3 (aO c4 c4 c4 c4 eF eF eF (aO eF eF eF eF eF eF eF (aI eF eF))))
   exact xS fol h5 hE (o1++[.r [(7,wF),(8,wF),(9,wF),(10,yF),(12,wF),(13,wF),(14,wF),(15,yF),(17,wF),(18,wF),(19,wF),(20,yF),(22,wF),(23,wF),(24,wF),(25,yF),(27,wF),(28,wF),(29,wF),(30,yF)]]) (t2 (aO c3 c3 c3 c3 eF eF eF (aO eF eF eF eF eF eF eF (aM eF eF eF eF eF eF))))
  exact xS fol h3 hE (o1++[.r [(2,wF),(3,wF),(4,wF),(5,yF),(7,wF),(8,wF),(9,wF),(10,yF),(12,wF),(13,wF),(14,wF),(15,yF),(17,wF),(18,wF),(19,wF),(20,yF),(22,wF),(23,wF),(24,wF),(25,yF),(27,wF),(28,wF),(29,wF),(30,yF)]]) (t1 (aO c2 c2 c2 c2 eF eF eF (aO eF eF eF eF eF eF eF (aO eF eF eF eF eF eF eF (aJ eF eF eF)))))
def Zdt.B:Code:=Tryz.f53.body.getD .skip
def Zdt.rs (r:Bool):List CV:=[oB r]
def Zdt (N:Nat) (h_0:Zak):Option Bool:= if (decide (h_0.Version≥(-2147483648)))=true then if (decide (h_0.Version≤2147483647))=true then if (decide (h_0.Time≥0))=true then if (decide (h_0.Time<4294967296))=true then if (decide (h_0.Bits≥0))=true then if (decide (h_0.Bits<4294967296))=true then if (decide (h_0.Nonce≥0))=true then some (decide (h_0.Nonce<4294967296)) else some false else some false else some false else some false else some false else some false else some false
theorem Zdt.snd {h_0:Zak} {r:Bool} (h:Zdt N h_0=some r):ZdP zB 53 [.agg h_0.ls] (Zdt.rs r):=fun st=>
 sO Zdt.B Tryz.func53 fun g0 w0 R hE=>by
  unfold Zdt at h;let o1:List PS:=[rZ,rZ]
  refine Zbg h (fun c1 h1=>?_) (fun c1 h2=>?_)
  ·have t1 {Q:Prop} (q:Q):=aL c1 c1 c1 c1 q;refine Zbg h1 (fun c2 h3=>?_) (fun c2 h4=>?_)
   ·have t2 {Q:Prop} (q:Q):=t1 (aL c2 c2 c2 c2 q);refine Zbg h3 (fun c3 h5=>?_) (fun c3 h6=>?_)
    ·have t3 {Q:Prop} (q:Q):=t2 (aM c3 c3 c3 c3 c3 q);refine Zbg h5 (fun c4 h7=>?_) (fun c4 h8=>?_)
     ·have t4 {Q:Prop} (q:Q):=t3 (aL c4 c4 c4 c4 q);refine Zbg h7 (fun c5 h9=>?_) (fun c5 h10=>?_)
      ·refine Zbg h9 (fun c6 h11=>?_) (fun c6 h12=>?_)
       ·refine Zbg h11 (fun c7 h13=>?_) (fun c7 h14=>?_)
        ·exact xS fol h13 hE (o1++[rZ]) (t4 (aO c5 c5 c5 c5 c5 c6 c6 (aN c6 c6 c7 c7 c7 c7 c7)))
        exact xS fol h14 hE (o1++[.r [(36,wF),(37,wF),(38,wF),(39,wF),(40,yF)]]) (t4 (aO c5 c5 c5 c5 c5 c6 c6 (aN c6 c6 c7 c7 c7 c7 c7)))
       exact xS fol h12 hE (o1++[.r [(31,wF),(32,wF),(33,wF),(34,yF),(36,wF),(37,wF),(38,wF),(39,wF),(40,yF)]]) (t4 (aO c5 c5 c5 c5 c5 c6 c6 (aN c6 c6 eF eF eF eF eF)))
      exact xS fol h10 hE (o1++[.r [(25,wF),(26,wF),(27,wF),(28,wF),(29,yF),(31,wF),(32,wF),(33,wF),(34,yF),(36,wF),(37,wF),(38,wF),(39,wF),(40,yF)]]) (t4 (aO c5 c5 c5 c5 c5 eF eF (aN eF eF eF eF eF eF eF)))
     exact xS fol h8 hE (o1++[.r [(20,wF),(21,wF),(22,wF),(23,yF),(25,wF),(26,wF),(27,wF),(28,wF),(29,yF),(31,wF),(32,wF),(33,wF),(34,yF),(36,wF),(37,wF),(38,wF),(39,wF),(40,yF)]]) (t3 (aO c4 c4 c4 c4 eF eF eF (aO eF eF eF eF eF eF eF (aK eF eF eF eF))))
    exact xS fol h6 hE (o1++[.r [(14,wF),(15,wF),(16,wF),(17,wF),(18,yF),(20,wF),(21,wF),(22,wF),(23,yF),(25,wF),(26,wF),(27,wF),(28,wF),(29,yF),(31,wF),(32,wF),(33,wF),(34,yF),(36,wF),(37,wF),(38,wF),(39,wF),(40,yF)]]) (t2 (aO c3 c3 c3 c3 c3 eF eF (aO eF eF eF eF eF eF eF (aO eF eF eF eF eF eF eF (aI eF eF)))))
   exact xS fol h4 hE (o1++[.r [(9,wF),(10,wF),(11,wF),(12,yF),(14,wF),(15,wF),(16,wF),(17,wF),(18,yF),(20,wF),(21,wF),(22,wF),(23,yF),(25,wF),(26,wF),(27,wF),(28,wF),(29,yF),(31,wF),(32,wF),(33,wF),(34,yF),(36,wF),(37,wF),(38,wF),(39,wF),(40,yF)]]) (t1 (aO c2 c2 c2 c2 eF eF eF (aO eF eF eF eF eF eF eF (aO eF eF eF eF eF eF eF (aM eF eF eF eF eF eF)))))
  exact xS fol h2 hE (o1++[.r [(4,wF),(5,wF),(6,wF),(7,yF),(9,wF),(10,wF),(11,wF),(12,yF),(14,wF),(15,wF),(16,wF),(17,wF),(18,yF),(20,wF),(21,wF),(22,wF),(23,yF),(25,wF),(26,wF),(27,wF),(28,wF),(29,yF),(31,wF),(32,wF),(33,wF),(34,yF),(36,wF),(37,wF),(38,wF),(39,wF),(40,yF)]]) (aO c1 c1 c1 c1 eF eF eF (aO eF eF eF eF eF eF eF (aO eF eF eF eF eF eF eF (aO eF eF eF eF eF eF eF (aJ eF eF eF)))))
def ZbC.B:Code:=Tryz.f29.body.getD .skip
def ZbC.rs (r:Bool):List CV:=[oB r]
def ZbC.p2 (N:Nat) (A0:Zae) (c2_:(Int×Int)→Option Bool):(Int×Int)→Option Bool:=fun (A6,v7)=> if (decide (v7<(len A0.Checks)))=true then chk (0≤v7)<| ZcS (A0.Checks[zD v7]?) ZeN fun x8=> if (decide (x8.Height≤A6))=true then some false else c2_ (x8.Height,w64 (v7+1)) else some true
def ZbC.p1 (N:Nat) (A0:Zae) (c1_:(Int×Int)→Option Bool):(Int×Int)→Option Bool:=fun (A3,v4)=> if (decide (v4<(len A0.Gates)))=true then chk (0≤v4)<| ZcS (A0.Gates[zD v4]?) ZeZ fun x5=> if (decide (x5.Height≤A3))=true then some false else c1_ (x5.Height,w64 (v4+1)) else loopN (ZbC.p2 N A0) N (0,0)
def ZbC (N:Nat) (A0:Zae):Option Bool:= Zbj (ZdY N A0) fun x1=> if (!x1)=true then some false else Zbj (Zdt N A0.Genesis) fun x2=> if (!x2)=true then some false else loopN (ZbC.p1 N A0) N ((-1),0)
def ZbC.p2.S (A6:Int) (A0:Zae) (v7:Int) (st:LL):S:=mkS 45 [(3,sI A6),(32,sV 33 A0.Checks),(33,sI (len A0.Checks)),(34,sI v7)] [] st
def ZbC.p1.S (A3:Int) (A0:Zae) (v4:Int) (st:LL):S:=mkS 45 [(1,sA 1),(3,sI A3),(18,sV 2 A0.Gates),(19,sI (len A0.Gates)),(20,sI v4)] [(1,.cells A0.ls)] st
theorem ZbC.p2_ok {A6 A0 v7 st r c2_ J2} (h:ZbC.p2 N A0 c2_ (A6,v7)=some r) (hE:En Tryz.f29 g0 w0 (ZbC.rs r) st R) (hc2 : ∀A6 v7,c2_ (A6,v7)=some r→At g0 w0 (ZbC.p2.S A6 A0 v7 st) J2):At g0 w0 (ZbC.p2.S A6 A0 v7 st) (XK zB R (cK ZbC.B [1,1,1,1,1,0,1,0,0] :: .h J2 :: [.b 2,cK ZbC.B [1,1,1,1,1,1]])):=by
 unfold ZbC.p2 at h;refine Zbg h (fun c9 h1=>?_) (fun c9 h2=>?_)
 ·obtain ⟨c10,h3⟩:=Zbh h1;obtain ⟨x8,c11,h4⟩:=ZeW h3;let o1:List PS:=[rZ,cT,.r [(1,{oe:=x8.ls})],rZ]
  refine Zbg h4 (fun c12 h5=>?_) (fun c12 h6=>?_)
  ·exact xS fol h5 hE (o1++[cT,rZ]) (aL c9 c10 (oD c9) c11 c12)
  exact an fol (o1++[cF,rZ,rZ]) [3,32,33,34] [] (aL c9 c10 (oD c9) c11 c12) (hc2 x8.Height (w64 (v7+1)) h6)
 exact xS fol h2 hE [rZ,cF,rZ] c9
theorem ZbC.p1_ok {A3 A0 v4 st r c1_ J1} (h:ZbC.p1 N A0 c1_ (A3,v4)=some r) (hE:En Tryz.f29 g0 w0 (ZbC.rs r) st R) (hc1 : ∀A3 v4,c1_ (A3,v4)=some r→At g0 w0 (ZbC.p1.S A3 A0 v4 st) J1):At g0 w0 (ZbC.p1.S A3 A0 v4 st) (XK zB R (cK ZbC.B [1,1,1,0,1,0,0] :: .h J1 :: [.b 0,cK ZbC.B [1,1,1,1]])):=by
 unfold ZbC.p1 at h;refine Zbg h (fun c5 h7=>?_) (fun c5 h8=>?_)
 ·obtain ⟨c6,h9⟩:=Zbh h7;obtain ⟨x5,c7,h10⟩:=Zff h9;let o2:List PS:=[rZ,cT,.r [(1,{oe:=x5.ls})],rZ]
  refine Zbg h10 (fun c8 h11=>?_) (fun c8 h12=>?_)
  ·exact xS fol h11 hE (o2++[cT,rZ]) (aL c5 c6 (oD c5) c7 c8)
  exact an fol (o2++[cF,rZ,rZ]) [1,3,18,19,20] [1] (aL c5 c6 (oD c5) c7 c8) (hc1 x5.Height (w64 (v4+1)) h12)
 exact aq fol [rZ,cF,rZ,rZ] [3,32,33,34] [] c5 (At.loop N (At.loopN (fun y:Int×Int=>ZbC.p2.S y.1 A0 y.2 st) (fun c J hc y h=>ZbC.p2_ok (A6:=y.1) (v7:=y.2) h hE (fun A6 v7=>hc (A6,v7))) N (0,0) h8))
theorem ZbC.snd {A0:Zae} {r:Bool} (h:ZbC N A0=some r):ZdP zB 29 [.agg A0.ls] (ZbC.rs r):=fun st=>
 sO ZbC.B Tryz.func29 fun g0 w0 R hE=>by
  unfold ZbC at h;obtain ⟨x1,c1,h13⟩:=Zac h;have t1 {Q:Prop} (q:Q):=aI (ZdY.snd c1) q;refine Zbg h13 (fun c2 h14=>?_) (fun c2 h15=>?_)
  ·exact xS fol h14 hE [rZ,.r [(1,q1 [oB x1]),(4,wF),(5,wF),(6,wF),(7,wF)],cT,rZ] (t1 (aM (not_false (ZbR c2)) (not_false (ZbR c2)) (not_false (ZbR c2)) (not_false (ZbR c2)) (not_false (ZbR c2)) eT))
  obtain ⟨x2,c3,h16⟩:=Zac h15;let o3:List PS:=[rZ,.r [(1,q1 [oB x1]),(6,q1 [oB x2]),(8,yF)]]
  have t2 {Q:Prop} (q:Q):=t1 (aN (not_true (ZbS c2)) (not_true (ZbS c2)) (not_true (ZbS c2)) (Zdt.snd c3) (not_true (ZbS c2)) (not_true (ZbS c2)) q);refine Zbg h16 (fun c4 h17=>?_) (fun c4 h18=>?_)
  ·exact xS fol h17 hE (o3++[cT,rZ]) (t2 c4)
  exact aq fol (o3++[cF,rZ,rZ]) [1,3,18,19,20] [1] (t2 c4) (At.loop N (At.loopN (fun y:Int×Int=>ZbC.p1.S y.1 A0 y.2 st) (fun c J hc y h=>ZbC.p1_ok (A3:=y.1) (v4:=y.2) h hE (fun A3 v4=>hc (A3,v4))) N ((-1),0) h18))
def Zcr.B:Code:=Tryz.f10.body.getD .skip
def Zcr.rs (r:Bool):List CV:=[oB r]
def Zcr.p1 (N:Nat) (A1:LL) (A0:Zae) (c1_:Int→Option Bool):Int→Option Bool:=fun v1=> if (decide (v1<(len A1)))=true then chk (0≤v1)<| ZcS (A1[zD v1]?) ZdQ fun x2=> if (decide (x2.Now<0))=true then some true else c1_ (w64 (v1+1)) else if (decide ((len A0.Gates)>20))=true then some true else if (decide ((len A0.Checks)>20))=true then some true else if (decide ((len A1)>40))=true then some true else Zbj (ZbC N A0) fun x3=> some (!x3)
def Zcr (N:Nat) (A0:Zae) (A1:LL):Option Bool:= loopN (Zcr.p1 N A1 A0) N 0
def Zcr.p1.S (A1:LL) (v1:Int) (A0:Zae) (st:LL):S:=mkS 37 [(1,sV 72 A1),(2,sA 2),(7,sV 72 A1),(8,sI (len A1)),(9,sI v1)] [(2,.cells A0.ls)] st
theorem Zcr.p1_ok {A1 v1 A0 st r c1_ J1} (h:Zcr.p1 N A1 A0 c1_ v1=some r) (hE:En Tryz.f10 g0 w0 (Zcr.rs r) st R) (hc1 : ∀v1,c1_ v1=some r→At g0 w0 (Zcr.p1.S A1 v1 A0 st) J1):At g0 w0 (Zcr.p1.S A1 v1 A0 st) (XK zB R (cK Zcr.B [1,0,1,0,0] :: .h J1 :: [.b 0,cK Zcr.B [1,1]])):=by
 unfold Zcr.p1 at h;refine Zbg h (fun c1 h1=>?_) (fun c1 h2=>?_)
 ·obtain ⟨c2,h3⟩:=Zbh h1;obtain ⟨x2,c3,h4⟩:=ZfI h3;let o1:List PS:=[rZ,cT,.r [(1,{oe:=x2.ls})],rZ]
  refine Zbg h4 (fun c4 h5=>?_) (fun c4 h6=>?_)
  ·exact xS fol h5 hE (o1++[cT,rZ]) (aL c1 c2 (oD c1) c3 c4)
  exact an fol (o1++[cF,rZ]) [1,2,7,8,9] [2] (aL c1 c2 (oD c1) c3 c4) (hc1 (w64 (v1+1)) h6)
 let o2:List PS:=[rZ,cF]
 refine Zbg h2 (fun c5 h7=>?_) (fun c5 h8=>?_)
 ·exact xS fol h7 hE (o2++[.r [(5,wF),(6,wF),(7,wF),(8,wF),(11,wF),(12,wF),(13,wF),(16,wF),(17,wF),(18,wF)]]) (aO c1 c5 c5 c5 c5 c5 eT (aN eT eT eT eT eT eT eT))
 have t1 {Q:Prop} (q:Q):=aN c1 c5 c5 c5 c5 c5 q;refine Zbg h8 (fun c6 h9=>?_) (fun c6 h10=>?_)
 ·exact xS fol h9 hE (o2++[.r [(9,yF),(11,wF),(12,wF),(13,wF),(16,wF),(17,wF),(18,wF)]]) (t1 (aO c6 c6 c6 c6 eT eT eT eT))
 refine Zbg h10 (fun c7 h11=>?_) (fun c7 h12=>?_)
 ·exact xS fol h11 hE (o2++[.r [(9,yF),(14,yF),(16,wF),(17,wF),(18,wF)]]) (t1 (aO c6 c6 c6 c6 c7 c7 c7 c7))
 obtain ⟨x3,c8,h13⟩:=Zac h12;exact xS fol h13 hE (o2++[.r [(9,yF),(14,yF),(17,q1 [oB x3]),(19,yF)]]) (t1 (aO c6 c6 c6 c6 c7 c7 (ZbC.snd c8) (aI c7 c7)))
theorem Zcr.snd {A0:Zae} {A1:LL} {r:Bool} (h:Zcr N A0 A1=some r):ZdP zB 10 [.agg A0.ls,.one (vW 72 A1)] (Zcr.rs r):=fun st=>
 sO Zcr.B Tryz.func10 fun g0 w0 R hE=>by
  unfold Zcr at h;exact aq fol [rZ,rZ] [1,2,7,8,9] [2] trivial (At.loop N (At.loopN (fun y:Int=>Zcr.p1.S A1 y A0 st) (fun c J hc y h=>Zcr.p1_ok h hE (fun v1=>hc v1)) N 0 h))
def ZbG.B:Code:=Tryz.f98.body.getD .skip
def ZbG.rs (r:ByteArray):List CV:=[.one (vN r)]
def ZbG.p1 (N:Nat) (A0:Int) (c1_:(Int×ByteArray×Int)→Option ByteArray):(Int×ByteArray×Int)→Option ByteArray:=fun (A1,A3,A2)=> if (decide (A2<(if (8:Int)<(if (1:Int)>A0 then 1 else A0) then 8 else (if (1:Int)>A0 then 1 else A0))))=true then chk (isB [[zK .u8 (v8 (zX A1 256))]]=true)<| chk (zZ A3+zZ (ZkZ (vK ZfX [[zK .u8 (v8 (zX A1 256))]]))≤9223372036854775807)<| c1_ (v64 (zS A1 256),A3++(ZkZ (vK ZfX [[zK .u8 (v8 (zX A1 256))]])),w64 (A2+1)) else some A3
def ZbG (N:Nat) (A0 F1:Int):Option ByteArray:= loopN (ZbG.p1 N A0) N (v64 (F1),(wG #[]),0)
def ZbG.p1.S (A0 A1:Int) (A3:ByteArray) (A2:Int) (st:LL):S:=mkS 27 [(0,sI A0),(5,.one (.l (zK .u64 A1))),(6,.one (.l (vN A3))),(7,sI A2)] [] st
theorem ZbG.p1_ok {A0 A1 A3 A2 st r c1_ J1} (h:ZbG.p1 N A0 c1_ (A1,A3,A2)=some r) (hE:En Tryz.f98 g0 w0 (ZbG.rs r) st R) (hc1 : ∀A1 A3 A2,c1_ (A1,A3,A2)=some r→At g0 w0 (ZbG.p1.S A0 A1 A3 A2 st) J1):At g0 w0 (ZbG.p1.S A0 A1 A3 A2 st) (XK zB R (cK ZbG.B [1,1,1,0,1,0,0] :: .h J1 :: [.b 0,cK ZbG.B [1,1,1,1]])):=by
 unfold ZbG.p1 at h;refine Zbg h (fun c4 h1=>?_) (fun c4 h2=>?_)
 ·obtain ⟨c5,c6,h3⟩:=ck2 h1;exact an fol [rZ,cT,rZ,rZ,rZ] [0,5,6,7] [] (aN c4 (neI 256) z0 (eN (1)) c5 c6 (neI 256)) (hc1 (v64 (zS A1 256)) (A3++(ZkZ (vK ZfX [[zK .u8 (v8 (zX A1 256))]]))) (w64 (A2+1)) h3)
 exact xS fol h2 hE [rZ,cF,rZ] c4
theorem ZbG.snd {A0 F1:Int} {r:ByteArray} (h:ZbG N A0 F1=some r):ZdP zB 98 [oI A0,oI F1] (ZbG.rs r):=fun st=>
 sO ZbG.B Tryz.func98 fun g0 w0 R hE=>by
  unfold ZbG at h;exact aq fol [rZ,rZ,rZ,rZ] [0,5,6,7] [] trivial (At.loop N (At.loopN (fun y:Int×ByteArray×Int=>ZbG.p1.S A0 y.1 y.2.1 y.2.2 st) (fun c J hc y h=>ZbG.p1_ok (A1:=y.1) (A3:=y.2.1) (A2:=y.2.2) h hE (fun A1 A3 A2=>hc (A1,A3,A2))) N (v64 (F1),(wG #[]),0) h))
def ZcG.B:Code:=Tryz.f99.body.getD .skip
def ZcG.rs (r:ByteArray):List CV:=[.one (vN r)]
def ZcG.p1 (N:Nat) (A0_0:List Int) (c1_:(ByteArray×Int)→Option ByteArray):(ByteArray×Int)→Option ByteArray:=fun (A2,A1)=> if (decide (A1<32))=true then chk (0≤A1)<| chk (isB [[zK .u8 (zF A0_0 (zD A1) 0)]]=true)<| chk (zZ A2+zZ (ZkZ (vK ZfX [[zK .u8 (zF A0_0 (zD A1) 0)]]))≤9223372036854775807)<| c1_ (A2++(ZkZ (vK ZfX [[zK .u8 (zF A0_0 (zD A1) 0)]])),w64 (A1+1)) else some A2
def ZcG (N:Nat) (A0_0:List Int):Option ByteArray:= loopN (ZcG.p1 N A0_0) N ((wG #[]),0)
def ZcG.p1.S (A2:ByteArray) (A1:Int) (A0_0:List Int) (st:LL):S:=mkS 17 [(1,sA 1),(3,.one (.l (vN A2))),(4,sI A1)] [(1,.cells [zI .u8 32 A0_0])] st
theorem ZcG.p1_ok {A2 A1 A0_0 st r c1_ J1} (h:ZcG.p1 N A0_0 c1_ (A2,A1)=some r) (hE:En Tryz.f99 g0 w0 (ZcG.rs r) st R) (hc1 : ∀A2 A1,c1_ (A2,A1)=some r→At g0 w0 (ZcG.p1.S A2 A1 A0_0 st) J1):At g0 w0 (ZcG.p1.S A2 A1 A0_0 st) (XK zB R (cK ZcG.B [1,1,0,1,0,0] :: .h J1 :: [.b 0,cK ZcG.B [1,1,1]])):=by
 unfold ZcG.p1 at h;refine Zbg h (fun c5 h1=>?_) (fun c5 h2=>?_)
 ·obtain ⟨c6,c7,c8,h3⟩:=ck3 h1;exact an fol [rZ,cT,rZ,rZ] [1,3,4] [1] (aN c5 c6 (oD c5) z0 (eN (1)) c7 c8) (hc1 (A2++(ZkZ (vK ZfX [[zK .u8 (zF A0_0 (zD A1) 0)]]))) (w64 (A1+1)) h3)
 exact xS fol h2 hE [rZ,cF,rZ] c5
theorem ZcG.snd {A0_0:List Int} {r:ByteArray} (h:ZcG N A0_0=some r):ZdP zB 99 [.agg [zI .u8 32 A0_0]] (ZcG.rs r):=fun st=>
 sO ZcG.B Tryz.func99 fun g0 w0 R hE=>by
  unfold ZcG at h;exact aq fol [rZ,rZ,rZ] [1,3,4] [1] trivial (At.loop N (At.loopN (fun y:ByteArray×Int=>ZcG.p1.S y.1 y.2 A0_0 st) (fun c J hc y h=>ZcG.p1_ok (A2:=y.1) (A1:=y.2) h hE (fun A2 A1=>hc (A2,A1))) N ((wG #[]),0) h))
def Zed.B:Code:=Tryz.f77.body.getD .skip
def Zed.rs (r:ByteArray):List CV:=[.one (vN r)]
def Zed (N:Nat) (h_0:Zak):Option ByteArray:= Zbj (ZbG N 4 h_0.Version) fun x1=> Zbj (ZcG N h_0.Prev) fun x2=> chk (zZ x1+zZ x2≤9223372036854775807)<| Zbj (ZcG N h_0.Root) fun x3=> chk (zZ (x1++x2)+zZ x3≤9223372036854775807)<| Zbj (ZbG N 4 h_0.Time) fun x4=> chk (zZ ((x1++x2)++x3)+zZ x4≤9223372036854775807)<| Zbj (ZbG N 4 h_0.Bits) fun x5=> chk (zZ (((x1++x2)++x3)++x4)+zZ x5≤9223372036854775807)<| Zbj (ZbG N 4 h_0.Nonce) fun x6=> chk (zZ ((((x1++x2)++x3)++x4)++x5)+zZ x6≤9223372036854775807)<| some (((((x1++x2)++x3)++x4)++x5)++x6)
theorem Zed.snd {h_0:Zak} {r:ByteArray} (h:Zed N h_0=some r):ZdP zB 77 [.agg h_0.ls] (Zed.rs r):=fun st=>
 sO Zed.B Tryz.func77 fun g0 w0 R hE=>by
  unfold Zed at h;obtain ⟨x1,c1,h1⟩:=Zac h;obtain ⟨x2,c2,h2⟩:=Zac h1;obtain ⟨c3,h3⟩:=Zbh h2;obtain ⟨x3,c4,h4⟩:=Zac h3;obtain ⟨c5,h5⟩:=Zbh h4;obtain ⟨x4,c6,h6⟩:=Zac h5;obtain ⟨c7,h7⟩:=Zbh h6;obtain ⟨x5,c8,h8⟩:=Zac h7;obtain ⟨c9,h9⟩:=Zbh h8;obtain ⟨x6,c10,h10⟩:=Zac h9;obtain ⟨c11,h11⟩:=Zbh h10;exact xSd fol h11 hE [rZ,.d {ds:=[(2,q1 [.one (vN x1)]),(5,q1 [.one (vN x2)]),(9,q1 [.one (vN x3)])],hv:=0,Hs:=[]},.d {ds:=[(3,q1 [.one (vN x4)]),(7,q1 [.one (vN x5)]),(11,q1 [.one (vN x6)])],hv:=0,Hs:=[]}] (aO (ZbG.snd c1) (ZcG.snd c2) c3 (ZcG.snd c4) c5 (ZbG.snd c6) c7 (aK (ZbG.snd c8) c9 (ZbG.snd c10) c11))
def Zbp.B:Code:=Tryz.f126.body.getD .skip
def Zbp.rs (r:ByteArray):List CV:=[.one (vN r)]
def Zbp.p2 (N:Nat) (A4:ByteArray) (c2_:(Int×ByteArray×Int)→Option ByteArray):(Int×ByteArray×Int)→Option ByteArray:=fun (A5,A7,A6)=> if (decide (A6<8))=true then chk (isB [[zK .u8 (v8 (zX A5 256))]]=true)<| chk (zZ (ZkZ (vK ZfX [[zK .u8 (v8 (zX A5 256))]]))+zZ A7≤9223372036854775807)<| c2_ (w64 (zS A5 256),(ZkZ (vK ZfX [[zK .u8 (v8 (zX A5 256))]]))++A7,w64 (A6+1)) else chk (zZ A4+zZ A7≤9223372036854775807)<| some (A4++A7)
def Zbp.p1 (N:Nat) (A0:ByteArray) (c1_:ByteArray→Option ByteArray):ByteArray→Option ByteArray:=fun A4=> if ((zX ((zZ A4:Nat):Int) 64) != 56)=true then chk (zZ A4+zZ (wG #[0])≤9223372036854775807)<| c1_ (A4++(wG #[0])) else loopN (Zbp.p2 N A4) N (w64 (8*((zZ A0:Nat):Int)),(wG #[]),0)
def Zbp (N:Nat) (A0:ByteArray):Option ByteArray:= chk (zZ A0+zZ (wG #[128])≤9223372036854775807)<| loopN (Zbp.p1 N A0) N (A0++(wG #[128]))
def Zbp.p2.S (A4:ByteArray) (A5:Int) (A7:ByteArray) (A6:Int) (st:LL):S:=mkS 34 [(0,.one (.l (vN A4))),(3,sI A5),(4,.one (.l (vN A7))),(5,sI A6)] [] st
def Zbp.p1.S (A4 A0:ByteArray) (st:LL):S:=mkS 34 [(0,.one (.l (vN A4))),(3,sI ((zZ A0:Nat):Int))] [] st
theorem Zbp.p2_ok {A4 A5 A7 A6 st r c2_ J2} (h:Zbp.p2 N A4 c2_ (A5,A7,A6)=some r) (hE:En Tryz.f126 g0 w0 (Zbp.rs r) st R) (hc2 : ∀A5 A7 A6,c2_ (A5,A7,A6)=some r→At g0 w0 (Zbp.p2.S A4 A5 A7 A6 st) J2):At g0 w0 (Zbp.p2.S A4 A5 A7 A6 st) (XK zB R (cK Zbp.B [1,1,1,1,1,1,0,1,0,0] :: .h J2 :: [.b 2,cK Zbp.B [1,1,1,1,1,1,1]])):=by
 unfold Zbp.p2 at h;refine Zbg h (fun c18 h1=>?_) (fun c18 h2=>?_)
 ·obtain ⟨c19,c20,h3⟩:=ck2 h1;exact an fol [rZ,cT,rZ,rZ,rZ] [0,3,4,5] [] (aN c18 (neI 256) z0 (eN (1)) c19 c20 (neI 256)) (hc2 (w64 (zS A5 256)) ((ZkZ (vK ZfX [[zK .u8 (v8 (zX A5 256))]]))++A7) (w64 (A6+1)) h3)
 obtain ⟨c21,h4⟩:=Zbh h2;exact xS fol h4 hE [rZ,cF,rZ] (aI c18 c21)
theorem Zbp.p1_ok {A4 A0 st r c1_ J1} (h:Zbp.p1 N A0 c1_ A4=some r) (hE:En Tryz.f126 g0 w0 (Zbp.rs r) st R) (hc1 : ∀A4,c1_ A4=some r→At g0 w0 (Zbp.p1.S A4 A0 st) J1):At g0 w0 (Zbp.p1.S A4 A0 st) (XK zB R (cK Zbp.B [1,1,1,0,0,0] :: .h J1 :: [.b 0,cK Zbp.B [1,1,1,1]])):=by
 unfold Zbp.p1 at h;refine Zbg h (fun c12 h5=>?_) (fun c12 h6=>?_)
 ·obtain ⟨c13,h7⟩:=Zbh h5;exact an fol [rZ,cT,rZ] [0,3] [] (aJ (neI 64) c12 c13) (hc1 (A4++(wG #[0])) h7)
 exact aq fol [rZ,cF,rZ,rZ,rZ] [0,3,4,5] [] (aI (neI 64) c12) (At.loop N (At.loopN (fun y:Int×ByteArray×Int=>Zbp.p2.S A4 y.1 y.2.1 y.2.2 st) (fun c J hc y h=>Zbp.p2_ok (A5:=y.1) (A7:=y.2.1) (A6:=y.2.2) h hE (fun A5 A7 A6=>hc (A5,A7,A6))) N (w64 (8*((zZ A0:Nat):Int)),(wG #[]),0) h6))
theorem Zbp.snd {A0:ByteArray} {r:ByteArray} (h:Zbp N A0=some r):ZdP zB 126 [.one (vN A0)] (Zbp.rs r):=fun st=>
 sO Zbp.B Tryz.func126 fun g0 w0 R hE=>by
  unfold Zbp at h;obtain ⟨c1,h8⟩:=Zbh h;exact aq fol [rZ,rZ,rZ] [0,3] [] c1 (At.loop N (At.loopN (fun y:ByteArray=>Zbp.p1.S y A0 st) (fun c J hc y h=>Zbp.p1_ok h hE (fun A4=>hc A4)) N (A0++(wG #[128])) h8))
def Zbw.B:Code:=Tryz.f127.body.getD .skip
def Zbw.rs (r:Int):List CV:=[.one (zK .u32 r)]
def Zbw (N:Nat) (A0 F1:Int):Option Int:= chk (0≤F1)<| chk (0≤(v64 (32-F1)))<| some (v32 ((ZbF .u32 A0 F1)+(ZbV .u32 A0 (v64 (32-F1)))))
theorem Zbw.snd {A0 F1:Int} {r:Int} (h:Zbw N A0 F1=some r):ZdP zB 127 [.one (zK .u32 A0),.one (zK .u64 F1)] (Zbw.rs r):=fun st=>
 sO Zbw.B Tryz.func127 fun g0 w0 R hE=>by
  unfold Zbw at h;obtain ⟨c1,c2,h1⟩:=ck2 h;exact xS fol h1 hE [rZ,rZ] (aI c1 c2)
def Zga.B:Code:=Tryz.f128.body.getD .skip
def Zga.rs (r:Int):List CV:=[.one (zK .u32 r)]
def Zga (N:Nat) (A0:Int):Option Int:= chk (0≤A0)<| chk (A0<64)<| some (zF [1116352408,1899447441,3049323471,3921009573,961987163,1508970993,2453635748,2870763221,3624381080,310598401,607225278,1426881987,1925078388,2162078206,2614888103,3248222580,3835390401,4022224774,264347078,604807628,770255983,1249150122,1555081692,1996064986,2554220882,2821834349,2952996808,3210313671,3336571891,3584528711,113926993,338241895,666307205,773529912,1294757372,1396182291,1695183700,1986661051,2177026350,2456956037,2730485921,2820302411,3259730800,3345764771,3516065817,3600352804,4094571909,275423344,430227734,506948616,659060556,883997877,958139571,1322822218,1537002063,1747873779,1955562222,2024104815,2227730452,2361852424,2428436474,2756734187,3204031479,3329325298] (zD A0) 0)
theorem Zga.snd {A0:Int} {r:Int} (h:Zga N A0=some r):ZdP zB 128 [oI A0] (Zga.rs r):=fun st=>
 sO Zga.B Tryz.func128 fun g0 w0 R hE=>by
  unfold Zga at h;obtain ⟨c1,c2,h1⟩:=ck2 h;exact xS fol h1 hE [rZ,.r [(0,{m:=3})]] (aI c1 c2)
def Zat.B:Code:=Tryz.f97.body.getD .skip
def Zat.rs (r:(List Int)):List CV:=[.agg [zI .u8 32 r]]
def Zat.p3 (N:Nat) (c2_:(Int×(List Int))→Option (List Int)) (c1_:(Int×(List Int))→Option (List Int)) (x1:ByteArray) (A2 A112:Int) (A111:List Int) (c3_:(Int×(List Int))→Option (List Int)):(Int×(List Int))→Option (List Int):=fun (A166,A167)=> if (decide (A166<4))=true then chk (0≤A112)<| chk (A112<64)<| chk (0≤(w64 ((w64 (A2+(w64 (4*A112))))+A166)))<| chk ((w64 ((w64 (A2+(w64 (4*A112))))+A166))<((zZ x1:Nat):Int))<| c3_ (w64 (A166+1),zN A167 (zD A112) (v32 ((v32 ((zF A167 (zD A112) 0)*256))+(v32 (((UInt8.toNat (zF (rR (rA x1)) (zD (w64 ((w64 (A2+(w64 (4*A112))))+A166))) 0):Nat):Int)))))) else c2_ (w64 (A112+1),A167)
def Zat.p6 (N:Nat) (c1_:(Int×(List Int))→Option (List Int)) (x1:ByteArray) (A2:Int) (A208:List Int) (c6_:(Int×(List Int))→Option (List Int)):(Int×(List Int))→Option (List Int):=fun (A216,A217)=> if (decide (A216<8))=true then chk (0≤A216)<| c6_ (w64 (A216+1),zN A217 (zD A216) (v32 ((zF A217 (zD A216) 0)+(zF A208 (zD A216) 0)))) else c1_ (w64 (A2+64),A217)
def Zat.p5 (N:Nat) (c1_:(Int×(List Int))→Option (List Int)) (x1:ByteArray) (A2:Int) (A111 A193:List Int) (c5_:(Int×(List Int))→Option (List Int)):(Int×(List Int))→Option (List Int):=fun (A198,A208)=> if (decide (A198<64))=true then Zbj (Zbw N (zF A208 4 0) 6) fun x209=> Zbj (Zbw N (zF A208 4 0) 11) fun x210=> Zbj (Zbw N (zF A208 4 0) 25) fun x211=> Zbj (Zga N A198) fun x212=> chk (0≤A198)<| Zbj (Zbw N (zF A208 0 0) 2) fun x213=> Zbj (Zbw N (zF A208 0 0) 13) fun x214=> Zbj (Zbw N (zF A208 0 0) 22) fun x215=> c5_ (w64 (A198+1),[v32 ((v32 ((v32 ((v32 ((v32 ((zF A208 7 0)+(ZaH .xor .u32 (ZaH .xor .u32 x209 x210) x211)))+(ZaH .or .u32 (ZaH .and .u32 (zF A208 4 0) (zF A208 5 0)) (ZaH .and .u32 (v32 (4294967295-(zF A208 4 0))) (zF A208 6 0)))))+x212))+(zF A193 (zD A198) 0)))+(v32 ((ZaH .xor .u32 (ZaH .xor .u32 x213 x214) x215)+(ZaH .or .u32 (ZaH .or .u32 (ZaH .and .u32 (zF A208 0 0) (zF A208 1 0)) (ZaH .and .u32 (zF A208 0 0) (zF A208 2 0))) (ZaH .and .u32 (zF A208 1 0) (zF A208 2 0)))))),zF A208 0 0,zF A208 1 0,zF A208 2 0,v32 ((zF A208 3 0)+(v32 ((v32 ((v32 ((v32 ((zF A208 7 0)+(ZaH .xor .u32 (ZaH .xor .u32 x209 x210) x211)))+(ZaH .or .u32 (ZaH .and .u32 (zF A208 4 0) (zF A208 5 0)) (ZaH .and .u32 (v32 (4294967295-(zF A208 4 0))) (zF A208 6 0)))))+x212))+(zF A193 (zD A198) 0)))),zF A208 4 0,zF A208 5 0,zF A208 6 0]) else loopN (Zat.p6 N c1_ x1 A2 A208) N (0,A111)
def Zat.p4 (N:Nat) (c1_:(Int×(List Int))→Option (List Int)) (x1:ByteArray) (A2:Int) (A111:List Int) (c4_:(Int×(List Int))→Option (List Int)):(Int×(List Int))→Option (List Int):=fun (A168,A193)=> if (decide (A168<64))=true then chk (0≤(w64 (A168-15)))<| chk ((w64 (A168-15))<64)<| Zbj (Zbw N (zF A193 (zD (w64 (A168-15))) 0) 7) fun x194=> Zbj (Zbw N (zF A193 (zD (w64 (A168-15))) 0) 18) fun x195=> chk (0≤(w64 (A168-2)))<| chk ((w64 (A168-2))<64)<| Zbj (Zbw N (zF A193 (zD (w64 (A168-2))) 0) 17) fun x196=> Zbj (Zbw N (zF A193 (zD (w64 (A168-2))) 0) 19) fun x197=> chk (0≤(w64 (A168-16)))<| chk ((w64 (A168-16))<64)<| chk (0≤(w64 (A168-7)))<| chk ((w64 (A168-7))<64)<| chk (0≤A168)<| c4_ (w64 (A168+1),zN A193 (zD A168) (v32 ((v32 ((v32 ((zF A193 (zD (w64 (A168-16))) 0)+(ZaH .xor .u32 (ZaH .xor .u32 x194 x195) (v32 (zS (zF A193 (zD (w64 (A168-15))) 0) 8)))))+(zF A193 (zD (w64 (A168-7))) 0)))+(ZaH .xor .u32 (ZaH .xor .u32 x196 x197) (v32 (zS (zF A193 (zD (w64 (A168-2))) 0) 1024)))))) else loopN (Zat.p5 N c1_ x1 A2 A111 A193) N (0,A111)
def Zat.p2 (N:Nat) (c1_:(Int×(List Int))→Option (List Int)) (x1:ByteArray) (A2:Int) (A111:List Int) (c2_:(Int×(List Int))→Option (List Int)):(Int×(List Int))→Option (List Int):=fun (A112,A165)=> if (decide (A112<16))=true then loopN (Zat.p3 N c2_ c1_ x1 A2 A112 A111) N (0,A165) else loopN (Zat.p4 N c1_ x1 A2 A111) N (16,A165)
def Zat.p7 (N:Nat) (A111:List Int) (c7_:(Int×(List Int))→Option (List Int)):(Int×(List Int))→Option (List Int):=fun (A218,A219)=> if (decide (A218<32))=true then chk (0≤(w64 (zS A218 4)))<| chk ((w64 (zS A218 4))<8)<| chk (0≤(v64 (w64 (24-(w64 (8*(zX A218 4)))))))<| chk (0≤A218)<| c7_ (w64 (A218+1),zN A219 (zD A218) (v8 (zX (ZbF .u32 (zF A111 (zD (w64 (zS A218 4))) 0) (v64 (w64 (24-(w64 (8*(zX A218 4))))))) 256))) else some A219
def Zat.p1 (N:Nat) (x1:ByteArray) (c1_:(Int×(List Int))→Option (List Int)):(Int×(List Int))→Option (List Int):=fun (A2,A111)=> if (decide (A2<((zZ x1:Nat):Int)))=true then loopN (Zat.p2 N c1_ x1 A2 A111) N (0,zC 64 0) else loopN (Zat.p7 N A111) N (0,zC 32 0)
def Zat (N:Nat) (A0:ByteArray):Option (List Int):= Zbj (Zbp N A0) fun x1=> loopN (Zat.p1 N x1) N (0,[1779033703,3144134277,1013904242,2773480762,1359893119,2600822924,528734635,1541459225])
def Zat.p3.S (x1:ByteArray) (A2 A112 A166:Int) (A111 A167:List Int) (st:LL):S:=mkS 225 [(2,sA 2),(3,sA 3),(4,.one (.l (vN x1))),(5,sI A2),(6,sA 6),(7,sI A112),(8,sI A166)] [(2,.cells [zI .u8 32 (zC 32 0)]),(3,.cells [zI .u32 8 A111]),(6,.cells [zI .u32 64 A167])] st
def Zat.p6.S (x1:ByteArray) (A2 A216:Int) (A217 A208:List Int) (st:LL):S:=mkS 225 [(2,sA 2),(3,sA 3),(4,.one (.l (vN x1))),(5,sI A2),(12,sA 12),(16,sI A216)] [(2,.cells [zI .u8 32 (zC 32 0)]),(3,.cells [zI .u32 8 A217]),(12,.cells [zI .u32 8 A208])] st
def Zat.p5.S (x1:ByteArray) (A2 A198:Int) (A111 A193 A208:List Int) (st:LL):S:=mkS 225 [(2,sA 2),(3,sA 3),(4,.one (.l (vN x1))),(5,sI A2),(6,sA 6),(12,sA 12),(13,sI A198)] [(2,.cells [zI .u8 32 (zC 32 0)]),(3,.cells [zI .u32 8 A111]),(6,.cells [zI .u32 64 A193]),(12,.cells [zI .u32 8 A208])] st
def Zat.p4.S (x1:ByteArray) (A2 A168:Int) (A111 A193:List Int) (st:LL):S:=mkS 225 [(2,sA 2),(3,sA 3),(4,.one (.l (vN x1))),(5,sI A2),(6,sA 6),(9,sI A168)] [(2,.cells [zI .u8 32 (zC 32 0)]),(3,.cells [zI .u32 8 A111]),(6,.cells [zI .u32 64 A193])] st
def Zat.p2.S (x1:ByteArray) (A2 A112:Int) (A111 A165:List Int) (st:LL):S:=mkS 225 [(2,sA 2),(3,sA 3),(4,.one (.l (vN x1))),(5,sI A2),(6,sA 6),(7,sI A112)] [(2,.cells [zI .u8 32 (zC 32 0)]),(3,.cells [zI .u32 8 A111]),(6,.cells [zI .u32 64 A165])] st
def Zat.p7.S (A218:Int) (A111 A219:List Int) (st:LL):S:=mkS 225 [(2,sA 2),(3,sA 3),(17,sA 17),(18,sI A218)] [(2,.cells [zI .u8 32 (zC 32 0)]),(3,.cells [zI .u32 8 A111]),(17,.cells [zI .u8 32 A219])] st
def Zat.p1.S (x1:ByteArray) (A2:Int) (A111:List Int) (st:LL):S:=mkS 225 [(2,sA 2),(3,sA 3),(4,.one (.l (vN x1))),(5,sI A2)] [(2,.cells [zI .u8 32 (zC 32 0)]),(3,.cells [zI .u32 8 A111])] st
theorem Zat.p3_ok {x1 A2 A112 A166 A111 A167 st r c2_ c1_ c3_ J2 J1 J3} (h:Zat.p3 N c2_ c1_ x1 A2 A112 A111 c3_ (A166,A167)=some r) (hE:En Tryz.f97 g0 w0 (Zat.rs r) st R) (hc2 : ∀A112 A165,c2_ (A112,A165)=some r→At g0 w0 (Zat.p2.S x1 A2 A112 A111 A165 st) J2) (hc1 : ∀A2 A111,c1_ (A2,A111)=some r→At g0 w0 (Zat.p1.S x1 A2 A111 st) J1) (hc3 : ∀A166 A167,c3_ (A166,A167)=some r→At g0 w0 (Zat.p3.S x1 A2 A112 A166 A111 A167 st) J3):At g0 w0 (Zat.p3.S x1 A2 A112 A166 A111 A167 st) (XK zB R (cK Zat.B [1,1,1,0,1,0,0,1,0,0,1,0,1,0,0,1,0,0,1,0,0] :: .h J3 :: [.b 4,.b 3,cK Zat.B [1,1,1,0,1,0,0,1,0,0,1,0,1,0,0,1,1],.h J2,.b 2,cK Zat.B [1,1,1,0,1,0,0,1,0,0,1,1],.b 1,cK Zat.B [1,1,1,0,1,0,0,1,1],.h J1,.b 0,cK Zat.B [1,1,1,1]])):=by
 unfold Zat.p3 at h;refine Zbg h (fun c293 h1=>?_) (fun c293 h2=>?_)
 ·obtain ⟨c294,c295,c296,c297,h3⟩:=ck4 h1;exact Zkb fol [rZ,cT,.d {ds:=[],hv:=65536,Hs:=[65536]},rZ] [2,3,4,5,6,7,8] [2,3,6] (aN c293 c294 c295 c296 c297 c294 c295) (hc3 (w64 (A166+1)) (zN A167 (zD A112) (v32 ((v32 ((zF A167 (zD A112) 0)*256))+(v32 (((UInt8.toNat (zF (rR (rA x1)) (zD (w64 ((w64 (A2+(w64 (4*A112))))+A166))) 0):Nat):Int)))))) h3)
 exact an fol [rZ,cF,rZ] [2,3,4,5,6,7] [2,3,6] c293 (hc2 (w64 (A112+1)) A167 h2)
theorem Zat.p6_ok {x1 A2 A216 A217 A208 st r c1_ c6_ J1 J6} (h:Zat.p6 N c1_ x1 A2 A208 c6_ (A216,A217)=some r) (hE:En Tryz.f97 g0 w0 (Zat.rs r) st R) (hc1 : ∀A2 A111,c1_ (A2,A111)=some r→At g0 w0 (Zat.p1.S x1 A2 A111 st) J1) (hc6 : ∀A216 A217,c6_ (A216,A217)=some r→At g0 w0 (Zat.p6.S x1 A2 A216 A217 A208 st) J6):At g0 w0 (Zat.p6.S x1 A2 A216 A217 A208 st) (XK zB R (cK Zat.B [1,1,1,0,1,0,0,1,0,0,1,1,1,1,1,1,0,0] :: .h J6 :: [.b 10,.b 1,cK Zat.B [1,1,1,0,1,0,0,1,1],.h J1,.b 0,cK Zat.B [1,1,1,1]])):=by
 unfold Zat.p6 at h;refine Zbg h (fun c376 h4=>?_) (fun c376 h5=>?_)
 ·obtain ⟨c377,h6⟩:=Zbh h4;exact Zkb fol [rZ,cT,.d {ds:=[],hv:=512,Hs:=[512]},rZ] [2,3,4,5,12,16] [2,3,12] (aN c376 c377 (oD c376) c377 (oD c376) c377 (oD c376)) (hc6 (w64 (A216+1)) (zN A217 (zD A216) (v32 ((zF A217 (zD A216) 0)+(zF A208 (zD A216) 0)))) h6)
 exact an fol [rZ,cF,rZ] [2,3,4,5] [2,3] c376 (hc1 (w64 (A2+64)) A217 h5)
theorem Zat.p5_ok {x1 A2 A198 A111 A193 A208 st r c1_ c5_ J1 J5} (h:Zat.p5 N c1_ x1 A2 A111 A193 c5_ (A198,A208)=some r) (hE:En Tryz.f97 g0 w0 (Zat.rs r) st R) (hc1 : ∀A2 A111,c1_ (A2,A111)=some r→At g0 w0 (Zat.p1.S x1 A2 A111 st) J1) (hc5 : ∀A198 A208,c5_ (A198,A208)=some r→At g0 w0 (Zat.p5.S x1 A2 A198 A111 A193 A208 st) J5):At g0 w0 (Zat.p5.S x1 A2 A198 A111 A193 A208 st) (XK zB R (cK Zat.B [1,1,1,0,1,0,0,1,0,0,1,1,1,1,0,1,0,0] :: .h J5 :: [.b 8,cK Zat.B [1,1,1,0,1,0,0,1,0,0,1,1,1,1,1],.b 1,cK Zat.B [1,1,1,0,1,0,0,1,1],.h J1,.b 0,cK Zat.B [1,1,1,1]])):=by
 unfold Zat.p5 at h;refine Zbg h (fun c365 h7=>?_) (fun c365 h8=>?_)
 ·obtain ⟨x209,c366,h9⟩:=Zac h7;obtain ⟨x210,c367,h10⟩:=Zac h9;obtain ⟨x211,c368,h11⟩:=Zac h10;obtain ⟨x212,c369,h12⟩:=Zac h11;obtain ⟨c370,h13⟩:=Zbh h12;obtain ⟨x213,c371,h14⟩:=Zac h13;obtain ⟨x214,c372,h15⟩:=Zac h14;obtain ⟨x215,c373,h16⟩:=Zac h15;exact Zkb fol [rZ,cT,.d {ds:=[(4,q1 [.one (zK .u32 x209)]),(7,q1 [.one (zK .u32 x210)]),(11,q1 [.one (zK .u32 x211)]),(28,q1 [.one (zK .u32 x212)])],hv:=0,Hs:=[]},.d {ds:=[(2,q1 [.one (zK .u32 x213)]),(5,q1 [.one (zK .u32 x214)]),(9,q1 [.one (zK .u32 x215)])],hv:=0,Hs:=[]},.r [(19,{m:=3})],rZ] [2,3,4,5,6,12,13] [2,3,6,12] (aI c365 (ix 7 8 (ix 4 8 (aI (Zbw.snd c366) (ix 4 8 (aI (Zbw.snd c367) (ix 4 8 (aI (Zbw.snd c368) (ix 4 8 (ix 5 8 (ix 4 8 (ix 6 8 (aK (Zga.snd c369) c370 (oD c365) (ix 0 8 (aI (Zbw.snd c371) (ix 0 8 (aI (Zbw.snd c372) (ix 0 8 (aI (Zbw.snd c373) (ix 0 8 (ix 1 8 (ix 0 8 (ix 2 8 (ix 1 8 (ix 2 8 (ix 0 8 (ix 1 8 (ix 2 8 (ix 3 8 (ix 4 8 (ix 5 8 (aI (leI 0 6) (ltI 6 8))))))))))))))))))))))))))))))))) (hc5 (w64 (A198+1)) [v32 ((v32 ((v32 ((v32 ((v32 ((zF A208 7 0)+(ZaH .xor .u32 (ZaH .xor .u32 x209 x210) x211)))+(ZaH .or .u32 (ZaH .and .u32 (zF A208 4 0) (zF A208 5 0)) (ZaH .and .u32 (v32 (4294967295-(zF A208 4 0))) (zF A208 6 0)))))+x212))+(zF A193 (zD A198) 0)))+(v32 ((ZaH .xor .u32 (ZaH .xor .u32 x213 x214) x215)+(ZaH .or .u32 (ZaH .or .u32 (ZaH .and .u32 (zF A208 0 0) (zF A208 1 0)) (ZaH .and .u32 (zF A208 0 0) (zF A208 2 0))) (ZaH .and .u32 (zF A208 1 0) (zF A208 2 0)))))),zF A208 0 0,zF A208 1 0,zF A208 2 0,v32 ((zF A208 3 0)+(v32 ((v32 ((v32 ((v32 ((zF A208 7 0)+(ZaH .xor .u32 (ZaH .xor .u32 x209 x210) x211)))+(ZaH .or .u32 (ZaH .and .u32 (zF A208 4 0) (zF A208 5 0)) (ZaH .and .u32 (v32 (4294967295-(zF A208 4 0))) (zF A208 6 0)))))+x212))+(zF A193 (zD A198) 0)))),zF A208 4 0,zF A208 5 0,zF A208 6 0] h16)
 exact aq fol [rZ,cF,rZ] [2,3,4,5,12,16] [2,3,12] c365 (At.loop N (At.loopN (fun y:Int×(List Int)=>Zat.p6.S x1 A2 y.1 y.2 A208 st) (fun c J hc y h=>Zat.p6_ok (A216:=y.1) (A217:=y.2) h hE hc1 (fun A216 A217=>hc (A216,A217))) N (0,A111) h8))
theorem Zat.p4_ok {x1 A2 A168 A111 A193 st r c1_ c4_ J1 J4} (h:Zat.p4 N c1_ x1 A2 A111 c4_ (A168,A193)=some r) (hE:En Tryz.f97 g0 w0 (Zat.rs r) st R) (hc1 : ∀A2 A111,c1_ (A2,A111)=some r→At g0 w0 (Zat.p1.S x1 A2 A111 st) J1) (hc4 : ∀A168 A193,c4_ (A168,A193)=some r→At g0 w0 (Zat.p4.S x1 A2 A168 A111 A193 st) J4):At g0 w0 (Zat.p4.S x1 A2 A168 A111 A193 st) (XK zB R (cK Zat.B [1,1,1,0,1,0,0,1,0,0,1,1,0,1,0,0] :: .h J4 :: [.b 6,cK Zat.B [1,1,1,0,1,0,0,1,0,0,1,1,1],.b 1,cK Zat.B [1,1,1,0,1,0,0,1,1],.h J1,.b 0,cK Zat.B [1,1,1,1]])):=by
 unfold Zat.p4 at h;refine Zbg h (fun c338 h17=>?_) (fun c338 h18=>?_)
 ·obtain ⟨c339,c340,h19⟩:=ck2 h17;obtain ⟨x194,c341,h20⟩:=Zac h19;obtain ⟨x195,c342,h21⟩:=Zac h20;obtain ⟨c343,c344,h22⟩:=ck2 h21;obtain ⟨x196,c345,h23⟩:=Zac h22;obtain ⟨x197,c346,h24⟩:=Zac h23;obtain ⟨c347,c348,c349,c350,c351,h25⟩:=ck5 h24;exact Zkb fol [rZ,cT,.d {ds:=[(4,q1 [.one (zK .u32 x194)]),(9,q1 [.one (zK .u32 x195)])],hv:=0,Hs:=[]},.d {ds:=[(4,q1 [.one (zK .u32 x196)]),(9,q1 [.one (zK .u32 x197)])],hv:=0,Hs:=[]},.d {ds:=[],hv:=32768,Hs:=[32768]},rZ] [2,3,4,5,6,9] [2,3,6] (aO c338 c339 c340 (Zbw.snd c341) c339 c340 (Zbw.snd c342) (aO c339 c340 (neI 8) c343 c344 (Zbw.snd c345) c343 (aO c344 (Zbw.snd c346) c343 c344 (neI 1024) c347 c348 (aK c349 c350 c351 (oD c338))))) (hc4 (w64 (A168+1)) (zN A193 (zD A168) (v32 ((v32 ((v32 ((zF A193 (zD (w64 (A168-16))) 0)+(ZaH .xor .u32 (ZaH .xor .u32 x194 x195) (v32 (zS (zF A193 (zD (w64 (A168-15))) 0) 8)))))+(zF A193 (zD (w64 (A168-7))) 0)))+(ZaH .xor .u32 (ZaH .xor .u32 x196 x197) (v32 (zS (zF A193 (zD (w64 (A168-2))) 0) 1024)))))) h25)
 exact aq fol [rZ,cF,rZ,rZ] [2,3,4,5,6,12,13] [2,3,6,12] c338 (At.loop N (At.loopN (fun y:Int×(List Int)=>Zat.p5.S x1 A2 y.1 A111 A193 y.2 st) (fun c J hc y h=>Zat.p5_ok (A198:=y.1) (A208:=y.2) h hE hc1 (fun A198 A208=>hc (A198,A208))) N (0,A111) h18))
theorem Zat.p2_ok {x1 A2 A112 A111 A165 st r c1_ c2_ J1 J2} (h:Zat.p2 N c1_ x1 A2 A111 c2_ (A112,A165)=some r) (hE:En Tryz.f97 g0 w0 (Zat.rs r) st R) (hc1 : ∀A2 A111,c1_ (A2,A111)=some r→At g0 w0 (Zat.p1.S x1 A2 A111 st) J1) (hc2 : ∀A112 A165,c2_ (A112,A165)=some r→At g0 w0 (Zat.p2.S x1 A2 A112 A111 A165 st) J2):At g0 w0 (Zat.p2.S x1 A2 A112 A111 A165 st) (XK zB R (cK Zat.B [1,1,1,0,1,0,0,1,0,0,1,0,1,0,0] :: .h J2 :: [.b 2,cK Zat.B [1,1,1,0,1,0,0,1,0,0,1,1],.b 1,cK Zat.B [1,1,1,0,1,0,0,1,1],.h J1,.b 0,cK Zat.B [1,1,1,1]])):=by
 unfold Zat.p2 at h;refine Zbg h (fun c287 h26=>?_) (fun c287 h27=>?_)
 ·exact aq fol [rZ,cT,rZ] [2,3,4,5,6,7,8] [2,3,6] c287 (At.loop N (At.loopN (fun y:Int×(List Int)=>Zat.p3.S x1 A2 A112 y.1 A111 y.2 st) (fun c J hc y h=>Zat.p3_ok (A166:=y.1) (A167:=y.2) h hE hc2 hc1 (fun A166 A167=>hc (A166,A167))) N (0,A165) h26))
 exact aq fol [rZ,cF,rZ] [2,3,4,5,6,9] [2,3,6] c287 (At.loop N (At.loopN (fun y:Int×(List Int)=>Zat.p4.S x1 A2 y.1 A111 y.2 st) (fun c J hc y h=>Zat.p4_ok (A168:=y.1) (A193:=y.2) h hE hc1 (fun A168 A193=>hc (A168,A193))) N (16,A165) h27))
theorem Zat.p7_ok {A218 A111 A219 st r c7_ J7} (h:Zat.p7 N A111 c7_ (A218,A219)=some r) (hE:En Tryz.f97 g0 w0 (Zat.rs r) st R) (hc7 : ∀A218 A219,c7_ (A218,A219)=some r→At g0 w0 (Zat.p7.S A218 A111 A219 st) J7):At g0 w0 (Zat.p7.S A218 A111 A219 st) (XK zB R (cK Zat.B [1,1,1,1,1,0,1,0,0] :: .h J7 :: [.b 12,cK Zat.B [1,1,1,1,1,1]])):=by
 unfold Zat.p7 at h;refine Zbg h (fun c383 h28=>?_) (fun c383 h29=>?_)
 ·obtain ⟨c384,c385,c386,c387,h30⟩:=ck4 h28;exact an fol [rZ,cT,rZ,rZ] [2,3,17,18] [2,3,17] (aO c383 (neI 4) c384 c385 (neI 4) c386 (neI 256) (aI c387 (oD c383))) (hc7 (w64 (A218+1)) (zN A219 (zD A218) (v8 (zX (ZbF .u32 (zF A111 (zD (w64 (zS A218 4))) 0) (v64 (w64 (24-(w64 (8*(zX A218 4))))))) 256))) h30)
 exact xS fol h29 hE [rZ,cF,rZ] c383
theorem Zat.p1_ok {x1 A2 A111 st r c1_ J1} (h:Zat.p1 N x1 c1_ (A2,A111)=some r) (hE:En Tryz.f97 g0 w0 (Zat.rs r) st R) (hc1 : ∀A2 A111,c1_ (A2,A111)=some r→At g0 w0 (Zat.p1.S x1 A2 A111 st) J1):At g0 w0 (Zat.p1.S x1 A2 A111 st) (XK zB R (cK Zat.B [1,1,1,0,1,0,0] :: .h J1 :: [.b 0,cK Zat.B [1,1,1,1]])):=by
 unfold Zat.p1 at h;refine Zbg h (fun c195 h31=>?_) (fun c195 h32=>?_)
 ·exact aq fol [rZ,cT,rZ,rZ] [2,3,4,5,6,7] [2,3,6] c195 (At.loop N (At.loopN (fun y:Int×(List Int)=>Zat.p2.S x1 A2 y.1 A111 y.2 st) (fun c J hc y h=>Zat.p2_ok (A112:=y.1) (A165:=y.2) h hE hc1 (fun A112 A165=>hc (A112,A165))) N (0,zC 64 0) h31))
 exact aq fol [rZ,cF,rZ,rZ] [2,3,17,18] [2,3,17] c195 (At.loop N (At.loopN (fun y:Int×(List Int)=>Zat.p7.S y.1 A111 y.2 st) (fun c J hc y h=>Zat.p7_ok (A218:=y.1) (A219:=y.2) h hE (fun A218 A219=>hc (A218,A219))) N (0,zC 32 0) h32))
theorem Zat.snd {A0:ByteArray} {r:(List Int)} (h:Zat N A0=some r):ZdP zB 97 [.one (vN A0)] (Zat.rs r):=fun st=>
 sO Zat.B Tryz.func97 fun g0 w0 R hE=>by
  unfold Zat at h;obtain ⟨x1,c1,h33⟩:=Zac h;exact aq fol [rZ,.r [(0,{m:=3})],.r [(1,q1 [.one (vN x1)])],rZ] [2,3,4,5] [2,3] (Zbp.snd c1) (At.loop N (At.loopN (fun y:Int×(List Int)=>Zat.p1.S x1 y.1 y.2 st) (fun c J hc y h=>Zat.p1_ok (A2:=y.1) (A111:=y.2) h hE (fun A2 A111=>hc (A2,A111))) N (0,[1779033703,3144134277,1013904242,2773480762,1359893119,2600822924,528734635,1541459225]) h33))
def Zcg.B:Code:=Tryz.f76.body.getD .skip
def Zcg.rs (r:(List Int)):List CV:=[.agg [zI .u8 32 r]]
def Zcg.p1 (N:Nat) (x1:List Int) (c1_:(ByteArray×Int)→Option (List Int)):(ByteArray×Int)→Option (List Int):=fun (A4,A2)=> if (decide (A2<32))=true then chk (0≤A2)<| chk (isB [[zK .u8 (zF x1 (zD A2) 0)]]=true)<| chk (zZ A4+zZ (ZkZ (vK ZfX [[zK .u8 (zF x1 (zD A2) 0)]]))≤9223372036854775807)<| c1_ (A4++(ZkZ (vK ZfX [[zK .u8 (zF x1 (zD A2) 0)]])),w64 (A2+1)) else Zbj (Zat N A4) fun x5=> some x5
def Zcg (N:Nat) (A0:ByteArray):Option (List Int):= Zbj (Zat N A0) fun x1=> loopN (Zcg.p1 N x1) N ((wG #[]),0)
def Zcg.p1.S (A4:ByteArray) (A2:Int) (x1:List Int) (st:LL):S:=mkS 21 [(2,sA 2),(3,sA 3),(4,.one (.l (vN A4))),(5,sI A2)] [(2,.cells [zI .u8 32 (zC 32 0)]),(3,.cells [zI .u8 32 x1])] st
theorem Zcg.p1_ok {A4 A2 x1 st r c1_ J1} (h:Zcg.p1 N x1 c1_ (A4,A2)=some r) (hE:En Tryz.f76 g0 w0 (Zcg.rs r) st R) (hc1 : ∀A4 A2,c1_ (A4,A2)=some r→At g0 w0 (Zcg.p1.S A4 A2 x1 st) J1):At g0 w0 (Zcg.p1.S A4 A2 x1 st) (XK zB R (cK Zcg.B [1,1,1,0,1,0,0] :: .h J1 :: [.b 0,cK Zcg.B [1,1,1,1]])):=by
 unfold Zcg.p1 at h;refine Zbg h (fun c7 h1=>?_) (fun c7 h2=>?_)
 ·obtain ⟨c8,c9,c10,h3⟩:=ck3 h1;exact an fol [rZ,cT,rZ,rZ] [2,3,4,5] [2,3] (aN c7 c8 (oD c7) z0 (eN (1)) c9 c10) (hc1 (A4++(ZkZ (vK ZfX [[zK .u8 (zF x1 (zD A2) 0)]]))) (w64 (A2+1)) h3)
 obtain ⟨x5,c11,h4⟩:=Zac h2;exact xS fol h4 hE [rZ,cF,.r [(1,q1 [.agg [zI .u8 32 x5]])]] (aI c7 (Zat.snd c11))
theorem Zcg.snd {A0:ByteArray} {r:(List Int)} (h:Zcg N A0=some r):ZdP zB 76 [.one (vN A0)] (Zcg.rs r):=fun st=>
 sO Zcg.B Tryz.func76 fun g0 w0 R hE=>by
  unfold Zcg at h;obtain ⟨x1,c1,h5⟩:=Zac h;exact aq fol [rZ,.r [(1,q1 [.agg [zI .u8 32 x1]])],rZ,rZ] [2,3,4,5] [2,3] (Zat.snd c1) (At.loop N (At.loopN (fun y:ByteArray×Int=>Zcg.p1.S y.1 y.2 x1 st) (fun c J hc y h=>Zcg.p1_ok (A4:=y.1) (A2:=y.2) h hE (fun A4 A2=>hc (A4,A2))) N ((wG #[]),0) h5))
def Zdz.B:Code:=Tryz.f54.body.getD .skip
def Zdz.rs (r:(List Int)):List CV:=[.agg [zI .u8 32 r]]
def Zdz (N:Nat) (h_0:Zak):Option (List Int):= Zbj (Zdt N h_0) fun x1=> if (!x1)=true then some (zC 32 0) else Zbj (Zed N h_0) fun x2=> Zbj (Zcg N x2) fun x3=> some x3
theorem Zdz.snd {h_0:Zak} {r:(List Int)} (h:Zdz N h_0=some r):ZdP zB 54 [.agg h_0.ls] (Zdz.rs r):=fun st=>
 sO Zdz.B Tryz.func54 fun g0 w0 R hE=>by
  unfold Zdz at h;obtain ⟨x1,c1,h1⟩:=Zac h;let o1:List PS:=[rZ,.r [(1,q1 [oB x1])]]
  refine Zbg h1 (fun c2 h2=>?_) (fun c2 h3=>?_)
  ·exact xS fol h2 hE (o1++[cT,rZ]) (aI (Zdt.snd c1) c2)
  obtain ⟨x2,c3,h4⟩:=Zac h3;obtain ⟨x3,c4,h5⟩:=Zac h4;exact xS fol h5 hE (o1++[cF,.r [(1,q1 [.one (vN x2)]),(2,q1 [.agg [zI .u8 32 x3]])]]) (aK (Zdt.snd c1) c2 (Zed.snd c3) (Zcg.snd c4))
def Zew.B:Code:=Tryz.f117.body.getD .skip
def Zew.rs (r:(List Int)):List CV:=[.agg [zI .u64 4 r]]
def Zew (N:Nat) (A0_0:List Int) (A1:Int):Option (List Int):= chk (0≤(w64 (zS A1 64)))<| chk ((w64 (zS A1 64))<4)<| chk (0≤(v64 (zX A1 64)))<| some (zN A0_0 (zD (w64 (zS A1 64))) (ZaH .or .u64 (zF A0_0 (zD (w64 (zS A1 64))) 0) (ZbV .u64 1 (v64 (zX A1 64)))))
theorem Zew.snd {A0_0:List Int} {A1:Int} {r:(List Int)} (h:Zew N A0_0 A1=some r):ZdP zB 117 [.agg [zI .u64 4 A0_0],oI A1] (Zew.rs r):=fun st=>
 sO Zew.B Tryz.func117 fun g0 w0 R hE=>by
  unfold Zew at h;obtain ⟨c1,c2,c3,h1⟩:=ck3 h;exact xS fol h1 hE [rZ,rZ,rZ] (aO (neI 64) (neI 64) c1 c2 (neI 64) c3 c1 c2)
def Zbu.B:Code:=Tryz.f89.body.getD .skip
def Zbu.rs (r:(List Int)×Bool):List CV:=[.agg [zI .u64 4 r.1],oB r.2]
def Zbu.p2 (N:Nat) (c1_:(Int×Int×(List Int))→Option ((List Int)×Bool)) (A2 x8 x9 A1:Int) (A0_0 A1_0 A11:List Int):Option ((List Int)×Bool):= c1_ (w64 (zS (w64 ((w64 (x8+x9))+A1)) 2),w64 (A2+1),A11)
def Zbu.p1 (N:Nat) (A0_0 A1_0:List Int) (c1_:(Int×Int×(List Int))→Option ((List Int)×Bool)):(Int×Int×(List Int))→Option ((List Int)×Bool):=fun (A1,A2,A7)=> if (decide (A2<256))=true then Zbj (Zdn N A0_0 A2) fun x8=> Zbj (Zdn N A1_0 A2) fun x9=> if ((zX (w64 ((w64 (x8+x9))+A1)) 2)==1)=true then Zbj (Zew N A7 A2) fun x10=> Zbu.p2 N c1_ A2 x8 x9 A1 A0_0 A1_0 x10 else Zbu.p2 N c1_ A2 x8 x9 A1 A0_0 A1_0 A7 else some (A7,A1==1)
def Zbu (N:Nat) (A0_0 A1_0:List Int):Option ((List Int)×Bool):= loopN (Zbu.p1 N A0_0 A1_0) N (0,0,zC 4 0)
def Zbu.p2.S (A2 x8 x9 A1:Int) (A0_0 A1_0 A11:List Int) (st:LL):S:=mkS 35 [(2,sA 2),(3,sA 3),(4,sA 4),(6,sA 6),(8,sI A2),(9,sI (w64 ((w64 (x8+x9))+A1)))] [(2,.cells [zI .u64 4 A0_0]),(3,.cells [zI .u64 4 A1_0]),(4,.cells [zI .u64 4 (zC 4 0)]),(6,.cells [zI .u64 4 A11])] st
def Zbu.p1.S (A1 A2:Int) (A0_0 A1_0 A7:List Int) (st:LL):S:=mkS 35 [(2,sA 2),(3,sA 3),(4,sA 4),(6,sA 6),(7,sI A1),(8,sI A2)] [(2,.cells [zI .u64 4 A0_0]),(3,.cells [zI .u64 4 A1_0]),(4,.cells [zI .u64 4 (zC 4 0)]),(6,.cells [zI .u64 4 A7])] st
theorem Zbu.p2_ok {A2 x8 x9 A1 A0_0 A1_0 A11 st r c1_ J1} (h:Zbu.p2 N c1_ A2 x8 x9 A1 A0_0 A1_0 A11=some r) (hE:En Tryz.f89 g0 w0 (Zbu.rs r) st R) (hc1 : ∀A1 A2 A7,c1_ (A1,A2,A7)=some r→At g0 w0 (Zbu.p1.S A1 A2 A0_0 A1_0 A7 st) J1):At g0 w0 (Zbu.p2.S A2 x8 x9 A1 A0_0 A1_0 A11 st) (XK zB R [cK Zbu.B [1,1,1,0,1,0,0,1,0,0,1,1],.b 1,cK Zbu.B [1,1,1,0,1,0,0,1,1],.h J1,.b 0,cK Zbu.B [1,1,1,1]]):=by
 unfold Zbu.p2 at h;exact an fol [rZ,rZ] [2,3,4,6,7,8] [2,3,4,6] (neI 2) (hc1 (w64 (zS (w64 ((w64 (x8+x9))+A1)) 2)) (w64 (A2+1)) A11 h)
theorem Zbu.p1_ok {A1 A2 A0_0 A1_0 A7 st r c1_ J1} (h:Zbu.p1 N A0_0 A1_0 c1_ (A1,A2,A7)=some r) (hE:En Tryz.f89 g0 w0 (Zbu.rs r) st R) (hc1 : ∀A1 A2 A7,c1_ (A1,A2,A7)=some r→At g0 w0 (Zbu.p1.S A1 A2 A0_0 A1_0 A7 st) J1):At g0 w0 (Zbu.p1.S A1 A2 A0_0 A1_0 A7 st) (XK zB R (cK Zbu.B [1,1,1,0,1,0,0] :: .h J1 :: [.b 0,cK Zbu.B [1,1,1,1]])):=by
 unfold Zbu.p1 at h;refine Zbg h (fun c6 h1=>?_) (fun c6 h2=>?_)
 ·obtain ⟨x8,c7,h3⟩:=Zac h1;obtain ⟨x9,c8,h4⟩:=Zac h3;let o1:List PS:=[rZ,cT,.d {ds:=[(2,q1 [oI x8]),(5,q1 [oI x9])],hv:=0,Hs:=[]},rZ]
  have t1 {Q:Prop} (q:Q):=aL c6 (Zdn.snd c7) (Zdn.snd c8) (neI 2) q;refine Zbg h4 (fun c9 h5=>?_) (fun c9 h6=>?_)
  ·obtain ⟨x10,c10,h7⟩:=Zac h5;exact aqd fol (o1++[cT,.r [(2,q1 [.agg [zI .u64 4 x10]])],.s 6]) [2,3,4,6,8,9] [2,3,4,6] (t1 (aI c9 (Zew.snd c10))) (Zbu.p2_ok h7 hE hc1)
  exact aqd fol (o1++[cF,.s 6]) [2,3,4,6,8,9] [2,3,4,6] (t1 c9) (Zbu.p2_ok h6 hE hc1)
 exact xS fol h2 hE [rZ,cF,rZ] c6
theorem Zbu.snd {A0_0 A1_0:List Int} {r:(List Int)×Bool} (h:Zbu N A0_0 A1_0=some r):ZdP zB 89 [.agg [zI .u64 4 A0_0],.agg [zI .u64 4 A1_0]] (Zbu.rs r):=fun st=>
 sO Zbu.B Tryz.func89 fun g0 w0 R hE=>by
  unfold Zbu at h;exact aq fol [rZ,rZ,rZ,rZ] [2,3,4,6,7,8] [2,3,4,6] trivial (At.loop N (At.loopN (fun y:Int×Int×(List Int)=>Zbu.p1.S y.1 y.2.1 A0_0 A1_0 y.2.2 st) (fun c J hc y h=>Zbu.p1_ok (A1:=y.1) (A2:=y.2.1) (A7:=y.2.2) h hE (fun A1 A2 A7=>hc (A1,A2,A7))) N (0,0,zC 4 0) h))
def ZbO.B:Code:=Tryz.f118.body.getD .skip
def ZbO.rs (r:(List Int)):List CV:=[.agg [zI .u64 4 r]]
def ZbO.p2 (N:Nat) (c1_:(Int×(List Int))→Option (List Int)) (A1:Int) (A0_0 A8:List Int):Option (List Int):= c1_ (w64 (A1+1),A8)
def ZbO.p1 (N:Nat) (A0_0:List Int) (c1_:(Int×(List Int))→Option (List Int)):(Int×(List Int))→Option (List Int):=fun (A1,A5)=> if (decide (A1<256))=true then Zbj (Zdn N A0_0 A1) fun x6=> if (x6==0)=true then Zbj (Zew N A5 A1) fun x7=> ZbO.p2 N c1_ A1 A0_0 x7 else ZbO.p2 N c1_ A1 A0_0 A5 else some A5
def ZbO (N:Nat) (A0_0:List Int):Option (List Int):= loopN (ZbO.p1 N A0_0) N (0,zC 4 0)
def ZbO.p2.S (A1:Int) (A0_0 A8:List Int) (st:LL):S:=mkS 18 [(1,sA 1),(2,sA 2),(3,sA 3),(4,sI A1)] [(1,.cells [zI .u64 4 A0_0]),(2,.cells [zI .u64 4 (zC 4 0)]),(3,.cells [zI .u64 4 A8])] st
def ZbO.p1.S (A1:Int) (A0_0 A5:List Int) (st:LL):S:=mkS 18 [(1,sA 1),(2,sA 2),(3,sA 3),(4,sI A1)] [(1,.cells [zI .u64 4 A0_0]),(2,.cells [zI .u64 4 (zC 4 0)]),(3,.cells [zI .u64 4 A5])] st
theorem ZbO.p2_ok {A1 A0_0 A8 st r c1_ J1} (h:ZbO.p2 N c1_ A1 A0_0 A8=some r) (hE:En Tryz.f118 g0 w0 (ZbO.rs r) st R) (hc1 : ∀A1 A5,c1_ (A1,A5)=some r→At g0 w0 (ZbO.p1.S A1 A0_0 A5 st) J1):At g0 w0 (ZbO.p2.S A1 A0_0 A8 st) (XK zB R [cK ZbO.B [1,1,0,1,0,0,1,1],.h J1,.b 0,cK ZbO.B [1,1,1]]):=by
 unfold ZbO.p2 at h;exact an fol [rZ] [1,2,3,4] [1,2,3] trivial (hc1 (w64 (A1+1)) A8 h)
theorem ZbO.p1_ok {A1 A0_0 A5 st r c1_ J1} (h:ZbO.p1 N A0_0 c1_ (A1,A5)=some r) (hE:En Tryz.f118 g0 w0 (ZbO.rs r) st R) (hc1 : ∀A1 A5,c1_ (A1,A5)=some r→At g0 w0 (ZbO.p1.S A1 A0_0 A5 st) J1):At g0 w0 (ZbO.p1.S A1 A0_0 A5 st) (XK zB R (cK ZbO.B [1,1,0,1,0,0] :: .h J1 :: [.b 0,cK ZbO.B [1,1,1]])):=by
 unfold ZbO.p1 at h;refine Zbg h (fun c5 h1=>?_) (fun c5 h2=>?_)
 ·obtain ⟨x6,c6,h3⟩:=Zac h1;let o1:List PS:=[rZ,cT,.r [(2,q1 [oI x6])]]
  refine Zbg h3 (fun c7 h4=>?_) (fun c7 h5=>?_)
  ·obtain ⟨x7,c8,h6⟩:=Zac h4;exact aq fol (o1++[cT,.r [(2,q1 [.agg [zI .u64 4 x7]])],.s 4]) [1,2,3,4] [1,2,3] (aK c5 (Zdn.snd c6) c7 (Zew.snd c8)) (ZbO.p2_ok h6 hE hc1)
  exact aq fol (o1++[cF,.s 4]) [1,2,3,4] [1,2,3] (aJ c5 (Zdn.snd c6) c7) (ZbO.p2_ok h5 hE hc1)
 exact xS fol h2 hE [rZ,cF,rZ] c5
theorem ZbO.snd {A0_0:List Int} {r:(List Int)} (h:ZbO N A0_0=some r):ZdP zB 118 [.agg [zI .u64 4 A0_0]] (ZbO.rs r):=fun st=>
 sO ZbO.B Tryz.func118 fun g0 w0 R hE=>by
  unfold ZbO at h;exact aq fol [rZ,rZ,rZ] [1,2,3,4] [1,2,3] trivial (At.loop N (At.loopN (fun y:Int×(List Int)=>ZbO.p1.S y.1 A0_0 y.2 st) (fun c J hc y h=>ZbO.p1_ok (A1:=y.1) (A5:=y.2) h hE (fun A1 A5=>hc (A1,A5))) N (0,zC 4 0) h))
def ZdA.B:Code:=Tryz.f90.body.getD .skip
def ZdA.rs (r:(List Int)):List CV:=[.agg [zI .u64 4 r]]
def ZdA (N:Nat):Option (List Int):= Zbj (ZbO N (zC 4 0)) fun x1=> some x1
theorem ZdA.snd {r:(List Int)} (h:ZdA N=some r):ZdP zB 90 [] (ZdA.rs r):=fun st=>
 sO ZdA.B Tryz.func90 fun g0 w0 R hE=>by
  unfold ZdA at h;obtain ⟨x1,c1,h1⟩:=Zac h;exact xS fol h1 hE [rZ,.r [(1,q1 [.agg [zI .u64 4 x1]])]] (ZbO.snd c1)
def Zex.B:Code:=Tryz.f101.body.getD .skip
def Zex.rs (r:(List Int)×Bool):List CV:=[.agg [zI .u64 4 r.1],oB r.2]
def Zex (N:Nat) (A0_0 A1_0:List Int):Option ((List Int)×Bool):= Zbj (ZbO N A1_0) fun x1=> Zbj (Zbu N A0_0 x1) fun (x2,x3)=> Zbj (Zbu N x2 [1,0,0,0]) fun (x4,x5)=> Zbj (ZbH N A0_0 A1_0) fun x6=> some (x4,x6)
theorem Zex.snd {A0_0 A1_0:List Int} {r:(List Int)×Bool} (h:Zex N A0_0 A1_0=some r):ZdP zB 101 [.agg [zI .u64 4 A0_0],.agg [zI .u64 4 A1_0]] (Zex.rs r):=fun st=>
 sO Zex.B Tryz.func101 fun g0 w0 R hE=>by
  unfold Zex at h;obtain ⟨x1,c1,h1⟩:=Zac h;obtain ⟨⟨x2,x3⟩,c2,h2⟩:=Zac h1;obtain ⟨⟨x4,x5⟩,c3,h3⟩:=Zac h2;obtain ⟨x6,c4,h4⟩:=Zac h3;exact xSd fol h4 hE [rZ,.d {ds:=[(2,q1 [.agg [zI .u64 4 x1]]),(3,q1 [.agg [zI .u64 4 x2],oB x3])],hv:=384,Hs:=[128,384]},.r [(1,{m:=3}),(2,q1 [.agg [zI .u64 4 x4],oB x5])],.d {ds:=[(3,q1 [oB x6])],hv:=16,Hs:=[16]}] (aM (ZbO.snd c1) (ZbO.snd c1) (Zbu.snd c2) (Zbu.snd c2) (Zbu.snd c3) (ZbH.snd c4))
def ZbB.B:Code:=Tryz.f79.body.getD .skip
def ZbB.rs (r:(List Int)):List CV:=[.agg [zI .u64 4 r]]
def ZbB.p2 (N:Nat) (c1_:(Int×(List Int)×(List Int))→Option (List Int)) (A5:Int) (A0_0 x1 A36 A37:List Int):Option (List Int):= c1_ (w64 (A5-1),A36,A37)
def ZbB.p3 (N:Nat) (A41:List Int):Option (List Int):= some A41
def ZbB.p1 (N:Nat) (A0_0 x1:List Int) (c1_:(Int×(List Int)×(List Int))→Option (List Int)):(Int×(List Int)×(List Int))→Option (List Int):=fun (A5,A23,A24)=> if (decide (A5≥0))=true then Zbj (Zaq N x1 A5) fun x25=> Zbj (Zaq N x25 (w64 (0-A5))) fun x26=> if (!(x26==x1))=true then ZbB.p2 N c1_ A5 A0_0 x1 A23 A24 else Zbj (Zex N x25 [1,0,0,0]) fun (x27,x28)=> Zbj (ZbH N A24 x27) fun x29=> if (!x29)=true then Zbj (Zex N A24 x25) fun (x30,x31)=> Zbj (Zaq N [1,0,0,0] A5) fun x32=> Zbj (Zbu N A23 x32) fun (x33,x34)=> Zbj (ZdA N ) fun x35=> if (x30==x35)=true then some x33 else ZbB.p2 N c1_ A5 A0_0 x1 x33 x30 else ZbB.p2 N c1_ A5 A0_0 x1 A23 A24 else Zbj (ZbH N A24 A0_0) fun x38=> if (!x38)=true then Zbj (Zbu N A23 [1,0,0,0]) fun (x39,x40)=> ZbB.p3 N x39 else ZbB.p3 N A23
def ZbB (N:Nat) (A0_0:List Int):Option (List Int):= Zbj (Zbu N A0_0 [1,0,0,0]) fun (x1,x2)=> if x2=true then some [1,0,0,0] else if (A0_0==(zC 4 0))=true then Zbj (ZdA N ) fun x3=> some x3 else Zbj (ZdA N ) fun x4=> loopN (ZbB.p1 N A0_0 x1) N (255,zC 4 0,x4)
def ZbB.p2.S (A5:Int) (A0_0 x1 A36 A37:List Int) (st:LL):S:=mkS 79 [(1,sA 1),(2,sA 2),(3,sA 3),(4,sA 4),(6,sA 6),(7,sA 7),(8,sI A5)] [(1,.cells [zI .u64 4 A0_0]),(2,.cells [zI .u64 4 (zC 4 0)]),(3,.cells [zI .u64 4 [1,0,0,0]]),(4,.cells [zI .u64 4 x1]),(6,.cells [zI .u64 4 A36]),(7,.cells [zI .u64 4 A37])] st
def ZbB.p3.S (A41:List Int) (st:LL):S:=mkS 79 [(2,sA 2),(6,sA 6)] [(2,.cells [zI .u64 4 (zC 4 0)]),(6,.cells [zI .u64 4 A41])] st
def ZbB.p1.S (A5:Int) (A0_0 x1 A23 A24:List Int) (st:LL):S:=mkS 79 [(1,sA 1),(2,sA 2),(3,sA 3),(4,sA 4),(6,sA 6),(7,sA 7),(8,sI A5)] [(1,.cells [zI .u64 4 A0_0]),(2,.cells [zI .u64 4 (zC 4 0)]),(3,.cells [zI .u64 4 [1,0,0,0]]),(4,.cells [zI .u64 4 x1]),(6,.cells [zI .u64 4 A23]),(7,.cells [zI .u64 4 A24])] st
theorem ZbB.p2_ok {A5 A0_0 x1 A36 A37 st r c1_ J1} (h:ZbB.p2 N c1_ A5 A0_0 x1 A36 A37=some r) (hE:En Tryz.f79 g0 w0 (ZbB.rs r) st R) (hc1 : ∀A5 A23 A24,c1_ (A5,A23,A24)=some r→At g0 w0 (ZbB.p1.S A5 A0_0 x1 A23 A24 st) J1):At g0 w0 (ZbB.p2.S A5 A0_0 x1 A36 A37 st) (XK zB R [cK ZbB.B [1,1,1,1,1,1,1,0,1,0,0,1,1],.h J1,.b 0,cK ZbB.B [1,1,1,1,1,1,1,1]]):=by
 unfold ZbB.p2 at h;exact an fol [rZ] [1,2,3,4,6,7,8] [1,2,3,4,6,7] trivial (hc1 (w64 (A5-1)) A36 A37 h)
theorem ZbB.p3_ok {A41 st r} (h:ZbB.p3 N A41=some r) (hE:En Tryz.f79 g0 w0 (ZbB.rs r) st R):At g0 w0 (ZbB.p3.S A41 st) (XK zB R [cK ZbB.B [1,1,1,1,1,1,1,1,1]]):=by
 unfold ZbB.p3 at h;exact xS fol h hE [rZ] trivial
theorem ZbB.p1_ok {A5 A0_0 x1 A23 A24 st r c1_ J1} (h:ZbB.p1 N A0_0 x1 c1_ (A5,A23,A24)=some r) (hE:En Tryz.f79 g0 w0 (ZbB.rs r) st R) (hc1 : ∀A5 A23 A24,c1_ (A5,A23,A24)=some r→At g0 w0 (ZbB.p1.S A5 A0_0 x1 A23 A24 st) J1):At g0 w0 (ZbB.p1.S A5 A0_0 x1 A23 A24 st) (XK zB R (cK ZbB.B [1,1,1,1,1,1,1,0,1,0,0] :: .h J1 :: [.b 0,cK ZbB.B [1,1,1,1,1,1,1,1]])):=by
 unfold ZbB.p1 at h;refine Zbg h (fun c21 h1=>?_) (fun c21 h2=>?_)
 ·obtain ⟨x25,c22,h3⟩:=Zac h1;obtain ⟨x26,c23,h4⟩:=Zac h3;let o1:List PS:=[rZ,cT,.r [(2,q1 [.agg [zI .u64 4 x25]])],.d {ds:=[(3,q1 [.agg [zI .u64 4 x26]])],hv:=0,Hs:=[]}]
  have t1 {Q:Prop} (q:Q):=aK c21 (Zaq.snd c22) (Zaq.snd c23) q;refine Zbg h4 (fun c24 h5=>?_) (fun c24 h6=>?_)
  ·exact aqd fol (o1++[cT,.s 4]) [1,2,3,4,6,7,8] [1,2,3,4,6,7] (t1 c24) (ZbB.p2_ok h5 hE hc1)
  obtain ⟨⟨x27,x28⟩,c25,h7⟩:=Zac h6;obtain ⟨x29,c26,h8⟩:=Zac h7;let o2:List PS:=o1++[cF,.r [(2,q1 [.agg [zI .u64 4 x27],oB x28])],.r [(2,q1 [oB x29])]]
  have t2 {Q:Prop} (q:Q):=t1 (aK c24 (Zex.snd c25) (ZbH.snd c26) q);refine Zbg h8 (fun c27 h9=>?_) (fun c27 h10=>?_)
  ·obtain ⟨⟨x30,x31⟩,c28,h11⟩:=Zac h9;obtain ⟨x32,c29,h12⟩:=Zac h11;obtain ⟨⟨x33,x34⟩,c30,h13⟩:=Zac h12;obtain ⟨x35,c31,h14⟩:=Zac h13;let o3:List PS:=o2++[cT,.r [(2,q1 [.agg [zI .u64 4 x30],oB x31])],.d {ds:=[(3,q1 [.agg [zI .u64 4 x32]]),(4,q1 [.agg [zI .u64 4 x33],oB x34])],hv:=256,Hs:=[256]},.d {ds:=[(1,q1 [.agg [zI .u64 4 x35]])],hv:=0,Hs:=[]}]
   have t3 {Q:Prop} (q:Q):=t2 (aM c27 (Zex.snd c28) (Zaq.snd c29) (Zbu.snd c30) (ZdA.snd c31) q);refine Zbg h14 (fun c32 h15=>?_) (fun c32 h16=>?_)
   ·exact xSd fol h15 hE (o3++[cT,rZ]) (t3 c32)
   exact aqd fol (o3++[cF,.s 4]) [1,2,3,4,6,7,8] [1,2,3,4,6,7] (t3 c32) (ZbB.p2_ok h16 hE hc1)
  exact aqd fol (o2++[cF,.s 4]) [1,2,3,4,6,7,8] [1,2,3,4,6,7] (t2 c27) (ZbB.p2_ok h10 hE hc1)
 obtain ⟨x38,c33,h17⟩:=Zac h2;let o4:List PS:=[rZ,cF,.r [(2,q1 [oB x38])]]
 refine Zbg h17 (fun c34 h18=>?_) (fun c34 h19=>?_)
 ·obtain ⟨⟨x39,x40⟩,c35,h20⟩:=Zac h18;exact aq fol (o4++[cT,.r [(2,q1 [.agg [zI .u64 4 x39],oB x40])],.s 1]) [2,6] [2,6] (aK c21 (ZbH.snd c33) c34 (Zbu.snd c35)) (ZbB.p3_ok h20 hE)
 exact aq fol (o4++[cF,.s 1]) [2,6] [2,6] (aJ c21 (ZbH.snd c33) c34) (ZbB.p3_ok h19 hE)
theorem ZbB.snd {A0_0:List Int} {r:(List Int)} (h:ZbB N A0_0=some r):ZdP zB 79 [.agg [zI .u64 4 A0_0]] (ZbB.rs r):=fun st=>
 sO ZbB.B Tryz.func79 fun g0 w0 R hE=>by
  unfold ZbB at h;obtain ⟨⟨x1,x2⟩,c1,h21⟩:=Zac h;let o5:List PS:=[rZ,.r [(0,{m:=3})],.r [(2,q1 [.agg [zI .u64 4 x1],oB x2])],rZ]
  have t4 {Q:Prop} (q:Q):=aI (Zbu.snd c1) q;refine Zbg h21 (fun c2 h22=>?_) (fun c2 h23=>?_)
  ·exact xS fol h22 hE (o5++[cT,rZ]) (t4 c2)
  refine Zbg h23 (fun c3 h24=>?_) (fun c3 h25=>?_)
  ·obtain ⟨x3,c4,h26⟩:=Zac h24;exact xS fol h26 hE (o5++[cF,rZ,cT,.r [(0,q1 [.agg [zI .u64 4 x3]])]]) (t4 (aJ c2 c3 (ZdA.snd c4)))
  obtain ⟨x4,c5,h27⟩:=Zac h25;exact aq fol (o5++[cF,rZ,cF,rZ,.r [(0,q1 [.agg [zI .u64 4 x4]])],rZ]) [1,2,3,4,6,7,8] [1,2,3,4,6,7] (t4 (aJ c2 c3 (ZdA.snd c5))) (At.loop N (At.loopN (fun y:Int×(List Int)×(List Int)=>ZbB.p1.S y.1 A0_0 x1 y.2.1 y.2.2 st) (fun c J hc y h=>ZbB.p1_ok (A5:=y.1) (A23:=y.2.1) (A24:=y.2.2) h hE (fun A5 A23 A24=>hc (A5,A23,A24))) N (255,zC 4 0,x4) h27))
def ZcL.B:Code:=Tryz.f55.body.getD .skip
def ZcL.rs (r:(List Int)):List CV:=[.agg [zI .u64 4 r]]
def ZcL (N:Nat) (A0:Int):Option (List Int):= Zbj (ZaY N A0) fun (x1,x2,x3)=> if x2=true then some (zC 4 0) else if x3=true then some (zC 4 0) else if (x1==(zC 4 0))=true then some (zC 4 0) else Zbj (ZbB N x1) fun x4=> some x4
theorem ZcL.snd {A0:Int} {r:(List Int)} (h:ZcL N A0=some r):ZdP zB 55 [oI A0] (ZcL.rs r):=fun st=>
 sO ZcL.B Tryz.func55 fun g0 w0 R hE=>by
  unfold ZcL at h;obtain ⟨⟨x1,x2,x3⟩,c1,h1⟩:=Zac h;let o1:List PS:=[rZ,.r [(1,q1 [.agg [zI .u64 4 x1],oB x2,oB x3])]]
  have t1 {Q:Prop} (q:Q):=aI (ZaY.snd c1) q;refine Zbg h1 (fun c2 h2=>?_) (fun c2 h3=>?_)
  ·exact xS fol h2 hE (o1++[.r [(2,wF),(5,wF),(6,wF),(7,wF)],cT,rZ]) (t1 (aN c2 c2 eT eT eT eT eT))
  refine Zbg h3 (fun c3 h4=>?_) (fun c3 h5=>?_)
  ·exact xS fol h4 hE (o1++[.r [(3,yF),(5,wF),(6,wF),(7,wF)],cT,rZ]) (t1 (aN c2 c2 c3 c3 c3 c3 eT))
  let o2:List PS:=o1++[.r [(3,yF),(8,yF)]]
  refine Zbg h5 (fun c4 h6=>?_) (fun c4 h7=>?_)
  ·exact xS fol h6 hE (o2++[cT,rZ]) (t1 (aN c2 c2 c3 c3 c3 c3 c4))
  obtain ⟨x4,c5,h8⟩:=Zac h7;exact xS fol h8 hE (o2++[cF,.r [(1,q1 [.agg [zI .u64 4 x4]])]]) (t1 (aO c2 c2 c3 c3 c3 c3 c4 (ZbB.snd c5)))
def ZeX.B:Code:=Tryz.f30.body.getD .skip
def ZeX.rs (r:(Option Nat)×LL):List CV:=[.one (zQ r.1)]
def ZeX (N:Nat) (A0:Zae) (A1:Int) (st:LL):Option ((Option Nat)×LL):= Zbj (Zdz N A0.Genesis) fun x1=> Zbj (ZcL N A0.Genesis.Bits) fun x2=> some ((some (zL st)),st++[Zab.lo (Zab.mk A0 [A0.Genesis.ls] [[zI .u8 32 x1]] [[zK .i64 (-1)]] [[zI .u64 4 x2]] (if (512:Int)<(if (1:Int)>A1 then 1 else A1) then 512 else (if (1:Int)>A1 then 1 else A1)))])
theorem ZeX.snd {A0:Zae} {A1:Int} {st:LL} {r:(Option Nat)×LL} (h:ZeX N A0 A1 st=some r):Snd zB 30 [.agg A0.ls,oI A1] st (ZeX.rs r) r.2:=
 sO ZeX.B Tryz.func30 fun g0 w0 R hE=>by
  unfold ZeX at h;obtain ⟨x1,c1,h1⟩:=Zac h;obtain ⟨x2,c2,h2⟩:=Zac h1;exact xTd fol h2 hE [rZ,.d {ds:=[(6,q1 [.agg [zI .u8 32 x1]]),(12,q1 [.agg [zI .u64 4 x2]]),(17,{mv:=[15,16,17,18]}),(18,{m:=1,mv:=[8,12,13,18],fz:=[8,12,13,18]})],hv:=270728,Hs:=[8,128,136,256,264,384,392,8192,8200,8320,8328,8448,8456,8576,8584,270728]}] (aO (Zdz.snd c1) (Zdz.snd c1) (Zdz.snd c1) (Zdz.snd c1) (ZcL.snd c2) (ZcL.snd c2) (ZcL.snd c2) (aO (ZcL.snd c2) (ZcL.snd c2) (ZcL.snd c2) (ZcL.snd c2) (ZcL.snd c2) z0 (eN (1)) (aM z0 (eN (1)) z0 (eN (1)) z0 (eN (1)))))
def Zfn.B:Code:=Tryz.f31.body.getD .skip
def Zfn.rs (r:(Option Nat)×LL):List CV:=[.one (zQ r.1)]
def Zfn (N:Nat) (st:LL):Option ((Option Nat)×LL):= some ((some (zL st)),zN (st++[ZaG.ls (ZaG.mk (zC 600 0) (zC 600 false))]) (zL st) (ZaG.ls (ZaG.mk (zN (zC 600 0) 0 1) (zC 600 false))))
theorem Zfn.snd {st:LL} {r:(Option Nat)×LL} (h:Zfn N st=some r):Snd zB 31 [] st (Zfn.rs r) r.2:=
 sO Zfn.B Tryz.func31 fun g0 w0 R hE=>by
  unfold Zfn at h;exact xT fol h hE [rZ,.r [(1,{m:=1})],.r [(4,{oc:=[zI .i64 600 (zC 600 0),L.brr 600 (zC 600 false)]})],rZ] (ix 0 600 (st_new st (ZaG.ls (ZaG.mk (zC 600 0) (zC 600 false)))))
def Zee.B:Code:=Tryz.f11.body.getD .skip
def Zee.rs (r:(Option Nat)×LL):List CV:=[.one (zQ r.1)]
def Zee (N:Nat) (A0:Zae) (st:LL):Option ((Option Nat)×LL):= Zbj (ZfB N A0 100 st) fun (x1,x2,st3)=> Zbj (ZfE N x1 st3) fun (x4,st5)=> Zbj (ZeX N A0 100 st5) fun (x6,st7)=> Zbj (Zfn N st7) fun (x8,st9)=> some ((some (zL st9)),st9++[[zQ x1,zQ x4,zQ x6,zQ x8]])
theorem Zee.snd {A0:Zae} {st:LL} {r:(Option Nat)×LL} (h:Zee N A0 st=some r):Snd zB 11 [.agg A0.ls] st (Zee.rs r) r.2:=
 sO Zee.B Tryz.func11 fun g0 w0 R hE=>by
  unfold Zee at h;obtain ⟨⟨x1,x2,st3⟩,c1,h1⟩:=Zac h;obtain ⟨⟨x4,st5⟩,c2,h2⟩:=Zac h1;obtain ⟨⟨x6,st7⟩,c3,h3⟩:=Zac h2;obtain ⟨⟨x8,st9⟩,c4,h4⟩:=Zac h3;exact xTd fol h4 hE [rZ,.r [(1,{rs:=[.one (zQ x1),oI x2],st:=st3})],.d {ds:=[(2,{rs:=[.one (zQ x4)],st:=st5}),(4,{rs:=[.one (zQ x6)],st:=st7}),(5,{rs:=[.one (zQ x8)],st:=st9}),(7,{m:=1})],hv:=180,Hs:=[4,20,52,180]}] (aK (ZfB.snd c1) (ZfE.snd c2) (ZeX.snd c3) (Zfn.snd c4))
def Zft.B:Code:=Tryz.f149.body.getD .skip
def Zft.rs (r:Int):List CV:=[oI r]
def Zft (N:Nat) (A0:Zae) (A1 A2:Int):Option Int:= some (if (w64 ((w64 (A0.Interval*A0.Spacing))*4))<(if (w64 (zS (w64 (A0.Interval*A0.Spacing)) 4))>(w64 (A2-A1)) then (w64 (zS (w64 (A0.Interval*A0.Spacing)) 4)) else (w64 (A2-A1))) then (w64 ((w64 (A0.Interval*A0.Spacing))*4)) else (if (w64 (zS (w64 (A0.Interval*A0.Spacing)) 4))>(w64 (A2-A1)) then (w64 (zS (w64 (A0.Interval*A0.Spacing)) 4)) else (w64 (A2-A1))))
theorem Zft.snd {A0:Zae} {A1 A2:Int} {r:Int} (h:Zft N A0 A1 A2=some r):ZdP zB 149 [.agg A0.ls,oI A1,oI A2] (Zft.rs r):=fun st=>
 sO Zft.B Tryz.func149 fun g0 w0 R hE=>by
  unfold Zft at h;exact xS fol h hE [rZ,rZ,rZ] (neI 4)
def Zcm.B:Code:=Tryz.f168.body.getD .skip
def Zcm.rs (r:Int):List CV:=[oI r]
def Zcm (N:Nat) (A0:Int):Option Int:= Zbj (ZaA N A0) fun x1=> some (w64 (64-x1))
theorem Zcm.snd {A0:Int} {r:Int} (h:Zcm N A0=some r):ZdP zB 168 [.one (zK .u64 A0)] (Zcm.rs r):=fun st=>
 sO Zcm.B Tryz.func168 fun g0 w0 R hE=>by
  unfold Zcm at h;obtain ⟨x1,c1,h1⟩:=Zac h;exact xS fol h1 hE [rZ,.r [(1,q1 [oI x1])]] (ZaA.snd c1)
def Zaj.B:Code:=Tryz.f161.body.getD .skip
def Zaj.rs (r:Int×Int):List CV:=[.one (zK .u64 r.1),.one (zK .u64 r.2)]
def Zaj.p6 (N:Nat) (A2 x1 A1 A4 A0 A7:Int):Option (Int×Int):= chk (0≤(v64 (x1)))<| some (v64 ((v64 (A4*4294967296))+A7),ZbF .u64 (v64 ((v64 ((v64 ((v64 ((v64 ((v64 ((ZaH .or .u64 (ZbV .u64 A0 (v64 (x1))) (ZbF .u64 A1 (v64 (64-(v64 (x1))))))*4294967296))+(ZbF .u64 (ZbV .u64 A1 (v64 (x1))) 32)))-(v64 (A4*(ZbV .u64 A2 (v64 (x1)))))))*4294967296))+(ZaH .and .u64 (ZbV .u64 A1 (v64 (x1))) 4294967295)))-(v64 (A7*(ZbV .u64 A2 (v64 (x1))))))) (v64 (x1)))
def Zaj.p5 (N:Nat) (c4_:(Int×Int)→Option (Int×Int)) (A2 x1 A1 A4 A5 A0 A6:Int):Option (Int×Int):= if (decide ((v64 (A5+(ZbF .u64 (ZbV .u64 A2 (v64 (x1))) 32)))≥4294967296))=true then Zaj.p6 N A2 x1 A1 A4 A0 (v64 (A6-1)) else c4_ (v64 (A5+(ZbF .u64 (ZbV .u64 A2 (v64 (x1))) 32)),v64 (A6-1))
def Zaj.p4 (N:Nat) (A2 x1 A1 A4 A0:Int) (c4_:(Int×Int)→Option (Int×Int)):(Int×Int)→Option (Int×Int):=fun (A5,A6)=> if (decide (A6≥4294967296))=true then Zaj.p5 N c4_ A2 x1 A1 A4 A5 A0 A6 else if (decide ((v64 (A6*(ZaH .and .u64 (ZbV .u64 A2 (v64 (x1))) 4294967295)))>(v64 ((v64 (4294967296*A5))+(ZaH .and .u64 (ZbV .u64 A1 (v64 (x1))) 4294967295)))))=true then Zaj.p5 N c4_ A2 x1 A1 A4 A5 A0 A6 else Zaj.p6 N A2 x1 A1 A4 A0 A6
def Zaj.p3 (N:Nat) (A2 x1 A0 A1 A4:Int):Option (Int×Int):= chk ((ZbF .u64 (ZbV .u64 A2 (v64 (x1))) 32)≠0)<| loopN (Zaj.p4 N A2 x1 A1 A4 A0) N (v64 ((v64 ((v64 ((v64 ((ZaH .or .u64 (ZbV .u64 A0 (v64 (x1))) (ZbF .u64 A1 (v64 (64-(v64 (x1))))))*4294967296))+(ZbF .u64 (ZbV .u64 A1 (v64 (x1))) 32)))-(v64 (A4*(ZbV .u64 A2 (v64 (x1)))))))-(v64 ((v64 (zS (v64 ((v64 ((v64 ((ZaH .or .u64 (ZbV .u64 A0 (v64 (x1))) (ZbF .u64 A1 (v64 (64-(v64 (x1))))))*4294967296))+(ZbF .u64 (ZbV .u64 A1 (v64 (x1))) 32)))-(v64 (A4*(ZbV .u64 A2 (v64 (x1))))))) (ZbF .u64 (ZbV .u64 A2 (v64 (x1))) 32)))*(ZbF .u64 (ZbV .u64 A2 (v64 (x1))) 32)))),v64 (zS (v64 ((v64 ((v64 ((ZaH .or .u64 (ZbV .u64 A0 (v64 (x1))) (ZbF .u64 A1 (v64 (64-(v64 (x1))))))*4294967296))+(ZbF .u64 (ZbV .u64 A1 (v64 (x1))) 32)))-(v64 (A4*(ZbV .u64 A2 (v64 (x1))))))) (ZbF .u64 (ZbV .u64 A2 (v64 (x1))) 32)))
def Zaj.p2 (N:Nat) (c1_:(Int×Int)→Option (Int×Int)) (A2 x1 A0 A1 F2 A3:Int):Option (Int×Int):= if (decide ((v64 (A3+(ZbF .u64 (ZbV .u64 A2 (v64 (x1))) 32)))≥4294967296))=true then Zaj.p3 N A2 x1 A0 A1 (v64 (F2-1)) else c1_ (v64 (F2-1),v64 (A3+(ZbF .u64 (ZbV .u64 A2 (v64 (x1))) 32)))
def Zaj.p1 (N:Nat) (A2 x1 A0 A1:Int) (c1_:(Int×Int)→Option (Int×Int)):(Int×Int)→Option (Int×Int):=fun (F2,A3)=> if (decide (F2≥4294967296))=true then Zaj.p2 N c1_ A2 x1 A0 A1 F2 A3 else if (decide ((v64 (F2*(ZaH .and .u64 (ZbV .u64 A2 (v64 (x1))) 4294967295)))>(v64 ((v64 (4294967296*A3))+(ZbF .u64 (ZbV .u64 A1 (v64 (x1))) 32)))))=true then Zaj.p2 N c1_ A2 x1 A0 A1 F2 A3 else Zaj.p3 N A2 x1 A0 A1 F2
def Zaj (N:Nat) (A0 A1 A2:Int):Option (Int×Int):= if (A2==0)=true then none else if (decide (A2≤A0))=true then none else if (A0==0)=true then chk (A2≠0)<| some (v64 (zS A1 A2),zX A1 A2) else Zbj (Zcm N A2) fun x1=> chk (0≤(v64 (x1)))<| chk (0≤(v64 (64-(v64 (x1)))))<| chk ((ZbF .u64 (ZbV .u64 A2 (v64 (x1))) 32)≠0)<| loopN (Zaj.p1 N A2 x1 A0 A1) N (v64 (zS (ZaH .or .u64 (ZbV .u64 A0 (v64 (x1))) (ZbF .u64 A1 (v64 (64-(v64 (x1)))))) (ZbF .u64 (ZbV .u64 A2 (v64 (x1))) 32)),v64 ((ZaH .or .u64 (ZbV .u64 A0 (v64 (x1))) (ZbF .u64 A1 (v64 (64-(v64 (x1))))))-(v64 ((v64 (zS (ZaH .or .u64 (ZbV .u64 A0 (v64 (x1))) (ZbF .u64 A1 (v64 (64-(v64 (x1)))))) (ZbF .u64 (ZbV .u64 A2 (v64 (x1))) 32)))*(ZbF .u64 (ZbV .u64 A2 (v64 (x1))) 32)))))
def Zaj.p6.S (A2 x1 A1 A4 A0 A7:Int) (st:LL):S:=mkS 135 [(2,.one (.l (zK .u64 (ZbV .u64 A2 (v64 (x1)))))),(8,.one (.l (zK .u64 (v64 (x1))))),(14,.one (.l (zK .u64 (ZaH .and .u64 (ZbV .u64 A1 (v64 (x1))) 4294967295)))),(15,.one (.l (zK .u64 A4))),(17,.one (.l (zK .u64 (v64 ((v64 ((v64 ((ZaH .or .u64 (ZbV .u64 A0 (v64 (x1))) (ZbF .u64 A1 (v64 (64-(v64 (x1))))))*4294967296))+(ZbF .u64 (ZbV .u64 A1 (v64 (x1))) 32)))-(v64 (A4*(ZbV .u64 A2 (v64 (x1)))))))))),(18,.one (.l (zK .u64 A7)))] [] st
def Zaj.p5.S (A2 x1 A1 A4 A5 A0 A6:Int) (st:LL):S:=mkS 135 [(2,.one (.l (zK .u64 (ZbV .u64 A2 (v64 (x1)))))),(8,.one (.l (zK .u64 (v64 (x1))))),(9,.one (.l (zK .u64 (ZbF .u64 (ZbV .u64 A2 (v64 (x1))) 32)))),(10,.one (.l (zK .u64 (ZaH .and .u64 (ZbV .u64 A2 (v64 (x1))) 4294967295)))),(14,.one (.l (zK .u64 (ZaH .and .u64 (ZbV .u64 A1 (v64 (x1))) 4294967295)))),(15,.one (.l (zK .u64 A4))),(16,.one (.l (zK .u64 A5))),(17,.one (.l (zK .u64 (v64 ((v64 ((v64 ((ZaH .or .u64 (ZbV .u64 A0 (v64 (x1))) (ZbF .u64 A1 (v64 (64-(v64 (x1))))))*4294967296))+(ZbF .u64 (ZbV .u64 A1 (v64 (x1))) 32)))-(v64 (A4*(ZbV .u64 A2 (v64 (x1)))))))))),(18,.one (.l (zK .u64 A6)))] [] st
def Zaj.p4.S (A2 x1 A1 A4 A5 A0 A6:Int) (st:LL):S:=mkS 135 [(2,.one (.l (zK .u64 (ZbV .u64 A2 (v64 (x1)))))),(8,.one (.l (zK .u64 (v64 (x1))))),(9,.one (.l (zK .u64 (ZbF .u64 (ZbV .u64 A2 (v64 (x1))) 32)))),(10,.one (.l (zK .u64 (ZaH .and .u64 (ZbV .u64 A2 (v64 (x1))) 4294967295)))),(14,.one (.l (zK .u64 (ZaH .and .u64 (ZbV .u64 A1 (v64 (x1))) 4294967295)))),(15,.one (.l (zK .u64 A4))),(16,.one (.l (zK .u64 A5))),(17,.one (.l (zK .u64 (v64 ((v64 ((v64 ((ZaH .or .u64 (ZbV .u64 A0 (v64 (x1))) (ZbF .u64 A1 (v64 (64-(v64 (x1))))))*4294967296))+(ZbF .u64 (ZbV .u64 A1 (v64 (x1))) 32)))-(v64 (A4*(ZbV .u64 A2 (v64 (x1)))))))))),(18,.one (.l (zK .u64 A6)))] [] st
def Zaj.p3.S (A2 x1 A0 A1 A4:Int) (st:LL):S:=mkS 135 [(2,.one (.l (zK .u64 (ZbV .u64 A2 (v64 (x1)))))),(8,.one (.l (zK .u64 (v64 (x1))))),(9,.one (.l (zK .u64 (ZbF .u64 (ZbV .u64 A2 (v64 (x1))) 32)))),(10,.one (.l (zK .u64 (ZaH .and .u64 (ZbV .u64 A2 (v64 (x1))) 4294967295)))),(11,.one (.l (zK .u64 (ZaH .or .u64 (ZbV .u64 A0 (v64 (x1))) (ZbF .u64 A1 (v64 (64-(v64 (x1))))))))),(13,.one (.l (zK .u64 (ZbF .u64 (ZbV .u64 A1 (v64 (x1))) 32)))),(14,.one (.l (zK .u64 (ZaH .and .u64 (ZbV .u64 A1 (v64 (x1))) 4294967295)))),(15,.one (.l (zK .u64 A4)))] [] st
def Zaj.p2.S (A2 x1 A0 A1 F2 A3:Int) (st:LL):S:=mkS 135 [(2,.one (.l (zK .u64 (ZbV .u64 A2 (v64 (x1)))))),(8,.one (.l (zK .u64 (v64 (x1))))),(9,.one (.l (zK .u64 (ZbF .u64 (ZbV .u64 A2 (v64 (x1))) 32)))),(10,.one (.l (zK .u64 (ZaH .and .u64 (ZbV .u64 A2 (v64 (x1))) 4294967295)))),(11,.one (.l (zK .u64 (ZaH .or .u64 (ZbV .u64 A0 (v64 (x1))) (ZbF .u64 A1 (v64 (64-(v64 (x1))))))))),(13,.one (.l (zK .u64 (ZbF .u64 (ZbV .u64 A1 (v64 (x1))) 32)))),(14,.one (.l (zK .u64 (ZaH .and .u64 (ZbV .u64 A1 (v64 (x1))) 4294967295)))),(15,.one (.l (zK .u64 F2))),(16,.one (.l (zK .u64 A3)))] [] st
def Zaj.p1.S (A2 x1 A0 A1 F2 A3:Int) (st:LL):S:=mkS 135 [(2,.one (.l (zK .u64 (ZbV .u64 A2 (v64 (x1)))))),(8,.one (.l (zK .u64 (v64 (x1))))),(9,.one (.l (zK .u64 (ZbF .u64 (ZbV .u64 A2 (v64 (x1))) 32)))),(10,.one (.l (zK .u64 (ZaH .and .u64 (ZbV .u64 A2 (v64 (x1))) 4294967295)))),(11,.one (.l (zK .u64 (ZaH .or .u64 (ZbV .u64 A0 (v64 (x1))) (ZbF .u64 A1 (v64 (64-(v64 (x1))))))))),(13,.one (.l (zK .u64 (ZbF .u64 (ZbV .u64 A1 (v64 (x1))) 32)))),(14,.one (.l (zK .u64 (ZaH .and .u64 (ZbV .u64 A1 (v64 (x1))) 4294967295)))),(15,.one (.l (zK .u64 F2))),(16,.one (.l (zK .u64 A3)))] [] st
theorem Zaj.p6_ok {A2 x1 A1 A4 A0 A7 st r} (h:Zaj.p6 N A2 x1 A1 A4 A0 A7=some r) (hE:En Tryz.f161 g0 w0 (Zaj.rs r) st R):At g0 w0 (Zaj.p6.S A2 x1 A1 A4 A0 A7 st) (XK zB R [cK Zaj.B [1,1,1,1,1,1,1,1,1,1,1,1,1,1,1,1,1,1,1]]):=by
 unfold Zaj.p6 at h;obtain ⟨c16,h1⟩:=Zbh h;exact xS fol h1 hE [rZ] c16
theorem Zaj.p5_ok {A2 x1 A1 A4 A5 A0 A6 st r c4_ J4} (h:Zaj.p5 N c4_ A2 x1 A1 A4 A5 A0 A6=some r) (hE:En Tryz.f161 g0 w0 (Zaj.rs r) st R) (hc4 : ∀A5 A6,c4_ (A5,A6)=some r→At g0 w0 (Zaj.p4.S A2 x1 A1 A4 A5 A0 A6 st) J4):At g0 w0 (Zaj.p5.S A2 x1 A1 A4 A5 A0 A6 st) (XK zB R [cK Zaj.B [1,1,1,1,1,1,1,1,1,1,1,1,1,1,1,1,1,1,0,0,0,1],.h J4,.b 2,cK Zaj.B [1,1,1,1,1,1,1,1,1,1,1,1,1,1,1,1,1,1,1]]):=by
 unfold Zaj.p5 at h;refine Zbg h (fun c15 h2=>?_) (fun c15 h3=>?_)
 ·exact aq fol [rZ,rZ,rZ,cT,.s 1] [2,8,14,15,17,18] [] c15 (Zaj.p6_ok h2 hE)
 exact an fol [rZ,rZ,rZ,cF] [2,8,9,10,14,15,16,17,18] [] c15 (hc4 (v64 (A5+(ZbF .u64 (ZbV .u64 A2 (v64 (x1))) 32))) (v64 (A6-1)) h3)
theorem Zaj.p4_ok {A2 x1 A1 A4 A5 A0 A6 st r c4_ J4} (h:Zaj.p4 N A2 x1 A1 A4 A0 c4_ (A5,A6)=some r) (hE:En Tryz.f161 g0 w0 (Zaj.rs r) st R) (hc4 : ∀A5 A6,c4_ (A5,A6)=some r→At g0 w0 (Zaj.p4.S A2 x1 A1 A4 A5 A0 A6 st) J4):At g0 w0 (Zaj.p4.S A2 x1 A1 A4 A5 A0 A6 st) (XK zB R (cK Zaj.B [1,1,1,1,1,1,1,1,1,1,1,1,1,1,1,1,1,1,0,0,0] :: .h J4 :: [.b 2,cK Zaj.B [1,1,1,1,1,1,1,1,1,1,1,1,1,1,1,1,1,1,1]])):=by
 unfold Zaj.p4 at h;refine Zbg h (fun c13 h4=>?_) (fun c13 h5=>?_)
 ·exact aq fol [.r [(3,wF),(4,wF),(5,wF),(6,wF),(7,wF),(8,wF),(9,wF),(10,wF)],cT,.s 4] [2,8,9,10,14,15,16,17,18] [] (aO c13 c13 c13 c13 c13 c13 c13 (aJ c13 c13 eT)) (Zaj.p5_ok h4 hE hc4)
 have t1 {Q:Prop} (q:Q):=aO c13 c13 c13 c13 c13 c13 c13 (aJ c13 c13 q);refine Zbg h5 (fun c14 h6=>?_) (fun c14 h7=>?_)
 ·exact aq fol [.r [(11,yF)],cT,.s 4] [2,8,9,10,14,15,16,17,18] [] (t1 c14) (Zaj.p5_ok h6 hE hc4)
 exact aq fol [.r [(11,yF)],cF,.s 1] [2,8,14,15,17,18] [] (t1 c14) (Zaj.p6_ok h7 hE)
theorem Zaj.p3_ok {A2 x1 A0 A1 A4 st r} (h:Zaj.p3 N A2 x1 A0 A1 A4=some r) (hE:En Tryz.f161 g0 w0 (Zaj.rs r) st R):At g0 w0 (Zaj.p3.S A2 x1 A0 A1 A4 st) (XK zB R [cK Zaj.B [1,1,1,1,1,1,1,1,1,1,1,1,1,1,1]]):=by
 unfold Zaj.p3 at h;obtain ⟨c12,h8⟩:=Zbh h;exact aq fol [rZ,rZ,rZ] [2,8,9,10,14,15,16,17,18] [] c12 (At.loop N (At.loopN (fun y:Int×Int=>Zaj.p4.S A2 x1 A1 A4 y.1 A0 y.2 st) (fun c J hc y h=>Zaj.p4_ok (A5:=y.1) (A6:=y.2) h hE (fun A5 A6=>hc (A5,A6))) N (v64 ((v64 ((v64 ((v64 ((ZaH .or .u64 (ZbV .u64 A0 (v64 (x1))) (ZbF .u64 A1 (v64 (64-(v64 (x1))))))*4294967296))+(ZbF .u64 (ZbV .u64 A1 (v64 (x1))) 32)))-(v64 (A4*(ZbV .u64 A2 (v64 (x1)))))))-(v64 ((v64 (zS (v64 ((v64 ((v64 ((ZaH .or .u64 (ZbV .u64 A0 (v64 (x1))) (ZbF .u64 A1 (v64 (64-(v64 (x1))))))*4294967296))+(ZbF .u64 (ZbV .u64 A1 (v64 (x1))) 32)))-(v64 (A4*(ZbV .u64 A2 (v64 (x1))))))) (ZbF .u64 (ZbV .u64 A2 (v64 (x1))) 32)))*(ZbF .u64 (ZbV .u64 A2 (v64 (x1))) 32)))),v64 (zS (v64 ((v64 ((v64 ((ZaH .or .u64 (ZbV .u64 A0 (v64 (x1))) (ZbF .u64 A1 (v64 (64-(v64 (x1))))))*4294967296))+(ZbF .u64 (ZbV .u64 A1 (v64 (x1))) 32)))-(v64 (A4*(ZbV .u64 A2 (v64 (x1))))))) (ZbF .u64 (ZbV .u64 A2 (v64 (x1))) 32))) h8))
theorem Zaj.p2_ok {A2 x1 A0 A1 F2 A3 st r c1_ J1} (h:Zaj.p2 N c1_ A2 x1 A0 A1 F2 A3=some r) (hE:En Tryz.f161 g0 w0 (Zaj.rs r) st R) (hc1 : ∀F2 A3,c1_ (F2,A3)=some r→At g0 w0 (Zaj.p1.S A2 x1 A0 A1 F2 A3 st) J1):At g0 w0 (Zaj.p2.S A2 x1 A0 A1 F2 A3 st) (XK zB R [cK Zaj.B [1,1,1,1,1,1,1,1,1,1,1,1,1,1,0,0,0,1],.h J1,.b 0,cK Zaj.B [1,1,1,1,1,1,1,1,1,1,1,1,1,1,1]]):=by
 unfold Zaj.p2 at h;refine Zbg h (fun c11 h9=>?_) (fun c11 h10=>?_)
 ·exact aq fol [rZ,rZ,rZ,cT,.s 1] [2,8,9,10,11,13,14,15] [] c11 (Zaj.p3_ok h9 hE)
 exact an fol [rZ,rZ,rZ,cF] [2,8,9,10,11,13,14,15,16] [] c11 (hc1 (v64 (F2-1)) (v64 (A3+(ZbF .u64 (ZbV .u64 A2 (v64 (x1))) 32))) h10)
theorem Zaj.p1_ok {A2 x1 A0 A1 F2 A3 st r c1_ J1} (h:Zaj.p1 N A2 x1 A0 A1 c1_ (F2,A3)=some r) (hE:En Tryz.f161 g0 w0 (Zaj.rs r) st R) (hc1 : ∀F2 A3,c1_ (F2,A3)=some r→At g0 w0 (Zaj.p1.S A2 x1 A0 A1 F2 A3 st) J1):At g0 w0 (Zaj.p1.S A2 x1 A0 A1 F2 A3 st) (XK zB R (cK Zaj.B [1,1,1,1,1,1,1,1,1,1,1,1,1,1,0,0,0] :: .h J1 :: [.b 0,cK Zaj.B [1,1,1,1,1,1,1,1,1,1,1,1,1,1,1]])):=by
 unfold Zaj.p1 at h;refine Zbg h (fun c9 h11=>?_) (fun c9 h12=>?_)
 ·exact aq fol [.r [(3,wF),(4,wF),(5,wF),(6,wF),(7,wF),(8,wF),(9,wF),(10,wF)],cT,.s 4] [2,8,9,10,11,13,14,15,16] [] (aO c9 c9 c9 c9 c9 c9 c9 (aJ c9 c9 eT)) (Zaj.p2_ok h11 hE hc1)
 refine Zbg h12 (fun c10 h13=>?_) (fun c10 h14=>?_)
 ·exact aq fol [.r [(11,yF)],cT,.s 4] [2,8,9,10,11,13,14,15,16] [] (aO c9 c9 c9 c9 c9 c9 c9 (aJ c9 c9 c10)) (Zaj.p2_ok h13 hE hc1)
 exact aq fol [.r [(11,yF)],cF,.s 1] [2,8,9,10,11,13,14,15] [] (aO c9 c9 c9 c9 c9 c9 c9 (aJ c9 c9 c10)) (Zaj.p3_ok h14 hE)
theorem Zaj.snd {A0 A1 A2:Int} {r:Int×Int} (h:Zaj N A0 A1 A2=some r):ZdP zB 161 [.one (zK .u64 A0),.one (zK .u64 A1),.one (zK .u64 A2)] (Zaj.rs r):=fun st=>
 sO Zaj.B Tryz.func161 fun g0 w0 R hE=>by
  unfold Zaj at h;let o1:List PS:=[rZ,rZ,cF,rZ,cF,rZ]
  refine Zbg h (fun c1 h15=>?_) (fun c1 h16=>?_)
  ·cases h15
  refine Zbg h16 (fun c2 h17=>?_) (fun c2 h18=>?_)
  ·cases h17
  refine Zbg h18 (fun c3 h19=>?_) (fun c3 h20=>?_)
  ·obtain ⟨c4,h21⟩:=Zbh h19;exact xSd fol h21 hE (o1++[cT,.d {ds:=[],hv:=0,Hs:=[]}]) (aL c1 c2 c3 c4 c4)
  obtain ⟨x1,c5,h22⟩:=Zac h20;obtain ⟨c6,c7,c8,h23⟩:=ck3 h22;exact aq fol (o1++[cF,.r [(1,q1 [oI x1])],rZ,rZ,rZ,rZ,rZ,rZ,rZ,rZ,rZ]) [2,8,9,10,11,13,14,15,16] [] (aO c1 c2 c3 (Zcm.snd c5) c6 (leI 0 32) c6 (aK c7 c6 (leI 0 32) c8)) (At.loop N (At.loopN (fun y:Int×Int=>Zaj.p1.S A2 x1 A0 A1 y.1 y.2 st) (fun c J hc y h=>Zaj.p1_ok (F2:=y.1) (A3:=y.2) h hE (fun F2 A3=>hc (F2,A3))) N (v64 (zS (ZaH .or .u64 (ZbV .u64 A0 (v64 (x1))) (ZbF .u64 A1 (v64 (64-(v64 (x1)))))) (ZbF .u64 (ZbV .u64 A2 (v64 (x1))) 32)),v64 ((ZaH .or .u64 (ZbV .u64 A0 (v64 (x1))) (ZbF .u64 A1 (v64 (64-(v64 (x1))))))-(v64 ((v64 (zS (ZaH .or .u64 (ZbV .u64 A0 (v64 (x1))) (ZbF .u64 A1 (v64 (64-(v64 (x1)))))) (ZbF .u64 (ZbV .u64 A2 (v64 (x1))) 32)))*(ZbF .u64 (ZbV .u64 A2 (v64 (x1))) 32))))) h23))
def ZcR.B:Code:=Tryz.f150.body.getD .skip
def ZcR.rs (r:(List Int)×Int):List CV:=[.agg [zI .u64 4 r.1],.one (zK .u64 r.2)]
def ZcR.p1 (N:Nat) (F1:Int) (c1_:(Int×Int×(List Int))→Option ((List Int)×Int)):(Int×Int×(List Int))→Option ((List Int)×Int):=fun (A1,A2,A5)=> if (decide (A2≥0))=true then chk (0≤A2)<| chk (A2<4)<| Zbj (Zaj N A1 (zF A5 (zD A2) 0) F1) fun (x6,x7)=> c1_ (x7,w64 (A2-1),zN A5 (zD A2) x6) else some (A5,A1)
def ZcR (N:Nat) (A0_0:List Int) (F1:Int):Option ((List Int)×Int):= if (F1==0)=true then some (zC 4 0,0) else loopN (ZcR.p1 N F1) N (0,3,A0_0)
def ZcR.p1.S (F1 A1 A2:Int) (A5:List Int) (st:LL):S:=mkS 28 [(1,.one (.l (zK .u64 F1))),(2,sA 2),(4,sA 4),(6,.one (.l (zK .u64 A1))),(7,sI A2)] [(2,.cells [zI .u64 4 A5]),(4,.cells [zI .u64 4 (zC 4 0)])] st
theorem ZcR.p1_ok {F1 A1 A2 A5 st r c1_ J1} (h:ZcR.p1 N F1 c1_ (A1,A2,A5)=some r) (hE:En Tryz.f150 g0 w0 (ZcR.rs r) st R) (hc1 : ∀A1 A2 A5,c1_ (A1,A2,A5)=some r→At g0 w0 (ZcR.p1.S F1 A1 A2 A5 st) J1):At g0 w0 (ZcR.p1.S F1 A1 A2 A5 st) (XK zB R (cK ZcR.B [1,1,1,0,1,0,0] :: .h J1 :: [.b 0,cK ZcR.B [1,1,1,1]])):=by
 unfold ZcR.p1 at h;refine Zbg h (fun c6 h1=>?_) (fun c6 h2=>?_)
 ·obtain ⟨c7,c8,h3⟩:=ck2 h1;obtain ⟨⟨x6,x7⟩,c9,h4⟩:=Zac h3;exact an fol [rZ,cT,.r [(6,q1 [.one (zK .u64 x6),.one (zK .u64 x7)])],rZ] [1,2,4,6,7] [2,4] (aM c6 c7 c8 (Zaj.snd c9) c7 c8) (hc1 x7 (w64 (A2-1)) (zN A5 (zD A2) x6) h4)
 exact xS fol h2 hE [rZ,cF,rZ] c6
theorem ZcR.snd {A0_0:List Int} {F1:Int} {r:(List Int)×Int} (h:ZcR N A0_0 F1=some r):ZdP zB 150 [.agg [zI .u64 4 A0_0],.one (zK .u64 F1)] (ZcR.rs r):=fun st=>
 sO ZcR.B Tryz.func150 fun g0 w0 R hE=>by
  unfold ZcR at h;refine Zbg h (fun c1 h5=>?_) (fun c1 h6=>?_)
  ·exact xS fol h5 hE [rZ,rZ,cT,rZ] c1
  exact aq fol [rZ,rZ,cF,rZ,rZ] [1,2,4,6,7] [2,4] c1 (At.loop N (At.loopN (fun y:Int×Int×(List Int)=>ZcR.p1.S F1 y.1 y.2.1 y.2.2 st) (fun c J hc y h=>ZcR.p1_ok (A1:=y.1) (A2:=y.2.1) (A5:=y.2.2) h hE (fun A1 A2 A5=>hc (A1,A2,A5))) N (0,3,A0_0) h6))
end Go.Dn.F
end
