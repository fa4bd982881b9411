import Derived.Test.YtbijmojagnjgcaaGreatDoorFm
import Derived.Test.YtbijmojagnjgcaaGreatDoorMv
set_option linter.all false
open Array renaming toList→rQ
open ByteArray renaming size→zZ,mk→wG,data→rA
open Go.Dn.L renaming int→zK,arr→zI,bool→xW,sl→vW,own→yC,ptr→zQ,str→vL
open Go.Proofs.Tryz renaming prog→zB
open Int renaming tdiv→zS,tmod→zX,toNat→zD
open List renaming set→zN,getD→zF,replicate→zC,length→zL,map→vI
noncomputable section
set_option maxRecDepth 100000
namespace Go.Dn.F
open Go.Proofs
variable {N:Nat} {g0:G} {w0:World} {R:Exit→Act→World→Prop}
structure ZcW where
  Height:Int
  Version:Int
def ZcW.ls (x:ZcW):List L:=[zK .i64 x.Height,zK .i64 x.Version]
def ZeY {α:Type} (l:List L) (k:ZcW→Option α):Option α:=match l with | [zK .i64 x0,zK .i64 x1]=>k ⟨x0,x1⟩ | _=>none
theorem Zfd {α:Type} {o:Option (List L)} {k:ZcW→Option α} {r:α} (h:Zde o ZeY k=some r) : ∃x:ZcW,o=some x.ls∧k x=some r:=by
  obtain ⟨l,e,k1⟩:=Zac h;subst e;unfold ZeY at k1;split at k1
  · exact ⟨_,rfl,k1⟩
  cases k1
@[simp] theorem Zfv {α:Type} (x:ZcW) (k:ZcW→Option α):ZeY x.ls k=k x:=rfl
theorem ZcW.bv {st:LL} (x:ZcW):BVs st x.ls x.ls:=(bP (bP bN))
structure Zcv where
  Height:Int
  Id:List Int
def Zcv.ls (x:Zcv):List L:=[zK .i64 x.Height,zI .u8 32 x.Id]
def ZeK {α:Type} (l:List L) (k:Zcv→Option α):Option α:=match l with | [zK .i64 x0,zI .u8 32 x1]=>k ⟨x0,x1⟩ | _=>none
theorem ZeV {α:Type} {o:Option (List L)} {k:Zcv→Option α} {r:α} (h:Zde o ZeK k=some r) : ∃x:Zcv,o=some x.ls∧k x=some r:=by
  obtain ⟨l,e,k1⟩:=Zac h;subst e;unfold ZeK at k1;split at k1
  · exact ⟨_,rfl,k1⟩
  cases k1
@[simp] theorem Zfe {α:Type} (x:Zcv) (k:Zcv→Option α):ZeK x.ls k=k x:=rfl
theorem Zcv.bv {st:LL} (x:Zcv):BVs st x.ls x.ls:=(bP (bP bN))
structure ZbJ where
  Kind:Int
  Header:Zak
  Now:Int
  N:Int
  Right:Bool
def ZbJ.ls (x:ZbJ):List L:=[zK .i64 x.Kind,zK .i64 x.Header.Version,zI .u8 32 x.Header.Prev,zI .u8 32 x.Header.Root,zK .i64 x.Header.Time,zK .i64 x.Header.Bits,zK .i64 x.Header.Nonce,zK .i64 x.Now,zK .i64 x.N,xW x.Right]
def ZdQ {α:Type} (l:List L) (k:ZbJ→Option α):Option α:=match l with | [zK .i64 x0,zK .i64 x1,zI .u8 32 x2,zI .u8 32 x3,zK .i64 x4,zK .i64 x5,zK .i64 x6,zK .i64 x7,zK .i64 x8,xW x9]=>k ⟨x0,⟨x1,x2,x3,x4,x5,x6⟩,x7,x8,x9⟩ | _=>none
theorem ZfF {α:Type} {o:Option (List L)} {k:ZbJ→Option α} {r:α} (h:Zde o ZdQ k=some r) : ∃x:ZbJ,o=some x.ls∧k x=some r:=by
  obtain ⟨l,e,k1⟩:=Zac h;subst e;unfold ZdQ at k1;split at k1
  · exact ⟨_,rfl,k1⟩
  cases k1
@[simp] theorem ZfJ {α:Type} (x:ZbJ) (k:ZbJ→Option α):ZdQ x.ls k=k x:=rfl
theorem ZbJ.bv {st:LL} (x:ZbJ):BVs st x.ls x.ls:=(bP (bP (bP (bP (bP (bP (bP (bP (bP (bP bN))))))))))
structure Zab where
  Rules:Zae
  List_:LL
  Ids:LL
  Ahead:LL
  Works:LL
  Room:Int
def Zab.lo (x:Zab):List L:=[zK .i64 x.Rules.Limit,zK .i64 x.Rules.Interval,zK .i64 x.Rules.Spacing,zK .i64 x.Rules.Future,xW x.Rules.Easy,vW 2 x.Rules.Gates,vW 33 x.Rules.Checks,zI .u64 4 x.Rules.MinWork,zI .u64 4 x.Rules.Margin,zK .i64 x.Rules.Genesis.Version,zI .u8 32 x.Rules.Genesis.Prev,zI .u8 32 x.Rules.Genesis.Root,zK .i64 x.Rules.Genesis.Time,zK .i64 x.Rules.Genesis.Bits,zK .i64 x.Rules.Genesis.Nonce,yC false 68 x.List_,yC false 32 x.Ids,yC false 1 x.Ahead,yC false 4 x.Works,zK .i64 x.Room]
def Zbb {α:Type} (l:List L) (k:Zab→Option α):Option α:=match l with | [zK .i64 x0,zK .i64 x1,zK .i64 x2,zK .i64 x3,xW x4,vW 2 x5,vW 33 x6,zI .u64 4 x7,zI .u64 4 x8,zK .i64 x9,zI .u8 32 x10,zI .u8 32 x11,zK .i64 x12,zK .i64 x13,zK .i64 x14,yC false 68 x15,yC false 32 x16,yC false 1 x17,yC false 4 x18,zK .i64 x19]=>k ⟨⟨x0,x1,x2,x3,x4,x5,x6,x7,x8,⟨x9,x10,x11,x12,x13,x14⟩⟩,x15,x16,x17,x18,x19⟩ | _=>none
theorem Zbd {α:Type} {o:Option (List L)} {k:Zab→Option α} {r:α} (h:Zde o Zbb k=some r) : ∃x:Zab,o=some x.lo∧k x=some r:=by
  obtain ⟨l,e,k1⟩:=Zac h;subst e;unfold Zbb at k1;split at k1
  · exact ⟨_,rfl,k1⟩
  cases k1
@[simp] theorem Zbk {α:Type} (x:Zab) (k:Zab→Option α):Zbb x.lo k=k x:=rfl
structure ZaF where
  Said:List Int
  Out:List Bool
def ZaF.ls (x:ZaF):List L:=[zI .i64 600 x.Said,L.brr 600 x.Out]
def Zco {α:Type} (l:List L) (k:ZaF→Option α):Option α:=match l with | [zI .i64 600 x0,L.brr 600 x1]=>k ⟨x0,x1⟩ | _=>none
theorem ZcS {α:Type} {o:Option (List L)} {k:ZaF→Option α} {r:α} (h:Zde o Zco k=some r) : ∃x:ZaF,o=some x.ls∧k x=some r:=by
  obtain ⟨l,e,k1⟩:=Zac h;subst e;unfold Zco at k1;split at k1
  · exact ⟨_,rfl,k1⟩
  cases k1
@[simp] theorem Zmh {α:Type} (x:ZaF) (k:ZaF→Option α):Zco x.ls k=k x:=rfl
theorem ZaF.bv {st:LL} (x:ZaF):BVs st x.ls x.ls:=(bP (bP bN))
def Zab.ls (x:Zab):List L:=[zK .i64 x.Rules.Limit,zK .i64 x.Rules.Interval,zK .i64 x.Rules.Spacing,zK .i64 x.Rules.Future,xW x.Rules.Easy,vW 2 x.Rules.Gates,vW 33 x.Rules.Checks,zI .u64 4 x.Rules.MinWork,zI .u64 4 x.Rules.Margin,zK .i64 x.Rules.Genesis.Version,zI .u8 32 x.Rules.Genesis.Prev,zI .u8 32 x.Rules.Genesis.Root,zK .i64 x.Rules.Genesis.Time,zK .i64 x.Rules.Genesis.Bits,zK .i64 x.Rules.Genesis.Nonce,vW 68 x.List_,vW 32 x.Ids,vW 1 x.Ahead,vW 4 x.Works,zK .i64 x.Room]
theorem Zab.bv {st:LL} (x:Zab):BVs st x.lo x.ls:=(bP (bP (bP (bP (bP (bS (bS (bP (bP (bP (bP (bP (bP (bP (bP (bW (bW (bW (bW (bP bN))))))))))))))))))))
structure Zgv where
  t:ZaD
  m:Zjc
  a:Zab
  r:ZaF
def Zgv.ls (x:Zgv):List L:=[L.bx 2 x.t.ls,L.bx 2 x.m.ls,L.bx 88 x.a.ls,L.bx 1200 x.r.ls]
def Zgp {α:Type} (l:List L) (k:(List Int)→Option α):Option α:=match l with | [zI .u64 4 x0]=>k x0 | _=>none
theorem ZhQ {α:Type} {o:Option (List L)} {k:(List Int)→Option α} {r:α} (h:Zde o Zgp k=some r) : ∃x0,o=some [zI .u64 4 x0]∧k x0=some r:=by
  obtain ⟨l,e,k1⟩:=Zac h;subst e;unfold Zgp at k1;split at k1
  · exact ⟨_,rfl,k1⟩
  cases k1
@[simp] theorem ZpT {α:Type} (x0:List Int) (k:(List Int)→Option α):Zgp [zI .u64 4 x0] k=k x0:=rfl
def ZbG {α:Type} (l:List L) (k:(Option Nat)→(Option Nat)→(Option Nat)→(Option Nat)→Option α):Option α:=match l with | [zQ x0,zQ x1,zQ x2,zQ x3]=>k x0 x1 x2 x3 | _=>none
theorem ZbS {α:Type} {o:Option (List L)} {k:(Option Nat)→(Option Nat)→(Option Nat)→(Option Nat)→Option α} {r:α} (h:Zde o ZbG k=some r) : ∃x0 x1 x2 x3,o=some [zQ x0,zQ x1,zQ x2,zQ x3]∧k x0 x1 x2 x3=some r:=by
  obtain ⟨l,e,k1⟩:=Zac h;subst e;unfold ZbG at k1;split at k1
  · exact ⟨_,_,_,_,rfl,k1⟩
  cases k1
@[simp] theorem Zmt {α:Type} (x0:Option Nat) (x1:Option Nat) (x2:Option Nat) (x3:Option Nat) (k:(Option Nat)→(Option Nat)→(Option Nat)→(Option Nat)→Option α):ZbG [zQ x0,zQ x1,zQ x2,zQ x3] k=k x0 x1 x2 x3:=rfl
theorem slices_Sort_int.snd:SortC zB 154:=slices_Sort_int.holds
theorem Zes.snd {x y z:Int} {r:Int×Int} (h:Zes N x y z=some r):ExtI zB 157 [(.u64,x),(.u64,y),(.u64,z)] [(.u64,r.1),(.u64,r.2)]:=ZmH Tryz.func157 (by kernel_rfl) (by kernel_rfl) (by kernel_rfl) (by kernel_rfl) h
theorem ZfD.snd {x y z:Int} {r:Int×Int} (h:ZfD N x y z=some r):ExtI zB 166 [(.u64,x),(.u64,y),(.u64,z)] [(.u64,r.1),(.u64,r.2)]:=ZmG Tryz.func166 (by kernel_rfl) (by kernel_rfl) (by kernel_rfl) (by kernel_rfl) h
def ZdM.B:Code:=Tryz.f138.body.getD .skip
def ZdM.rs (r:(List Int)):List CV:=[.agg [zI .u64 4 r]]
def ZdM (N:Nat) (A0:Int):Option (List Int):= some [A0,0,0,0]
theorem ZdM.snd {A0:Int} {r:(List Int)} (h:ZdM N A0=some r):ZdP zB 138 [.one (zK .u64 A0)] (ZdM.rs r):=fun st=>
 sO ZdM.B Tryz.func138 fun g0 w0 R hE=>by
  unfold ZdM at h;exact xS fol h hE [rZ,.r [(1,{m:=3})]] trivial
def Zbw.B:Code:=Tryz.f139.body.getD .skip
def Zbw.rs (r:(List Int)):List CV:=[.agg [zI .u64 4 r]]
def Zbw.p2 (N:Nat) (c1_:(Int×(List Int))→Option (List Int)) (F1 v1:Int) (A0_0 A4:List Int):Option (List Int):= c1_ (w64 (v1+1),A4)
def Zbw.p1 (N:Nat) (F1:Int) (A0_0:List Int) (c1_:(Int×(List Int))→Option (List Int)):(Int×(List Int))→Option (List Int):=fun (v1,A3)=> if (decide (v1<(w64 (4-(w64 (zS (if (0:Int)>F1 then 0 else F1) 64))))))=true then chk (0≤(w64 (v1+(w64 (zS (if (0:Int)>F1 then 0 else F1) 64)))))<| chk ((w64 (v1+(w64 (zS (if (0:Int)>F1 then 0 else F1) 64))))<4)<| chk (0≤(zX (if (0:Int)>F1 then 0 else F1) 64))<| chk (0≤v1)<| chk (v1<4)<| if (decide ((w64 ((w64 (v1+(w64 (zS (if (0:Int)>F1 then 0 else F1) 64))))+1))<4))=true then chk (0≤(w64 ((w64 (v1+(w64 (zS (if (0:Int)>F1 then 0 else F1) 64))))+1)))<| chk (0≤(w64 (64-(zX (if (0:Int)>F1 then 0 else F1) 64))))<| Zbw.p2 N c1_ F1 v1 A0_0 (zN (zN A3 (zD v1) (ZbF .u64 (zF A0_0 (zD (w64 (v1+(w64 (zS (if (0:Int)>F1 then 0 else F1) 64))))) 0) (zX (if (0:Int)>F1 then 0 else F1) 64))) (zD v1) (ZaG .or .u64 (zF (zN A3 (zD v1) (ZbF .u64 (zF A0_0 (zD (w64 (v1+(w64 (zS (if (0:Int)>F1 then 0 else F1) 64))))) 0) (zX (if (0:Int)>F1 then 0 else F1) 64))) (zD v1) 0) (ZbR .u64 (zF A0_0 (zD (w64 ((w64 (v1+(w64 (zS (if (0:Int)>F1 then 0 else F1) 64))))+1))) 0) (w64 (64-(zX (if (0:Int)>F1 then 0 else F1) 64)))))) else Zbw.p2 N c1_ F1 v1 A0_0 (zN A3 (zD v1) (ZbF .u64 (zF A0_0 (zD (w64 (v1+(w64 (zS (if (0:Int)>F1 then 0 else F1) 64))))) 0) (zX (if (0:Int)>F1 then 0 else F1) 64))) else some A3
def Zbw (N:Nat) (A0_0:List Int) (F1:Int):Option (List Int):= if (decide (F1≥256))=true then some (zC 4 0) else loopN (Zbw.p1 N F1 A0_0) N (0,zC 4 0)
def Zbw.p2.S (F1 v1:Int) (A0_0 A4:List Int) (st:LL):S:=mkS 53 [(2,sA 2),(4,sA 4),(5,sA 5),(6,sI (w64 (zS (if (0:Int)>F1 then 0 else F1) 64))),(7,sI (zX (if (0:Int)>F1 then 0 else F1) 64)),(19,sI (w64 (4-(w64 (zS (if (0:Int)>F1 then 0 else F1) 64))))),(20,sI v1)] [(2,.cells [zI .u64 4 A0_0]),(4,.cells [zI .u64 4 (zC 4 0)]),(5,.cells [zI .u64 4 A4])] st
def Zbw.p1.S (F1 v1:Int) (A0_0 A3:List Int) (st:LL):S:=mkS 53 [(2,sA 2),(4,sA 4),(5,sA 5),(6,sI (w64 (zS (if (0:Int)>F1 then 0 else F1) 64))),(7,sI (zX (if (0:Int)>F1 then 0 else F1) 64)),(19,sI (w64 (4-(w64 (zS (if (0:Int)>F1 then 0 else F1) 64))))),(20,sI v1)] [(2,.cells [zI .u64 4 A0_0]),(4,.cells [zI .u64 4 (zC 4 0)]),(5,.cells [zI .u64 4 A3])] st
theorem Zbw.p2_ok {F1 v1 A0_0 A4 st r c1_ J1} (h:Zbw.p2 N c1_ F1 v1 A0_0 A4=some r) (hE:En Tryz.f139 g0 w0 (Zbw.rs r) st R) (hc1 : ∀v1 A3,c1_ (v1,A3)=some r→At g0 w0 (Zbw.p1.S F1 v1 A0_0 A3 st) J1):At g0 w0 (Zbw.p2.S F1 v1 A0_0 A4 st) (XK zB R [cK Zbw.B [1,1,1,1,0,1,0,0,1,1,1],.h J1,.b 0,cK Zbw.B [1,1,1,1,1]]):=by
 unfold Zbw.p2 at h;exact an fol [rZ] [2,4,5,6,7,19,20] [2,4,5] trivial (hc1 (w64 (v1+1)) A4 h)
theorem Zbw.p1_ok {F1 v1 A0_0 A3 st r c1_ J1} (h:Zbw.p1 N F1 A0_0 c1_ (v1,A3)=some r) (hE:En Tryz.f139 g0 w0 (Zbw.rs r) st R) (hc1 : ∀v1 A3,c1_ (v1,A3)=some r→At g0 w0 (Zbw.p1.S F1 v1 A0_0 A3 st) J1):At g0 w0 (Zbw.p1.S F1 v1 A0_0 A3 st) (XK zB R (cK Zbw.B [1,1,1,1,0,1,0,0] :: .h J1 :: [.b 0,cK Zbw.B [1,1,1,1,1]])):=by
 unfold Zbw.p1 at h;refine Zbc h (fun c11 h1=>?_) (fun c11 h2=>?_)
 ·obtain ⟨c12,c13,c14,c15,c16,h3⟩:=ck5 h1;let o1:List PS:=[rZ,cT,rZ,rZ,rZ]
  refine Zbc h3 (fun c17 h4=>?_) (fun c17 h5=>?_)
  ·obtain ⟨c18,c19,h6⟩:=ck2 h4;exact aqd fol (o1++[cT,.d {ds:=[],hv:=16384,Hs:=[16384]},.s 4]) [2,4,5,6,7,19,20] [2,4,5] (aO c11 c12 c13 c14 c15 c16 c17 (aN c15 c16 c18 (oD c17) c19 c15 c16)) (Zbw.p2_ok h6 hE hc1)
  exact aq fol (o1++[cF,.s 4]) [2,4,5,6,7,19,20] [2,4,5] (aN c11 c12 c13 c14 c15 c16 c17) (Zbw.p2_ok h5 hE hc1)
 exact xS fol h2 hE [rZ,cF,rZ] c11
theorem Zbw.snd {A0_0:List Int} {F1:Int} {r:(List Int)} (h:Zbw N A0_0 F1=some r):ZdP zB 139 [.agg [zI .u64 4 A0_0],oI F1] (Zbw.rs r):=fun st=>
 sO Zbw.B Tryz.func139 fun g0 w0 R hE=>by
  unfold Zbw at h;refine Zbc h (fun c1 h7=>?_) (fun c1 h8=>?_)
  ·exact xS fol h7 hE [rZ,rZ,cT,rZ] c1
  exact aq fol [rZ,rZ,cF,rZ,rZ,rZ] [2,4,5,6,7,19,20] [2,4,5] (aJ c1 (neI 64) (neI 64)) (At.loop N (At.loopN (fun y:Int×(List Int)=>Zbw.p1.S F1 y.1 A0_0 y.2 st) (fun c J hc y h=>Zbw.p1_ok (v1:=y.1) (A3:=y.2) h hE (fun v1 A3=>hc (v1,A3))) N (0,zC 4 0) h8))
def Zck.B:Code:=Tryz.f140.body.getD .skip
def Zck.rs (r:(List Int)):List CV:=[.agg [zI .u64 4 r]]
def Zck.p2 (N:Nat) (c1_:(Int×(List Int))→Option (List Int)) (F1 A1:Int) (A0_0 A4:List Int):Option (List Int):= c1_ (w64 (A1+1),A4)
def Zck.p1 (N:Nat) (F1:Int) (A0_0:List Int) (c1_:(Int×(List Int))→Option (List Int)):(Int×(List Int))→Option (List Int):=fun (A1,A3)=> if (decide (A1<4))=true then chk (0≤(w64 (A1-(w64 (zS (if (0:Int)>F1 then 0 else F1) 64)))))<| chk ((w64 (A1-(w64 (zS (if (0:Int)>F1 then 0 else F1) 64))))<4)<| chk (0≤(zX (if (0:Int)>F1 then 0 else F1) 64))<| chk (0≤A1)<| if (decide (A1>(w64 (zS (if (0:Int)>F1 then 0 else F1) 64))))=true then chk (0≤(w64 ((w64 (A1-(w64 (zS (if (0:Int)>F1 then 0 else F1) 64))))-1)))<| chk ((w64 ((w64 (A1-(w64 (zS (if (0:Int)>F1 then 0 else F1) 64))))-1))<4)<| chk (0≤(w64 (64-(zX (if (0:Int)>F1 then 0 else F1) 64))))<| Zck.p2 N c1_ F1 A1 A0_0 (zN (zN A3 (zD A1) (ZbR .u64 (zF A0_0 (zD (w64 (A1-(w64 (zS (if (0:Int)>F1 then 0 else F1) 64))))) 0) (zX (if (0:Int)>F1 then 0 else F1) 64))) (zD A1) (ZaG .or .u64 (zF (zN A3 (zD A1) (ZbR .u64 (zF A0_0 (zD (w64 (A1-(w64 (zS (if (0:Int)>F1 then 0 else F1) 64))))) 0) (zX (if (0:Int)>F1 then 0 else F1) 64))) (zD A1) 0) (ZbF .u64 (zF A0_0 (zD (w64 ((w64 (A1-(w64 (zS (if (0:Int)>F1 then 0 else F1) 64))))-1))) 0) (w64 (64-(zX (if (0:Int)>F1 then 0 else F1) 64)))))) else Zck.p2 N c1_ F1 A1 A0_0 (zN A3 (zD A1) (ZbR .u64 (zF A0_0 (zD (w64 (A1-(w64 (zS (if (0:Int)>F1 then 0 else F1) 64))))) 0) (zX (if (0:Int)>F1 then 0 else F1) 64))) else some A3
def Zck (N:Nat) (A0_0:List Int) (F1:Int):Option (List Int):= if (decide (F1≥256))=true then some (zC 4 0) else loopN (Zck.p1 N F1 A0_0) N (w64 (zS (if (0:Int)>F1 then 0 else F1) 64),zC 4 0)
def Zck.p2.S (F1 A1:Int) (A0_0 A4:List Int) (st:LL):S:=mkS 50 [(2,sA 2),(4,sA 4),(5,sA 5),(6,sI (w64 (zS (if (0:Int)>F1 then 0 else F1) 64))),(7,sI (zX (if (0:Int)>F1 then 0 else F1) 64)),(8,sI A1)] [(2,.cells [zI .u64 4 A0_0]),(4,.cells [zI .u64 4 (zC 4 0)]),(5,.cells [zI .u64 4 A4])] st
def Zck.p1.S (F1 A1:Int) (A0_0 A3:List Int) (st:LL):S:=mkS 50 [(2,sA 2),(4,sA 4),(5,sA 5),(6,sI (w64 (zS (if (0:Int)>F1 then 0 else F1) 64))),(7,sI (zX (if (0:Int)>F1 then 0 else F1) 64)),(8,sI A1)] [(2,.cells [zI .u64 4 A0_0]),(4,.cells [zI .u64 4 (zC 4 0)]),(5,.cells [zI .u64 4 A3])] st
theorem Zck.p2_ok {F1 A1 A0_0 A4 st r c1_ J1} (h:Zck.p2 N c1_ F1 A1 A0_0 A4=some r) (hE:En Tryz.f140 g0 w0 (Zck.rs r) st R) (hc1 : ∀A1 A3,c1_ (A1,A3)=some r→At g0 w0 (Zck.p1.S F1 A1 A0_0 A3 st) J1):At g0 w0 (Zck.p2.S F1 A1 A0_0 A4 st) (XK zB R [cK Zck.B [1,1,1,1,0,1,0,0,1,1],.h J1,.b 0,cK Zck.B [1,1,1,1,1]]):=by
 unfold Zck.p2 at h;exact an fol [rZ] [2,4,5,6,7,8] [2,4,5] trivial (hc1 (w64 (A1+1)) A4 h)
theorem Zck.p1_ok {F1 A1 A0_0 A3 st r c1_ J1} (h:Zck.p1 N F1 A0_0 c1_ (A1,A3)=some r) (hE:En Tryz.f140 g0 w0 (Zck.rs r) st R) (hc1 : ∀A1 A3,c1_ (A1,A3)=some r→At g0 w0 (Zck.p1.S F1 A1 A0_0 A3 st) J1):At g0 w0 (Zck.p1.S F1 A1 A0_0 A3 st) (XK zB R (cK Zck.B [1,1,1,1,0,1,0,0] :: .h J1 :: [.b 0,cK Zck.B [1,1,1,1,1]])):=by
 unfold Zck.p1 at h;refine Zbc h (fun c11 h1=>?_) (fun c11 h2=>?_)
 ·obtain ⟨c12,c13,c14,c15,h3⟩:=ck4 h1;refine Zbc h3 (fun c16 h4=>?_) (fun c16 h5=>?_)
  ·obtain ⟨c17,c18,c19,h6⟩:=ck3 h4;exact aqd fol [rZ,cT,rZ,rZ,cT,.d {ds:=[],hv:=16384,Hs:=[16384]},.s 4] [2,4,5,6,7,8] [2,4,5] (aO c11 c12 c13 c14 c15 (oD c11) c16 (aN c15 (oD c11) c17 c18 c19 c15 (oD c11))) (Zck.p2_ok h6 hE hc1)
  exact aq fol [rZ,cT,rZ,rZ,cF,.s 4] [2,4,5,6,7,8] [2,4,5] (aN c11 c12 c13 c14 c15 (oD c11) c16) (Zck.p2_ok h5 hE hc1)
 exact xS fol h2 hE [rZ,cF,rZ] c11
theorem Zck.snd {A0_0:List Int} {F1:Int} {r:(List Int)} (h:Zck N A0_0 F1=some r):ZdP zB 140 [.agg [zI .u64 4 A0_0],oI F1] (Zck.rs r):=fun st=>
 sO Zck.B Tryz.func140 fun g0 w0 R hE=>by
  unfold Zck at h;refine Zbc h (fun c1 h7=>?_) (fun c1 h8=>?_)
  ·exact xS fol h7 hE [rZ,rZ,cT,rZ] c1
  exact aq fol [rZ,rZ,cF,rZ,rZ,rZ] [2,4,5,6,7,8] [2,4,5] (aJ c1 (neI 64) (neI 64)) (At.loop N (At.loopN (fun y:Int×(List Int)=>Zck.p1.S F1 y.1 A0_0 y.2 st) (fun c J hc y h=>Zck.p1_ok (A1:=y.1) (A3:=y.2) h hE (fun A1 A3=>hc (A1,A3))) N (w64 (zS (if (0:Int)>F1 then 0 else F1) 64),zC 4 0) h8))
def ZaT.B:Code:=Tryz.f121.body.getD .skip
def ZaT.rs (r:(List Int)×Bool×Bool):List CV:=[.agg [zI .u64 4 r.1],oB r.2.1,oB r.2.2]
def ZaT.p2 (N:Nat) (A0:Int) (A6:Bool) (A5:List Int):Option ((List Int)×Bool×Bool):= if ((ZaG .and .i64 A0 8388607) != 0)=true then if (decide ((ZbF .i64 A0 24)>34))=true then some (A5,A6,true) else if (decide ((ZaG .and .i64 A0 8388607)>255))=true then if (decide ((ZbF .i64 A0 24)>33))=true then some (A5,A6,true) else if (decide ((ZaG .and .i64 A0 8388607)>65535))=true then some (A5,A6,decide ((ZbF .i64 A0 24)>32)) else some (A5,A6,false) else if (decide ((ZaG .and .i64 A0 8388607)>65535))=true then some (A5,A6,decide ((ZbF .i64 A0 24)>32)) else some (A5,A6,false) else some (A5,A6,false)
def ZaT.p1 (N:Nat) (A0:Int) (A5:List Int):Option ((List Int)×Bool×Bool):= if ((ZaG .and .i64 A0 8388607) != 0)=true then ZaT.p2 N A0 ((ZaG .and .i64 A0 8388608) != 0) A5 else ZaT.p2 N A0 false A5
def ZaT (N:Nat) (A0:Int):Option ((List Int)×Bool×Bool):= Zbm (ZdL N A0) fun x1=> if (!x1)=true then some (zC 4 0,false,false) else Zbm (ZdM N (v64 (ZaG .and .i64 A0 8388607))) fun x2=> if (decide ((ZbF .i64 A0 24)≤3))=true then Zbm (Zbw N x2 (w64 (8*(w64 (3-(ZbF .i64 A0 24)))))) fun x3=> ZaT.p1 N A0 x3 else Zbm (Zck N x2 (w64 (8*(w64 ((ZbF .i64 A0 24)-3))))) fun x4=> ZaT.p1 N A0 x4
def ZaT.p2.S (A0:Int) (A6:Bool) (A5:List Int) (st:LL):S:=mkS 65 [(2,sA 2),(5,sI (ZbF .i64 A0 24)),(6,sI (ZaG .and .i64 A0 8388607)),(7,sA 7),(8,.one (.l (xW A6)))] [(2,.cells [zI .u64 4 (zC 4 0)]),(7,.cells [zI .u64 4 A5])] st
def ZaT.p1.S (A0:Int) (A5:List Int) (st:LL):S:=mkS 65 [(0,sI A0),(2,sA 2),(5,sI (ZbF .i64 A0 24)),(6,sI (ZaG .and .i64 A0 8388607)),(7,sA 7)] [(2,.cells [zI .u64 4 (zC 4 0)]),(7,.cells [zI .u64 4 A5])] st
theorem ZaT.p2_ok {A0 A6 A5 st r} (h:ZaT.p2 N A0 A6 A5=some r) (hE:En Tryz.f121 g0 w0 (ZaT.rs r) st R):At g0 w0 (ZaT.p2.S A0 A6 A5 st) (XK zB R [cK ZaT.B [1,1,1,1,1,1]]):=by
 unfold ZaT.p2 at h;refine Zbc h (fun c8 h1=>?_) (fun c8 h2=>?_)
 ·have t1 {Q:Prop} (q:Q):=aK c8 c8 c8 q;refine Zbc h1 (fun c9 h3=>?_) (fun c9 h4=>?_)
  ·exact xS fol h3 hE [.r [(6,wF),(7,wF),(8,wF),(11,wF),(14,wF),(15,wF),(16,wF),(19,wF)],rZ] (t1 (aO c9 c9 c9 c9 c8 c9 c8 (aN eT eT eT eT c8 eT c8)))
  have t2 {Q:Prop} (q:Q):=t1 (aK c9 c9 c9 q);refine Zbc h4 (fun c10 h5=>?_) (fun c10 h6=>?_)
  ·have t3 {Q:Prop} (q:Q):=t2 (aO c10 c10 c9 c10 c8 c9 c8 q);refine Zbc h5 (fun c11 h7=>?_) (fun c11 h8=>?_)
   ·exact xS fol h7 hE [.r [(12,yF),(14,wF),(15,wF),(16,wF),(19,wF)],rZ] (t3 (aN c11 c11 c11 c11 c8 c11 c8))
   refine Zbc h8 (fun c12 h9=>?_) (fun c12 h10=>?_)
   ·exact xS fol h9 hE [.r [(12,yF),(20,yF)],rZ] (t3 (aO c11 c11 c11 c12 c12 c11 c12 (aJ c8 c11 c8)))
   exact xS fol h10 hE [.r [(12,yF),(17,wF),(18,wF),(19,yF),(20,yF)],rZ] (t3 (aO c11 c11 c11 c12 c12 c11 c12 (aJ c8 c11 c8)))
  have t4 {Q:Prop} (q:Q):=t2 (aO c10 c10 c9 c10 c8 c9 c8 (aK eF eF eF q));refine Zbc h6 (fun c13 h11=>?_) (fun c13 h12=>?_)
  ·exact xS fol h11 hE [.r [(9,wF),(10,wF),(11,yF),(12,yF),(20,yF)],rZ] (t4 (aN c13 c13 eF c13 c8 eF c8))
  exact xS fol h12 hE [.r [(9,wF),(10,wF),(11,yF),(12,yF),(17,wF),(18,wF),(19,yF),(20,yF)],rZ] (t4 (aN c13 c13 eF c13 c8 eF c8))
 exact xS fol h2 hE [.r [(3,wF),(4,wF),(5,wF),(12,wF),(13,wF),(20,wF),(21,yF)],rZ] (aN c8 c8 c8 c8 c8 c8 c8)
theorem ZaT.p1_ok {A0 A5 st r} (h:ZaT.p1 N A0 A5=some r) (hE:En Tryz.f121 g0 w0 (ZaT.rs r) st R):At g0 w0 (ZaT.p1.S A0 A5 st) (XK zB R [cK ZaT.B [1,1,1,1,1]]):=by
 unfold ZaT.p1 at h;refine Zbc h (fun c7 h13=>?_) (fun c7 h14=>?_)
 ·exact aq fol [rZ,.s 1] [2,5,6,7,8] [2,7] (aK c7 c7 c7 c7) (ZaT.p2_ok h13 hE)
 exact aq fol [.r [(3,wF),(4,wF),(5,wF),(6,yF)],.s 1] [2,5,6,7,8] [2,7] (aK c7 c7 c7 c7) (ZaT.p2_ok h14 hE)
theorem ZaT.snd {A0:Int} {r:(List Int)×Bool×Bool} (h:ZaT N A0=some r):ZdP zB 121 [oI A0] (ZaT.rs r):=fun st=>
 sO ZaT.B Tryz.func121 fun g0 w0 R hE=>by
  unfold ZaT at h;obtain ⟨x1,c1,h15⟩:=Zac h;let o1:List PS:=[rZ,.r [(1,q1 [oB x1])]]
  have t5 {Q:Prop} (q:Q):=aI (ZdL.snd c1) q;refine Zbc h15 (fun c2 h16=>?_) (fun c2 h17=>?_)
  ·exact xS fol h16 hE (o1++[cT,rZ]) (t5 c2)
  obtain ⟨x2,c3,h18⟩:=Zac h17;let o2:List PS:=o1++[cF,rZ,.r [(2,q1 [.agg [zI .u64 4 x2]])],rZ]
  refine Zbc h18 (fun c4 h19=>?_) (fun c4 h20=>?_)
  ·obtain ⟨x3,c5,h21⟩:=Zac h19;exact aq fol (o2++[cT,.r [(4,q1 [.agg [zI .u64 4 x3]])],.s 1]) [0,2,5,6,7] [2,7] (t5 (aL c2 (leI 0 24) (ZdM.snd c3) c4 (Zbw.snd c5))) (ZaT.p1_ok h21 hE)
  obtain ⟨x4,c6,h22⟩:=Zac h20;exact aq fol (o2++[cF,.r [(4,q1 [.agg [zI .u64 4 x4]])],.s 1]) [0,2,5,6,7] [2,7] (t5 (aL c2 (leI 0 24) (ZdM.snd c3) c4 (Zck.snd c6))) (ZaT.p1_ok h22 hE)
def Zdv.B:Code:=Tryz.f122.body.getD .skip
def Zdv.rs (r:Bool):List CV:=[oB r]
def Zdv (N:Nat) (A0_0:List Int):Option Bool:= some (A0_0==(zC 4 0))
theorem Zdv.snd {A0_0:List Int} {r:Bool} (h:Zdv N A0_0=some r):ZdP zB 122 [.agg [zI .u64 4 A0_0]] (Zdv.rs r):=fun st=>
 sO Zdv.B Tryz.func122 fun g0 w0 R hE=>by
  unfold Zdv at h;exact xS fol h hE [rZ,rZ] trivial
def ZbL.B:Code:=Tryz.f69.body.getD .skip
def ZbL.rs (r:Int):List CV:=[oI r]
def ZbL.p1 (N:Nat) (A0_0 A1_0:List Int) (c1_:Int→Option Int):Int→Option Int:=fun A1=> if (decide (A1≥0))=true then chk (0≤A1)<| chk (A1<4)<| if (decide ((zF A0_0 (zD A1) 0)<(zF A1_0 (zD A1) 0)))=true then some (-1) else if (decide ((zF A0_0 (zD A1) 0)>(zF A1_0 (zD A1) 0)))=true then some 1 else c1_ (w64 (A1-1)) else some 0
def ZbL (N:Nat) (A0_0 A1_0:List Int):Option Int:= loopN (ZbL.p1 N A0_0 A1_0) N 3
def ZbL.p1.S (A1:Int) (A0_0 A1_0:List Int) (st:LL):S:=mkS 26 [(2,sA 2),(3,sA 3),(5,sI A1)] [(2,.cells [zI .u64 4 A0_0]),(3,.cells [zI .u64 4 A1_0])] st
theorem ZbL.p1_ok {A1 A0_0 A1_0 st r c1_ J1} (h:ZbL.p1 N A0_0 A1_0 c1_ A1=some r) (hE:En Tryz.f69 g0 w0 (ZbL.rs r) st R) (hc1 : ∀A1,c1_ A1=some r→At g0 w0 (ZbL.p1.S A1 A0_0 A1_0 st) J1):At g0 w0 (ZbL.p1.S A1 A0_0 A1_0 st) (XK zB R (cK ZbL.B [1,0,1,0,0] :: .h J1 :: [.b 0,cK ZbL.B [1,1]])):=by
 unfold ZbL.p1 at h;refine Zbc h (fun c1 h1=>?_) (fun c1 h2=>?_)
 ·obtain ⟨c2,c3,h3⟩:=ck2 h1;let o1:List PS:=[rZ,cT,.d {ds:=[],hv:=0,Hs:=[]}]
  refine Zbc h3 (fun c4 h4=>?_) (fun c4 h5=>?_)
  ·exact xSd fol h4 hE (o1++[cT,rZ]) (aM c1 c2 c3 c2 c3 c4)
  let o2:List PS:=o1++[cF,.d {ds:=[],hv:=0,Hs:=[]}]
  refine Zbc h5 (fun c5 h6=>?_) (fun c5 h7=>?_)
  ·exact xSd fol h6 hE (o2++[cT,rZ]) (aO c1 c2 c3 c2 c3 c4 c2 (aK c3 c2 c3 c5))
  exact ZjR fol (o2++[cF,rZ]) [2,3,5] [2,3] (aO c1 c2 c3 c2 c3 c4 c2 (aK c3 c2 c3 c5)) (hc1 (w64 (A1-1)) h7)
 exact xS fol h2 hE [rZ,cF,rZ] c1
theorem ZbL.snd {A0_0 A1_0:List Int} {r:Int} (h:ZbL N A0_0 A1_0=some r):ZdP zB 69 [.agg [zI .u64 4 A0_0],.agg [zI .u64 4 A1_0]] (ZbL.rs r):=fun st=>
 sO ZbL.B Tryz.func69 fun g0 w0 R hE=>by
  unfold ZbL at h;exact aq fol [rZ,rZ] [2,3,5] [2,3] trivial (At.loop N (At.loopN (fun y:Int=>ZbL.p1.S y A0_0 A1_0 st) (fun c J hc y h=>ZbL.p1_ok h hE (fun A1=>hc A1)) N 3 h))
def ZdE.B:Code:=Tryz.f137.body.getD .skip
def ZdE.rs (r:Bool):List CV:=[oB r]
def ZdE (N:Nat) (A0_0 A1_0:List Int):Option Bool:= Zbm (ZbL N A0_0 A1_0) fun x1=> some (decide (x1<0))
theorem ZdE.snd {A0_0 A1_0:List Int} {r:Bool} (h:ZdE N A0_0 A1_0=some r):ZdP zB 137 [.agg [zI .u64 4 A0_0],.agg [zI .u64 4 A1_0]] (ZdE.rs r):=fun st=>
 sO ZdE.B Tryz.func137 fun g0 w0 R hE=>by
  unfold ZdE at h;obtain ⟨x1,c1,h1⟩:=Zac h;exact xS fol h1 hE [rZ,.r [(2,q1 [oI x1])]] (ZbL.snd c1)
def ZcU.B:Code:=Tryz.f120.body.getD .skip
def ZcU.rs (r:(List Int)×Bool):List CV:=[.agg [zI .u64 4 r.1],oB r.2]
def ZcU (N:Nat) (A0 A1:Int):Option ((List Int)×Bool):= Zbm (ZaT N A0) fun (x1,x2,x3)=> Zbm (ZaT N A1) fun (x4,x5,x6)=> if x2=true then some (zC 4 0,false) else if x3=true then some (zC 4 0,false) else if x5=true then some (zC 4 0,false) else if x6=true then some (zC 4 0,false) else Zbm (Zdv N x1) fun x7=> if x7=true then some (zC 4 0,false) else Zbm (ZdE N x4 x1) fun x8=> if x8=true then some (zC 4 0,false) else some (x1,true)
theorem ZcU.snd {A0 A1:Int} {r:(List Int)×Bool} (h:ZcU N A0 A1=some r):ZdP zB 120 [oI A0,oI A1] (ZcU.rs r):=fun st=>
 sO ZcU.B Tryz.func120 fun g0 w0 R hE=>by
  unfold ZcU at h;obtain ⟨⟨x1,x2,x3⟩,c1,h1⟩:=Zac h;obtain ⟨⟨x4,x5,x6⟩,c2,h2⟩:=Zac h1;let o1:List PS:=[rZ,.r [(1,q1 [.agg [zI .u64 4 x1],oB x2,oB x3])],.r [(1,q1 [.agg [zI .u64 4 x4],oB x5,oB x6])]]
  have t1 {Q:Prop} (q:Q):=aJ (ZaT.snd c1) (ZaT.snd c2) q;refine Zbc h2 (fun c3 h3=>?_) (fun c3 h4=>?_)
  ·exact xS fol h3 hE (o1++[.r [(2,wF),(5,wF),(8,wF),(11,wF),(12,wF),(15,wF),(16,wF),(17,wF)],cT,rZ]) (t1 (aO c3 c3 eT eT eT eT eT (aN eT eT eT eT eT eT eT)))
  refine Zbc h4 (fun c4 h5=>?_) (fun c4 h6=>?_)
  ·exact xS fol h5 hE (o1++[.r [(3,yF),(5,wF),(8,wF),(11,wF),(12,wF),(15,wF),(16,wF),(17,wF)],cT,rZ]) (t1 (aO c3 c3 c4 c4 eT eT eT (aN eT eT eT eT eT eT eT)))
  have t2 {Q:Prop} (q:Q):=t1 (aL c3 c3 c4 c4 q);refine Zbc h6 (fun c5 h7=>?_) (fun c5 h8=>?_)
  ·exact xS fol h7 hE (o1++[.r [(3,yF),(6,yF),(8,wF),(11,wF),(12,wF),(15,wF),(16,wF),(17,wF)],cT,rZ]) (t2 (aO c5 c5 eT eT eT eT eT (aJ eT eT eT)))
  refine Zbc h8 (fun c6 h9=>?_) (fun c6 h10=>?_)
  ·exact xS fol h9 hE (o1++[.r [(3,yF),(6,yF),(9,yF),(11,wF),(12,wF),(15,wF),(16,wF),(17,wF)],cT,rZ]) (t2 (aO c5 c5 c6 c6 c6 eT eT (aJ eT eT eT)))
  obtain ⟨x7,c7,h11⟩:=Zac h10;have t3 {Q:Prop} (q:Q):=t2 (aN c5 c5 c6 c6 (Zdv.snd c7) c6 q);refine Zbc h11 (fun c8 h12=>?_) (fun c8 h13=>?_)
  ·exact xS fol h12 hE (o1++[.r [(3,yF),(6,yF),(9,yF),(12,q1 [oB x7]),(13,yF),(15,wF),(16,wF),(17,wF)],cT,rZ]) (t3 (aL c8 c8 c8 c8 eT))
  obtain ⟨x8,c9,h14⟩:=Zac h13;let o2:List PS:=o1++[.r [(3,yF),(6,yF),(9,yF),(12,q1 [oB x7]),(13,yF),(17,q1 [oB x8]),(18,yF)]]
  refine Zbc h14 (fun c10 h15=>?_) (fun c10 h16=>?_)
  ·exact xS fol h15 hE (o2++[cT,rZ]) (t3 (aM c8 c8 c8 (ZdE.snd c9) c8 c10))
  exact xS fol h16 hE (o2++[cF,rZ]) (t3 (aM c8 c8 c8 (ZdE.snd c9) c8 c10))
def ZeQ.B:Code:=Tryz.f94.body.getD .skip
def ZeQ.rs (r:Bool):List CV:=[oB r]
def ZeQ (N:Nat) (A0:Zae):Option Bool:= Zbm (ZcU N A0.Limit A0.Limit) fun (x1,x2)=> if x2=true then if (decide (A0.Interval≥2))=true then if (decide (A0.Interval≤64))=true then if (decide (A0.Spacing≥1))=true then if (decide (A0.Spacing≤10000))=true then if (decide (A0.Future≥0))=true then some (decide (A0.Future<4294967296)) else some false else some false else some false else some false else some false else some false
theorem ZeQ.snd {A0:Zae} {r:Bool} (h:ZeQ N A0=some r):ZdP zB 94 [.agg A0.ls] (ZeQ.rs r):=fun st=>
 sO ZeQ.B Tryz.func94 fun g0 w0 R hE=>by
  unfold ZeQ at h;obtain ⟨⟨x1,x2⟩,c1,h1⟩:=Zac h;let o1:List PS:=[rZ,.r [(4,q1 [.agg [zI .u64 4 x1],oB x2])]]
  have t1 {Q:Prop} (q:Q):=aI (ZcU.snd c1) q;refine Zbc h1 (fun c2 h2=>?_) (fun c2 h3=>?_)
  ·have t2 {Q:Prop} (q:Q):=t1 (aL c2 c2 c2 c2 q);refine Zbc h2 (fun c3 h4=>?_) (fun c3 h5=>?_)
   ·have t3 {Q:Prop} (q:Q):=t2 (aL c3 c3 c3 c3 q);refine Zbc h4 (fun c4 h6=>?_) (fun c4 h7=>?_)
    ·have t4 {Q:Prop} (q:Q):=t3 (aL c4 c4 c4 c4 q);refine Zbc h6 (fun c5 h8=>?_) (fun c5 h9=>?_)
     ·refine Zbc h8 (fun c6 h10=>?_) (fun c6 h11=>?_)
      ·refine Zbc h10 (fun c7 h12=>?_) (fun c7 h13=>?_)
       ·exact xS fol h12 hE (o1++[rZ]) (t4 (aO c5 c5 c5 c5 c6 c6 c6 (aL c6 c7 c7 c7 c7)))
       exact xS fol h13 hE (o1++[.r [(27,wF),(28,wF),(29,wF),(30,yF)]]) (t4 (aO c5 c5 c5 c5 c6 c6 c6 (aL c6 c7 c7 c7 c7)))
      exact xS fol h11 hE (o1++[.r [(22,wF),(23,wF),(24,wF),(25,yF),(27,wF),(28,wF),(29,wF),(30,yF)]]) (t4 (aO c5 c5 c5 c5 c6 c6 c6 (aL c6 eF eF eF eF)))
     exact xS fol h9 hE (o1++[.r [(17,wF),(18,wF),(19,wF),(20,yF),(22,wF),(23,wF),(24,wF),(25,yF),(27,wF),(28,wF),(29,wF),(30,yF)]]) (t4 (aO c5 c5 c5 c5 eF eF eF (aL eF eF eF eF eF)))
    exact xS fol h7 hE (o1++[.r [(12,wF),(13,wF),(14,wF),(15,yF),(17,wF),(18,wF),(19,wF),(20,yF),(22,wF),(23,wF),(24,wF),(25,yF),(27,wF),(28,wF),(29,wF),(30,yF)]]) (t3 (aO c4 c4 c4 c4 eF eF eF (aO eF eF eF eF eF eF eF (aI eF eF))))
   exact xS fol h5 hE (o1++[.r [(7,wF),(8,wF),(9,wF),(10,yF),(12,wF),(13,wF),(14,wF),(15,yF),(17,wF),(18,wF),(19,wF),(20,yF),(22,wF),(23,wF),(24,wF),(25,yF),(27,wF),(28,wF),(29,wF),(30,yF)]]) (t2 (aO c3 c3 c3 c3 eF eF eF (aO eF eF eF eF eF eF eF (aM eF eF eF eF eF eF))))
  exact xS fol h3 hE (o1++[.r [(2,wF),(3,wF),(4,wF),(5,yF),(7,wF),(8,wF),(9,wF),(10,yF),(12,wF),(13,wF),(14,wF),(15,yF),(17,wF),(18,wF),(19,wF),(20,yF),(22,wF),(23,wF),(24,wF),(25,yF),(27,wF),(28,wF),(29,wF),(30,yF)]]) (t1 (aO c2 c2 c2 c2 eF eF eF (aO eF eF eF eF eF eF eF (aO eF eF eF eF eF eF eF (aJ eF eF eF)))))
def Zcm.B:Code:=Tryz.f72.body.getD .skip
def Zcm.rs (r:Bool):List CV:=[oB r]
def Zcm.p2 (N:Nat) (A0:Zae) (c2_:Int→Option Bool):Int→Option Bool:=fun v6=> if (decide (v6<(len A0.Checks)))=true then chk (0≤v6)<| Zde (A0.Checks[zD v6]?) ZeK fun x7=> if (decide (x7.Height<1))=true then some false else if (decide (v6>0))=true then chk (0≤(w64 (v6-1)))<| chk ((w64 (v6-1))<(len A0.Checks))<| Zde (A0.Checks[zD (w64 (v6-1))]?) ZeK fun x8=> if (decide (x7.Height≤x8.Height))=true then some false else c2_ (w64 (v6+1)) else c2_ (w64 (v6+1)) else some true
def Zcm.p1 (N:Nat) (A0:Zae) (c1_:Int→Option Bool):Int→Option Bool:=fun v3=> if (decide (v3<(len A0.Gates)))=true then chk (0≤v3)<| Zde (A0.Gates[zD v3]?) ZeY fun x4=> if (decide (x4.Height<0))=true then some false else if (decide (v3>0))=true then chk (0≤(w64 (v3-1)))<| chk ((w64 (v3-1))<(len A0.Gates))<| Zde (A0.Gates[zD (w64 (v3-1))]?) ZeY fun x5=> if (decide (x4.Height≤x5.Height))=true then some false else c1_ (w64 (v3+1)) else c1_ (w64 (v3+1)) else loopN (Zcm.p2 N A0) N 0
def Zcm (N:Nat) (A0:Zae):Option Bool:= Zbm (ZeQ N A0) fun x1=> if (!x1)=true then some false else Zbm (Zdb N A0.Genesis) fun x2=> if (!x2)=true then some false else loopN (Zcm.p1 N A0) N 0
def Zcm.p2.S (A0:Zae) (v6:Int) (st:LL):S:=mkS 72 [(1,sA 1),(45,sV 33 A0.Checks),(46,sI (len A0.Checks)),(47,sI v6)] [(1,.cells A0.ls)] st
def Zcm.p1.S (A0:Zae) (v3:Int) (st:LL):S:=mkS 72 [(1,sA 1),(17,sV 2 A0.Gates),(18,sI (len A0.Gates)),(19,sI v3)] [(1,.cells A0.ls)] st
theorem Zcm.p2_ok {A0 v6 st r c2_ J2} (h:Zcm.p2 N A0 c2_ v6=some r) (hE:En Tryz.f72 g0 w0 (Zcm.rs r) st R) (hc2 : ∀v6,c2_ v6=some r→At g0 w0 (Zcm.p2.S A0 v6 st) J2):At g0 w0 (Zcm.p2.S A0 v6 st) (XK zB R (cK Zcm.B [1,1,1,0,1,0,0] :: .h J2 :: [.b 2,cK Zcm.B [1,1,1,1]])):=by
 unfold Zcm.p2 at h;refine Zbc h (fun c14 h1=>?_) (fun c14 h2=>?_)
 ·obtain ⟨c15,h3⟩:=Zbe h1;obtain ⟨x7,c16,h4⟩:=ZeV h3;let o1:List PS:=[rZ,cT,.r [(2,{oe:=x7.ls})]]
  have t1 {Q:Prop} (q:Q):=aL c14 c15 (oD c14) c16 q;refine Zbc h4 (fun c17 h5=>?_) (fun c17 h6=>?_)
  ·exact xSd fol h5 hE (o1++[.d {ds:=[(4,wF),(5,wF),(6,wF),(17,wF)],hv:=0,Hs:=[]},cT,rZ]) (t1 (aM c17 c17 c17 c17 c17 eT))
  refine Zbc h6 (fun c18 h7=>?_) (fun c18 h8=>?_)
  ·obtain ⟨c19,c20,h9⟩:=ck2 h7;obtain ⟨x8,c21,h10⟩:=ZeV h9;let o2:List PS:=o1++[.d {ds:=[(15,{oe:=x8.ls}),(18,yF)],hv:=0,Hs:=[]}]
   have t2 {Q:Prop} (q:Q):=t1 (aO c17 c17 c17 c18 c18 c18 c18 (aO c18 c18 c18 c19 c20 c18 c18 (aM c21 c18 c17 c18 c17 q)));refine Zbc h10 (fun c22 h11=>?_) (fun c22 h12=>?_)
   ·exact xSd fol h11 hE (o2++[cT,rZ]) (t2 c22)
   exact ZjR fol (o2++[cF,rZ]) [1,45,46,47] [1] (t2 c22) (hc2 (w64 (v6+1)) h12)
  exact ZjR fol (o1++[.d {ds:=[(7,wF),(8,wF),(9,wF),(10,wF),(11,wF),(12,wF),(13,wF),(14,wF),(15,wF),(16,wF),(17,yF),(18,yF)],hv:=0,Hs:=[]},cF,rZ]) [1,45,46,47] [1] (t1 (aO c17 c17 c17 c18 c18 c18 c18 (aO c18 c18 c18 c18 c18 c18 c17 (aJ c18 c17 eF)))) (hc2 (w64 (v6+1)) h8)
 exact xS fol h2 hE [rZ,cF,rZ] c14
theorem Zcm.p1_ok {A0 v3 st r c1_ J1} (h:Zcm.p1 N A0 c1_ v3=some r) (hE:En Tryz.f72 g0 w0 (Zcm.rs r) st R) (hc1 : ∀v3,c1_ v3=some r→At g0 w0 (Zcm.p1.S A0 v3 st) J1):At g0 w0 (Zcm.p1.S A0 v3 st) (XK zB R (cK Zcm.B [1,1,0,1,0,0] :: .h J1 :: [.b 0,cK Zcm.B [1,1,1]])):=by
 unfold Zcm.p1 at h;refine Zbc h (fun c5 h13=>?_) (fun c5 h14=>?_)
 ·obtain ⟨c6,h15⟩:=Zbe h13;obtain ⟨x4,c7,h16⟩:=Zfd h15;let o3:List PS:=[rZ,cT,.r [(2,{oe:=x4.ls})]]
  have t3 {Q:Prop} (q:Q):=aL c5 c6 (oD c5) c7 q;refine Zbc h16 (fun c8 h17=>?_) (fun c8 h18=>?_)
  ·exact xSd fol h17 hE (o3++[.d {ds:=[(4,wF),(5,wF),(6,wF),(17,wF)],hv:=0,Hs:=[]},cT,rZ]) (t3 (aM c8 c8 c8 c8 c8 eT))
  refine Zbc h18 (fun c9 h19=>?_) (fun c9 h20=>?_)
  ·obtain ⟨c10,c11,h21⟩:=ck2 h19;obtain ⟨x5,c12,h22⟩:=Zfd h21;let o4:List PS:=o3++[.d {ds:=[(15,{oe:=x5.ls}),(18,yF)],hv:=0,Hs:=[]}]
   have t4 {Q:Prop} (q:Q):=t3 (aO c8 c8 c8 c9 c9 c9 c9 (aO c9 c9 c9 c10 c11 c9 c9 (aM c12 c9 c8 c9 c8 q)));refine Zbc h22 (fun c13 h23=>?_) (fun c13 h24=>?_)
   ·exact xSd fol h23 hE (o4++[cT,rZ]) (t4 c13)
   exact ZjR fol (o4++[cF,rZ]) [1,17,18,19] [1] (t4 c13) (hc1 (w64 (v3+1)) h24)
  exact ZjR fol (o3++[.d {ds:=[(7,wF),(8,wF),(9,wF),(10,wF),(11,wF),(12,wF),(13,wF),(14,wF),(15,wF),(16,wF),(17,yF),(18,yF)],hv:=0,Hs:=[]},cF,rZ]) [1,17,18,19] [1] (t3 (aO c8 c8 c8 c9 c9 c9 c9 (aO c9 c9 c9 c9 c9 c9 c8 (aJ c9 c8 eF)))) (hc1 (w64 (v3+1)) h20)
 exact aq fol [rZ,cF,rZ] [1,45,46,47] [1] c5 (At.loop N (At.loopN (fun y:Int=>Zcm.p2.S A0 y st) (fun c J hc y h=>Zcm.p2_ok h hE (fun v6=>hc v6)) N 0 h14))
theorem Zcm.snd {A0:Zae} {r:Bool} (h:Zcm N A0=some r):ZdP zB 72 [.agg A0.ls] (Zcm.rs r):=fun st=>
 sO Zcm.B Tryz.func72 fun g0 w0 R hE=>by
  unfold Zcm at h;obtain ⟨x1,c1,h25⟩:=Zac h;have t5 {Q:Prop} (q:Q):=aI (ZeQ.snd c1) q;refine Zbc h25 (fun c2 h26=>?_) (fun c2 h27=>?_)
  ·exact xS fol h26 hE [rZ,.r [(1,q1 [oB x1]),(4,wF),(5,wF),(6,wF),(7,wF)],cT,rZ] (t5 (aM (not_false (Zbt c2)) (not_false (Zbt c2)) (not_false (Zbt c2)) (not_false (Zbt c2)) (not_false (Zbt c2)) eT))
  obtain ⟨x2,c3,h28⟩:=Zac h27;let o5:List PS:=[rZ,.r [(1,q1 [oB x1]),(6,q1 [oB x2]),(8,yF)]]
  have t6 {Q:Prop} (q:Q):=t5 (aN (not_true (Zbu c2)) (not_true (Zbu c2)) (not_true (Zbu c2)) (Zdb.snd c3) (not_true (Zbu c2)) (not_true (Zbu c2)) q);refine Zbc h28 (fun c4 h29=>?_) (fun c4 h30=>?_)
  ·exact xS fol h29 hE (o5++[cT,rZ]) (t6 c4)
  exact aq fol (o5++[cF,rZ]) [1,17,18,19] [1] (t6 c4) (At.loop N (At.loopN (fun y:Int=>Zcm.p1.S A0 y st) (fun c J hc y h=>Zcm.p1_ok h hE (fun v3=>hc v3)) N 0 h30))
def Zcr.B:Code:=Tryz.f141.body.getD .skip
def Zcr.rs (r:(List Int)×Bool):List CV:=[.agg [zI .u64 4 r.1],oB r.2]
def Zcr.p1 (N:Nat) (A1_0:List Int) (c1_:(Int×Int×(List Int))→Option ((List Int)×Bool)):(Int×Int×(List Int))→Option ((List Int)×Bool):=fun (A1,v2,A5)=> if (decide (v2<4))=true then chk (0≤v2)<| Zbm (Zes N (zF A5 (zD v2) 0) (zF A1_0 (zD v2) 0) A1) fun (x6,x7)=> c1_ (x7,w64 (v2+1),zN A5 (zD v2) x6) else some (A5,A1 != 0)
def Zcr (N:Nat) (A0_0 A1_0:List Int):Option ((List Int)×Bool):= loopN (Zcr.p1 N A1_0) N (0,0,A0_0)
def Zcr.p1.S (A1 v2:Int) (A5 A1_0:List Int) (st:LL):S:=mkS 28 [(2,sA 2),(3,sA 3),(4,sA 4),(6,.one (.l (zK .u64 A1))),(8,sI v2)] [(2,.cells [zI .u64 4 A5]),(3,.cells [zI .u64 4 A1_0]),(4,.cells [zI .u64 4 (zC 4 0)])] st
theorem Zcr.p1_ok {A1 v2 A5 A1_0 st r c1_ J1} (h:Zcr.p1 N A1_0 c1_ (A1,v2,A5)=some r) (hE:En Tryz.f141 g0 w0 (Zcr.rs r) st R) (hc1 : ∀A1 v2 A5,c1_ (A1,v2,A5)=some r→At g0 w0 (Zcr.p1.S A1 v2 A5 A1_0 st) J1):At g0 w0 (Zcr.p1.S A1 v2 A5 A1_0 st) (XK zB R (cK Zcr.B [1,1,0,1,0,0] :: .h J1 :: [.b 0,cK Zcr.B [1,1,1]])):=by
 unfold Zcr.p1 at h;refine Zbc h (fun c4 h1=>?_) (fun c4 h2=>?_)
 ·obtain ⟨c5,h3⟩:=Zbe h1;obtain ⟨⟨x6,x7⟩,c6,h4⟩:=Zac h3;exact ZjR fol [rZ,cT,rZ,.d {ds:=[(8,{rs:=[.one (zK .u64 x6),.one (zK .u64 x7)],m:=4})],hv:=8192,Hs:=[8192]},rZ] [2,3,4,6,8] [2,3,4] (aO c4 c5 (oD c4) c5 (oD c4) (Zes.snd c6) c5 (oD c4)) (hc1 x7 (w64 (v2+1)) (zN A5 (zD v2) x6) h4)
 exact xS fol h2 hE [rZ,cF,rZ] c4
theorem Zcr.snd {A0_0 A1_0:List Int} {r:(List Int)×Bool} (h:Zcr N A0_0 A1_0=some r):ZdP zB 141 [.agg [zI .u64 4 A0_0],.agg [zI .u64 4 A1_0]] (Zcr.rs r):=fun st=>
 sO Zcr.B Tryz.func141 fun g0 w0 R hE=>by
  unfold Zcr at h;exact aq fol [rZ,rZ,rZ] [2,3,4,6,8] [2,3,4] trivial (At.loop N (At.loopN (fun y:Int×Int×(List Int)=>Zcr.p1.S y.1 y.2.1 y.2.2 A1_0 st) (fun c J hc y h=>Zcr.p1_ok (A1:=y.1) (v2:=y.2.1) (A5:=y.2.2) h hE (fun A1 v2 A5=>hc (A1,v2,A5))) N (0,0,A0_0) h))
def ZcQ.B:Code:=Tryz.f143.body.getD .skip
def ZcQ.rs (r:(List Int)):List CV:=[.agg [zI .u64 4 r]]
def ZcQ.p1 (N:Nat) (c1_:(Int×(List Int))→Option (List Int)):(Int×(List Int))→Option (List Int):=fun (v1,A2)=> if (decide (v1<4))=true then chk (0≤v1)<| c1_ (w64 (v1+1),zN A2 (zD v1) (ZaG .xor .u64 (IntKind.max IntKind.u64) (zF A2 (zD v1) 0))) else some A2
def ZcQ (N:Nat) (A0_0:List Int):Option (List Int):= loopN (ZcQ.p1 N) N (0,A0_0)
def ZcQ.p1.S (v1:Int) (A2:List Int) (st:LL):S:=mkS 15 [(1,sA 1),(2,sA 2),(4,sI v1)] [(1,.cells [zI .u64 4 A2]),(2,.cells [zI .u64 4 (zC 4 0)])] st
theorem ZcQ.p1_ok {v1 A2 st r c1_ J1} (h:ZcQ.p1 N c1_ (v1,A2)=some r) (hE:En Tryz.f143 g0 w0 (ZcQ.rs r) st R) (hc1 : ∀v1 A2,c1_ (v1,A2)=some r→At g0 w0 (ZcQ.p1.S v1 A2 st) J1):At g0 w0 (ZcQ.p1.S v1 A2 st) (XK zB R (cK ZcQ.B [1,0,1,0,0] :: .h J1 :: [.b 0,cK ZcQ.B [1,1]])):=by
 unfold ZcQ.p1 at h;refine Zbc h (fun c3 h1=>?_) (fun c3 h2=>?_)
 ·obtain ⟨c4,h3⟩:=Zbe h1;exact an fol [rZ,cT,rZ,rZ,rZ] [1,2,4] [1,2] (aL c3 c4 (oD c3) c4 (oD c3)) (hc1 (w64 (v1+1)) (zN A2 (zD v1) (ZaG .xor .u64 (IntKind.max IntKind.u64) (zF A2 (zD v1) 0))) h3)
 exact xS fol h2 hE [rZ,cF,rZ] c3
theorem ZcQ.snd {A0_0:List Int} {r:(List Int)} (h:ZcQ N A0_0=some r):ZdP zB 143 [.agg [zI .u64 4 A0_0]] (ZcQ.rs r):=fun st=>
 sO ZcQ.B Tryz.func143 fun g0 w0 R hE=>by
  unfold ZcQ at h;exact aq fol [rZ,rZ] [1,2,4] [1,2] trivial (At.loop N (At.loopN (fun y:Int×(List Int)=>ZcQ.p1.S y.1 y.2 st) (fun c J hc y h=>ZcQ.p1_ok (v1:=y.1) (A2:=y.2) h hE (fun v1 A2=>hc (v1,A2))) N (0,A0_0) h))
def Zaz.B:Code:=Tryz.f165.body.getD .skip
def Zaz.rs (r:Int):List CV:=[oI r]
def Zaz.p3 (N:Nat) (A5 A6:Int):Option Int:= chk (0≤(v8 (A5)))<| chk ((v8 (A5))<((zZ (wG #[0,1,2,2,3,3,3,3,4,4,4,4,4,4,4,4,5,5,5,5,5,5,5,5,5,5,5,5,5,5,5,5,6,6,6,6,6,6,6,6,6,6,6,6,6,6,6,6,6,6,6,6,6,6,6,6,6,6,6,6,6,6,6,6,7,7,7,7,7,7,7,7,7,7,7,7,7,7,7,7,7,7,7,7,7,7,7,7,7,7,7,7,7,7,7,7,7,7,7,7,7,7,7,7,7,7,7,7,7,7,7,7,7,7,7,7,7,7,7,7,7,7,7,7,7,7,7,7,8,8,8,8,8,8,8,8,8,8,8,8,8,8,8,8,8,8,8,8,8,8,8,8,8,8,8,8,8,8,8,8,8,8,8,8,8,8,8,8,8,8,8,8,8,8,8,8,8,8,8,8,8,8,8,8,8,8,8,8,8,8,8,8,8,8,8,8,8,8,8,8,8,8,8,8,8,8,8,8,8,8,8,8,8,8,8,8,8,8,8,8,8,8,8,8,8,8,8,8,8,8,8,8,8,8,8,8,8,8,8,8,8,8,8,8,8,8,8,8,8,8,8,8,8,8,8,8]):Nat):Int))<| some (w64 (A6+(w64 (((UInt8.toNat (zF (rQ (rA (wG #[0,1,2,2,3,3,3,3,4,4,4,4,4,4,4,4,5,5,5,5,5,5,5,5,5,5,5,5,5,5,5,5,6,6,6,6,6,6,6,6,6,6,6,6,6,6,6,6,6,6,6,6,6,6,6,6,6,6,6,6,6,6,6,6,7,7,7,7,7,7,7,7,7,7,7,7,7,7,7,7,7,7,7,7,7,7,7,7,7,7,7,7,7,7,7,7,7,7,7,7,7,7,7,7,7,7,7,7,7,7,7,7,7,7,7,7,7,7,7,7,7,7,7,7,7,7,7,7,8,8,8,8,8,8,8,8,8,8,8,8,8,8,8,8,8,8,8,8,8,8,8,8,8,8,8,8,8,8,8,8,8,8,8,8,8,8,8,8,8,8,8,8,8,8,8,8,8,8,8,8,8,8,8,8,8,8,8,8,8,8,8,8,8,8,8,8,8,8,8,8,8,8,8,8,8,8,8,8,8,8,8,8,8,8,8,8,8,8,8,8,8,8,8,8,8,8,8,8,8,8,8,8,8,8,8,8,8,8,8,8,8,8,8,8,8,8,8,8,8,8,8,8,8,8,8,8]))) (zD (v8 (A5))) 0):Nat):Int)))))
def Zaz.p2 (N:Nat) (A3 A4:Int):Option Int:= if (decide (A3≥256))=true then Zaz.p3 N (ZbF .u64 A3 8) (w64 (A4+8)) else Zaz.p3 N A3 A4
def Zaz.p1 (N:Nat) (A1 A2:Int):Option Int:= if (decide (A1≥65536))=true then Zaz.p2 N (ZbF .u64 A1 16) (w64 (A2+16)) else Zaz.p2 N A1 A2
def Zaz (N:Nat) (A0:Int):Option Int:= if (decide (A0≥4294967296))=true then Zaz.p1 N (ZbF .u64 A0 32) 32 else Zaz.p1 N A0 0
def Zaz.p3.S (A5 A6:Int) (st:LL):S:=mkS 25 [(0,.one (.l (zK .u64 A5))),(2,sI A6)] [] st
def Zaz.p2.S (A3 A4:Int) (st:LL):S:=mkS 25 [(0,.one (.l (zK .u64 A3))),(2,sI A4)] [] st
def Zaz.p1.S (A1 A2:Int) (st:LL):S:=mkS 25 [(0,.one (.l (zK .u64 A1))),(2,sI A2)] [] st
theorem Zaz.p3_ok {A5 A6 st r} (h:Zaz.p3 N A5 A6=some r) (hE:En Tryz.f165 g0 w0 (Zaz.rs r) st R):At g0 w0 (Zaz.p3.S A5 A6 st) (XK zB R [cK Zaz.B [1,1,1,1]]):=by
 unfold Zaz.p3 at h;obtain ⟨c4,c5,h1⟩:=ck2 h;exact xS fol h1 hE [rZ] (aI c4 c5)
theorem Zaz.p2_ok {A3 A4 st r} (h:Zaz.p2 N A3 A4=some r) (hE:En Tryz.f165 g0 w0 (Zaz.rs r) st R):At g0 w0 (Zaz.p2.S A3 A4 st) (XK zB R [cK Zaz.B [1,1,1]]):=by
 unfold Zaz.p2 at h;refine Zbc h (fun c3 h2=>?_) (fun c3 h3=>?_)
 ·exact aq fol [rZ,cT,rZ,rZ,.s 1] [0,2] [] (aI c3 (leI 0 8)) (Zaz.p3_ok h2 hE)
 exact aq fol [rZ,cF,.s 1] [0,2] [] c3 (Zaz.p3_ok h3 hE)
theorem Zaz.p1_ok {A1 A2 st r} (h:Zaz.p1 N A1 A2=some r) (hE:En Tryz.f165 g0 w0 (Zaz.rs r) st R):At g0 w0 (Zaz.p1.S A1 A2 st) (XK zB R [cK Zaz.B [1,1]]):=by
 unfold Zaz.p1 at h;refine Zbc h (fun c2 h4=>?_) (fun c2 h5=>?_)
 ·exact aq fol [rZ,cT,rZ,rZ,.s 1] [0,2] [] (aI c2 (leI 0 16)) (Zaz.p2_ok h4 hE)
 exact aq fol [rZ,cF,.s 1] [0,2] [] c2 (Zaz.p2_ok h5 hE)
theorem Zaz.snd {A0:Int} {r:Int} (h:Zaz N A0=some r):ZdP zB 165 [.one (zK .u64 A0)] (Zaz.rs r):=fun st=>
 sO Zaz.B Tryz.func165 fun g0 w0 R hE=>by
  unfold Zaz at h;refine Zbc h (fun c1 h6=>?_) (fun c1 h7=>?_)
  ·exact aq fol [rZ,rZ,cT,rZ,rZ,.s 1] [0,2] [] (aI c1 (leI 0 32)) (Zaz.p1_ok h6 hE)
  exact aq fol [rZ,rZ,cF,.s 1] [0,2] [] c1 (Zaz.p1_ok h7 hE)
def ZcY.B:Code:=Tryz.f158.body.getD .skip
def ZcY.rs (r:Int):List CV:=[oI r]
def ZcY.p1 (N:Nat) (A0_0:List Int) (c1_:Int→Option Int):Int→Option Int:=fun A1=> if (decide (A1≥0))=true then chk (0≤A1)<| chk (A1<4)<| if ((zF A0_0 (zD A1) 0) != 0)=true then Zbm (Zaz N (zF A0_0 (zD A1) 0)) fun x2=> some (w64 ((w64 (64*A1))+x2)) else c1_ (w64 (A1-1)) else some 0
def ZcY (N:Nat) (A0_0:List Int):Option Int:= loopN (ZcY.p1 N A0_0) N 3
def ZcY.p1.S (A1:Int) (A0_0:List Int) (st:LL):S:=mkS 19 [(1,sA 1),(3,sI A1)] [(1,.cells [zI .u64 4 A0_0])] st
theorem ZcY.p1_ok {A1 A0_0 st r c1_ J1} (h:ZcY.p1 N A0_0 c1_ A1=some r) (hE:En Tryz.f158 g0 w0 (ZcY.rs r) st R) (hc1 : ∀A1,c1_ A1=some r→At g0 w0 (ZcY.p1.S A1 A0_0 st) J1):At g0 w0 (ZcY.p1.S A1 A0_0 st) (XK zB R (cK ZcY.B [1,0,1,0,0] :: .h J1 :: [.b 0,cK ZcY.B [1,1]])):=by
 unfold ZcY.p1 at h;refine Zbc h (fun c1 h1=>?_) (fun c1 h2=>?_)
 ·obtain ⟨c2,c3,h3⟩:=ck2 h1;refine Zbc h3 (fun c4 h4=>?_) (fun c4 h5=>?_)
  ·obtain ⟨x2,c5,h6⟩:=Zac h4;exact xS fol h6 hE [rZ,cT,rZ,cT,.r [(5,q1 [oI x2])]] (aN c1 c2 c3 c4 c2 c3 (Zaz.snd c5))
  exact an fol [rZ,cT,rZ,cF,rZ] [1,3] [1] (aK c1 c2 c3 c4) (hc1 (w64 (A1-1)) h5)
 exact xS fol h2 hE [rZ,cF,rZ] c1
theorem ZcY.snd {A0_0:List Int} {r:Int} (h:ZcY N A0_0=some r):ZdP zB 158 [.agg [zI .u64 4 A0_0]] (ZcY.rs r):=fun st=>
 sO ZcY.B Tryz.func158 fun g0 w0 R hE=>by
  unfold ZcY at h;exact aq fol [rZ,rZ] [1,3] [1] trivial (At.loop N (At.loopN (fun y:Int=>ZcY.p1.S y A0_0 st) (fun c J hc y h=>ZcY.p1_ok h hE (fun A1=>hc A1)) N 3 h))
def Zdd.B:Code:=Tryz.f159.body.getD .skip
def Zdd.rs (r:(List Int)×Bool):List CV:=[.agg [zI .u64 4 r.1],oB r.2]
def Zdd.p1 (N:Nat) (A1_0:List Int) (c1_:(Int×Int×(List Int))→Option ((List Int)×Bool)):(Int×Int×(List Int))→Option ((List Int)×Bool):=fun (A1,v2,A5)=> if (decide (v2<4))=true then chk (0≤v2)<| Zbm (ZfD N (zF A5 (zD v2) 0) (zF A1_0 (zD v2) 0) A1) fun (x6,x7)=> c1_ (x7,w64 (v2+1),zN A5 (zD v2) x6) else some (A5,A1 != 0)
def Zdd (N:Nat) (A0_0 A1_0:List Int):Option ((List Int)×Bool):= loopN (Zdd.p1 N A1_0) N (0,0,A0_0)
def Zdd.p1.S (A1 v2:Int) (A5 A1_0:List Int) (st:LL):S:=mkS 28 [(2,sA 2),(3,sA 3),(4,sA 4),(6,.one (.l (zK .u64 A1))),(8,sI v2)] [(2,.cells [zI .u64 4 A5]),(3,.cells [zI .u64 4 A1_0]),(4,.cells [zI .u64 4 (zC 4 0)])] st
theorem Zdd.p1_ok {A1 v2 A5 A1_0 st r c1_ J1} (h:Zdd.p1 N A1_0 c1_ (A1,v2,A5)=some r) (hE:En Tryz.f159 g0 w0 (Zdd.rs r) st R) (hc1 : ∀A1 v2 A5,c1_ (A1,v2,A5)=some r→At g0 w0 (Zdd.p1.S A1 v2 A5 A1_0 st) J1):At g0 w0 (Zdd.p1.S A1 v2 A5 A1_0 st) (XK zB R (cK Zdd.B [1,1,0,1,0,0] :: .h J1 :: [.b 0,cK Zdd.B [1,1,1]])):=by
 unfold Zdd.p1 at h;refine Zbc h (fun c4 h1=>?_) (fun c4 h2=>?_)
 ·obtain ⟨c5,h3⟩:=Zbe h1;obtain ⟨⟨x6,x7⟩,c6,h4⟩:=Zac h3;exact ZjR fol [rZ,cT,rZ,.d {ds:=[(8,{rs:=[.one (zK .u64 x6),.one (zK .u64 x7)],m:=4})],hv:=8192,Hs:=[8192]},rZ] [2,3,4,6,8] [2,3,4] (aO c4 c5 (oD c4) c5 (oD c4) (ZfD.snd c6) c5 (oD c4)) (hc1 x7 (w64 (v2+1)) (zN A5 (zD v2) x6) h4)
 exact xS fol h2 hE [rZ,cF,rZ] c4
theorem Zdd.snd {A0_0 A1_0:List Int} {r:(List Int)×Bool} (h:Zdd N A0_0 A1_0=some r):ZdP zB 159 [.agg [zI .u64 4 A0_0],.agg [zI .u64 4 A1_0]] (Zdd.rs r):=fun st=>
 sO Zdd.B Tryz.func159 fun g0 w0 R hE=>by
  unfold Zdd at h;exact aq fol [rZ,rZ,rZ] [2,3,4,6,8] [2,3,4] trivial (At.loop N (At.loopN (fun y:Int×Int×(List Int)=>Zdd.p1.S y.1 y.2.1 y.2.2 A1_0 st) (fun c J hc y h=>Zdd.p1_ok (A1:=y.1) (v2:=y.2.1) (A5:=y.2.2) h hE (fun A1 v2 A5=>hc (A1,v2,A5))) N (0,0,A0_0) h))
def ZbV.B:Code:=Tryz.f142.body.getD .skip
def ZbV.rs (r:(List Int)×(List Int)):List CV:=[.agg [zI .u64 4 r.1],.agg [zI .u64 4 r.2]]
def ZbV.p2 (N:Nat) (c1_:(Int×(List Int)×(List Int))→Option ((List Int)×(List Int))) (A3:Int) (A0_0 A1_0 A21 A20:List Int):Option ((List Int)×(List Int)):= c1_ (w64 (A3-1),A21,A20)
def ZbV.p1 (N:Nat) (A0_0 A1_0:List Int) (c1_:(Int×(List Int)×(List Int))→Option ((List Int)×(List Int))):(Int×(List Int)×(List Int))→Option ((List Int)×(List Int)):=fun (A3,A12,A13)=> if (decide (A3≥0))=true then Zbm (Zck N A13 1) fun x14=> chk (0≤(w64 (zS A3 64)))<| chk ((w64 (zS A3 64))<4)<| chk (0≤(zX A3 64))<| if ((ZbF .u64 (zF A13 3 0) 63)==1)=true then Zbm (Zdd N (zN x14 0 (ZaG .or .u64 (zF x14 0 0) (ZaG .and .u64 (ZbF .u64 (zF A0_0 (zD (w64 (zS A3 64))) 0) (zX A3 64)) 1))) A1_0) fun (x15,x16)=> ZbV.p2 N c1_ A3 A0_0 A1_0 (zN A12 (zD (w64 (zS A3 64))) (ZaG .or .u64 (zF A12 (zD (w64 (zS A3 64))) 0) (ZbR .u64 1 (zX A3 64)))) x15 else Zbm (ZdE N (zN x14 0 (ZaG .or .u64 (zF x14 0 0) (ZaG .and .u64 (ZbF .u64 (zF A0_0 (zD (w64 (zS A3 64))) 0) (zX A3 64)) 1))) A1_0) fun x17=> if (!x17)=true then Zbm (Zdd N (zN x14 0 (ZaG .or .u64 (zF x14 0 0) (ZaG .and .u64 (ZbF .u64 (zF A0_0 (zD (w64 (zS A3 64))) 0) (zX A3 64)) 1))) A1_0) fun (x18,x19)=> ZbV.p2 N c1_ A3 A0_0 A1_0 (zN A12 (zD (w64 (zS A3 64))) (ZaG .or .u64 (zF A12 (zD (w64 (zS A3 64))) 0) (ZbR .u64 1 (zX A3 64)))) x18 else ZbV.p2 N c1_ A3 A0_0 A1_0 A12 (zN x14 0 (ZaG .or .u64 (zF x14 0 0) (ZaG .and .u64 (ZbF .u64 (zF A0_0 (zD (w64 (zS A3 64))) 0) (zX A3 64)) 1))) else some (A12,A13)
def ZbV (N:Nat) (A0_0 A1_0:List Int):Option ((List Int)×(List Int)):= Zbm (Zdv N A1_0) fun x1=> if x1=true then some (zC 4 0,zC 4 0) else Zbm (ZcY N A0_0) fun x2=> loopN (ZbV.p1 N A0_0 A1_0) N (w64 (x2-1),zC 4 0,zC 4 0)
def ZbV.p2.S (A3:Int) (A0_0 A1_0 A21 A20:List Int) (st:LL):S:=mkS 63 [(2,sA 2),(3,sA 3),(4,sA 4),(5,sA 5),(6,sA 6),(7,sA 7),(8,sI A3)] [(2,.cells [zI .u64 4 A0_0]),(3,.cells [zI .u64 4 A1_0]),(4,.cells [zI .u64 4 (zC 4 0)]),(5,.cells [zI .u64 4 (zC 4 0)]),(6,.cells [zI .u64 4 A21]),(7,.cells [zI .u64 4 A20])] st
def ZbV.p1.S (A3:Int) (A0_0 A1_0 A12 A13:List Int) (st:LL):S:=mkS 63 [(2,sA 2),(3,sA 3),(4,sA 4),(5,sA 5),(6,sA 6),(7,sA 7),(8,sI A3)] [(2,.cells [zI .u64 4 A0_0]),(3,.cells [zI .u64 4 A1_0]),(4,.cells [zI .u64 4 (zC 4 0)]),(5,.cells [zI .u64 4 (zC 4 0)]),(6,.cells [zI .u64 4 A12]),(7,.cells [zI .u64 4 A13])] st
theorem ZbV.p2_ok {A3 A0_0 A1_0 A21 A20 st r c1_ J1} (h:ZbV.p2 N c1_ A3 A0_0 A1_0 A21 A20=some r) (hE:En Tryz.f142 g0 w0 (ZbV.rs r) st R) (hc1 : ∀A3 A12 A13,c1_ (A3,A12,A13)=some r→At g0 w0 (ZbV.p1.S A3 A0_0 A1_0 A12 A13 st) J1):At g0 w0 (ZbV.p2.S A3 A0_0 A1_0 A21 A20 st) (XK zB R [cK ZbV.B [1,1,1,0,1,0,0,1,1],.h J1,.b 0,cK ZbV.B [1,1,1,1]]):=by
 unfold ZbV.p2 at h;exact an fol [rZ] [2,3,4,5,6,7,8] [2,3,4,5,6,7] trivial (hc1 (w64 (A3-1)) A21 A20 h)
theorem ZbV.p1_ok {A3 A0_0 A1_0 A12 A13 st r c1_ J1} (h:ZbV.p1 N A0_0 A1_0 c1_ (A3,A12,A13)=some r) (hE:En Tryz.f142 g0 w0 (ZbV.rs r) st R) (hc1 : ∀A3 A12 A13,c1_ (A3,A12,A13)=some r→At g0 w0 (ZbV.p1.S A3 A0_0 A1_0 A12 A13 st) J1):At g0 w0 (ZbV.p1.S A3 A0_0 A1_0 A12 A13 st) (XK zB R (cK ZbV.B [1,1,1,0,1,0,0] :: .h J1 :: [.b 0,cK ZbV.B [1,1,1,1]])):=by
 unfold ZbV.p1 at h;refine Zbc h (fun c14 h1=>?_) (fun c14 h2=>?_)
 ·obtain ⟨x14,c15,h3⟩:=Zac h1;obtain ⟨c16,c17,c18,h4⟩:=ck3 h3;let o1:List PS:=[rZ,cT,rZ,.r [(1,q1 [.agg [zI .u64 4 x14]])],.d {ds:=[],hv:=4096,Hs:=[4096]}]
  have t1 {Q:Prop} (q:Q):=aI c14 (ix 3 4 (aJ (leI 0 63) (Zck.snd c15) (ix 0 4 (aM (neI 64) c16 c17 (neI 64) c18 (ix 0 4 q)))));refine Zbc h4 (fun c19 h5=>?_) (fun c19 h6=>?_)
  ·obtain ⟨⟨x15,x16⟩,c20,h7⟩:=Zac h5;exact aqd fol (o1++[.r [(2,wF),(3,wF),(4,wF),(5,wF)],cT,.r [(2,q1 [.agg [zI .u64 4 x15],oB x16])],.d {ds:=[],hv:=512,Hs:=[512]},.s 4]) [2,3,4,5,6,7,8] [2,3,4,5,6,7] (t1 (aO c19 c19 c19 c19 c19 eT (Zdd.snd c20) (aN (neI 64) c16 c17 (neI 64) c18 c16 c17))) (ZbV.p2_ok h7 hE hc1)
  obtain ⟨x17,c21,h8⟩:=Zac h6;let o2:List PS:=o1++[.r [(4,q1 [oB x17]),(6,yF)]]
  have t2 {Q:Prop} (q:Q):=t1 (aN c19 c19 c19 (ZdE.snd c21) c19 c19 q);refine Zbc h8 (fun c22 h9=>?_) (fun c22 h10=>?_)
  ·obtain ⟨⟨x18,x19⟩,c23,h11⟩:=Zac h9;exact aqd fol (o2++[cT,.r [(2,q1 [.agg [zI .u64 4 x18],oB x19])],.d {ds:=[],hv:=512,Hs:=[512]},.s 4]) [2,3,4,5,6,7,8] [2,3,4,5,6,7] (t2 (aO c22 (Zdd.snd c23) (neI 64) c16 c17 (neI 64) c18 (aI c16 c17))) (ZbV.p2_ok h11 hE hc1)
  exact aqd fol (o2++[cF,.s 4]) [2,3,4,5,6,7,8] [2,3,4,5,6,7] (t2 c22) (ZbV.p2_ok h10 hE hc1)
 exact xSd fol h2 hE [rZ,cF,.d {ds:=[],hv:=12,Hs:=[4,12]}] c14
theorem ZbV.snd {A0_0 A1_0:List Int} {r:(List Int)×(List Int)} (h:ZbV N A0_0 A1_0=some r):ZdP zB 142 [.agg [zI .u64 4 A0_0],.agg [zI .u64 4 A1_0]] (ZbV.rs r):=fun st=>
 sO ZbV.B Tryz.func142 fun g0 w0 R hE=>by
  unfold ZbV at h;obtain ⟨x1,c1,h12⟩:=Zac h;let o3:List PS:=[rZ,rZ,.r [(1,q1 [oB x1])]]
  refine Zbc h12 (fun c2 h13=>?_) (fun c2 h14=>?_)
  ·exact xSd fol h13 hE (o3++[cT,.d {ds:=[],hv:=12,Hs:=[4,12]}]) (aI (Zdv.snd c1) c2)
  obtain ⟨x2,c3,h15⟩:=Zac h14;exact aq fol (o3++[cF,.r [(1,q1 [oI x2])]]) [2,3,4,5,6,7,8] [2,3,4,5,6,7] (aJ (Zdv.snd c1) c2 (ZcY.snd c3)) (At.loop N (At.loopN (fun y:Int×(List Int)×(List Int)=>ZbV.p1.S y.1 A0_0 A1_0 y.2.1 y.2.2 st) (fun c J hc y h=>ZbV.p1_ok (A3:=y.1) (A12:=y.2.1) (A13:=y.2.2) h hE (fun A3 A12 A13=>hc (A3,A12,A13))) N (w64 (x2-1),zC 4 0,zC 4 0) h15))
def Zeq.B:Code:=Tryz.f125.body.getD .skip
def Zeq.rs (r:(List Int)):List CV:=[.agg [zI .u64 4 r]]
def Zeq (N:Nat):Option (List Int):= Zbm (ZcQ N (zC 4 0)) fun x1=> some x1
theorem Zeq.snd {r:(List Int)} (h:Zeq N=some r):ZdP zB 125 [] (Zeq.rs r):=fun st=>
 sO Zeq.B Tryz.func125 fun g0 w0 R hE=>by
  unfold Zeq at h;obtain ⟨x1,c1,h1⟩:=Zac h;exact xS fol h1 hE [rZ,.r [(1,q1 [.agg [zI .u64 4 x1]])]] (ZcQ.snd c1)
def ZgM.B:Code:=Tryz.f123.body.getD .skip
def ZgM.rs (r:(List Int)):List CV:=[.agg [zI .u64 4 r]]
def ZgM (N:Nat) (A0_0:List Int):Option (List Int):= Zbm (ZdM N 1) fun x1=> Zbm (Zcr N A0_0 x1) fun (x2,x3)=> if x3=true then some x1 else Zbm (ZcQ N A0_0) fun x4=> Zbm (ZbV N x4 x2) fun (x5,x6)=> Zbm (Zcr N x5 x1) fun (x7,x8)=> if x8=true then Zbm (Zeq N ) fun x9=> some x9 else some x7
theorem ZgM.snd {A0_0:List Int} {r:(List Int)} (h:ZgM N A0_0=some r):ZdP zB 123 [.agg [zI .u64 4 A0_0]] (ZgM.rs r):=fun st=>
 sO ZgM.B Tryz.func123 fun g0 w0 R hE=>by
  unfold ZgM at h;obtain ⟨x1,c1,h1⟩:=Zac h;obtain ⟨⟨x2,x3⟩,c2,h2⟩:=Zac h1;let o1:List PS:=[rZ,.d {ds:=[(1,q1 [.agg [zI .u64 4 x1]]),(2,q1 [.agg [zI .u64 4 x2],oB x3])],hv:=192,Hs:=[64,192]},rZ]
  have t1 {Q:Prop} (q:Q):=aL (ZdM.snd c1) (ZdM.snd c1) (Zcr.snd c2) (Zcr.snd c2) q;refine Zbc h2 (fun c3 h3=>?_) (fun c3 h4=>?_)
  ·exact xSd fol h3 hE (o1++[cT,.r [(0,q1 [.agg [zI .u64 4 x1]])]]) (t1 (aI c3 (ZdM.snd c1)))
  obtain ⟨x4,c4,h5⟩:=Zac h4;obtain ⟨⟨x5,x6⟩,c5,h6⟩:=Zac h5;obtain ⟨⟨x7,x8⟩,c6,h7⟩:=Zac h6;let o2:List PS:=o1++[cF,.d {ds:=[(1,q1 [.agg [zI .u64 4 x4]]),(3,q1 [.agg [zI .u64 4 x5],.agg [zI .u64 4 x6]])],hv:=1920,Hs:=[128,256,384,896,1920]},.d {ds:=[(1,q1 [.agg [zI .u64 4 x1]]),(2,q1 [.agg [zI .u64 4 x7],oB x8])],hv:=192,Hs:=[64,192]},rZ]
  have t2 {Q:Prop} (q:Q):=t1 (aO c3 (ZcQ.snd c4) (ZcQ.snd c4) (ZcQ.snd c4) (ZcQ.snd c4) (ZbV.snd c5) (ZbV.snd c5) (aN (ZbV.snd c5) (ZbV.snd c5) (ZdM.snd c1) (ZdM.snd c1) (Zcr.snd c6) (Zcr.snd c6) q));refine Zbc h7 (fun c7 h8=>?_) (fun c7 h9=>?_)
  ·obtain ⟨x9,c8,h10⟩:=Zac h8;exact xSd fol h10 hE (o2++[cT,.r [(0,q1 [.agg [zI .u64 4 x9]])]]) (t2 (aI c7 (Zeq.snd c8)))
  exact xSd fol h9 hE (o2++[cF,rZ]) (t2 c7)
def Zej.B:Code:=Tryz.f95.body.getD .skip
def Zej.rs (r:(List Int)):List CV:=[.agg [zI .u64 4 r]]
def Zej (N:Nat) (A0:Int):Option (List Int):= Zbm (ZaT N A0) fun (x1,x2,x3)=> if x2=true then some (zC 4 0) else if x3=true then some (zC 4 0) else Zbm (Zdv N x1) fun x4=> if x4=true then some (zC 4 0) else Zbm (ZgM N x1) fun x5=> some x5
theorem Zej.snd {A0:Int} {r:(List Int)} (h:Zej N A0=some r):ZdP zB 95 [oI A0] (Zej.rs r):=fun st=>
 sO Zej.B Tryz.func95 fun g0 w0 R hE=>by
  unfold Zej at h;obtain ⟨⟨x1,x2,x3⟩,c1,h1⟩:=Zac h;let o1:List PS:=[rZ,.r [(1,q1 [.agg [zI .u64 4 x1],oB x2,oB x3])]]
  have t1 {Q:Prop} (q:Q):=aI (ZaT.snd c1) q;refine Zbc h1 (fun c2 h2=>?_) (fun c2 h3=>?_)
  ·exact xS fol h2 hE (o1++[.r [(2,wF),(5,wF),(6,wF)],cT,rZ]) (t1 (aM c2 c2 eT eT eT eT))
  refine Zbc h3 (fun c3 h4=>?_) (fun c3 h5=>?_)
  ·exact xS fol h4 hE (o1++[.r [(3,yF),(5,wF),(6,wF)],cT,rZ]) (t1 (aM c2 c2 c3 c3 c3 eT))
  obtain ⟨x4,c4,h6⟩:=Zac h5;let o2:List PS:=o1++[.r [(3,yF),(6,q1 [oB x4]),(7,yF)]]
  refine Zbc h6 (fun c5 h7=>?_) (fun c5 h8=>?_)
  ·exact xS fol h7 hE (o2++[cT,rZ]) (t1 (aN c2 c2 c3 c3 (Zdv.snd c4) c3 c5))
  obtain ⟨x5,c6,h9⟩:=Zac h8;exact xS fol h9 hE (o2++[cF,.r [(1,q1 [.agg [zI .u64 4 x5]])]]) (t1 (aO c2 c2 c3 c3 (Zdv.snd c4) c3 c5 (ZgM.snd c6)))
def ZcX.B:Code:=Tryz.f124.body.getD .skip
def ZcX.rs (r:(List Int)×Bool):List CV:=[.agg [zI .u64 4 r.1],oB r.2]
def ZcX.p1 (N:Nat) (A0:LL) (c1_:(Bool×Int×(List Int))→Option ((List Int)×Bool)):(Bool×Int×(List Int))→Option ((List Int)×Bool):=fun (A1,v2,A6)=> if (decide (v2<(len A0)))=true then chk (0≤v2)<| Zde (A0[zD v2]?) Zgp fun x7=> Zbm (Zcr N A6 x7) fun (x8,x9)=> if A1=true then c1_ (true,w64 (v2+1),x8) else c1_ (x9,w64 (v2+1),x8) else some (A6,A1)
def ZcX (N:Nat) (A0:LL):Option ((List Int)×Bool):= loopN (ZcX.p1 N A0) N (false,0,zC 4 0)
def ZcX.p1.S (A1:Bool) (A0:LL) (v2:Int) (A6:List Int) (st:LL):S:=mkS 28 [(2,sA 2),(4,sA 4),(5,.one (.l (xW A1))),(9,sV 4 A0),(10,sI (len A0)),(11,sI v2)] [(2,.cells [zI .u64 4 (zC 4 0)]),(4,.cells [zI .u64 4 A6])] st
theorem ZcX.p1_ok {A1 A0 v2 A6 st r c1_ J1} (h:ZcX.p1 N A0 c1_ (A1,v2,A6)=some r) (hE:En Tryz.f124 g0 w0 (ZcX.rs r) st R) (hc1 : ∀A1 v2 A6,c1_ (A1,v2,A6)=some r→At g0 w0 (ZcX.p1.S A1 A0 v2 A6 st) J1):At g0 w0 (ZcX.p1.S A1 A0 v2 A6 st) (XK zB R (cK ZcX.B [1,1,1,0,1,0,0] :: .h J1 :: [.b 0,cK ZcX.B [1,1,1,1]])):=by
 unfold ZcX.p1 at h;refine Zbc h (fun c6 h1=>?_) (fun c6 h2=>?_)
 ·obtain ⟨c7,h3⟩:=Zbe h1;obtain ⟨x7,c8,h4⟩:=ZhQ h3;obtain ⟨⟨x8,x9⟩,c9,h5⟩:=Zac h4;let o1:List PS:=[rZ,cT,.r [(1,{oe:=[zI .u64 4 x7]})],rZ,.r [(2,q1 [.agg [zI .u64 4 x8],oB x9])]]
  refine Zbc h5 (fun c10 h6=>?_) (fun c10 h7=>?_)
  ·exact an fol (o1++[.r [(2,wF)],rZ]) [2,4,5,9,10,11] [2,4] (aN c6 c7 (oD c6) c8 (Zcr.snd c9) c10 c10) (hc1 true (w64 (v2+1)) x8 h6)
  exact an fol (o1++[.r [(3,yF)],rZ]) [2,4,5,9,10,11] [2,4] (aN c6 c7 (oD c6) c8 (Zcr.snd c9) c10 c10) (hc1 x9 (w64 (v2+1)) x8 h7)
 exact xS fol h2 hE [rZ,cF,rZ] c6
theorem ZcX.snd {A0:LL} {r:(List Int)×Bool} (h:ZcX N A0=some r):ZdP zB 124 [.one (vW 4 A0)] (ZcX.rs r):=fun st=>
 sO ZcX.B Tryz.func124 fun g0 w0 R hE=>by
  unfold ZcX at h;exact aq fol [rZ,rZ,rZ,rZ] [2,4,5,9,10,11] [2,4] trivial (At.loop N (At.loopN (fun y:Bool×Int×(List Int)=>ZcX.p1.S y.1 A0 y.2.1 y.2.2 st) (fun c J hc y h=>ZcX.p1_ok (A1:=y.1) (v2:=y.2.1) (A6:=y.2.2) h hE (fun A1 v2 A6=>hc (A1,v2,A6))) N (false,0,zC 4 0) h))
def ZfR.B:Code:=Tryz.f96.body.getD .skip
def ZfR.rs (r:(List Int)):List CV:=[.agg [zI .u64 4 r]]
def ZfR (N:Nat) (A0:LL):Option (List Int):= Zbm (ZcX N A0) fun (x1,x2)=> if x2=true then Zbm (Zeq N ) fun x3=> some x3 else some x1
theorem ZfR.snd {A0:LL} {r:(List Int)} (h:ZfR N A0=some r):ZdP zB 96 [.one (vW 4 A0)] (ZfR.rs r):=fun st=>
 sO ZfR.B Tryz.func96 fun g0 w0 R hE=>by
  unfold ZfR at h;obtain ⟨⟨x1,x2⟩,c1,h1⟩:=Zac h;let o1:List PS:=[rZ,.r [(1,q1 [.agg [zI .u64 4 x1],oB x2])],rZ]
  refine Zbc h1 (fun c2 h2=>?_) (fun c2 h3=>?_)
  ·obtain ⟨x3,c3,h4⟩:=Zac h2;exact xS fol h4 hE (o1++[cT,.r [(0,q1 [.agg [zI .u64 4 x3]])]]) (aJ (ZcX.snd c1) c2 (Zeq.snd c3))
  exact xS fol h3 hE (o1++[cF,rZ]) (aI (ZcX.snd c1) c2)
def Zbo.B:Code:=Tryz.f73.body.getD .skip
def Zbo.rs (r:Int×LL):List CV:=[oI r.1]
def Zbo.p1 (N:Nat) (A7:Option Nat) (A3:ZaX) (A6:Zcx) (st:LL):Option (Int×LL):= Zbm A7 fun i8=> Zde (st[i8]?) ZbZ fun x9=> chk (zL (x9.list++[A6.ls])*176≤140737488355328)<| chk (zL (x9.spots++[A3.ls])*96≤140737488355328)<| optM (Zis x9.places (zI .u8 32 A6.Id)) (fun j10 e=>ZdX [e] fun x11=> some (w64 ((len (x9.list++[A6.ls]))-1),zN (zN (zN (zN (zN st i8 (gs x9.lo 15)) i8 (gs (gs x9.lo 15) 16)) i8 (gs (ZaH.lo {x9 with list:=x9.list++[A6.ls]}) 16)) i8 (ZaH.lo {x9 with list:=x9.list++[A6.ls],spots:=x9.spots++[A3.ls]})) i8 (ZaH.lo (ZaH.mk x9.rules (x9.list++[A6.ls]) (x9.spots++[A3.ls]) (zN x9.places j10 (zI .u8 32 A6.Id,zK .i64 (w64 ((len (x9.list++[A6.ls]))-1)))) x9.room)))) ( some (w64 ((len (x9.list++[A6.ls]))-1),zN (zN (zN (zN (zN st i8 (gs x9.lo 15)) i8 (gs (gs x9.lo 15) 16)) i8 (gs (ZaH.lo {x9 with list:=x9.list++[A6.ls]}) 16)) i8 (ZaH.lo {x9 with list:=x9.list++[A6.ls],spots:=x9.spots++[A3.ls]})) i8 (ZaH.lo (ZaH.mk x9.rules (x9.list++[A6.ls]) (x9.spots++[A3.ls]) (x9.places++[(zI .u8 32 A6.Id,zK .i64 (w64 ((len (x9.list++[A6.ls]))-1)))]) x9.room))))
def Zbo (N:Nat) (A0:Option Nat) (A1:Zak) (A2:Int) (A3:ZaX) (st:LL):Option (Int×LL):= Zbm (Zej N A1.Bits) fun x1=> if (A2 != (-1))=true then Zbm A0 fun i2=> Zde (st[i2]?) ZbZ fun x3=> chk (0≤A2)<| chk (A2<(len x3.list))<| Zde (x3.list[0+(zD A2)]?) Zey fun x4=> Zbm (ZfR N [[zI .u64 4 x4.Work],[zI .u64 4 x1]]) fun x5=> Zbo.p1 N (some i2) A3 (Zcx.mk A1 A3.Prev A2 (w64 (x4.Height+1)) x5) st else Zbo.p1 N A0 A3 (Zcx.mk A1 A3.Prev A2 0 x1) st
def Zbo.p1.S (A7:Option Nat) (A3:ZaX) (A6:Zcx) (st:LL):S:=mkS 81 [(0,sP A7),(7,sA 7),(9,sA 9)] [(7,.cells A3.ls),(9,.cells A6.ls)] st
theorem Zbo.p1_ok {A7 A3 A6 st r} (h:Zbo.p1 N A7 A3 A6 st=some r) (hE:En Tryz.f73 g0 w0 (Zbo.rs r) r.2 R):At g0 w0 (Zbo.p1.S A7 A3 A6 st) (XK zB R [cK Zbo.B [1,1,1]]):=by
 unfold Zbo.p1 at h;obtain ⟨i8,rfl,h1⟩:=Zac h;obtain ⟨x9,c10,h2⟩:=ZbO h1;obtain ⟨c11,c12,h3⟩:=ck2 h2;let o1:List PS:=[.d {ds:=[(5,{oc:=x9.lo}),(8,{oe:=x9.lo}),(12,{oc:=gs x9.lo 15}),(15,{oe:=gs x9.lo 15}),(18,{oc:=gs (gs x9.lo 15) 16,mv:=[51]}),(21,{oc:=gs (ZaH.lo {x9 with list:=x9.list++[A6.ls]}) 16,mv:=[58]})],hv:=2408832,Hs:=[128,384,16384,16512,16768,49536,311680,2408832],dh:=[(12,0,{oc:=x9.lo}),(12,128,{oc:=x9.lo}),(12,16384,{oc:=x9.lo}),(12,16512,{oc:=x9.lo})]}]
 have t1 {Q:Prop} (q:Q):=aO c10 c10 c10 c10 z0 (eN (zL x9.list)) c10 (aO z0 (eN (1)) c11 z0 (eN (zL x9.list)) c10 z0 (aO (eN (1)) c11 c10 c10 (Zar c10 (gs x9.lo 15)) c10 c10 (aO (Zar c10 (gs x9.lo 15)) z0 (eN (zL x9.spots)) (Zar c10 (gs x9.lo 15)) z0 (eN (1)) c12 (aO (Zar (Zar c10 (gs x9.lo 15)) (gs (gs x9.lo 15) 16)) z0 (eN (zL (x9.list++[A6.ls]))) (Zar (Zar (Zar c10 (gs x9.lo 15)) (gs (gs x9.lo 15) 16)) (gs (ZaH.lo {x9 with list:=x9.list++[A6.ls]}) 16)) z0 (eN (zL (x9.spots++[A3.ls]))) (Zar (Zar (Zar (Zar c10 (gs x9.lo 15)) (gs (gs x9.lo 15) 16)) (gs (ZaH.lo {x9 with list:=x9.list++[A6.ls]}) 16)) (ZaH.lo {x9 with list:=x9.list++[A6.ls],spots:=x9.spots++[A3.ls]})) (aI (Zar (Zar (Zar (Zar c10 (gs x9.lo 15)) (gs (gs x9.lo 15) 16)) (gs (ZaH.lo {x9 with list:=x9.list++[A6.ls]}) 16)) (ZaH.lo {x9 with list:=x9.list++[A6.ls],spots:=x9.spots++[A3.ls]})) q)))));rcases Zoa h3 with ⟨j10,h7,c13,h4⟩ | ⟨c13,h5⟩
 ·obtain ⟨x11,h8,h6⟩:=Zjh h4;obtain rfl:=ZjZ h8;exact xTd fol h6 hE (o1++[.d {ds:=[(3,{oc:=ZaH.lo {x9 with list:=x9.list++[A6.ls],spots:=x9.spots++[A3.ls]}}),(9,{oc:=ZaH.lo {x9 with list:=x9.list++[A6.ls],spots:=x9.spots++[A3.ls]}}),(12,{oc:=ZaH.lo {x9 with list:=x9.list++[A6.ls],spots:=x9.spots++[A3.ls]},m:=j10})],hv:=4096,Hs:=[4096]},.r [(3,{oc:=ZaH.lo (ZaH.mk x9.rules (x9.list++[A6.ls]) (x9.spots++[A3.ls]) (zN x9.places j10 (zI .u8 32 A6.Id,zK .i64 (w64 ((len (x9.list++[A6.ls]))-1)))) x9.room)})]]) (t1 (aJ (ex_at c13) (Zar (Zar (Zar (Zar c10 (gs x9.lo 15)) (gs (gs x9.lo 15) 16)) (gs (ZaH.lo {x9 with list:=x9.list++[A6.ls]}) 16)) (ZaH.lo {x9 with list:=x9.list++[A6.ls],spots:=x9.spots++[A3.ls]})) (Zar (Zar (Zar (Zar (Zar c10 (gs x9.lo 15)) (gs (gs x9.lo 15) 16)) (gs (ZaH.lo {x9 with list:=x9.list++[A6.ls]}) 16)) (ZaH.lo {x9 with list:=x9.list++[A6.ls],spots:=x9.spots++[A3.ls]})) (ZaH.lo (ZaH.mk x9.rules (x9.list++[A6.ls]) (x9.spots++[A3.ls]) (zN x9.places j10 (zI .u8 32 A6.Id,zK .i64 (w64 ((len (x9.list++[A6.ls]))-1)))) x9.room)))))
 exact xTd fol h5 hE (o1++[.d {ds:=[(3,{oc:=ZaH.lo {x9 with list:=x9.list++[A6.ls],spots:=x9.spots++[A3.ls]}}),(9,{oc:=ZaH.lo {x9 with list:=x9.list++[A6.ls],spots:=x9.spots++[A3.ls]}}),(12,{oc:=ZaH.lo {x9 with list:=x9.list++[A6.ls],spots:=x9.spots++[A3.ls]},yes:=false})],hv:=4096,Hs:=[4096]},.r [(3,{oc:=ZaH.lo (ZaH.mk x9.rules (x9.list++[A6.ls]) (x9.spots++[A3.ls]) (x9.places++[(zI .u8 32 A6.Id,zK .i64 (w64 ((len (x9.list++[A6.ls]))-1)))]) x9.room)})]]) (t1 (aJ c13 (Zar (Zar (Zar (Zar c10 (gs x9.lo 15)) (gs (gs x9.lo 15) 16)) (gs (ZaH.lo {x9 with list:=x9.list++[A6.ls]}) 16)) (ZaH.lo {x9 with list:=x9.list++[A6.ls],spots:=x9.spots++[A3.ls]})) (Zar (Zar (Zar (Zar (Zar c10 (gs x9.lo 15)) (gs (gs x9.lo 15) 16)) (gs (ZaH.lo {x9 with list:=x9.list++[A6.ls]}) 16)) (ZaH.lo {x9 with list:=x9.list++[A6.ls],spots:=x9.spots++[A3.ls]})) (ZaH.lo (ZaH.mk x9.rules (x9.list++[A6.ls]) (x9.spots++[A3.ls]) (x9.places++[(zI .u8 32 A6.Id,zK .i64 (w64 ((len (x9.list++[A6.ls]))-1)))]) x9.room)))))
theorem Zbo.snd {A0:Option Nat} {A1:Zak} {A2:Int} {A3:ZaX} {st:LL} {r:Int×LL} (h:Zbo N A0 A1 A2 A3 st=some r):Snd zB 73 [.one (zQ A0),.agg A1.ls,oI A2,.agg A3.ls] st (Zbo.rs r) r.2:=
 sO Zbo.B Tryz.func73 fun g0 w0 R hE=>by
  unfold Zbo at h;obtain ⟨x1,c1,h9⟩:=Zac h;let o2:List PS:=[rZ,.d {ds:=[(6,q1 [.agg [zI .u64 4 x1]])],hv:=768,Hs:=[256,768]},rZ]
  have t2 {Q:Prop} (q:Q):=aJ (Zej.snd c1) (Zej.snd c1) q;refine Zbc h9 (fun c2 h10=>?_) (fun c2 h11=>?_)
  ·obtain ⟨i2,rfl,h12⟩:=Zac h10;obtain ⟨x3,c4,h13⟩:=ZbO h12;obtain ⟨c5,c6,h14⟩:=ck2 h13;obtain ⟨x4,c7,h15⟩:=Zfc h14;obtain ⟨x5,c8,h16⟩:=Zac h15;exact aqd fol (o2++[cT,.r [(3,{oc:=x3.lo}),(7,{oc:=x3.lo,oe:=x4.ls})],.d {ds:=[(3,{oc:=x3.lo}),(7,{oc:=x3.lo,oe:=x4.ls}),(11,{rs:=[.agg [zI .u64 4 x5]],m:=2})],hv:=9216,Hs:=[1024,9216]},.s 1]) [0,7,9] [7,9] (t2 (aO c2 c4 c5 c6 c7 c4 c4 (aN c5 c6 c7 c4 z0 (eN (2)) (ZfR.snd c8)))) (Zbo.p1_ok h16 hE)
  exact aqd fol (o2++[cF,.s 1]) [0,7,9] [7,9] (t2 c2) (Zbo.p1_ok h11 hE)
def Zff.B:Code:=Tryz.f51.body.getD .skip
def Zff.rs (r:(Option Nat)×Int×LL):List CV:=[.one (zQ r.1),oI r.2.1]
def Zff (N:Nat) (A0:Zae) (A1:Int) (st:LL):Option ((Option Nat)×Int×LL):= Zbm (Zcm N A0) fun x1=> if (!x1)=true then some (none,1,st) else chk (zL ([]++A0.Gates)*16≤140737488355328)<| chk (zL ([]++A0.Checks)*40≤140737488355328)<| Zbm (Zge N {A0 with Gates:=[]++A0.Gates,Checks:=[]++A0.Checks}) fun x2=> Zbm (Zbo N (some (zL st)) A0.Genesis (-1) x2 (st++[ZaH.lo (ZaH.mk {A0 with Gates:=[]++A0.Gates,Checks:=[]++A0.Checks} [] [] [] (if (512:Int)<(if (1:Int)>A1 then 1 else A1) then 512 else (if (1:Int)>A1 then 1 else A1)))])) fun (x3,st4)=> some ((some (zL st)),0,st4)
theorem Zff.snd {A0:Zae} {A1:Int} {st:LL} {r:(Option Nat)×Int×LL} (h:Zff N A0 A1 st=some r):Snd zB 51 [.agg A0.ls,oI A1] st (Zff.rs r) r.2.2:=
 sO Zff.B Tryz.func51 fun g0 w0 R hE=>by
  unfold Zff at h;obtain ⟨x1,c1,h1⟩:=Zac h;let o1:List PS:=[rZ,.r [(1,q1 [oB x1])]]
  refine Zbc h1 (fun c2 h2=>?_) (fun c2 h3=>?_)
  ·exact xU fol h2 hE (o1++[cT,rZ]) (aI (Zcm.snd c1) c2)
  obtain ⟨c3,c4,h4⟩:=ck2 h3;obtain ⟨x2,c5,h5⟩:=Zac h4;obtain ⟨⟨x3,st4⟩,c6,h6⟩:=Zac h5;exact xUd fol h6 hE (o1++[cF,.d {ds:=[(7,{fz:=[12]}),(9,{fz:=[15]})],hv:=676,Hs:=[4,36,164,676]},.r [(5,{ns:=[15,16]}),(6,{m:=1})],.d {ds:=[(4,q1 [.agg x2.ls]),(5,{rs:=[oI x3],st:=st4})],hv:=32,Hs:=[32]},rZ]) (aO (Zcm.snd c1) c2 c3 c4 z0 (eN (zL ([]++A0.Gates))) z0 (aJ (eN (zL ([]++A0.Checks))) (Zge.snd c5) (Zbo.snd c6)))
def Zfz.B:Code:=Tryz.f28.body.getD .skip
def Zfz.rs (r:(Option Nat)×Int×LL):List CV:=[.one (zQ r.1),oI r.2.1]
def Zfz (N:Nat) (A0:Zae) (A1:Int) (st:LL):Option ((Option Nat)×Int×LL):= Zbm (Zff N A0 A1 st) fun (x1,x2,st3)=> if (x2 != 0)=true then some (none,x2,st3) else some ((some (zL st3)),0,st3++[[zQ x1,yC true 1 [[zK .i64 (-1)]]]])
theorem Zfz.snd {A0:Zae} {A1:Int} {st:LL} {r:(Option Nat)×Int×LL} (h:Zfz N A0 A1 st=some r):Snd zB 28 [.agg A0.ls,oI A1] st (Zfz.rs r) r.2.2:=
 sO Zfz.B Tryz.func28 fun g0 w0 R hE=>by
  unfold Zfz at h;obtain ⟨⟨x1,x2,st3⟩,c1,h1⟩:=Zac h;let o1:List PS:=[rZ,.r [(2,{rs:=[.one (zQ x1),oI x2],st:=st3})],rZ]
  refine Zbc h1 (fun c2 h2=>?_) (fun c2 h3=>?_)
  ·exact xU fol h2 hE (o1++[cT,rZ]) (aI (Zff.snd c1) c2)
  exact xU fol h3 hE (o1++[cF,.r [(2,{ns:=[1]}),(3,{m:=1,mv:=[18]})]]) (aK (Zff.snd c1) c2 z0 (eN (1)))
def ZeN.B:Code:=Tryz.f24.body.getD .skip
def ZeN.rs (r:(Option Nat)×LL):List CV:=[.one (zQ r.1)]
def ZeN (N:Nat) (A0:Option Nat) (st:LL):Option ((Option Nat)×LL):= some ((some (zL st)),st++[[zQ A0,yC true 3 []]])
theorem ZeN.snd {A0:Option Nat} {st:LL} {r:(Option Nat)×LL} (h:ZeN N A0 st=some r):Snd zB 24 [.one (zQ A0)] st (ZeN.rs r) r.2:=
 sO ZeN.B Tryz.func24 fun g0 w0 R hE=>by
  unfold ZeN at h;exact xT fol h hE [rZ,.r [(1,{ns:=[1]}),(2,{m:=1})]] trivial
def ZcJ.B:Code:=Tryz.f42.body.getD .skip
def ZcJ.rs (r:Bool):List CV:=[oB r]
def ZcJ (N:Nat) (A0:ZaH) (A1 A2:Int):Option Bool:= Zbm (Zcb N A0 A1) fun x1=> if (!x1)=true then some x1 else Zbm (Zcb N A0 A2) fun x2=> if (!x2)=true then some x1 else chk (0≤A1)<| chk (A1<(len A0.list))<| Zde (A0.list[zD A1]?) Zey fun x3=> chk (0≤A2)<| chk (A2<(len A0.list))<| Zde (A0.list[zD A2]?) Zey fun x4=> Zbm (ZbL N x3.Work x4.Work) fun x5=> if (decide (x5>0))=true then some true else if (x5==0)=true then some (decide (A1<A2)) else some false
theorem ZcJ.snd {A0:ZaH} {A1 A2:Int} {r:Bool} (h:ZcJ N A0 A1 A2=some r):ZdP zB 42 [.one (L.bx 87 A0.ls),oI A1,oI A2] (ZcJ.rs r):=fun st=>
 sO ZcJ.B Tryz.func42 fun g0 w0 R hE=>by
  unfold ZcJ at h;obtain ⟨x1,c1,h1⟩:=Zac h;have t1 {Q:Prop} (q:Q):=aI (Zcb.snd c1) q;refine Zbc h1 (fun c2 h2=>?_) (fun c2 h3=>?_)
  ·exact xS fol h2 hE [rZ,.r [(2,q0 [oB x1]),(5,wF),(6,wF),(7,wF),(8,wF)],cT,.r [(2,q0 [oB x1])]] (t1 (aN (not_false (Zbt c2)) (not_false (Zbt c2)) (not_false (Zbt c2)) (not_false (Zbt c2)) (not_false (Zbt c2)) eT (Zcb.snd c1)))
  obtain ⟨x2,c3,h4⟩:=Zac h3;let o1:List PS:=[rZ,.r [(2,q0 [oB x1]),(7,q0 [oB x2]),(9,yF)]]
  have t2 {Q:Prop} (q:Q):=t1 (aN (not_true (Zbu c2)) (not_true (Zbu c2)) (not_true (Zbu c2)) (Zcb.snd c3) (not_true (Zbu c2)) (not_true (Zbu c2)) q);refine Zbc h4 (fun c4 h5=>?_) (fun c4 h6=>?_)
  ·exact xS fol h5 hE (o1++[cT,.r [(2,q0 [oB x1])]]) (t2 (aI c4 (Zcb.snd c1)))
  obtain ⟨c5,c6,h7⟩:=ck2 h6;obtain ⟨x3,c7,h8⟩:=Zfc h7;obtain ⟨c8,c9,h9⟩:=ck2 h8;obtain ⟨x4,c10,h10⟩:=Zfc h9;obtain ⟨x5,c11,h11⟩:=Zac h10;let o2:List PS:=o1++[cF,.d {ds:=[(3,{oe:=A0.ls}),(7,{oe:=x3.ls}),(11,{oe:=A0.ls}),(15,{oe:=x4.ls}),(16,q1 [oI x5])],hv:=0,Hs:=[]}]
  have t3 {Q:Prop} (q:Q):=t2 (aO c4 (eO A0.ls) c5 c6 c7 (eO A0.ls) c8 (aK c9 c10 (ZbL.snd c11) q));refine Zbc h11 (fun c12 h12=>?_) (fun c12 h13=>?_)
  ·exact xSd fol h12 hE (o2++[.r [(3,wF),(4,wF),(5,wF),(9,wF)]]) (t3 (aL c12 c12 c12 c12 c12))
  refine Zbc h13 (fun c13 h14=>?_) (fun c13 h15=>?_)
  ·exact xSd fol h14 hE (o2++[.r [(10,yF)]]) (t3 (aO c12 c12 c12 c13 c13 c13 c12 (aI c13 c12)))
  exact xSd fol h15 hE (o2++[.r [(6,wF),(7,wF),(8,wF),(9,yF),(10,yF)]]) (t3 (aO c12 c12 c12 c13 c13 c13 c12 (aI c13 c12)))
def Zcj.B:Code:=Tryz.f17.body.getD .skip
def Zcj.rs (r:Bool):List CV:=[oB r]
def Zcj (N:Nat) (A0:ZaD) (A1 A2:Int):Option Bool:= Zbm (ZcJ N A0.store A1 A2) fun x1=> some x1
theorem Zcj.snd {A0:ZaD} {A1 A2:Int} {r:Bool} (h:Zcj N A0 A1 A2=some r):ZdP zB 17 [.one (L.bx 2 A0.ls),oI A1,oI A2] (Zcj.rs r):=fun st=>
 sO Zcj.B Tryz.func17 fun g0 w0 R hE=>by
  unfold Zcj at h;obtain ⟨x1,c1,h1⟩:=Zac h;exact xS fol h1 hE [rZ,.r [(6,{oe:=A0.ls}),(9,q0 [oB x1])]] (aO eT eT eT eT (eO A0.ls) eT eT (aJ eT (ZcJ.snd c1) eT))
def Zag.B:Code:=Tryz.f37.body.getD .skip
def Zag.rs (r:Int×LL):List CV:=[oI r.1]
def Zag.p2 (N:Nat) (c1_:(Int×Int×LL)→Option (Int×LL)) (i3:Nat) (A1_0:Option Nat) (A30:Int) (x5:LL) (v7:Int) (st21:LL):Option (Int×LL):= c1_ (A30,w64 (v7+1),st21)
def Zag.p1 (N:Nat) (i3:Nat) (A1_0:Option Nat) (x5:LL) (c1_:(Int×Int×LL)→Option (Int×LL)):(Int×Int×LL)→Option (Int×LL):=fun (A6,v7,st19)=> if (decide (v7<(len x5)))=true then Zbm (ZaY N A1_0 v7 st19) fun (x20,st21)=> if x20=true then Zde (st21[i3]?) Zca fun x22 x23=> Zbm x22 fun i24=> Zde (st21[i24]?) Zdp fun x25 x26=> Zbm x25 fun i27=> Zde (st21[i27]?) ZbZ fun x28=> Zbm (Zcj N (ZaD.mk x28 x26) v7 A6) fun x29=> if x29=true then Zag.p2 N c1_ i3 A1_0 v7 x5 v7 st21 else Zag.p2 N c1_ i3 A1_0 A6 x5 v7 st21 else Zag.p2 N c1_ i3 A1_0 A6 x5 v7 st21 else some (A6,st19)
def Zag (N:Nat) (m_0 A1_0:Option Nat) (st:LL):Option (Int×LL):= Zbm (ZbA N m_0 0 st) fun (x1,st2)=> if (!x1)=true then some ((-1),st2) else Zbm m_0 fun i3=> Zde (st2[i3]?) Zca fun x4 x5=> loopN (Zag.p1 N i3 A1_0 x5) N ((-1),0,st2)
def Zag.p2.S (i3:Nat) (A1_0:Option Nat) (A30:Int) (x5:LL) (v7:Int) (st21:LL):S:=mkS 34 [(0,sP (some i3)),(1,.one (.l (L.fn 16 1 [zQ A1_0]))),(5,sI A30),(15,sI (len x5)),(16,sI v7)] [] st21
def Zag.p1.S (i3:Nat) (A1_0:Option Nat) (A6:Int) (x5:LL) (v7:Int) (st19:LL):S:=mkS 34 [(0,sP (some i3)),(1,.one (.l (L.fn 16 1 [zQ A1_0]))),(5,sI A6),(15,sI (len x5)),(16,sI v7)] [] st19
theorem Zag.p2_ok {i3 A1_0 A30 x5 v7 st21 r c1_ J1} (h:Zag.p2 N c1_ i3 A1_0 A30 x5 v7 st21=some r) (hE:En Tryz.f37 g0 w0 (Zag.rs r) r.2 R) (hc1 : ∀A6 v7 st19,c1_ (A6,v7,st19)=some r→At g0 w0 (Zag.p1.S i3 A1_0 A6 x5 v7 st19) J1):At g0 w0 (Zag.p2.S i3 A1_0 A30 x5 v7 st21) (XK zB R [cK Zag.B [1,1,1,0,1,0,0,1,1,1],.h J1,.b 0,cK Zag.B [1,1,1,1]]):=by
 unfold Zag.p2 at h;exact an fol [rZ] [0,1,5,15,16] [] trivial (hc1 A30 (w64 (v7+1)) st21 h)
theorem Zag.p1_ok {i3 A1_0 A6 x5 v7 st19 r c1_ J1} (h:Zag.p1 N i3 A1_0 x5 c1_ (A6,v7,st19)=some r) (hE:En Tryz.f37 g0 w0 (Zag.rs r) r.2 R) (hc1 : ∀A6 v7 st19,c1_ (A6,v7,st19)=some r→At g0 w0 (Zag.p1.S i3 A1_0 A6 x5 v7 st19) J1):At g0 w0 (Zag.p1.S i3 A1_0 A6 x5 v7 st19) (XK zB R (cK Zag.B [1,1,1,0,1,0,0] :: .h J1 :: [.b 0,cK Zag.B [1,1,1,1]])):=by
 unfold Zag.p1 at h;refine Zbc h (fun c15 h1=>?_) (fun c15 h2=>?_)
 ·obtain ⟨⟨x20,st21⟩,c16,h3⟩:=Zac h1;let o1:List PS:=[rZ,cT,rZ]
  have t1 {Q:Prop} (q:Q):=aJ c15 (ZaY.snd c16) q;refine Zbc h3 (fun c17 h4=>?_) (fun c17 h5=>?_)
  ·obtain ⟨x22,x23,c18,h6⟩:=ZbP h4;obtain ⟨i24,rfl,h7⟩:=Zac h6;obtain ⟨x25,x26,c20,h8⟩:=Zdf h7;obtain ⟨i27,rfl,h9⟩:=Zac h8;obtain ⟨x28,c22,h10⟩:=ZbO h9;obtain ⟨x29,c23,h11⟩:=Zac h10;let o2:List PS:=o1++[.r [(2,{rs:=[oB x20],st:=st21,m:=5}),(7,{oc:=[zQ (some i24),yC true 3 x23]}),(10,{rs:=[oB x29],m:=10,cv:=[.one (L.bx 2 (ZaD.ls (ZaD.mk x28 x26)))]})]]
   have t2 {Q:Prop} (q:Q):=t1 (aO c17 c17 c17 c17 c18 c17 c17 (aL c17 (bO 2 c20 ((bC 87 c22 (ZaH.bv x28) (bW bN)):BVs st21 [zQ (some i27),yC true 1 x26] (ZaD.ls (ZaD.mk x28 x26)))) (Zcj.snd c23) c17 q));refine Zbc h11 (fun c24 h12=>?_) (fun c24 h13=>?_)
   ·exact aq fol (o2++[cT,rZ,.s 4]) [0,1,5,15,16] [] (t2 c24) (Zag.p2_ok h12 hE hc1)
   exact aq fol (o2++[cF,.s 4]) [0,1,5,15,16] [] (t2 c24) (Zag.p2_ok h13 hE hc1)
  exact aq fol (o1++[.r [(2,{rs:=[oB x20],st:=st21,m:=5}),(4,wF),(5,wF),(6,wF),(7,wF),(8,wF),(9,wF),(10,wF),(11,yF)],cF,.s 4]) [0,1,5,15,16] [] (t1 (aO c17 c17 c17 c17 c17 c17 c17 (aI c17 eF))) (Zag.p2_ok h5 hE hc1)
 exact xT fol h2 hE [rZ,cF,rZ] c15
theorem Zag.snd {m_0 A1_0:Option Nat} {st:LL} {r:Int×LL} (h:Zag N m_0 A1_0 st=some r):Snd zB 37 [.one (zQ m_0),.one (L.fn 16 1 [zQ A1_0])] st (Zag.rs r) r.2:=
 sO Zag.B Tryz.func37 fun g0 w0 R hE=>by
  unfold Zag at h;obtain ⟨⟨x1,st2⟩,c1,h14⟩:=Zac h;let o3:List PS:=[rZ,rZ,.r [(1,{rs:=[oB x1],st:=st2})]]
  refine Zbc h14 (fun c2 h15=>?_) (fun c2 h16=>?_)
  ·exact xT fol h15 hE (o3++[cT,rZ]) (aI (ZbA.snd c1) c2)
  obtain ⟨i3,rfl,h17⟩:=Zac h16;obtain ⟨x4,x5,c4,h18⟩:=ZbP h17;exact aq fol (o3++[cF,.r [(3,{oc:=[zQ x4,yC true 3 x5]})]]) [0,1,5,15,16] [] (aJ (ZbA.snd c1) c2 c4) (At.loop N (At.loopN (fun y:Int×Int×LL=>Zag.p1.S i3 A1_0 y.1 x5 y.2.1 y.2.2) (fun c J hc y h=>Zag.p1_ok (A6:=y.1) (v7:=y.2.1) (st19:=y.2.2) h hE (fun A6 v7 st19=>hc (A6,v7,st19))) N ((-1),0,st2) h18))
def Zcd.B:Code:=Tryz.f13.body.getD .skip
def Zcd.rs (r:Int×LL):List CV:=[oI r.1]
def Zcd (N:Nat) (m_0:Option Nat) (st:LL):Option (Int×LL):= Zbm (Zag N m_0 m_0 st) fun (x1,st2)=> some (x1,st2)
theorem Zcd.snd {m_0:Option Nat} {st:LL} {r:Int×LL} (h:Zcd N m_0 st=some r):Snd zB 13 [.one (zQ m_0)] st (Zcd.rs r) r.2:=
 sO Zcd.B Tryz.func13 fun g0 w0 R hE=>by
  unfold Zcd at h;obtain ⟨⟨x1,st2⟩,c1,h1⟩:=Zac h;exact xT fol h1 hE [rZ,.r [(3,{rs:=[oI x1],st:=st2})]] (Zag.snd c1)
def ZbW.B:Code:=Tryz.f43.body.getD .skip
def ZbW.rs (r:Int×LL):List CV:=[oI r.1]
def ZbW (N:Nat) (m_0:Option Nat) (at_1:Int) (st:LL):Option (Int×LL):= if (Option.isNone m_0)=true then some (2,st) else Zbm (ZbA N m_0 at_1 st) fun (x1,st2)=> if (!x1)=true then some (5,st2) else if (at_1==0)=true then some (1,st2) else some (0,st2)
theorem ZbW.snd {m_0:Option Nat} {at_1:Int} {st:LL} {r:Int×LL} (h:ZbW N m_0 at_1 st=some r):Snd zB 43 [.one (zQ m_0),oI at_1] st (ZbW.rs r) r.2:=
 sO ZbW.B Tryz.func43 fun g0 w0 R hE=>by
  unfold ZbW at h;refine Zbc h (fun c1 h1=>?_) (fun c1 h2=>?_)
  ·exact xT fol h1 hE [rZ,rZ,cT,rZ] c1
  obtain ⟨⟨x1,st2⟩,c2,h3⟩:=Zac h2;let o1:List PS:=[rZ,rZ,cF,.r [(2,{rs:=[oB x1],st:=st2})]]
  have t1 {Q:Prop} (q:Q):=aJ c1 (ZbA.snd c2) q;refine Zbc h3 (fun c3 h4=>?_) (fun c3 h5=>?_)
  ·exact xT fol h4 hE (o1++[cT,rZ]) (t1 c3)
  refine Zbc h5 (fun c4 h6=>?_) (fun c4 h7=>?_)
  ·exact xT fol h6 hE (o1++[cF,rZ,cT,rZ]) (t1 (aI c3 c4))
  exact xT fol h7 hE (o1++[cF,rZ,cF,rZ]) (t1 (aI c3 c4))
def Zbh.B:Code:=Tryz.f44.body.getD .skip
def Zbh.rs (r:LL):List CV:=[]
def Zbh.p1 (N:Nat) (c1_:((Option Nat)×Int×LL)→Option LL):((Option Nat)×Int×LL)→Option LL:=fun (A16,at_1,st17)=> Zbm A16 fun i18=> Zde (st17[i18]?) Zca fun x19 x20=> if (decide (at_1<(len x20)))=true then Zbm x19 fun i21=> Zde (st17[i21]?) Zdp fun x22 x23=> Zbm x22 fun i24=> Zde (st17[i24]?) ZbZ fun x25=> Zbm (ZbU N (ZaD.mk x25 x23) at_1) fun (x26,x27)=> chk (0≤x26.Ahead)<| chk (x26.Ahead<(len x20))<| Zde (x20[0+(zD x26.Ahead)]?) Zcz fun x28=> if x28.child=true then chk (0≤at_1)<| Zde (x20[0+(zD at_1)]?) Zcz fun x29=> c1_ ((some i18),w64 (at_1+1),zN st17 i18 [zQ (some i21),yC true 3 (zN x20 (0+(zD at_1)) (ZaS.ls {x29 with child:=true}))]) else Zbm (ZcB N x28) fun x30=> chk (0≤at_1)<| Zde (x20[0+(zD at_1)]?) Zcz fun x31=> c1_ ((some i18),w64 (at_1+1),zN st17 i18 [zQ (some i21),yC true 3 (zN x20 (0+(zD at_1)) (ZaS.ls {x31 with child:=x30}))]) else some st17
def Zbh (N:Nat) (m_0:Option Nat) (A1:Int) (st:LL):Option LL:= loopN (Zbh.p1 N) N (m_0,if (1:Int)>A1 then 1 else A1,st)
def Zbh.p1.S (A16:Option Nat) (at_1:Int) (st17:LL):S:=mkS 49 [(0,sP A16),(4,sI at_1)] [] st17
theorem Zbh.p1_ok {A16 at_1 st17 r c1_ J1} (h:Zbh.p1 N c1_ (A16,at_1,st17)=some r) (hE:En Tryz.f44 g0 w0 (Zbh.rs r) r R) (hc1 : ∀A16 at_1 st17,c1_ (A16,at_1,st17)=some r→At g0 w0 (Zbh.p1.S A16 at_1 st17) J1):At g0 w0 (Zbh.p1.S A16 at_1 st17) (XK zB R (cK Zbh.B [1,0,0] :: .h J1 :: [.b 0])):=by
 unfold Zbh.p1 at h;obtain ⟨i18,rfl,h1⟩:=Zac h;obtain ⟨x19,x20,c19,h2⟩:=ZbP h1;refine Zbc h2 (fun c20 h3=>?_) (fun c20 h4=>?_)
 ·obtain ⟨i21,rfl,h5⟩:=Zac h3;obtain ⟨x22,x23,c22,h6⟩:=Zdf h5;obtain ⟨i24,rfl,h7⟩:=Zac h6;obtain ⟨x25,c24,h8⟩:=ZbO h7;obtain ⟨⟨x26,x27⟩,c25,h9⟩:=Zac h8;obtain ⟨c26,c27,h10⟩:=ck2 h9;obtain ⟨x28,c28,h11⟩:=Zcs h10;let o1:List PS:=[.r [(4,{oc:=[zQ (some i21),yC true 3 x20]})],cT,.r [(3,{oc:=[zQ (some i21),yC true 3 x20]}),(5,{rs:=[.agg x26.ls,oB x27],m:=10,cv:=[.one (L.bx 2 (ZaD.ls (ZaD.mk x25 x23)))]})],.d {ds:=[(3,{oc:=[zQ (some i21),yC true 3 x20]}),(7,{oc:=[zQ (some i21),yC true 3 x20],oe:=x28.ls})],hv:=768,Hs:=[256,768]}]
  have t1 {Q:Prop} (q:Q):=aO c19 c20 c19 (bO 2 c22 ((bC 87 c24 (ZaH.bv x25) (bW bN)):BVs st17 [zQ (some i24),yC true 1 x23] (ZaD.ls (ZaD.mk x25 x23)))) (ZbU.snd c25) c19 c19 (aO c26 c27 c26 c27 c28 c19 c28 (aJ c19 c19 q));refine Zbc h11 (fun c29 h12=>?_) (fun c29 h13=>?_)
  ·obtain ⟨c30,h14⟩:=Zbe h12;obtain ⟨x29,c31,h15⟩:=Zcs h14;exact ZjR fol (o1++[.d {ds:=[(3,{oc:=[zQ (some i21),yC true 3 x20]}),(8,wF),(9,wF),(13,{oc:=[zQ (some i21),yC true 3 x20],oe:=x29.ls,yes:=false})],hv:=8192,Hs:=[8192]},rZ]) [0,4] [] (t1 (aN c29 c29 c29 c30 (oD c20) c31 c19)) (hc1 (some i18) (w64 (at_1+1)) (zN st17 i18 [zQ (some i21),yC true 3 (zN x20 (0+(zD at_1)) (ZaS.ls {x29 with child:=true}))]) h15)
  obtain ⟨x30,c32,h16⟩:=Zac h13;obtain ⟨c33,h17⟩:=Zbe h16;obtain ⟨x31,c34,h18⟩:=Zcs h17;exact ZjR fol (o1++[.d {ds:=[(3,{oc:=[zQ (some i21),yC true 3 x20]}),(9,q1 [oB x30]),(10,yF),(13,{oc:=[zQ (some i21),yC true 3 x20],oe:=x31.ls,yes:=false})],hv:=8192,Hs:=[8192]},rZ]) [0,4] [] (t1 (aO c29 c29 (ZcB.snd c32) c29 c33 (oD c20) c34 c19)) (hc1 (some i18) (w64 (at_1+1)) (zN st17 i18 [zQ (some i21),yC true 3 (zN x20 (0+(zD at_1)) (ZaS.ls {x31 with child:=x30}))]) h18)
 exact xR fol h4 hE [.r [(4,{oc:=[zQ x19,yC true 3 x20]})],cF] (aI c19 c20)
theorem Zbh.snd {m_0:Option Nat} {A1:Int} {st:LL} {r:LL} (h:Zbh N m_0 A1 st=some r):Snd zB 44 [.one (zQ m_0),oI A1] st (Zbh.rs r) r:=
 sO Zbh.B Tryz.func44 fun g0 w0 R hE=>by
  unfold Zbh at h;exact aq fol [rZ] [0,4] [] trivial (At.loop N (At.loopN (fun y:(Option Nat)×Int×LL=>Zbh.p1.S y.1 y.2.1 y.2.2) (fun c J hc y h=>Zbh.p1_ok (A16:=y.1) (at_1:=y.2.1) (st17:=y.2.2) h hE (fun A16 at_1 st17=>hc (A16,at_1,st17))) N (m_0,if (1:Int)>A1 then 1 else A1,st) h))
def ZbE.B:Code:=Tryz.f22.body.getD .skip
def ZbE.rs (r:Int×LL):List CV:=[oI r.1]
def ZbE (N:Nat) (m_0:Option Nat) (at_1:Int) (st:LL):Option (Int×LL):= Zbm (ZbW N m_0 at_1 st) fun (x1,st2)=> if (x1 != 0)=true then some (x1,st2) else Zbm m_0 fun i3=> Zde (st2[i3]?) Zca fun x4 x5=> chk (0≤at_1)<| chk (at_1<(len x5))<| Zde (x5[0+(zD at_1)]?) Zcz fun x6=> Zbm (Zbh N (some i3) at_1 (zN st2 i3 [zQ x4,yC true 3 (zN x5 (0+(zD at_1)) (ZaS.ls {x6 with out:=true}))])) fun st7=> some (0,st7)
theorem ZbE.snd {m_0:Option Nat} {at_1:Int} {st:LL} {r:Int×LL} (h:ZbE N m_0 at_1 st=some r):Snd zB 22 [.one (zQ m_0),oI at_1] st (ZbE.rs r) r.2:=
 sO ZbE.B Tryz.func22 fun g0 w0 R hE=>by
  unfold ZbE at h;obtain ⟨⟨x1,st2⟩,c1,h1⟩:=Zac h;let o1:List PS:=[rZ,.r [(2,{rs:=[oI x1],st:=st2})],rZ]
  refine Zbc h1 (fun c2 h2=>?_) (fun c2 h3=>?_)
  ·exact xT fol h2 hE (o1++[cT,rZ]) (aI (ZbW.snd c1) c2)
  obtain ⟨i3,rfl,h4⟩:=Zac h3;obtain ⟨x4,x5,c4,h5⟩:=ZbP h4;obtain ⟨c5,c6,h6⟩:=ck2 h5;obtain ⟨x6,c7,h7⟩:=Zcs h6;obtain ⟨st7,c8,h8⟩:=Zac h7;exact xT fol h8 hE (o1++[cF,.r [(3,{oc:=[zQ x4,yC true 3 x5]}),(7,{oc:=[zQ x4,yC true 3 x5],oe:=x6.ls,yes:=false})],.r [(2,{st:=st7})],rZ]) (aO (ZbW.snd c1) c2 c4 c5 c6 c7 c4 (Zbh.snd c8))
def Zee.B:Code:=Tryz.f9.body.getD .skip
def Zee.rs (r:Bool×LL):List CV:=[oB r.1]
def Zee (N:Nat) (st:LL):Option (Bool×LL):= Zbm (Zfz N (Zae.mk 545259519 4 10 0 false [] [] (zC 4 0) (zC 4 0) (Zak.mk 0 (zC 32 0) (zC 32 0) 0 0 0)) 5 st) fun (x1,x2,st3)=> if (x2 != 0)=true then some (false,st3) else Zbm (ZeN N x1 st3) fun (x4,st5)=> Zbm (Zcd N x4 st5) fun (x6,st7)=> if (x6==0)=true then Zbm (ZaY N x4 0 st7) fun (x8,st9)=> if x8=true then Zbm (ZbE N x4 0 st9) fun (x10,st11)=> some (x10==1,st11) else some (false,st9) else some (false,st7)
theorem Zee.snd {st:LL} {r:Bool×LL} (h:Zee N st=some r):Snd zB 9 [] st (Zee.rs r) r.2:=
 sO Zee.B Tryz.func9 fun g0 w0 R hE=>by
  unfold Zee at h;obtain ⟨⟨x1,x2,st3⟩,c1,h1⟩:=Zac h;let o1:List PS:=[rZ,.r [(1,{rs:=[.one (zQ x1),oI x2],st:=st3})],rZ]
  have t1 {Q:Prop} (q:Q):=aI (Zfz.snd c1) q;refine Zbc h1 (fun c2 h2=>?_) (fun c2 h3=>?_)
  ·exact xT fol h2 hE (o1++[cT,rZ]) (t1 c2)
  obtain ⟨⟨x4,st5⟩,c3,h4⟩:=Zac h3;obtain ⟨⟨x6,st7⟩,c4,h5⟩:=Zac h4;let o2:List PS:=o1++[cF,.r [(1,{rs:=[.one (zQ x4)],st:=st5})]]
  have t2 {Q:Prop} (q:Q):=t1 (aK c2 (ZeN.snd c3) (Zcd.snd c4) q);refine Zbc h5 (fun c5 h6=>?_) (fun c5 h7=>?_)
  ·obtain ⟨⟨x8,st9⟩,c6,h8⟩:=Zac h6;refine Zbc h8 (fun c7 h9=>?_) (fun c7 h10=>?_)
   ·obtain ⟨⟨x10,st11⟩,c8,h11⟩:=Zac h9;exact xT fol h11 hE (o2++[.r [(1,{rs:=[oI x6],st:=st7}),(5,{rs:=[oB x8],st:=st9}),(9,{rs:=[oI x10],st:=st11})]]) (t2 (aO c5 c5 (ZaY.snd c6) c5 c7 c7 (ZbE.snd c8) (aI c7 c7)))
   exact xT fol h10 hE (o2++[.r [(1,{rs:=[oI x6],st:=st7}),(5,{rs:=[oB x8],st:=st9}),(8,wF),(9,wF),(10,wF),(11,yF)]]) (t2 (aO c5 c5 (ZaY.snd c6) c5 c7 c7 c7 c7))
  exact xT fol h7 hE (o2++[.r [(1,{rs:=[oI x6],st:=st7}),(4,wF),(5,wF),(6,yF),(8,wF),(9,wF),(10,wF),(11,yF)]]) (t2 (aN c5 c5 c5 eF eF eF eF))
def Zaq.B:Code:=Tryz.f100.body.getD .skip
def Zaq.rs (r:(List Int)):List CV:=[.agg [zI .u64 4 r]]
def Zaq.p4 (N:Nat) (c3_:(Int×(List Int))→Option (List Int)) (A13 A19:Int) (A18 A22:List Int):Option (List Int):= c3_ (w64 (A19+1),A22)
def Zaq.p3 (N:Nat) (A13:Int) (A18:List Int) (c3_:(Int×(List Int))→Option (List Int)):(Int×(List Int))→Option (List Int):=fun (A19,A21)=> if (decide (A19<4))=true then if (decide (A13>0))=true then chk (0≤A19)<| chk (0≤(v64 (A13)))<| if (decide (A19>0))=true then chk (0≤(w64 (A19-1)))<| chk ((w64 (A19-1))<4)<| chk (0≤(v64 (w64 (64-A13))))<| Zaq.p4 N c3_ A13 A19 A18 (zN (zN A21 (zD A19) (ZbR .u64 (zF A18 (zD A19) 0) (v64 (A13)))) (zD A19) (v64 ((zF (zN A21 (zD A19) (ZbR .u64 (zF A18 (zD A19) 0) (v64 (A13)))) (zD A19) 0)+(ZbF .u64 (zF A18 (zD (w64 (A19-1))) 0) (v64 (w64 (64-A13))))))) else Zaq.p4 N c3_ A13 A19 A18 (zN A21 (zD A19) (ZbR .u64 (zF A18 (zD A19) 0) (v64 (A13)))) else chk (0≤A19)<| chk (0≤(v64 (w64 (0-A13))))<| if (decide (A19<3))=true then chk (0≤(w64 (A19+1)))<| chk ((w64 (A19+1))<4)<| chk (0≤(v64 (w64 (64+A13))))<| Zaq.p4 N c3_ A13 A19 A18 (zN (zN A21 (zD A19) (ZbF .u64 (zF A18 (zD A19) 0) (v64 (w64 (0-A13))))) (zD A19) (v64 ((zF (zN A21 (zD A19) (ZbF .u64 (zF A18 (zD A19) 0) (v64 (w64 (0-A13))))) (zD A19) 0)+(ZbR .u64 (zF A18 (zD (w64 (A19+1))) 0) (v64 (w64 (64+A13))))))) else Zaq.p4 N c3_ A13 A19 A18 (zN A21 (zD A19) (ZbF .u64 (zF A18 (zD A19) 0) (v64 (w64 (0-A13))))) else some A21
def Zaq.p2 (N:Nat) (c2_:(Int×(List Int))→Option (List Int)):(Int×(List Int))→Option (List Int):=fun (A13,A18)=> if (decide (A13≤(-64)))=true then c2_ (w64 (A13+64),[zF A18 1 0,zF A18 2 0,zF A18 3 0,0]) else if (A13==0)=true then some A18 else loopN (Zaq.p3 N A13 A18) N (0,zC 4 0)
def Zaq.p1 (N:Nat) (c1_:(Int×(List Int))→Option (List Int)):(Int×(List Int))→Option (List Int):=fun (F1,A12)=> if (decide (F1≥64))=true then c1_ (w64 (F1-64),[0,zF A12 0 0,zF A12 1 0,zF A12 2 0]) else loopN (Zaq.p2 N) N (F1,A12)
def Zaq (N:Nat) (A0_0:List Int) (F1:Int):Option (List Int):= if (decide (F1≤(-256)))=true then some (zC 4 0) else if (decide (F1≥256))=true then some (zC 4 0) else loopN (Zaq.p1 N) N (F1,A0_0)
def Zaq.p4.S (A13 A19:Int) (A18 A22:List Int) (st:LL):S:=mkS 96 [(1,sI A13),(2,sA 2),(4,sA 4),(5,sA 5),(6,sI A19)] [(2,.cells [zI .u64 4 A18]),(4,.cells [zI .u64 4 (zC 4 0)]),(5,.cells [zI .u64 4 A22])] st
def Zaq.p3.S (A13 A19:Int) (A18 A21:List Int) (st:LL):S:=mkS 96 [(1,sI A13),(2,sA 2),(4,sA 4),(5,sA 5),(6,sI A19)] [(2,.cells [zI .u64 4 A18]),(4,.cells [zI .u64 4 (zC 4 0)]),(5,.cells [zI .u64 4 A21])] st
def Zaq.p2.S (A13:Int) (A18:List Int) (st:LL):S:=mkS 96 [(1,sI A13),(2,sA 2),(4,sA 4),(5,sA 5)] [(2,.cells [zI .u64 4 A18]),(4,.cells [zI .u64 4 (zC 4 0)]),(5,.cells [zI .u64 4 (zC 4 0)])] st
def Zaq.p1.S (F1:Int) (A12:List Int) (st:LL):S:=mkS 96 [(1,sI F1),(2,sA 2),(4,sA 4),(5,sA 5)] [(2,.cells [zI .u64 4 A12]),(4,.cells [zI .u64 4 (zC 4 0)]),(5,.cells [zI .u64 4 (zC 4 0)])] st
theorem Zaq.p4_ok {A13 A19 A18 A22 st r c3_ J3} (h:Zaq.p4 N c3_ A13 A19 A18 A22=some r) (hE:En Tryz.f100 g0 w0 (Zaq.rs r) st R) (hc3 : ∀A19 A21,c3_ (A19,A21)=some r→At g0 w0 (Zaq.p3.S A13 A19 A18 A21 st) J3):At g0 w0 (Zaq.p4.S A13 A19 A18 A22 st) (XK zB R [cK Zaq.B [1,1,1,1,1,1,0,1,0,0,1,1],.h J3,.b 4,cK Zaq.B [1,1,1,1,1,1,1]]):=by
 unfold Zaq.p4 at h;exact an fol [rZ] [1,2,4,5,6] [2,4,5] trivial (hc3 (w64 (A19+1)) A22 h)
theorem Zaq.p3_ok {A13 A19 A18 A21 st r c3_ J3} (h:Zaq.p3 N A13 A18 c3_ (A19,A21)=some r) (hE:En Tryz.f100 g0 w0 (Zaq.rs r) st R) (hc3 : ∀A19 A21,c3_ (A19,A21)=some r→At g0 w0 (Zaq.p3.S A13 A19 A18 A21 st) J3):At g0 w0 (Zaq.p3.S A13 A19 A18 A21 st) (XK zB R (cK Zaq.B [1,1,1,1,1,1,0,1,0,0] :: .h J3 :: [.b 4,cK Zaq.B [1,1,1,1,1,1,1]])):=by
 unfold Zaq.p3 at h;refine Zbc h (fun c111 h1=>?_) (fun c111 h2=>?_)
 ·let o1:List PS:=[rZ,cT,rZ]
  refine Zbc h1 (fun c112 h3=>?_) (fun c112 h4=>?_)
  ·obtain ⟨c113,c114,h5⟩:=ck2 h3;have t1 {Q:Prop} (q:Q):=aO c111 c112 c113 (oD c111) c114 c113 (oD c111) q;refine Zbc h5 (fun c115 h6=>?_) (fun c115 h7=>?_)
   ·obtain ⟨c116,c117,c118,h8⟩:=ck3 h6;exact aqd fol (o1++[cT,rZ,rZ,cT,.d {ds:=[],hv:=16384,Hs:=[16384]},.s 4]) [1,2,4,5,6] [2,4,5] (t1 (aO c115 c113 (oD c111) c116 c117 c118 c113 (oD c111))) (Zaq.p4_ok h8 hE hc3)
   exact aq fol (o1++[cT,rZ,rZ,cF,.s 4]) [1,2,4,5,6] [2,4,5] (t1 c115) (Zaq.p4_ok h7 hE hc3)
  obtain ⟨c119,c120,h9⟩:=ck2 h4;have t2 {Q:Prop} (q:Q):=aO c111 c112 c119 (oD c111) c120 c119 (oD c111) q;refine Zbc h9 (fun c121 h10=>?_) (fun c121 h11=>?_)
  ·obtain ⟨c122,c123,c124,h12⟩:=ck3 h10;exact aqd fol (o1++[cF,rZ,rZ,cT,.d {ds:=[],hv:=16384,Hs:=[16384]},.s 4]) [1,2,4,5,6] [2,4,5] (t2 (aO c121 c119 (oD c111) c122 c123 c124 c119 (oD c111))) (Zaq.p4_ok h12 hE hc3)
  exact aq fol (o1++[cF,rZ,rZ,cF,.s 4]) [1,2,4,5,6] [2,4,5] (t2 c121) (Zaq.p4_ok h11 hE hc3)
 exact xS fol h2 hE [rZ,cF,rZ] c111
theorem Zaq.p2_ok {A13 A18 st r c2_ J2} (h:Zaq.p2 N c2_ (A13,A18)=some r) (hE:En Tryz.f100 g0 w0 (Zaq.rs r) st R) (hc2 : ∀A13 A18,c2_ (A13,A18)=some r→At g0 w0 (Zaq.p2.S A13 A18 st) J2):At g0 w0 (Zaq.p2.S A13 A18 st) (XK zB R (cK Zaq.B [1,1,1,1,0,0,0] :: .h J2 :: [.b 2,cK Zaq.B [1,1,1,1,1]])):=by
 unfold Zaq.p2 at h;refine Zbc h (fun c95 h13=>?_) (fun c95 h14=>?_)
 ·exact an fol [rZ,cT,.r [(6,{m:=3})],rZ] [1,2,4,5] [2,4,5] (aI c95 (ix 1 4 (ix 2 4 (aI (leI 0 3) (ltI 3 4))))) (hc2 (w64 (A13+64)) [zF A18 1 0,zF A18 2 0,zF A18 3 0,0] h13)
 refine Zbc h14 (fun c96 h15=>?_) (fun c96 h16=>?_)
 ·exact xS fol h15 hE [rZ,cF,rZ,cT,rZ] (aI c95 c96)
 exact aq fol [rZ,cF,rZ,cF,rZ] [1,2,4,5,6] [2,4,5] (aI c95 c96) (At.loop N (At.loopN (fun y:Int×(List Int)=>Zaq.p3.S A13 y.1 A18 y.2 st) (fun c J hc y h=>Zaq.p3_ok (A19:=y.1) (A21:=y.2) h hE (fun A19 A21=>hc (A19,A21))) N (0,zC 4 0) h16))
theorem Zaq.p1_ok {F1 A12 st r c1_ J1} (h:Zaq.p1 N c1_ (F1,A12)=some r) (hE:En Tryz.f100 g0 w0 (Zaq.rs r) st R) (hc1 : ∀F1 A12,c1_ (F1,A12)=some r→At g0 w0 (Zaq.p1.S F1 A12 st) J1):At g0 w0 (Zaq.p1.S F1 A12 st) (XK zB R (cK Zaq.B [1,1,1,0,0,0] :: .h J1 :: [.b 0,cK Zaq.B [1,1,1,1]])):=by
 unfold Zaq.p1 at h;refine Zbc h (fun c64 h17=>?_) (fun c64 h18=>?_)
 ·exact an fol [rZ,cT,.r [(6,{m:=3})],rZ] [1,2,4,5] [2,4,5] (aI c64 (ix 0 4 (ix 1 4 (aI (leI 0 2) (ltI 2 4))))) (hc1 (w64 (F1-64)) [0,zF A12 0 0,zF A12 1 0,zF A12 2 0] h17)
 exact aq fol [rZ,cF] [1,2,4,5] [2,4,5] c64 (At.loop N (At.loopN (fun y:Int×(List Int)=>Zaq.p2.S y.1 y.2 st) (fun c J hc y h=>Zaq.p2_ok (A13:=y.1) (A18:=y.2) h hE (fun A13 A18=>hc (A13,A18))) N (F1,A12) h18))
theorem Zaq.snd {A0_0:List Int} {F1:Int} {r:(List Int)} (h:Zaq N A0_0 F1=some r):ZdP zB 100 [.agg [zI .u64 4 A0_0],oI F1] (Zaq.rs r):=fun st=>
 sO Zaq.B Tryz.func100 fun g0 w0 R hE=>by
  unfold Zaq at h;refine Zbc h (fun c1 h19=>?_) (fun c1 h20=>?_)
  ·exact xS fol h19 hE [rZ,rZ,.r [(3,wF),(4,wF)],cT,rZ] (aK c1 c1 c1 eT)
  let o2:List PS:=[rZ,rZ,.r [(5,yF)]]
  refine Zbc h20 (fun c2 h21=>?_) (fun c2 h22=>?_)
  ·exact xS fol h21 hE (o2++[cT,rZ]) (aK c1 c1 c1 c2)
  exact aq fol (o2++[cF]) [1,2,4,5] [2,4,5] (aK c1 c1 c1 c2) (At.loop N (At.loopN (fun y:Int×(List Int)=>Zaq.p1.S y.1 y.2 st) (fun c J hc y h=>Zaq.p1_ok (F1:=y.1) (A12:=y.2) h hE (fun F1 A12=>hc (F1,A12))) N (F1,A0_0) h22))
def ZaV.B:Code:=Tryz.f78.body.getD .skip
def ZaV.rs (r:(List Int)×Bool×Bool):List CV:=[.agg [zI .u64 4 r.1],oB r.2.1,oB r.2.2]
def ZaV.p1 (N:Nat) (A0:Int) (F2:Bool) (x1:List Int):Option ((List Int)×Bool×Bool):= if (decide ((zX A0 8388608)>0))=true then some (x1,(zX (w64 (zS A0 8388608)) 2)==1,F2) else some (x1,false,F2)
def ZaV (N:Nat) (A0:Int):Option ((List Int)×Bool×Bool):= if (decide (A0<0))=true then some (zC 4 0,false,false) else if (decide (A0>4294967295))=true then some (zC 4 0,false,false) else Zbm (Zaq N [v64 (zX A0 8388608),0,0,0] (w64 (8*(w64 ((w64 (zS A0 16777216))-3))))) fun x1=> if (decide ((zX A0 8388608)>0))=true then if (decide ((w64 (zS A0 16777216))>34))=true then ZaV.p1 N A0 true x1 else if (decide ((zX A0 8388608)>255))=true then if (decide ((w64 (zS A0 16777216))>33))=true then ZaV.p1 N A0 true x1 else if (decide ((zX A0 8388608)>65535))=true then ZaV.p1 N A0 (decide ((w64 (zS A0 16777216))>32)) x1 else ZaV.p1 N A0 false x1 else if (decide ((zX A0 8388608)>65535))=true then ZaV.p1 N A0 (decide ((w64 (zS A0 16777216))>32)) x1 else ZaV.p1 N A0 false x1 else if (decide ((zX A0 8388608)>255))=true then if (decide ((w64 (zS A0 16777216))>33))=true then ZaV.p1 N A0 true x1 else if (decide ((zX A0 8388608)>65535))=true then ZaV.p1 N A0 (decide ((w64 (zS A0 16777216))>32)) x1 else ZaV.p1 N A0 false x1 else if (decide ((zX A0 8388608)>65535))=true then ZaV.p1 N A0 (decide ((w64 (zS A0 16777216))>32)) x1 else ZaV.p1 N A0 false x1
def ZaV.p1.S (A0:Int) (F2:Bool) (x1:List Int) (st:LL):S:=mkS 61 [(2,sA 2),(6,sI (zX A0 8388608)),(7,.one (.l (xW ((zX (w64 (zS A0 8388608)) 2)==1)))),(8,sA 8),(9,.one (.l (xW F2)))] [(2,.cells [zI .u64 4 (zC 4 0)]),(8,.cells [zI .u64 4 x1])] st
theorem ZaV.p1_ok {A0 F2 x1 st r} (h:ZaV.p1 N A0 F2 x1=some r) (hE:En Tryz.f78 g0 w0 (ZaV.rs r) st R):At g0 w0 (ZaV.p1.S A0 F2 x1 st) (XK zB R [cK ZaV.B [1,1,1,1,1,1,1]]):=by
 unfold ZaV.p1 at h;refine Zbc h (fun c14 h1=>?_) (fun c14 h2=>?_)
 ·exact xS fol h1 hE [rZ] (aI c14 c14)
 exact xS fol h2 hE [.r [(4,wF),(5,yF)]] (aI c14 c14)
theorem ZaV.snd {A0:Int} {r:(List Int)×Bool×Bool} (h:ZaV N A0=some r):ZdP zB 78 [oI A0] (ZaV.rs r):=fun st=>
 sO ZaV.B Tryz.func78 fun g0 w0 R hE=>by
  unfold ZaV at h;refine Zbc h (fun c1 h3=>?_) (fun c1 h4=>?_)
  ·exact xS fol h3 hE [rZ,.r [(3,wF),(4,wF)],cT,rZ] (aK c1 c1 c1 eT)
  let o1:List PS:=[rZ,.r [(5,yF)]]
  have t1 {Q:Prop} (q:Q):=aK c1 c1 c1 q;refine Zbc h4 (fun c2 h5=>?_) (fun c2 h6=>?_)
  ·exact xS fol h5 hE (o1++[cT,rZ]) (t1 c2)
  obtain ⟨x1,c3,h7⟩:=Zac h6;let o2:List PS:=o1++[cF,rZ,rZ,rZ,.r [(2,{m:=3}),(6,q1 [.agg [zI .u64 4 x1]])]]
  have t2 {Q:Prop} (q:Q):=t1 (aN c2 (neI 16777216) (neI 8388608) (neI 8388608) (neI 2) (Zaq.snd c3) q);refine Zbc h7 (fun c4 h8=>?_) (fun c4 h9=>?_)
  ·have t3 {Q:Prop} (q:Q):=t2 (aK c4 c4 c4 q);refine Zbc h8 (fun c5 h10=>?_) (fun c5 h11=>?_)
   ·exact aq fol (o2++[.r [(7,wF),(8,wF),(9,wF),(12,wF),(15,wF),(16,wF),(17,wF),(20,wF)],.s 1]) [2,6,7,8,9] [2,8] (t3 (aO c5 c5 c5 c5 c5 eT eT (aJ eT eT eT))) (ZaV.p1_ok h10 hE)
   have t4 {Q:Prop} (q:Q):=t3 (aK c5 c5 c5 q);refine Zbc h11 (fun c6 h12=>?_) (fun c6 h13=>?_)
   ·refine Zbc h12 (fun c7 h14=>?_) (fun c7 h15=>?_)
    ·exact aq fol (o2++[.r [(13,yF),(15,wF),(16,wF),(17,wF),(20,wF)],.s 1]) [2,6,7,8,9] [2,8] (t4 (aO c6 c6 c5 c6 c5 c7 c7 (aJ c7 c7 c7))) (ZaV.p1_ok h14 hE)
    refine Zbc h15 (fun c8 h16=>?_) (fun c8 h17=>?_)
    ·exact aq fol (o2++[.r [(13,yF),(21,yF)],.s 1]) [2,6,7,8,9] [2,8] (t4 (aO c6 c6 c5 c6 c5 c7 c7 (aM c7 c8 c8 c7 c8 c7))) (ZaV.p1_ok h16 hE)
    exact aq fol (o2++[.r [(13,yF),(18,wF),(19,wF),(20,yF),(21,yF)],.s 1]) [2,6,7,8,9] [2,8] (t4 (aO c6 c6 c5 c6 c5 c7 c7 (aM c7 c8 c8 c7 c8 c7))) (ZaV.p1_ok h17 hE)
   have t5 {Q:Prop} (q:Q):=t4 (aO c6 c6 c5 c6 c5 eF eF (aI eF q));refine Zbc h13 (fun c9 h18=>?_) (fun c9 h19=>?_)
   ·exact aq fol (o2++[.r [(10,wF),(11,wF),(12,yF),(13,yF),(21,yF)],.s 1]) [2,6,7,8,9] [2,8] (t5 (aL c9 c9 eF c9 eF)) (ZaV.p1_ok h18 hE)
   exact aq fol (o2++[.r [(10,wF),(11,wF),(12,yF),(13,yF),(18,wF),(19,wF),(20,yF),(21,yF)],.s 1]) [2,6,7,8,9] [2,8] (t5 (aL c9 c9 eF c9 eF)) (ZaV.p1_ok h19 hE)
  have t6 {Q:Prop} (q:Q):=t2 (aN c4 c4 c4 eF eF eF q);refine Zbc h9 (fun c10 h20=>?_) (fun c10 h21=>?_)
  ·have t7 {Q:Prop} (q:Q):=t6 (aM c10 c10 eF c10 eF q);refine Zbc h20 (fun c11 h22=>?_) (fun c11 h23=>?_)
   ·exact aq fol (o2++[.r [(3,wF),(4,wF),(5,yF),(13,yF),(15,wF),(16,wF),(17,wF),(20,wF)],.s 1]) [2,6,7,8,9] [2,8] (t7 (aL c11 c11 c11 c11 c11)) (ZaV.p1_ok h22 hE)
   refine Zbc h23 (fun c12 h24=>?_) (fun c12 h25=>?_)
   ·exact aq fol (o2++[.r [(3,wF),(4,wF),(5,yF),(13,yF),(21,yF)],.s 1]) [2,6,7,8,9] [2,8] (t7 (aO c11 c11 c11 c12 c12 c11 c12 c11)) (ZaV.p1_ok h24 hE)
   exact aq fol (o2++[.r [(3,wF),(4,wF),(5,yF),(13,yF),(18,wF),(19,wF),(20,yF),(21,yF)],.s 1]) [2,6,7,8,9] [2,8] (t7 (aO c11 c11 c11 c12 c12 c11 c12 c11)) (ZaV.p1_ok h25 hE)
  have t8 {Q:Prop} (q:Q):=t6 (aO c10 c10 eF c10 eF eF eF (aI eF q));refine Zbc h21 (fun c13 h26=>?_) (fun c13 h27=>?_)
  ·exact aq fol (o2++[.r [(3,wF),(4,wF),(5,yF),(10,wF),(11,wF),(12,yF),(13,yF),(21,yF)],.s 1]) [2,6,7,8,9] [2,8] (t8 (aL c13 c13 eF c13 eF)) (ZaV.p1_ok h26 hE)
  exact aq fol (o2++[.r [(3,wF),(4,wF),(5,yF),(10,wF),(11,wF),(12,yF),(13,yF),(18,wF),(19,wF),(20,yF),(21,yF)],.s 1]) [2,6,7,8,9] [2,8] (t8 (aL c13 c13 eF c13 eF)) (ZaV.p1_ok h27 hE)
def Zdo.B:Code:=Tryz.f116.body.getD .skip
def Zdo.rs (r:Int):List CV:=[oI r]
def Zdo (N:Nat) (A0_0:List Int) (A1:Int):Option Int:= if (decide (A1<0))=true then some 0 else if (decide (A1>255))=true then some 0 else chk (0≤(w64 (zS A1 64)))<| chk ((w64 (zS A1 64))<4)<| chk (0≤(v64 (zX A1 64)))<| some (w64 (zX (ZbF .u64 (zF A0_0 (zD (w64 (zS A1 64))) 0) (v64 (zX A1 64))) 2))
theorem Zdo.snd {A0_0:List Int} {A1:Int} {r:Int} (h:Zdo N A0_0 A1=some r):ZdP zB 116 [.agg [zI .u64 4 A0_0],oI A1] (Zdo.rs r):=fun st=>
 sO Zdo.B Tryz.func116 fun g0 w0 R hE=>by
  unfold Zdo at h;refine Zbc h (fun c1 h1=>?_) (fun c1 h2=>?_)
  ·exact xS fol h1 hE [rZ,.r [(3,wF),(4,wF)],cT,rZ] (aK c1 c1 c1 eT)
  refine Zbc h2 (fun c2 h3=>?_) (fun c2 h4=>?_)
  ·exact xS fol h3 hE [rZ,.r [(5,yF)],cT,rZ] (aK c1 c1 c1 c2)
  obtain ⟨c3,c4,c5,h5⟩:=ck3 h4;exact xS fol h5 hE [rZ,.r [(5,yF)],cF,rZ] (aO c1 c1 c1 c2 (neI 64) c3 c4 (aJ (neI 64) c5 (neI 2)))
def ZbI.B:Code:=Tryz.f93.body.getD .skip
def ZbI.rs (r:Bool):List CV:=[oB r]
def ZbI.p1 (N:Nat) (A0_0 A1_0:List Int) (c1_:Int→Option Bool):Int→Option Bool:=fun A1=> if (decide (A1≥0))=true then Zbm (Zdo N A0_0 A1) fun x2=> Zbm (Zdo N A1_0 A1) fun x3=> if (x2 != x3)=true then some (decide (x2<x3)) else c1_ (w64 (A1-1)) else some false
def ZbI (N:Nat) (A0_0 A1_0:List Int):Option Bool:= loopN (ZbI.p1 N A0_0 A1_0) N 255
def ZbI.p1.S (A1:Int) (A0_0 A1_0:List Int) (st:LL):S:=mkS 24 [(2,sA 2),(3,sA 3),(5,sI A1)] [(2,.cells [zI .u64 4 A0_0]),(3,.cells [zI .u64 4 A1_0])] st
theorem ZbI.p1_ok {A1 A0_0 A1_0 st r c1_ J1} (h:ZbI.p1 N A0_0 A1_0 c1_ A1=some r) (hE:En Tryz.f93 g0 w0 (ZbI.rs r) st R) (hc1 : ∀A1,c1_ A1=some r→At g0 w0 (ZbI.p1.S A1 A0_0 A1_0 st) J1):At g0 w0 (ZbI.p1.S A1 A0_0 A1_0 st) (XK zB R (cK ZbI.B [1,0,1,0,0] :: .h J1 :: [.b 0,cK ZbI.B [1,1]])):=by
 unfold ZbI.p1 at h;refine Zbc h (fun c1 h1=>?_) (fun c1 h2=>?_)
 ·obtain ⟨x2,c2,h3⟩:=Zac h1;obtain ⟨x3,c3,h4⟩:=Zac h3;let o1:List PS:=[rZ,cT,.d {ds:=[(2,q1 [oI x2]),(5,q1 [oI x3])],hv:=0,Hs:=[]}]
  have t1 {Q:Prop} (q:Q):=aK c1 (Zdo.snd c2) (Zdo.snd c3) q;refine Zbc h4 (fun c4 h5=>?_) (fun c4 h6=>?_)
  ·exact xSd fol h5 hE (o1++[cT,.d {ds:=[(2,q1 [oI x2]),(5,q1 [oI x3])],hv:=0,Hs:=[]}]) (t1 (aJ c4 (Zdo.snd c2) (Zdo.snd c3)))
  exact ZjR fol (o1++[cF,rZ]) [2,3,5] [2,3] (t1 c4) (hc1 (w64 (A1-1)) h6)
 exact xS fol h2 hE [rZ,cF,rZ] c1
theorem ZbI.snd {A0_0 A1_0:List Int} {r:Bool} (h:ZbI N A0_0 A1_0=some r):ZdP zB 93 [.agg [zI .u64 4 A0_0],.agg [zI .u64 4 A1_0]] (ZbI.rs r):=fun st=>
 sO ZbI.B Tryz.func93 fun g0 w0 R hE=>by
  unfold ZbI at h;exact aq fol [rZ,rZ] [2,3,5] [2,3] trivial (At.loop N (At.loopN (fun y:Int=>ZbI.p1.S y A0_0 A1_0 st) (fun c J hc y h=>ZbI.p1_ok h hE (fun A1=>hc A1)) N 255 h))
def Zdc.B:Code:=Tryz.f75.body.getD .skip
def Zdc.rs (r:(List Int)×Bool):List CV:=[.agg [zI .u64 4 r.1],oB r.2]
def Zdc (N:Nat) (A0 A1:Int):Option ((List Int)×Bool):= Zbm (ZaV N A0) fun (x1,x2,x3)=> Zbm (ZaV N A1) fun (x4,x5,x6)=> if x2=true then some (zC 4 0,false) else if x3=true then some (zC 4 0,false) else if x5=true then some (zC 4 0,false) else if x6=true then some (zC 4 0,false) else if (x1==(zC 4 0))=true then some (zC 4 0,false) else Zbm (ZbI N x4 x1) fun x7=> if x7=true then some (zC 4 0,false) else some (x1,true)
theorem Zdc.snd {A0 A1:Int} {r:(List Int)×Bool} (h:Zdc N A0 A1=some r):ZdP zB 75 [oI A0,oI A1] (Zdc.rs r):=fun st=>
 sO Zdc.B Tryz.func75 fun g0 w0 R hE=>by
  unfold Zdc at h;obtain ⟨⟨x1,x2,x3⟩,c1,h1⟩:=Zac h;obtain ⟨⟨x4,x5,x6⟩,c2,h2⟩:=Zac h1;let o1:List PS:=[rZ,.r [(1,q1 [.agg [zI .u64 4 x1],oB x2,oB x3])],.r [(1,q1 [.agg [zI .u64 4 x4],oB x5,oB x6])]]
  have t1 {Q:Prop} (q:Q):=aJ (ZaV.snd c1) (ZaV.snd c2) q;refine Zbc h2 (fun c3 h3=>?_) (fun c3 h4=>?_)
  ·exact xS fol h3 hE (o1++[.r [(2,wF),(5,wF),(8,wF),(11,wF),(12,wF),(13,wF),(16,wF),(17,wF),(18,wF)],cT,rZ]) (t1 (aO c3 c3 eT eT eT eT eT (aO eT eT eT eT eT eT eT eT)))
  refine Zbc h4 (fun c4 h5=>?_) (fun c4 h6=>?_)
  ·exact xS fol h5 hE (o1++[.r [(3,yF),(5,wF),(8,wF),(11,wF),(12,wF),(13,wF),(16,wF),(17,wF),(18,wF)],cT,rZ]) (t1 (aO c3 c3 c4 c4 eT eT eT (aO eT eT eT eT eT eT eT eT)))
  have t2 {Q:Prop} (q:Q):=t1 (aL c3 c3 c4 c4 q);refine Zbc h6 (fun c5 h7=>?_) (fun c5 h8=>?_)
  ·exact xS fol h7 hE (o1++[.r [(3,yF),(6,yF),(8,wF),(11,wF),(12,wF),(13,wF),(16,wF),(17,wF),(18,wF)],cT,rZ]) (t2 (aO c5 c5 eT eT eT eT eT (aK eT eT eT eT)))
  refine Zbc h8 (fun c6 h9=>?_) (fun c6 h10=>?_)
  ·exact xS fol h9 hE (o1++[.r [(3,yF),(6,yF),(9,yF),(11,wF),(12,wF),(13,wF),(16,wF),(17,wF),(18,wF)],cT,rZ]) (t2 (aO c5 c5 c6 c6 c6 c6 eT (aK eT eT eT eT)))
  have t3 {Q:Prop} (q:Q):=t2 (aN c5 c5 c6 c6 c6 c6 q);refine Zbc h10 (fun c7 h11=>?_) (fun c7 h12=>?_)
  ·exact xS fol h11 hE (o1++[.r [(3,yF),(6,yF),(9,yF),(14,yF),(16,wF),(17,wF),(18,wF)],cT,rZ]) (t3 (aL c7 c7 c7 c7 eT))
  obtain ⟨x7,c8,h13⟩:=Zac h12;let o2:List PS:=o1++[.r [(3,yF),(6,yF),(9,yF),(14,yF),(18,q1 [oB x7]),(19,yF)]]
  refine Zbc h13 (fun c9 h14=>?_) (fun c9 h15=>?_)
  ·exact xS fol h14 hE (o2++[cT,rZ]) (t3 (aM c7 c7 c7 (ZbI.snd c8) c7 c9))
  exact xS fol h15 hE (o2++[cF,rZ]) (t3 (aM c7 c7 c7 (ZbI.snd c8) c7 c9))
def ZdY.B:Code:=Tryz.f52.body.getD .skip
def ZdY.rs (r:Bool):List CV:=[oB r]
def ZdY (N:Nat) (A0:Zae):Option Bool:= Zbm (Zdc N A0.Limit A0.Limit) fun (x1,x2)=> if x2=true then if (decide (A0.Interval≥2))=true then if (decide (A0.Interval≤64))=true then if (decide (A0.Spacing≥1))=true then if (decide (A0.Spacing≤10000))=true then if (decide (A0.Future≥0))=true then some (decide (A0.Future<4294967296)) else some false else some false else some false else some false else some false else some false
theorem ZdY.snd {A0:Zae} {r:Bool} (h:ZdY N A0=some r):ZdP zB 52 [.agg A0.ls] (ZdY.rs r):=fun st=>
 sO ZdY.B Tryz.func52 fun g0 w0 R hE=>by
  unfold ZdY at h;obtain ⟨⟨x1,x2⟩,c1,h1⟩:=Zac h;let o1:List PS:=[rZ,.r [(4,q1 [.agg [zI .u64 4 x1],oB x2])]]
  have t1 {Q:Prop} (q:Q):=aI (Zdc.snd c1) q;refine Zbc h1 (fun c2 h2=>?_) (fun c2 h3=>?_)
  ·have t2 {Q:Prop} (q:Q):=t1 (aL c2 c2 c2 c2 q);refine Zbc h2 (fun c3 h4=>?_) (fun c3 h5=>?_)
   ·have t3 {Q:Prop} (q:Q):=t2 (aL c3 c3 c3 c3 q);refine Zbc h4 (fun c4 h6=>?_) (fun c4 h7=>?_)
    ·have t4 {Q:Prop} (q:Q):=t3 (aL c4 c4 c4 c4 q);refine Zbc h6 (fun c5 h8=>?_) (fun c5 h9=>?_)
     ·refine Zbc h8 (fun c6 h10=>?_) (fun c6 h11=>?_)
      ·refine Zbc h10 (fun c7 h12=>?_) (fun c7 h13=>?_)
       ·exact xS fol h12 hE (o1++[rZ]) (t4 (aO c5 c5 c5 c5 c6 c6 c6 (aL c6 c7 c7 c7 c7)))
       exact xS fol h13 hE (o1++[.r [(27,wF),(28,wF),(29,wF),(30,yF)]]) (t4 (aO c5 c5 c5 c5 c6 c6 c6 (aL c6 c7 c7 c7 c7)))
      exact xS fol h11 hE (o1++[.r [(22,wF),(23,wF),(24,wF),(25,yF),(27,wF),(28,wF),(29,wF),(30,yF)]]) (t4 (aO c5 c5 c5 c5 c6 c6 c6 (aL c6 eF eF eF eF)))
     exact xS fol h9 hE (o1++[.r [(17,wF),(18,wF),(19,wF),(20,yF),(22,wF),(23,wF),(24,wF),(25,yF),(27,wF),(28,wF),(29,wF),(30,yF)]]) (t4 (aO c5 c5 c5 c5 eF eF eF (aL eF eF eF eF eF)))
    exact xS fol h7 hE (o1++[.r [(12,wF),(13,wF),(14,wF),(15,yF),(17,wF),(18,wF),(19,wF),(20,yF),(22,wF),(23,wF),(24,wF),(25,yF),(27,wF),(28,wF),(29,wF),(30,yF)]]) (t3 (aO c4 c4 c4 c4 eF eF eF (aO eF eF eF eF eF eF eF (aI eF eF))))
   exact xS fol h5 hE (o1++[.r [(7,wF),(8,wF),(9,wF),(10,yF),(12,wF),(13,wF),(14,wF),(15,yF),(17,wF),(18,wF),(19,wF),(20,yF),(22,wF),(23,wF),(24,wF),(25,yF),(27,wF),(28,wF),(29,wF),(30,yF)]]) (t2 (aO c3 c3 c3 c3 eF eF eF (aO eF eF eF eF eF eF eF (aM eF eF eF eF eF eF))))
  exact xS fol h3 hE (o1++[.r [(2,wF),(3,wF),(4,wF),(5,yF),(7,wF),(8,wF),(9,wF),(10,yF),(12,wF),(13,wF),(14,wF),(15,yF),(17,wF),(18,wF),(19,wF),(20,yF),(22,wF),(23,wF),(24,wF),(25,yF),(27,wF),(28,wF),(29,wF),(30,yF)]]) (t1 (aO c2 c2 c2 c2 eF eF eF (aO eF eF eF eF eF eF eF (aO eF eF eF eF eF eF eF (aJ eF eF eF)))))
def Zdu.B:Code:=Tryz.f53.body.getD .skip
def Zdu.rs (r:Bool):List CV:=[oB r]
def Zdu (N:Nat) (h_0:Zak):Option Bool:= if (decide (h_0.Version≥(-2147483648)))=true then if (decide (h_0.Version≤2147483647))=true then if (decide (h_0.Time≥0))=true then if (decide (h_0.Time<4294967296))=true then if (decide (h_0.Bits≥0))=true then if (decide (h_0.Bits<4294967296))=true then if (decide (h_0.Nonce≥0))=true then some (decide (h_0.Nonce<4294967296)) else some false else some false else some false else some false else some false else some false else some false
theorem Zdu.snd {h_0:Zak} {r:Bool} (h:Zdu N h_0=some r):ZdP zB 53 [.agg h_0.ls] (Zdu.rs r):=fun st=>
 sO Zdu.B Tryz.func53 fun g0 w0 R hE=>by
  unfold Zdu at h;let o1:List PS:=[rZ,rZ]
  refine Zbc h (fun c1 h1=>?_) (fun c1 h2=>?_)
  ·have t1 {Q:Prop} (q:Q):=aL c1 c1 c1 c1 q;refine Zbc h1 (fun c2 h3=>?_) (fun c2 h4=>?_)
   ·have t2 {Q:Prop} (q:Q):=t1 (aL c2 c2 c2 c2 q);refine Zbc h3 (fun c3 h5=>?_) (fun c3 h6=>?_)
    ·have t3 {Q:Prop} (q:Q):=t2 (aM c3 c3 c3 c3 c3 q);refine Zbc h5 (fun c4 h7=>?_) (fun c4 h8=>?_)
     ·have t4 {Q:Prop} (q:Q):=t3 (aL c4 c4 c4 c4 q);refine Zbc h7 (fun c5 h9=>?_) (fun c5 h10=>?_)
      ·refine Zbc h9 (fun c6 h11=>?_) (fun c6 h12=>?_)
       ·refine Zbc h11 (fun c7 h13=>?_) (fun c7 h14=>?_)
        ·exact xS fol h13 hE (o1++[rZ]) (t4 (aO c5 c5 c5 c5 c5 c6 c6 (aN c6 c6 c7 c7 c7 c7 c7)))
        exact xS fol h14 hE (o1++[.r [(36,wF),(37,wF),(38,wF),(39,wF),(40,yF)]]) (t4 (aO c5 c5 c5 c5 c5 c6 c6 (aN c6 c6 c7 c7 c7 c7 c7)))
       exact xS fol h12 hE (o1++[.r [(31,wF),(32,wF),(33,wF),(34,yF),(36,wF),(37,wF),(38,wF),(39,wF),(40,yF)]]) (t4 (aO c5 c5 c5 c5 c5 c6 c6 (aN c6 c6 eF eF eF eF eF)))
      exact xS fol h10 hE (o1++[.r [(25,wF),(26,wF),(27,wF),(28,wF),(29,yF),(31,wF),(32,wF),(33,wF),(34,yF),(36,wF),(37,wF),(38,wF),(39,wF),(40,yF)]]) (t4 (aO c5 c5 c5 c5 c5 eF eF (aN eF eF eF eF eF eF eF)))
     exact xS fol h8 hE (o1++[.r [(20,wF),(21,wF),(22,wF),(23,yF),(25,wF),(26,wF),(27,wF),(28,wF),(29,yF),(31,wF),(32,wF),(33,wF),(34,yF),(36,wF),(37,wF),(38,wF),(39,wF),(40,yF)]]) (t3 (aO c4 c4 c4 c4 eF eF eF (aO eF eF eF eF eF eF eF (aK eF eF eF eF))))
    exact xS fol h6 hE (o1++[.r [(14,wF),(15,wF),(16,wF),(17,wF),(18,yF),(20,wF),(21,wF),(22,wF),(23,yF),(25,wF),(26,wF),(27,wF),(28,wF),(29,yF),(31,wF),(32,wF),(33,wF),(34,yF),(36,wF),(37,wF),(38,wF),(39,wF),(40,yF)]]) (t2 (aO c3 c3 c3 c3 c3 eF eF (aO eF eF eF eF eF eF eF (aO eF eF eF eF eF eF eF (aI eF eF)))))
   exact xS fol h4 hE (o1++[.r [(9,wF),(10,wF),(11,wF),(12,yF),(14,wF),(15,wF),(16,wF),(17,wF),(18,yF),(20,wF),(21,wF),(22,wF),(23,yF),(25,wF),(26,wF),(27,wF),(28,wF),(29,yF),(31,wF),(32,wF),(33,wF),(34,yF),(36,wF),(37,wF),(38,wF),(39,wF),(40,yF)]]) (t1 (aO c2 c2 c2 c2 eF eF eF (aO eF eF eF eF eF eF eF (aO eF eF eF eF eF eF eF (aM eF eF eF eF eF eF)))))
  exact xS fol h2 hE (o1++[.r [(4,wF),(5,wF),(6,wF),(7,yF),(9,wF),(10,wF),(11,wF),(12,yF),(14,wF),(15,wF),(16,wF),(17,wF),(18,yF),(20,wF),(21,wF),(22,wF),(23,yF),(25,wF),(26,wF),(27,wF),(28,wF),(29,yF),(31,wF),(32,wF),(33,wF),(34,yF),(36,wF),(37,wF),(38,wF),(39,wF),(40,yF)]]) (aO c1 c1 c1 c1 eF eF eF (aO eF eF eF eF eF eF eF (aO eF eF eF eF eF eF eF (aO eF eF eF eF eF eF eF (aJ eF eF eF)))))
def ZbB.B:Code:=Tryz.f29.body.getD .skip
def ZbB.rs (r:Bool):List CV:=[oB r]
def ZbB.p2 (N:Nat) (A0:Zae) (c2_:(Int×Int)→Option Bool):(Int×Int)→Option Bool:=fun (A6,v7)=> if (decide (v7<(len A0.Checks)))=true then chk (0≤v7)<| Zde (A0.Checks[zD v7]?) ZeK fun x8=> if (decide (x8.Height≤A6))=true then some false else c2_ (x8.Height,w64 (v7+1)) else some true
def ZbB.p1 (N:Nat) (A0:Zae) (c1_:(Int×Int)→Option Bool):(Int×Int)→Option Bool:=fun (A3,v4)=> if (decide (v4<(len A0.Gates)))=true then chk (0≤v4)<| Zde (A0.Gates[zD v4]?) ZeY fun x5=> if (decide (x5.Height≤A3))=true then some false else c1_ (x5.Height,w64 (v4+1)) else loopN (ZbB.p2 N A0) N (0,0)
def ZbB (N:Nat) (A0:Zae):Option Bool:= Zbm (ZdY N A0) fun x1=> if (!x1)=true then some false else Zbm (Zdu N A0.Genesis) fun x2=> if (!x2)=true then some false else loopN (ZbB.p1 N A0) N ((-1),0)
def ZbB.p2.S (A6:Int) (A0:Zae) (v7:Int) (st:LL):S:=mkS 45 [(3,sI A6),(32,sV 33 A0.Checks),(33,sI (len A0.Checks)),(34,sI v7)] [] st
def ZbB.p1.S (A3:Int) (A0:Zae) (v4:Int) (st:LL):S:=mkS 45 [(1,sA 1),(3,sI A3),(18,sV 2 A0.Gates),(19,sI (len A0.Gates)),(20,sI v4)] [(1,.cells A0.ls)] st
theorem ZbB.p2_ok {A6 A0 v7 st r c2_ J2} (h:ZbB.p2 N A0 c2_ (A6,v7)=some r) (hE:En Tryz.f29 g0 w0 (ZbB.rs r) st R) (hc2 : ∀A6 v7,c2_ (A6,v7)=some r→At g0 w0 (ZbB.p2.S A6 A0 v7 st) J2):At g0 w0 (ZbB.p2.S A6 A0 v7 st) (XK zB R (cK ZbB.B [1,1,1,1,1,0,1,0,0] :: .h J2 :: [.b 2,cK ZbB.B [1,1,1,1,1,1]])):=by
 unfold ZbB.p2 at h;refine Zbc h (fun c9 h1=>?_) (fun c9 h2=>?_)
 ·obtain ⟨c10,h3⟩:=Zbe h1;obtain ⟨x8,c11,h4⟩:=ZeV h3;let o1:List PS:=[rZ,cT,.r [(1,{oe:=x8.ls})],rZ]
  refine Zbc h4 (fun c12 h5=>?_) (fun c12 h6=>?_)
  ·exact xS fol h5 hE (o1++[cT,rZ]) (aL c9 c10 (oD c9) c11 c12)
  exact an fol (o1++[cF,rZ,rZ]) [3,32,33,34] [] (aL c9 c10 (oD c9) c11 c12) (hc2 x8.Height (w64 (v7+1)) h6)
 exact xS fol h2 hE [rZ,cF,rZ] c9
theorem ZbB.p1_ok {A3 A0 v4 st r c1_ J1} (h:ZbB.p1 N A0 c1_ (A3,v4)=some r) (hE:En Tryz.f29 g0 w0 (ZbB.rs r) st R) (hc1 : ∀A3 v4,c1_ (A3,v4)=some r→At g0 w0 (ZbB.p1.S A3 A0 v4 st) J1):At g0 w0 (ZbB.p1.S A3 A0 v4 st) (XK zB R (cK ZbB.B [1,1,1,0,1,0,0] :: .h J1 :: [.b 0,cK ZbB.B [1,1,1,1]])):=by
 unfold ZbB.p1 at h;refine Zbc h (fun c5 h7=>?_) (fun c5 h8=>?_)
 ·obtain ⟨c6,h9⟩:=Zbe h7;obtain ⟨x5,c7,h10⟩:=Zfd h9;let o2:List PS:=[rZ,cT,.r [(1,{oe:=x5.ls})],rZ]
  refine Zbc h10 (fun c8 h11=>?_) (fun c8 h12=>?_)
  ·exact xS fol h11 hE (o2++[cT,rZ]) (aL c5 c6 (oD c5) c7 c8)
  exact an fol (o2++[cF,rZ,rZ]) [1,3,18,19,20] [1] (aL c5 c6 (oD c5) c7 c8) (hc1 x5.Height (w64 (v4+1)) h12)
 exact aq fol [rZ,cF,rZ,rZ] [3,32,33,34] [] c5 (At.loop N (At.loopN (fun y:Int×Int=>ZbB.p2.S y.1 A0 y.2 st) (fun c J hc y h=>ZbB.p2_ok (A6:=y.1) (v7:=y.2) h hE (fun A6 v7=>hc (A6,v7))) N (0,0) h8))
theorem ZbB.snd {A0:Zae} {r:Bool} (h:ZbB N A0=some r):ZdP zB 29 [.agg A0.ls] (ZbB.rs r):=fun st=>
 sO ZbB.B Tryz.func29 fun g0 w0 R hE=>by
  unfold ZbB at h;obtain ⟨x1,c1,h13⟩:=Zac h;have t1 {Q:Prop} (q:Q):=aI (ZdY.snd c1) q;refine Zbc h13 (fun c2 h14=>?_) (fun c2 h15=>?_)
  ·exact xS fol h14 hE [rZ,.r [(1,q1 [oB x1]),(4,wF),(5,wF),(6,wF),(7,wF)],cT,rZ] (t1 (aM (not_false (Zbt c2)) (not_false (Zbt c2)) (not_false (Zbt c2)) (not_false (Zbt c2)) (not_false (Zbt c2)) eT))
  obtain ⟨x2,c3,h16⟩:=Zac h15;let o3:List PS:=[rZ,.r [(1,q1 [oB x1]),(6,q1 [oB x2]),(8,yF)]]
  have t2 {Q:Prop} (q:Q):=t1 (aN (not_true (Zbu c2)) (not_true (Zbu c2)) (not_true (Zbu c2)) (Zdu.snd c3) (not_true (Zbu c2)) (not_true (Zbu c2)) q);refine Zbc h16 (fun c4 h17=>?_) (fun c4 h18=>?_)
  ·exact xS fol h17 hE (o3++[cT,rZ]) (t2 c4)
  exact aq fol (o3++[cF,rZ,rZ]) [1,3,18,19,20] [1] (t2 c4) (At.loop N (At.loopN (fun y:Int×Int=>ZbB.p1.S y.1 A0 y.2 st) (fun c J hc y h=>ZbB.p1_ok (A3:=y.1) (v4:=y.2) h hE (fun A3 v4=>hc (A3,v4))) N ((-1),0) h18))
def Zcq.B:Code:=Tryz.f10.body.getD .skip
def Zcq.rs (r:Bool):List CV:=[oB r]
def Zcq.p1 (N:Nat) (A1:LL) (A0:Zae) (c1_:Int→Option Bool):Int→Option Bool:=fun v1=> if (decide (v1<(len A1)))=true then chk (0≤v1)<| Zde (A1[zD v1]?) ZdQ fun x2=> if (decide (x2.Now<0))=true then some true else c1_ (w64 (v1+1)) else if (decide ((len A0.Gates)>20))=true then some true else if (decide ((len A0.Checks)>20))=true then some true else if (decide ((len A1)>40))=true then some true else Zbm (ZbB N A0) fun x3=> some (!x3)
def Zcq (N:Nat) (A0:Zae) (A1:LL):Option Bool:= loopN (Zcq.p1 N A1 A0) N 0
def Zcq.p1.S (A1:LL) (v1:Int) (A0:Zae) (st:LL):S:=mkS 37 [(1,sV 72 A1),(2,sA 2),(7,sV 72 A1),(8,sI (len A1)),(9,sI v1)] [(2,.cells A0.ls)] st
theorem Zcq.p1_ok {A1 v1 A0 st r c1_ J1} (h:Zcq.p1 N A1 A0 c1_ v1=some r) (hE:En Tryz.f10 g0 w0 (Zcq.rs r) st R) (hc1 : ∀v1,c1_ v1=some r→At g0 w0 (Zcq.p1.S A1 v1 A0 st) J1):At g0 w0 (Zcq.p1.S A1 v1 A0 st) (XK zB R (cK Zcq.B [1,0,1,0,0] :: .h J1 :: [.b 0,cK Zcq.B [1,1]])):=by
 unfold Zcq.p1 at h;refine Zbc h (fun c1 h1=>?_) (fun c1 h2=>?_)
 ·obtain ⟨c2,h3⟩:=Zbe h1;obtain ⟨x2,c3,h4⟩:=ZfF h3;let o1:List PS:=[rZ,cT,.r [(1,{oe:=x2.ls})],rZ]
  refine Zbc h4 (fun c4 h5=>?_) (fun c4 h6=>?_)
  ·exact xS fol h5 hE (o1++[cT,rZ]) (aL c1 c2 (oD c1) c3 c4)
  exact an fol (o1++[cF,rZ]) [1,2,7,8,9] [2] (aL c1 c2 (oD c1) c3 c4) (hc1 (w64 (v1+1)) h6)
 let o2:List PS:=[rZ,cF]
 refine Zbc h2 (fun c5 h7=>?_) (fun c5 h8=>?_)
 ·exact xS fol h7 hE (o2++[.r [(5,wF),(6,wF),(7,wF),(8,wF),(11,wF),(12,wF),(13,wF),(16,wF),(17,wF),(18,wF)]]) (aO c1 c5 c5 c5 c5 c5 eT (aN eT eT eT eT eT eT eT))
 have t1 {Q:Prop} (q:Q):=aN c1 c5 c5 c5 c5 c5 q;refine Zbc h8 (fun c6 h9=>?_) (fun c6 h10=>?_)
 ·exact xS fol h9 hE (o2++[.r [(9,yF),(11,wF),(12,wF),(13,wF),(16,wF),(17,wF),(18,wF)]]) (t1 (aO c6 c6 c6 c6 eT eT eT eT))
 refine Zbc h10 (fun c7 h11=>?_) (fun c7 h12=>?_)
 ·exact xS fol h11 hE (o2++[.r [(9,yF),(14,yF),(16,wF),(17,wF),(18,wF)]]) (t1 (aO c6 c6 c6 c6 c7 c7 c7 c7))
 obtain ⟨x3,c8,h13⟩:=Zac h12;exact xS fol h13 hE (o2++[.r [(9,yF),(14,yF),(17,q1 [oB x3]),(19,yF)]]) (t1 (aO c6 c6 c6 c6 c7 c7 (ZbB.snd c8) (aI c7 c7)))
theorem Zcq.snd {A0:Zae} {A1:LL} {r:Bool} (h:Zcq N A0 A1=some r):ZdP zB 10 [.agg A0.ls,.one (vW 72 A1)] (Zcq.rs r):=fun st=>
 sO Zcq.B Tryz.func10 fun g0 w0 R hE=>by
  unfold Zcq at h;exact aq fol [rZ,rZ] [1,2,7,8,9] [2] trivial (At.loop N (At.loopN (fun y:Int=>Zcq.p1.S A1 y A0 st) (fun c J hc y h=>Zcq.p1_ok h hE (fun v1=>hc v1)) N 0 h))
def ZbH.B:Code:=Tryz.f98.body.getD .skip
def ZbH.rs (r:ByteArray):List CV:=[.one (vL r)]
def ZbH.p1 (N:Nat) (A0:Int) (c1_:(Int×ByteArray×Int)→Option ByteArray):(Int×ByteArray×Int)→Option ByteArray:=fun (A1,A3,A2)=> if (decide (A2<(if (8:Int)<(if (1:Int)>A0 then 1 else A0) then 8 else (if (1:Int)>A0 then 1 else A0))))=true then chk (isB [[zK .u8 (v8 (zX A1 256))]]=true)<| chk (zZ A3+zZ (ZkR (vI ZfU [[zK .u8 (v8 (zX A1 256))]]))≤9223372036854775807)<| c1_ (v64 (zS A1 256),A3++(ZkR (vI ZfU [[zK .u8 (v8 (zX A1 256))]])),w64 (A2+1)) else some A3
def ZbH (N:Nat) (A0 F1:Int):Option ByteArray:= loopN (ZbH.p1 N A0) N (v64 (F1),(wG #[]),0)
def ZbH.p1.S (A0 A1:Int) (A3:ByteArray) (A2:Int) (st:LL):S:=mkS 27 [(0,sI A0),(5,.one (.l (zK .u64 A1))),(6,.one (.l (vL A3))),(7,sI A2)] [] st
theorem ZbH.p1_ok {A0 A1 A3 A2 st r c1_ J1} (h:ZbH.p1 N A0 c1_ (A1,A3,A2)=some r) (hE:En Tryz.f98 g0 w0 (ZbH.rs r) st R) (hc1 : ∀A1 A3 A2,c1_ (A1,A3,A2)=some r→At g0 w0 (ZbH.p1.S A0 A1 A3 A2 st) J1):At g0 w0 (ZbH.p1.S A0 A1 A3 A2 st) (XK zB R (cK ZbH.B [1,1,1,0,1,0,0] :: .h J1 :: [.b 0,cK ZbH.B [1,1,1,1]])):=by
 unfold ZbH.p1 at h;refine Zbc h (fun c4 h1=>?_) (fun c4 h2=>?_)
 ·obtain ⟨c5,c6,h3⟩:=ck2 h1;exact an fol [rZ,cT,rZ,rZ,rZ] [0,5,6,7] [] (aN c4 (neI 256) z0 (eN (1)) c5 c6 (neI 256)) (hc1 (v64 (zS A1 256)) (A3++(ZkR (vI ZfU [[zK .u8 (v8 (zX A1 256))]]))) (w64 (A2+1)) h3)
 exact xS fol h2 hE [rZ,cF,rZ] c4
theorem ZbH.snd {A0 F1:Int} {r:ByteArray} (h:ZbH N A0 F1=some r):ZdP zB 98 [oI A0,oI F1] (ZbH.rs r):=fun st=>
 sO ZbH.B Tryz.func98 fun g0 w0 R hE=>by
  unfold ZbH at h;exact aq fol [rZ,rZ,rZ,rZ] [0,5,6,7] [] trivial (At.loop N (At.loopN (fun y:Int×ByteArray×Int=>ZbH.p1.S A0 y.1 y.2.1 y.2.2 st) (fun c J hc y h=>ZbH.p1_ok (A1:=y.1) (A3:=y.2.1) (A2:=y.2.2) h hE (fun A1 A3 A2=>hc (A1,A3,A2))) N (v64 (F1),(wG #[]),0) h))
def ZcG.B:Code:=Tryz.f99.body.getD .skip
def ZcG.rs (r:ByteArray):List CV:=[.one (vL r)]
def ZcG.p1 (N:Nat) (A0_0:List Int) (c1_:(ByteArray×Int)→Option ByteArray):(ByteArray×Int)→Option ByteArray:=fun (A2,A1)=> if (decide (A1<32))=true then chk (0≤A1)<| chk (isB [[zK .u8 (zF A0_0 (zD A1) 0)]]=true)<| chk (zZ A2+zZ (ZkR (vI ZfU [[zK .u8 (zF A0_0 (zD A1) 0)]]))≤9223372036854775807)<| c1_ (A2++(ZkR (vI ZfU [[zK .u8 (zF A0_0 (zD A1) 0)]])),w64 (A1+1)) else some A2
def ZcG (N:Nat) (A0_0:List Int):Option ByteArray:= loopN (ZcG.p1 N A0_0) N ((wG #[]),0)
def ZcG.p1.S (A2:ByteArray) (A1:Int) (A0_0:List Int) (st:LL):S:=mkS 17 [(1,sA 1),(3,.one (.l (vL A2))),(4,sI A1)] [(1,.cells [zI .u8 32 A0_0])] st
theorem ZcG.p1_ok {A2 A1 A0_0 st r c1_ J1} (h:ZcG.p1 N A0_0 c1_ (A2,A1)=some r) (hE:En Tryz.f99 g0 w0 (ZcG.rs r) st R) (hc1 : ∀A2 A1,c1_ (A2,A1)=some r→At g0 w0 (ZcG.p1.S A2 A1 A0_0 st) J1):At g0 w0 (ZcG.p1.S A2 A1 A0_0 st) (XK zB R (cK ZcG.B [1,1,0,1,0,0] :: .h J1 :: [.b 0,cK ZcG.B [1,1,1]])):=by
 unfold ZcG.p1 at h;refine Zbc h (fun c5 h1=>?_) (fun c5 h2=>?_)
 ·obtain ⟨c6,c7,c8,h3⟩:=ck3 h1;exact an fol [rZ,cT,rZ,rZ] [1,3,4] [1] (aN c5 c6 (oD c5) z0 (eN (1)) c7 c8) (hc1 (A2++(ZkR (vI ZfU [[zK .u8 (zF A0_0 (zD A1) 0)]]))) (w64 (A1+1)) h3)
 exact xS fol h2 hE [rZ,cF,rZ] c5
theorem ZcG.snd {A0_0:List Int} {r:ByteArray} (h:ZcG N A0_0=some r):ZdP zB 99 [.agg [zI .u8 32 A0_0]] (ZcG.rs r):=fun st=>
 sO ZcG.B Tryz.func99 fun g0 w0 R hE=>by
  unfold ZcG at h;exact aq fol [rZ,rZ,rZ] [1,3,4] [1] trivial (At.loop N (At.loopN (fun y:ByteArray×Int=>ZcG.p1.S y.1 y.2 A0_0 st) (fun c J hc y h=>ZcG.p1_ok (A2:=y.1) (A1:=y.2) h hE (fun A2 A1=>hc (A2,A1))) N ((wG #[]),0) h))
def Zec.B:Code:=Tryz.f77.body.getD .skip
def Zec.rs (r:ByteArray):List CV:=[.one (vL r)]
def Zec (N:Nat) (h_0:Zak):Option ByteArray:= Zbm (ZbH N 4 h_0.Version) fun x1=> Zbm (ZcG N h_0.Prev) fun x2=> chk (zZ x1+zZ x2≤9223372036854775807)<| Zbm (ZcG N h_0.Root) fun x3=> chk (zZ (x1++x2)+zZ x3≤9223372036854775807)<| Zbm (ZbH N 4 h_0.Time) fun x4=> chk (zZ ((x1++x2)++x3)+zZ x4≤9223372036854775807)<| Zbm (ZbH N 4 h_0.Bits) fun x5=> chk (zZ (((x1++x2)++x3)++x4)+zZ x5≤9223372036854775807)<| Zbm (ZbH N 4 h_0.Nonce) fun x6=> chk (zZ ((((x1++x2)++x3)++x4)++x5)+zZ x6≤9223372036854775807)<| some (((((x1++x2)++x3)++x4)++x5)++x6)
theorem Zec.snd {h_0:Zak} {r:ByteArray} (h:Zec N h_0=some r):ZdP zB 77 [.agg h_0.ls] (Zec.rs r):=fun st=>
 sO Zec.B Tryz.func77 fun g0 w0 R hE=>by
  unfold Zec at h;obtain ⟨x1,c1,h1⟩:=Zac h;obtain ⟨x2,c2,h2⟩:=Zac h1;obtain ⟨c3,h3⟩:=Zbe h2;obtain ⟨x3,c4,h4⟩:=Zac h3;obtain ⟨c5,h5⟩:=Zbe h4;obtain ⟨x4,c6,h6⟩:=Zac h5;obtain ⟨c7,h7⟩:=Zbe h6;obtain ⟨x5,c8,h8⟩:=Zac h7;obtain ⟨c9,h9⟩:=Zbe h8;obtain ⟨x6,c10,h10⟩:=Zac h9;obtain ⟨c11,h11⟩:=Zbe h10;exact xSd fol h11 hE [rZ,.d {ds:=[(2,q1 [.one (vL x1)]),(5,q1 [.one (vL x2)]),(9,q1 [.one (vL x3)])],hv:=0,Hs:=[]},.d {ds:=[(3,q1 [.one (vL x4)]),(7,q1 [.one (vL x5)]),(11,q1 [.one (vL x6)])],hv:=0,Hs:=[]}] (aO (ZbH.snd c1) (ZcG.snd c2) c3 (ZcG.snd c4) c5 (ZbH.snd c6) c7 (aK (ZbH.snd c8) c9 (ZbH.snd c10) c11))
def Zbl.B:Code:=Tryz.f126.body.getD .skip
def Zbl.rs (r:ByteArray):List CV:=[.one (vL r)]
def Zbl.p2 (N:Nat) (A4:ByteArray) (c2_:(Int×ByteArray×Int)→Option ByteArray):(Int×ByteArray×Int)→Option ByteArray:=fun (A5,A7,A6)=> if (decide (A6<8))=true then chk (isB [[zK .u8 (v8 (zX A5 256))]]=true)<| chk (zZ (ZkR (vI ZfU [[zK .u8 (v8 (zX A5 256))]]))+zZ A7≤9223372036854775807)<| c2_ (w64 (zS A5 256),(ZkR (vI ZfU [[zK .u8 (v8 (zX A5 256))]]))++A7,w64 (A6+1)) else chk (zZ A4+zZ A7≤9223372036854775807)<| some (A4++A7)
def Zbl.p1 (N:Nat) (A0:ByteArray) (c1_:ByteArray→Option ByteArray):ByteArray→Option ByteArray:=fun A4=> if ((zX ((zZ A4:Nat):Int) 64) != 56)=true then chk (zZ A4+zZ (wG #[0])≤9223372036854775807)<| c1_ (A4++(wG #[0])) else loopN (Zbl.p2 N A4) N (w64 (8*((zZ A0:Nat):Int)),(wG #[]),0)
def Zbl (N:Nat) (A0:ByteArray):Option ByteArray:= chk (zZ A0+zZ (wG #[128])≤9223372036854775807)<| loopN (Zbl.p1 N A0) N (A0++(wG #[128]))
def Zbl.p2.S (A4:ByteArray) (A5:Int) (A7:ByteArray) (A6:Int) (st:LL):S:=mkS 34 [(0,.one (.l (vL A4))),(3,sI A5),(4,.one (.l (vL A7))),(5,sI A6)] [] st
def Zbl.p1.S (A4 A0:ByteArray) (st:LL):S:=mkS 34 [(0,.one (.l (vL A4))),(3,sI ((zZ A0:Nat):Int))] [] st
theorem Zbl.p2_ok {A4 A5 A7 A6 st r c2_ J2} (h:Zbl.p2 N A4 c2_ (A5,A7,A6)=some r) (hE:En Tryz.f126 g0 w0 (Zbl.rs r) st R) (hc2 : ∀A5 A7 A6,c2_ (A5,A7,A6)=some r→At g0 w0 (Zbl.p2.S A4 A5 A7 A6 st) J2):At g0 w0 (Zbl.p2.S A4 A5 A7 A6 st) (XK zB R (cK Zbl.B [1,1,1,1,1,1,0,1,0,0] :: .h J2 :: [.b 2,cK Zbl.B [1,1,1,1,1,1,1]])):=by
 unfold Zbl.p2 at h;refine Zbc h (fun c18 h1=>?_) (fun c18 h2=>?_)
 ·obtain ⟨c19,c20,h3⟩:=ck2 h1;exact an fol [rZ,cT,rZ,rZ,rZ] [0,3,4,5] [] (aN c18 (neI 256) z0 (eN (1)) c19 c20 (neI 256)) (hc2 (w64 (zS A5 256)) ((ZkR (vI ZfU [[zK .u8 (v8 (zX A5 256))]]))++A7) (w64 (A6+1)) h3)
 obtain ⟨c21,h4⟩:=Zbe h2;exact xS fol h4 hE [rZ,cF,rZ] (aI c18 c21)
theorem Zbl.p1_ok {A4 A0 st r c1_ J1} (h:Zbl.p1 N A0 c1_ A4=some r) (hE:En Tryz.f126 g0 w0 (Zbl.rs r) st R) (hc1 : ∀A4,c1_ A4=some r→At g0 w0 (Zbl.p1.S A4 A0 st) J1):At g0 w0 (Zbl.p1.S A4 A0 st) (XK zB R (cK Zbl.B [1,1,1,0,0,0] :: .h J1 :: [.b 0,cK Zbl.B [1,1,1,1]])):=by
 unfold Zbl.p1 at h;refine Zbc h (fun c12 h5=>?_) (fun c12 h6=>?_)
 ·obtain ⟨c13,h7⟩:=Zbe h5;exact an fol [rZ,cT,rZ] [0,3] [] (aJ (neI 64) c12 c13) (hc1 (A4++(wG #[0])) h7)
 exact aq fol [rZ,cF,rZ,rZ,rZ] [0,3,4,5] [] (aI (neI 64) c12) (At.loop N (At.loopN (fun y:Int×ByteArray×Int=>Zbl.p2.S A4 y.1 y.2.1 y.2.2 st) (fun c J hc y h=>Zbl.p2_ok (A5:=y.1) (A7:=y.2.1) (A6:=y.2.2) h hE (fun A5 A7 A6=>hc (A5,A7,A6))) N (w64 (8*((zZ A0:Nat):Int)),(wG #[]),0) h6))
theorem Zbl.snd {A0:ByteArray} {r:ByteArray} (h:Zbl N A0=some r):ZdP zB 126 [.one (vL A0)] (Zbl.rs r):=fun st=>
 sO Zbl.B Tryz.func126 fun g0 w0 R hE=>by
  unfold Zbl at h;obtain ⟨c1,h8⟩:=Zbe h;exact aq fol [rZ,rZ,rZ] [0,3] [] c1 (At.loop N (At.loopN (fun y:ByteArray=>Zbl.p1.S y A0 st) (fun c J hc y h=>Zbl.p1_ok h hE (fun A4=>hc A4)) N (A0++(wG #[128])) h8))
def Zbs.B:Code:=Tryz.f127.body.getD .skip
def Zbs.rs (r:Int):List CV:=[.one (zK .u32 r)]
def Zbs (N:Nat) (A0 F1:Int):Option Int:= chk (0≤F1)<| chk (0≤(v64 (32-F1)))<| some (v32 ((ZbF .u32 A0 F1)+(ZbR .u32 A0 (v64 (32-F1)))))
theorem Zbs.snd {A0 F1:Int} {r:Int} (h:Zbs N A0 F1=some r):ZdP zB 127 [.one (zK .u32 A0),.one (zK .u64 F1)] (Zbs.rs r):=fun st=>
 sO Zbs.B Tryz.func127 fun g0 w0 R hE=>by
  unfold Zbs at h;obtain ⟨c1,c2,h1⟩:=ck2 h;exact xS fol h1 hE [rZ,rZ] (aI c1 c2)
def ZfY.B:Code:=Tryz.f128.body.getD .skip
def ZfY.rs (r:Int):List CV:=[.one (zK .u32 r)]
def ZfY (N:Nat) (A0:Int):Option Int:= chk (0≤A0)<| chk (A0<64)<| some (zF [1116352408,1899447441,3049323471,3921009573,961987163,1508970993,2453635748,2870763221,3624381080,310598401,607225278,1426881987,1925078388,2162078206,2614888103,3248222580,3835390401,4022224774,264347078,604807628,770255983,1249150122,1555081692,1996064986,2554220882,2821834349,2952996808,3210313671,3336571891,3584528711,113926993,338241895,666307205,773529912,1294757372,1396182291,1695183700,1986661051,2177026350,2456956037,2730485921,2820302411,3259730800,3345764771,3516065817,3600352804,4094571909,275423344,430227734,506948616,659060556,883997877,958139571,1322822218,1537002063,1747873779,1955562222,2024104815,2227730452,2361852424,2428436474,2756734187,3204031479,3329325298] (zD A0) 0)
theorem ZfY.snd {A0:Int} {r:Int} (h:ZfY N A0=some r):ZdP zB 128 [oI A0] (ZfY.rs r):=fun st=>
 sO ZfY.B Tryz.func128 fun g0 w0 R hE=>by
  unfold ZfY at h;obtain ⟨c1,c2,h1⟩:=ck2 h;exact xS fol h1 hE [rZ,.r [(0,{m:=3})]] (aI c1 c2)
def Zat.B:Code:=Tryz.f97.body.getD .skip
def Zat.rs (r:(List Int)):List CV:=[.agg [zI .u8 32 r]]
def Zat.p3 (N:Nat) (c2_:(Int×(List Int))→Option (List Int)) (c1_:(Int×(List Int))→Option (List Int)) (x1:ByteArray) (A2 A112:Int) (A111:List Int) (c3_:(Int×(List Int))→Option (List Int)):(Int×(List Int))→Option (List Int):=fun (A166,A167)=> if (decide (A166<4))=true then chk (0≤A112)<| chk (A112<64)<| chk (0≤(w64 ((w64 (A2+(w64 (4*A112))))+A166)))<| chk ((w64 ((w64 (A2+(w64 (4*A112))))+A166))<((zZ x1:Nat):Int))<| c3_ (w64 (A166+1),zN A167 (zD A112) (v32 ((v32 ((zF A167 (zD A112) 0)*256))+(v32 (((UInt8.toNat (zF (rQ (rA x1)) (zD (w64 ((w64 (A2+(w64 (4*A112))))+A166))) 0):Nat):Int)))))) else c2_ (w64 (A112+1),A167)
def Zat.p6 (N:Nat) (c1_:(Int×(List Int))→Option (List Int)) (x1:ByteArray) (A2:Int) (A208:List Int) (c6_:(Int×(List Int))→Option (List Int)):(Int×(List Int))→Option (List Int):=fun (A216,A217)=> if (decide (A216<8))=true then chk (0≤A216)<| c6_ (w64 (A216+1),zN A217 (zD A216) (v32 ((zF A217 (zD A216) 0)+(zF A208 (zD A216) 0)))) else c1_ (w64 (A2+64),A217)
def Zat.p5 (N:Nat) (c1_:(Int×(List Int))→Option (List Int)) (x1:ByteArray) (A2:Int) (A111 A193:List Int) (c5_:(Int×(List Int))→Option (List Int)):(Int×(List Int))→Option (List Int):=fun (A198,A208)=> if (decide (A198<64))=true then Zbm (Zbs N (zF A208 4 0) 6) fun x209=> Zbm (Zbs N (zF A208 4 0) 11) fun x210=> Zbm (Zbs N (zF A208 4 0) 25) fun x211=> Zbm (ZfY N A198) fun x212=> chk (0≤A198)<| Zbm (Zbs N (zF A208 0 0) 2) fun x213=> Zbm (Zbs N (zF A208 0 0) 13) fun x214=> Zbm (Zbs N (zF A208 0 0) 22) fun x215=> c5_ (w64 (A198+1),[v32 ((v32 ((v32 ((v32 ((v32 ((zF A208 7 0)+(ZaG .xor .u32 (ZaG .xor .u32 x209 x210) x211)))+(ZaG .or .u32 (ZaG .and .u32 (zF A208 4 0) (zF A208 5 0)) (ZaG .and .u32 (v32 (4294967295-(zF A208 4 0))) (zF A208 6 0)))))+x212))+(zF A193 (zD A198) 0)))+(v32 ((ZaG .xor .u32 (ZaG .xor .u32 x213 x214) x215)+(ZaG .or .u32 (ZaG .or .u32 (ZaG .and .u32 (zF A208 0 0) (zF A208 1 0)) (ZaG .and .u32 (zF A208 0 0) (zF A208 2 0))) (ZaG .and .u32 (zF A208 1 0) (zF A208 2 0)))))),zF A208 0 0,zF A208 1 0,zF A208 2 0,v32 ((zF A208 3 0)+(v32 ((v32 ((v32 ((v32 ((zF A208 7 0)+(ZaG .xor .u32 (ZaG .xor .u32 x209 x210) x211)))+(ZaG .or .u32 (ZaG .and .u32 (zF A208 4 0) (zF A208 5 0)) (ZaG .and .u32 (v32 (4294967295-(zF A208 4 0))) (zF A208 6 0)))))+x212))+(zF A193 (zD A198) 0)))),zF A208 4 0,zF A208 5 0,zF A208 6 0]) else loopN (Zat.p6 N c1_ x1 A2 A208) N (0,A111)
def Zat.p4 (N:Nat) (c1_:(Int×(List Int))→Option (List Int)) (x1:ByteArray) (A2:Int) (A111:List Int) (c4_:(Int×(List Int))→Option (List Int)):(Int×(List Int))→Option (List Int):=fun (A168,A193)=> if (decide (A168<64))=true then chk (0≤(w64 (A168-15)))<| chk ((w64 (A168-15))<64)<| Zbm (Zbs N (zF A193 (zD (w64 (A168-15))) 0) 7) fun x194=> Zbm (Zbs N (zF A193 (zD (w64 (A168-15))) 0) 18) fun x195=> chk (0≤(w64 (A168-2)))<| chk ((w64 (A168-2))<64)<| Zbm (Zbs N (zF A193 (zD (w64 (A168-2))) 0) 17) fun x196=> Zbm (Zbs N (zF A193 (zD (w64 (A168-2))) 0) 19) fun x197=> chk (0≤(w64 (A168-16)))<| chk ((w64 (A168-16))<64)<| chk (0≤(w64 (A168-7)))<| chk ((w64 (A168-7))<64)<| chk (0≤A168)<| c4_ (w64 (A168+1),zN A193 (zD A168) (v32 ((v32 ((v32 ((zF A193 (zD (w64 (A168-16))) 0)+(ZaG .xor .u32 (ZaG .xor .u32 x194 x195) (v32 (zS (zF A193 (zD (w64 (A168-15))) 0) 8)))))+(zF A193 (zD (w64 (A168-7))) 0)))+(ZaG .xor .u32 (ZaG .xor .u32 x196 x197) (v32 (zS (zF A193 (zD (w64 (A168-2))) 0) 1024)))))) else loopN (Zat.p5 N c1_ x1 A2 A111 A193) N (0,A111)
def Zat.p2 (N:Nat) (c1_:(Int×(List Int))→Option (List Int)) (x1:ByteArray) (A2:Int) (A111:List Int) (c2_:(Int×(List Int))→Option (List Int)):(Int×(List Int))→Option (List Int):=fun (A112,A165)=> if (decide (A112<16))=true then loopN (Zat.p3 N c2_ c1_ x1 A2 A112 A111) N (0,A165) else loopN (Zat.p4 N c1_ x1 A2 A111) N (16,A165)
def Zat.p7 (N:Nat) (A111:List Int) (c7_:(Int×(List Int))→Option (List Int)):(Int×(List Int))→Option (List Int):=fun (A218,A219)=> if (decide (A218<32))=true then chk (0≤(w64 (zS A218 4)))<| chk ((w64 (zS A218 4))<8)<| chk (0≤(v64 (w64 (24-(w64 (8*(zX A218 4)))))))<| chk (0≤A218)<| c7_ (w64 (A218+1),zN A219 (zD A218) (v8 (zX (ZbF .u32 (zF A111 (zD (w64 (zS A218 4))) 0) (v64 (w64 (24-(w64 (8*(zX A218 4))))))) 256))) else some A219
def Zat.p1 (N:Nat) (x1:ByteArray) (c1_:(Int×(List Int))→Option (List Int)):(Int×(List Int))→Option (List Int):=fun (A2,A111)=> if (decide (A2<((zZ x1:Nat):Int)))=true then loopN (Zat.p2 N c1_ x1 A2 A111) N (0,zC 64 0) else loopN (Zat.p7 N A111) N (0,zC 32 0)
def Zat (N:Nat) (A0:ByteArray):Option (List Int):= Zbm (Zbl N A0) fun x1=> loopN (Zat.p1 N x1) N (0,[1779033703,3144134277,1013904242,2773480762,1359893119,2600822924,528734635,1541459225])
def Zat.p3.S (x1:ByteArray) (A2 A112 A166:Int) (A111 A167:List Int) (st:LL):S:=mkS 225 [(2,sA 2),(3,sA 3),(4,.one (.l (vL x1))),(5,sI A2),(6,sA 6),(7,sI A112),(8,sI A166)] [(2,.cells [zI .u8 32 (zC 32 0)]),(3,.cells [zI .u32 8 A111]),(6,.cells [zI .u32 64 A167])] st
def Zat.p6.S (x1:ByteArray) (A2 A216:Int) (A217 A208:List Int) (st:LL):S:=mkS 225 [(2,sA 2),(3,sA 3),(4,.one (.l (vL x1))),(5,sI A2),(12,sA 12),(16,sI A216)] [(2,.cells [zI .u8 32 (zC 32 0)]),(3,.cells [zI .u32 8 A217]),(12,.cells [zI .u32 8 A208])] st
def Zat.p5.S (x1:ByteArray) (A2 A198:Int) (A111 A193 A208:List Int) (st:LL):S:=mkS 225 [(2,sA 2),(3,sA 3),(4,.one (.l (vL x1))),(5,sI A2),(6,sA 6),(12,sA 12),(13,sI A198)] [(2,.cells [zI .u8 32 (zC 32 0)]),(3,.cells [zI .u32 8 A111]),(6,.cells [zI .u32 64 A193]),(12,.cells [zI .u32 8 A208])] st
def Zat.p4.S (x1:ByteArray) (A2 A168:Int) (A111 A193:List Int) (st:LL):S:=mkS 225 [(2,sA 2),(3,sA 3),(4,.one (.l (vL x1))),(5,sI A2),(6,sA 6),(9,sI A168)] [(2,.cells [zI .u8 32 (zC 32 0)]),(3,.cells [zI .u32 8 A111]),(6,.cells [zI .u32 64 A193])] st
def Zat.p2.S (x1:ByteArray) (A2 A112:Int) (A111 A165:List Int) (st:LL):S:=mkS 225 [(2,sA 2),(3,sA 3),(4,.one (.l (vL x1))),(5,sI A2),(6,sA 6),(7,sI A112)] [(2,.cells [zI .u8 32 (zC 32 0)]),(3,.cells [zI .u32 8 A111]),(6,.cells [zI .u32 64 A165])] st
def Zat.p7.S (A218:Int) (A111 A219:List Int) (st:LL):S:=mkS 225 [(2,sA 2),(3,sA 3),(17,sA 17),(18,sI A218)] [(2,.cells [zI .u8 32 (zC 32 0)]),(3,.cells [zI .u32 8 A111]),(17,.cells [zI .u8 32 A219])] st
def Zat.p1.S (x1:ByteArray) (A2:Int) (A111:List Int) (st:LL):S:=mkS 225 [(2,sA 2),(3,sA 3),(4,.one (.l (vL x1))),(5,sI A2)] [(2,.cells [zI .u8 32 (zC 32 0)]),(3,.cells [zI .u32 8 A111])] st
theorem Zat.p3_ok {x1 A2 A112 A166 A111 A167 st r c2_ c1_ c3_ J2 J1 J3} (h:Zat.p3 N c2_ c1_ x1 A2 A112 A111 c3_ (A166,A167)=some r) (hE:En Tryz.f97 g0 w0 (Zat.rs r) st R) (hc2 : ∀A112 A165,c2_ (A112,A165)=some r→At g0 w0 (Zat.p2.S x1 A2 A112 A111 A165 st) J2) (hc1 : ∀A2 A111,c1_ (A2,A111)=some r→At g0 w0 (Zat.p1.S x1 A2 A111 st) J1) (hc3 : ∀A166 A167,c3_ (A166,A167)=some r→At g0 w0 (Zat.p3.S x1 A2 A112 A166 A111 A167 st) J3):At g0 w0 (Zat.p3.S x1 A2 A112 A166 A111 A167 st) (XK zB R (cK Zat.B [1,1,1,0,1,0,0,1,0,0,1,0,1,0,0,1,0,0,1,0,0] :: .h J3 :: [.b 4,.b 3,cK Zat.B [1,1,1,0,1,0,0,1,0,0,1,0,1,0,0,1,1],.h J2,.b 2,cK Zat.B [1,1,1,0,1,0,0,1,0,0,1,1],.b 1,cK Zat.B [1,1,1,0,1,0,0,1,1],.h J1,.b 0,cK Zat.B [1,1,1,1]])):=by
 unfold Zat.p3 at h;refine Zbc h (fun c293 h1=>?_) (fun c293 h2=>?_)
 ·obtain ⟨c294,c295,c296,c297,h3⟩:=ck4 h1;exact ZjR fol [rZ,cT,.d {ds:=[],hv:=65536,Hs:=[65536]},rZ] [2,3,4,5,6,7,8] [2,3,6] (aN c293 c294 c295 c296 c297 c294 c295) (hc3 (w64 (A166+1)) (zN A167 (zD A112) (v32 ((v32 ((zF A167 (zD A112) 0)*256))+(v32 (((UInt8.toNat (zF (rQ (rA x1)) (zD (w64 ((w64 (A2+(w64 (4*A112))))+A166))) 0):Nat):Int)))))) h3)
 exact an fol [rZ,cF,rZ] [2,3,4,5,6,7] [2,3,6] c293 (hc2 (w64 (A112+1)) A167 h2)
theorem Zat.p6_ok {x1 A2 A216 A217 A208 st r c1_ c6_ J1 J6} (h:Zat.p6 N c1_ x1 A2 A208 c6_ (A216,A217)=some r) (hE:En Tryz.f97 g0 w0 (Zat.rs r) st R) (hc1 : ∀A2 A111,c1_ (A2,A111)=some r→At g0 w0 (Zat.p1.S x1 A2 A111 st) J1) (hc6 : ∀A216 A217,c6_ (A216,A217)=some r→At g0 w0 (Zat.p6.S x1 A2 A216 A217 A208 st) J6):At g0 w0 (Zat.p6.S x1 A2 A216 A217 A208 st) (XK zB R (cK Zat.B [1,1,1,0,1,0,0,1,0,0,1,1,1,1,1,1,0,0] :: .h J6 :: [.b 10,.b 1,cK Zat.B [1,1,1,0,1,0,0,1,1],.h J1,.b 0,cK Zat.B [1,1,1,1]])):=by
 unfold Zat.p6 at h;refine Zbc h (fun c376 h4=>?_) (fun c376 h5=>?_)
 ·obtain ⟨c377,h6⟩:=Zbe h4;exact ZjR fol [rZ,cT,.d {ds:=[],hv:=512,Hs:=[512]},rZ] [2,3,4,5,12,16] [2,3,12] (aN c376 c377 (oD c376) c377 (oD c376) c377 (oD c376)) (hc6 (w64 (A216+1)) (zN A217 (zD A216) (v32 ((zF A217 (zD A216) 0)+(zF A208 (zD A216) 0)))) h6)
 exact an fol [rZ,cF,rZ] [2,3,4,5] [2,3] c376 (hc1 (w64 (A2+64)) A217 h5)
theorem Zat.p5_ok {x1 A2 A198 A111 A193 A208 st r c1_ c5_ J1 J5} (h:Zat.p5 N c1_ x1 A2 A111 A193 c5_ (A198,A208)=some r) (hE:En Tryz.f97 g0 w0 (Zat.rs r) st R) (hc1 : ∀A2 A111,c1_ (A2,A111)=some r→At g0 w0 (Zat.p1.S x1 A2 A111 st) J1) (hc5 : ∀A198 A208,c5_ (A198,A208)=some r→At g0 w0 (Zat.p5.S x1 A2 A198 A111 A193 A208 st) J5):At g0 w0 (Zat.p5.S x1 A2 A198 A111 A193 A208 st) (XK zB R (cK Zat.B [1,1,1,0,1,0,0,1,0,0,1,1,1,1,0,1,0,0] :: .h J5 :: [.b 8,cK Zat.B [1,1,1,0,1,0,0,1,0,0,1,1,1,1,1],.b 1,cK Zat.B [1,1,1,0,1,0,0,1,1],.h J1,.b 0,cK Zat.B [1,1,1,1]])):=by
 unfold Zat.p5 at h;refine Zbc h (fun c365 h7=>?_) (fun c365 h8=>?_)
 ·obtain ⟨x209,c366,h9⟩:=Zac h7;obtain ⟨x210,c367,h10⟩:=Zac h9;obtain ⟨x211,c368,h11⟩:=Zac h10;obtain ⟨x212,c369,h12⟩:=Zac h11;obtain ⟨c370,h13⟩:=Zbe h12;obtain ⟨x213,c371,h14⟩:=Zac h13;obtain ⟨x214,c372,h15⟩:=Zac h14;obtain ⟨x215,c373,h16⟩:=Zac h15;exact ZjR fol [rZ,cT,.d {ds:=[(4,q1 [.one (zK .u32 x209)]),(7,q1 [.one (zK .u32 x210)]),(11,q1 [.one (zK .u32 x211)]),(28,q1 [.one (zK .u32 x212)])],hv:=0,Hs:=[]},.d {ds:=[(2,q1 [.one (zK .u32 x213)]),(5,q1 [.one (zK .u32 x214)]),(9,q1 [.one (zK .u32 x215)])],hv:=0,Hs:=[]},.r [(19,{m:=3})],rZ] [2,3,4,5,6,12,13] [2,3,6,12] (aI c365 (ix 7 8 (ix 4 8 (aI (Zbs.snd c366) (ix 4 8 (aI (Zbs.snd c367) (ix 4 8 (aI (Zbs.snd c368) (ix 4 8 (ix 5 8 (ix 4 8 (ix 6 8 (aK (ZfY.snd c369) c370 (oD c365) (ix 0 8 (aI (Zbs.snd c371) (ix 0 8 (aI (Zbs.snd c372) (ix 0 8 (aI (Zbs.snd c373) (ix 0 8 (ix 1 8 (ix 0 8 (ix 2 8 (ix 1 8 (ix 2 8 (ix 0 8 (ix 1 8 (ix 2 8 (ix 3 8 (ix 4 8 (ix 5 8 (aI (leI 0 6) (ltI 6 8))))))))))))))))))))))))))))))))) (hc5 (w64 (A198+1)) [v32 ((v32 ((v32 ((v32 ((v32 ((zF A208 7 0)+(ZaG .xor .u32 (ZaG .xor .u32 x209 x210) x211)))+(ZaG .or .u32 (ZaG .and .u32 (zF A208 4 0) (zF A208 5 0)) (ZaG .and .u32 (v32 (4294967295-(zF A208 4 0))) (zF A208 6 0)))))+x212))+(zF A193 (zD A198) 0)))+(v32 ((ZaG .xor .u32 (ZaG .xor .u32 x213 x214) x215)+(ZaG .or .u32 (ZaG .or .u32 (ZaG .and .u32 (zF A208 0 0) (zF A208 1 0)) (ZaG .and .u32 (zF A208 0 0) (zF A208 2 0))) (ZaG .and .u32 (zF A208 1 0) (zF A208 2 0)))))),zF A208 0 0,zF A208 1 0,zF A208 2 0,v32 ((zF A208 3 0)+(v32 ((v32 ((v32 ((v32 ((zF A208 7 0)+(ZaG .xor .u32 (ZaG .xor .u32 x209 x210) x211)))+(ZaG .or .u32 (ZaG .and .u32 (zF A208 4 0) (zF A208 5 0)) (ZaG .and .u32 (v32 (4294967295-(zF A208 4 0))) (zF A208 6 0)))))+x212))+(zF A193 (zD A198) 0)))),zF A208 4 0,zF A208 5 0,zF A208 6 0] h16)
 exact aq fol [rZ,cF,rZ] [2,3,4,5,12,16] [2,3,12] c365 (At.loop N (At.loopN (fun y:Int×(List Int)=>Zat.p6.S x1 A2 y.1 y.2 A208 st) (fun c J hc y h=>Zat.p6_ok (A216:=y.1) (A217:=y.2) h hE hc1 (fun A216 A217=>hc (A216,A217))) N (0,A111) h8))
theorem Zat.p4_ok {x1 A2 A168 A111 A193 st r c1_ c4_ J1 J4} (h:Zat.p4 N c1_ x1 A2 A111 c4_ (A168,A193)=some r) (hE:En Tryz.f97 g0 w0 (Zat.rs r) st R) (hc1 : ∀A2 A111,c1_ (A2,A111)=some r→At g0 w0 (Zat.p1.S x1 A2 A111 st) J1) (hc4 : ∀A168 A193,c4_ (A168,A193)=some r→At g0 w0 (Zat.p4.S x1 A2 A168 A111 A193 st) J4):At g0 w0 (Zat.p4.S x1 A2 A168 A111 A193 st) (XK zB R (cK Zat.B [1,1,1,0,1,0,0,1,0,0,1,1,0,1,0,0] :: .h J4 :: [.b 6,cK Zat.B [1,1,1,0,1,0,0,1,0,0,1,1,1],.b 1,cK Zat.B [1,1,1,0,1,0,0,1,1],.h J1,.b 0,cK Zat.B [1,1,1,1]])):=by
 unfold Zat.p4 at h;refine Zbc h (fun c338 h17=>?_) (fun c338 h18=>?_)
 ·obtain ⟨c339,c340,h19⟩:=ck2 h17;obtain ⟨x194,c341,h20⟩:=Zac h19;obtain ⟨x195,c342,h21⟩:=Zac h20;obtain ⟨c343,c344,h22⟩:=ck2 h21;obtain ⟨x196,c345,h23⟩:=Zac h22;obtain ⟨x197,c346,h24⟩:=Zac h23;obtain ⟨c347,c348,c349,c350,c351,h25⟩:=ck5 h24;exact ZjR fol [rZ,cT,.d {ds:=[(4,q1 [.one (zK .u32 x194)]),(9,q1 [.one (zK .u32 x195)])],hv:=0,Hs:=[]},.d {ds:=[(4,q1 [.one (zK .u32 x196)]),(9,q1 [.one (zK .u32 x197)])],hv:=0,Hs:=[]},.d {ds:=[],hv:=32768,Hs:=[32768]},rZ] [2,3,4,5,6,9] [2,3,6] (aO c338 c339 c340 (Zbs.snd c341) c339 c340 (Zbs.snd c342) (aO c339 c340 (neI 8) c343 c344 (Zbs.snd c345) c343 (aO c344 (Zbs.snd c346) c343 c344 (neI 1024) c347 c348 (aK c349 c350 c351 (oD c338))))) (hc4 (w64 (A168+1)) (zN A193 (zD A168) (v32 ((v32 ((v32 ((zF A193 (zD (w64 (A168-16))) 0)+(ZaG .xor .u32 (ZaG .xor .u32 x194 x195) (v32 (zS (zF A193 (zD (w64 (A168-15))) 0) 8)))))+(zF A193 (zD (w64 (A168-7))) 0)))+(ZaG .xor .u32 (ZaG .xor .u32 x196 x197) (v32 (zS (zF A193 (zD (w64 (A168-2))) 0) 1024)))))) h25)
 exact aq fol [rZ,cF,rZ,rZ] [2,3,4,5,6,12,13] [2,3,6,12] c338 (At.loop N (At.loopN (fun y:Int×(List Int)=>Zat.p5.S x1 A2 y.1 A111 A193 y.2 st) (fun c J hc y h=>Zat.p5_ok (A198:=y.1) (A208:=y.2) h hE hc1 (fun A198 A208=>hc (A198,A208))) N (0,A111) h18))
theorem Zat.p2_ok {x1 A2 A112 A111 A165 st r c1_ c2_ J1 J2} (h:Zat.p2 N c1_ x1 A2 A111 c2_ (A112,A165)=some r) (hE:En Tryz.f97 g0 w0 (Zat.rs r) st R) (hc1 : ∀A2 A111,c1_ (A2,A111)=some r→At g0 w0 (Zat.p1.S x1 A2 A111 st) J1) (hc2 : ∀A112 A165,c2_ (A112,A165)=some r→At g0 w0 (Zat.p2.S x1 A2 A112 A111 A165 st) J2):At g0 w0 (Zat.p2.S x1 A2 A112 A111 A165 st) (XK zB R (cK Zat.B [1,1,1,0,1,0,0,1,0,0,1,0,1,0,0] :: .h J2 :: [.b 2,cK Zat.B [1,1,1,0,1,0,0,1,0,0,1,1],.b 1,cK Zat.B [1,1,1,0,1,0,0,1,1],.h J1,.b 0,cK Zat.B [1,1,1,1]])):=by
 unfold Zat.p2 at h;refine Zbc h (fun c287 h26=>?_) (fun c287 h27=>?_)
 ·exact aq fol [rZ,cT,rZ] [2,3,4,5,6,7,8] [2,3,6] c287 (At.loop N (At.loopN (fun y:Int×(List Int)=>Zat.p3.S x1 A2 A112 y.1 A111 y.2 st) (fun c J hc y h=>Zat.p3_ok (A166:=y.1) (A167:=y.2) h hE hc2 hc1 (fun A166 A167=>hc (A166,A167))) N (0,A165) h26))
 exact aq fol [rZ,cF,rZ] [2,3,4,5,6,9] [2,3,6] c287 (At.loop N (At.loopN (fun y:Int×(List Int)=>Zat.p4.S x1 A2 y.1 A111 y.2 st) (fun c J hc y h=>Zat.p4_ok (A168:=y.1) (A193:=y.2) h hE hc1 (fun A168 A193=>hc (A168,A193))) N (16,A165) h27))
theorem Zat.p7_ok {A218 A111 A219 st r c7_ J7} (h:Zat.p7 N A111 c7_ (A218,A219)=some r) (hE:En Tryz.f97 g0 w0 (Zat.rs r) st R) (hc7 : ∀A218 A219,c7_ (A218,A219)=some r→At g0 w0 (Zat.p7.S A218 A111 A219 st) J7):At g0 w0 (Zat.p7.S A218 A111 A219 st) (XK zB R (cK Zat.B [1,1,1,1,1,0,1,0,0] :: .h J7 :: [.b 12,cK Zat.B [1,1,1,1,1,1]])):=by
 unfold Zat.p7 at h;refine Zbc h (fun c383 h28=>?_) (fun c383 h29=>?_)
 ·obtain ⟨c384,c385,c386,c387,h30⟩:=ck4 h28;exact an fol [rZ,cT,rZ,rZ] [2,3,17,18] [2,3,17] (aO c383 (neI 4) c384 c385 (neI 4) c386 (neI 256) (aI c387 (oD c383))) (hc7 (w64 (A218+1)) (zN A219 (zD A218) (v8 (zX (ZbF .u32 (zF A111 (zD (w64 (zS A218 4))) 0) (v64 (w64 (24-(w64 (8*(zX A218 4))))))) 256))) h30)
 exact xS fol h29 hE [rZ,cF,rZ] c383
theorem Zat.p1_ok {x1 A2 A111 st r c1_ J1} (h:Zat.p1 N x1 c1_ (A2,A111)=some r) (hE:En Tryz.f97 g0 w0 (Zat.rs r) st R) (hc1 : ∀A2 A111,c1_ (A2,A111)=some r→At g0 w0 (Zat.p1.S x1 A2 A111 st) J1):At g0 w0 (Zat.p1.S x1 A2 A111 st) (XK zB R (cK Zat.B [1,1,1,0,1,0,0] :: .h J1 :: [.b 0,cK Zat.B [1,1,1,1]])):=by
 unfold Zat.p1 at h;refine Zbc h (fun c195 h31=>?_) (fun c195 h32=>?_)
 ·exact aq fol [rZ,cT,rZ,rZ] [2,3,4,5,6,7] [2,3,6] c195 (At.loop N (At.loopN (fun y:Int×(List Int)=>Zat.p2.S x1 A2 y.1 A111 y.2 st) (fun c J hc y h=>Zat.p2_ok (A112:=y.1) (A165:=y.2) h hE hc1 (fun A112 A165=>hc (A112,A165))) N (0,zC 64 0) h31))
 exact aq fol [rZ,cF,rZ,rZ] [2,3,17,18] [2,3,17] c195 (At.loop N (At.loopN (fun y:Int×(List Int)=>Zat.p7.S y.1 A111 y.2 st) (fun c J hc y h=>Zat.p7_ok (A218:=y.1) (A219:=y.2) h hE (fun A218 A219=>hc (A218,A219))) N (0,zC 32 0) h32))
theorem Zat.snd {A0:ByteArray} {r:(List Int)} (h:Zat N A0=some r):ZdP zB 97 [.one (vL A0)] (Zat.rs r):=fun st=>
 sO Zat.B Tryz.func97 fun g0 w0 R hE=>by
  unfold Zat at h;obtain ⟨x1,c1,h33⟩:=Zac h;exact aq fol [rZ,.r [(0,{m:=3})],.r [(1,q1 [.one (vL x1)])],rZ] [2,3,4,5] [2,3] (Zbl.snd c1) (At.loop N (At.loopN (fun y:Int×(List Int)=>Zat.p1.S x1 y.1 y.2 st) (fun c J hc y h=>Zat.p1_ok (A2:=y.1) (A111:=y.2) h hE (fun A2 A111=>hc (A2,A111))) N (0,[1779033703,3144134277,1013904242,2773480762,1359893119,2600822924,528734635,1541459225]) h33))
def Zci.B:Code:=Tryz.f76.body.getD .skip
def Zci.rs (r:(List Int)):List CV:=[.agg [zI .u8 32 r]]
def Zci.p1 (N:Nat) (x1:List Int) (c1_:(ByteArray×Int)→Option (List Int)):(ByteArray×Int)→Option (List Int):=fun (A4,A2)=> if (decide (A2<32))=true then chk (0≤A2)<| chk (isB [[zK .u8 (zF x1 (zD A2) 0)]]=true)<| chk (zZ A4+zZ (ZkR (vI ZfU [[zK .u8 (zF x1 (zD A2) 0)]]))≤9223372036854775807)<| c1_ (A4++(ZkR (vI ZfU [[zK .u8 (zF x1 (zD A2) 0)]])),w64 (A2+1)) else Zbm (Zat N A4) fun x5=> some x5
def Zci (N:Nat) (A0:ByteArray):Option (List Int):= Zbm (Zat N A0) fun x1=> loopN (Zci.p1 N x1) N ((wG #[]),0)
def Zci.p1.S (A4:ByteArray) (A2:Int) (x1:List Int) (st:LL):S:=mkS 21 [(2,sA 2),(3,sA 3),(4,.one (.l (vL A4))),(5,sI A2)] [(2,.cells [zI .u8 32 (zC 32 0)]),(3,.cells [zI .u8 32 x1])] st
theorem Zci.p1_ok {A4 A2 x1 st r c1_ J1} (h:Zci.p1 N x1 c1_ (A4,A2)=some r) (hE:En Tryz.f76 g0 w0 (Zci.rs r) st R) (hc1 : ∀A4 A2,c1_ (A4,A2)=some r→At g0 w0 (Zci.p1.S A4 A2 x1 st) J1):At g0 w0 (Zci.p1.S A4 A2 x1 st) (XK zB R (cK Zci.B [1,1,1,0,1,0,0] :: .h J1 :: [.b 0,cK Zci.B [1,1,1,1]])):=by
 unfold Zci.p1 at h;refine Zbc h (fun c7 h1=>?_) (fun c7 h2=>?_)
 ·obtain ⟨c8,c9,c10,h3⟩:=ck3 h1;exact an fol [rZ,cT,rZ,rZ] [2,3,4,5] [2,3] (aN c7 c8 (oD c7) z0 (eN (1)) c9 c10) (hc1 (A4++(ZkR (vI ZfU [[zK .u8 (zF x1 (zD A2) 0)]]))) (w64 (A2+1)) h3)
 obtain ⟨x5,c11,h4⟩:=Zac h2;exact xS fol h4 hE [rZ,cF,.r [(1,q1 [.agg [zI .u8 32 x5]])]] (aI c7 (Zat.snd c11))
theorem Zci.snd {A0:ByteArray} {r:(List Int)} (h:Zci N A0=some r):ZdP zB 76 [.one (vL A0)] (Zci.rs r):=fun st=>
 sO Zci.B Tryz.func76 fun g0 w0 R hE=>by
  unfold Zci at h;obtain ⟨x1,c1,h5⟩:=Zac h;exact aq fol [rZ,.r [(1,q1 [.agg [zI .u8 32 x1]])],rZ,rZ] [2,3,4,5] [2,3] (Zat.snd c1) (At.loop N (At.loopN (fun y:ByteArray×Int=>Zci.p1.S y.1 y.2 x1 st) (fun c J hc y h=>Zci.p1_ok (A4:=y.1) (A2:=y.2) h hE (fun A4 A2=>hc (A4,A2))) N ((wG #[]),0) h5))
def Zdy.B:Code:=Tryz.f54.body.getD .skip
def Zdy.rs (r:(List Int)):List CV:=[.agg [zI .u8 32 r]]
def Zdy (N:Nat) (h_0:Zak):Option (List Int):= Zbm (Zdu N h_0) fun x1=> if (!x1)=true then some (zC 32 0) else Zbm (Zec N h_0) fun x2=> Zbm (Zci N x2) fun x3=> some x3
theorem Zdy.snd {h_0:Zak} {r:(List Int)} (h:Zdy N h_0=some r):ZdP zB 54 [.agg h_0.ls] (Zdy.rs r):=fun st=>
 sO Zdy.B Tryz.func54 fun g0 w0 R hE=>by
  unfold Zdy at h;obtain ⟨x1,c1,h1⟩:=Zac h;let o1:List PS:=[rZ,.r [(1,q1 [oB x1])]]
  refine Zbc h1 (fun c2 h2=>?_) (fun c2 h3=>?_)
  ·exact xS fol h2 hE (o1++[cT,rZ]) (aI (Zdu.snd c1) c2)
  obtain ⟨x2,c3,h4⟩:=Zac h3;obtain ⟨x3,c4,h5⟩:=Zac h4;exact xS fol h5 hE (o1++[cF,.r [(1,q1 [.one (vL x2)]),(2,q1 [.agg [zI .u8 32 x3]])]]) (aK (Zdu.snd c1) c2 (Zec.snd c3) (Zci.snd c4))
def Zet.B:Code:=Tryz.f117.body.getD .skip
def Zet.rs (r:(List Int)):List CV:=[.agg [zI .u64 4 r]]
def Zet (N:Nat) (A0_0:List Int) (A1:Int):Option (List Int):= chk (0≤(w64 (zS A1 64)))<| chk ((w64 (zS A1 64))<4)<| chk (0≤(v64 (zX A1 64)))<| some (zN A0_0 (zD (w64 (zS A1 64))) (ZaG .or .u64 (zF A0_0 (zD (w64 (zS A1 64))) 0) (ZbR .u64 1 (v64 (zX A1 64)))))
theorem Zet.snd {A0_0:List Int} {A1:Int} {r:(List Int)} (h:Zet N A0_0 A1=some r):ZdP zB 117 [.agg [zI .u64 4 A0_0],oI A1] (Zet.rs r):=fun st=>
 sO Zet.B Tryz.func117 fun g0 w0 R hE=>by
  unfold Zet at h;obtain ⟨c1,c2,c3,h1⟩:=ck3 h;exact xS fol h1 hE [rZ,rZ,rZ] (aO (neI 64) (neI 64) c1 c2 (neI 64) c3 c1 c2)
def Zbq.B:Code:=Tryz.f89.body.getD .skip
def Zbq.rs (r:(List Int)×Bool):List CV:=[.agg [zI .u64 4 r.1],oB r.2]
def Zbq.p2 (N:Nat) (c1_:(Int×Int×(List Int))→Option ((List Int)×Bool)) (A2 x8 x9 A1:Int) (A0_0 A1_0 A11:List Int):Option ((List Int)×Bool):= c1_ (w64 (zS (w64 ((w64 (x8+x9))+A1)) 2),w64 (A2+1),A11)
def Zbq.p1 (N:Nat) (A0_0 A1_0:List Int) (c1_:(Int×Int×(List Int))→Option ((List Int)×Bool)):(Int×Int×(List Int))→Option ((List Int)×Bool):=fun (A1,A2,A7)=> if (decide (A2<256))=true then Zbm (Zdo N A0_0 A2) fun x8=> Zbm (Zdo N A1_0 A2) fun x9=> if ((zX (w64 ((w64 (x8+x9))+A1)) 2)==1)=true then Zbm (Zet N A7 A2) fun x10=> Zbq.p2 N c1_ A2 x8 x9 A1 A0_0 A1_0 x10 else Zbq.p2 N c1_ A2 x8 x9 A1 A0_0 A1_0 A7 else some (A7,A1==1)
def Zbq (N:Nat) (A0_0 A1_0:List Int):Option ((List Int)×Bool):= loopN (Zbq.p1 N A0_0 A1_0) N (0,0,zC 4 0)
def Zbq.p2.S (A2 x8 x9 A1:Int) (A0_0 A1_0 A11:List Int) (st:LL):S:=mkS 35 [(2,sA 2),(3,sA 3),(4,sA 4),(6,sA 6),(8,sI A2),(9,sI (w64 ((w64 (x8+x9))+A1)))] [(2,.cells [zI .u64 4 A0_0]),(3,.cells [zI .u64 4 A1_0]),(4,.cells [zI .u64 4 (zC 4 0)]),(6,.cells [zI .u64 4 A11])] st
def Zbq.p1.S (A1 A2:Int) (A0_0 A1_0 A7:List Int) (st:LL):S:=mkS 35 [(2,sA 2),(3,sA 3),(4,sA 4),(6,sA 6),(7,sI A1),(8,sI A2)] [(2,.cells [zI .u64 4 A0_0]),(3,.cells [zI .u64 4 A1_0]),(4,.cells [zI .u64 4 (zC 4 0)]),(6,.cells [zI .u64 4 A7])] st
theorem Zbq.p2_ok {A2 x8 x9 A1 A0_0 A1_0 A11 st r c1_ J1} (h:Zbq.p2 N c1_ A2 x8 x9 A1 A0_0 A1_0 A11=some r) (hE:En Tryz.f89 g0 w0 (Zbq.rs r) st R) (hc1 : ∀A1 A2 A7,c1_ (A1,A2,A7)=some r→At g0 w0 (Zbq.p1.S A1 A2 A0_0 A1_0 A7 st) J1):At g0 w0 (Zbq.p2.S A2 x8 x9 A1 A0_0 A1_0 A11 st) (XK zB R [cK Zbq.B [1,1,1,0,1,0,0,1,0,0,1,1],.b 1,cK Zbq.B [1,1,1,0,1,0,0,1,1],.h J1,.b 0,cK Zbq.B [1,1,1,1]]):=by
 unfold Zbq.p2 at h;exact an fol [rZ,rZ] [2,3,4,6,7,8] [2,3,4,6] (neI 2) (hc1 (w64 (zS (w64 ((w64 (x8+x9))+A1)) 2)) (w64 (A2+1)) A11 h)
theorem Zbq.p1_ok {A1 A2 A0_0 A1_0 A7 st r c1_ J1} (h:Zbq.p1 N A0_0 A1_0 c1_ (A1,A2,A7)=some r) (hE:En Tryz.f89 g0 w0 (Zbq.rs r) st R) (hc1 : ∀A1 A2 A7,c1_ (A1,A2,A7)=some r→At g0 w0 (Zbq.p1.S A1 A2 A0_0 A1_0 A7 st) J1):At g0 w0 (Zbq.p1.S A1 A2 A0_0 A1_0 A7 st) (XK zB R (cK Zbq.B [1,1,1,0,1,0,0] :: .h J1 :: [.b 0,cK Zbq.B [1,1,1,1]])):=by
 unfold Zbq.p1 at h;refine Zbc h (fun c6 h1=>?_) (fun c6 h2=>?_)
 ·obtain ⟨x8,c7,h3⟩:=Zac h1;obtain ⟨x9,c8,h4⟩:=Zac h3;let o1:List PS:=[rZ,cT,.d {ds:=[(2,q1 [oI x8]),(5,q1 [oI x9])],hv:=0,Hs:=[]},rZ]
  have t1 {Q:Prop} (q:Q):=aL c6 (Zdo.snd c7) (Zdo.snd c8) (neI 2) q;refine Zbc h4 (fun c9 h5=>?_) (fun c9 h6=>?_)
  ·obtain ⟨x10,c10,h7⟩:=Zac h5;exact aqd fol (o1++[cT,.r [(2,q1 [.agg [zI .u64 4 x10]])],.s 6]) [2,3,4,6,8,9] [2,3,4,6] (t1 (aI c9 (Zet.snd c10))) (Zbq.p2_ok h7 hE hc1)
  exact aqd fol (o1++[cF,.s 6]) [2,3,4,6,8,9] [2,3,4,6] (t1 c9) (Zbq.p2_ok h6 hE hc1)
 exact xS fol h2 hE [rZ,cF,rZ] c6
theorem Zbq.snd {A0_0 A1_0:List Int} {r:(List Int)×Bool} (h:Zbq N A0_0 A1_0=some r):ZdP zB 89 [.agg [zI .u64 4 A0_0],.agg [zI .u64 4 A1_0]] (Zbq.rs r):=fun st=>
 sO Zbq.B Tryz.func89 fun g0 w0 R hE=>by
  unfold Zbq at h;exact aq fol [rZ,rZ,rZ,rZ] [2,3,4,6,7,8] [2,3,4,6] trivial (At.loop N (At.loopN (fun y:Int×Int×(List Int)=>Zbq.p1.S y.1 y.2.1 A0_0 A1_0 y.2.2 st) (fun c J hc y h=>Zbq.p1_ok (A1:=y.1) (A2:=y.2.1) (A7:=y.2.2) h hE (fun A1 A2 A7=>hc (A1,A2,A7))) N (0,0,zC 4 0) h))
def ZbN.B:Code:=Tryz.f118.body.getD .skip
def ZbN.rs (r:(List Int)):List CV:=[.agg [zI .u64 4 r]]
def ZbN.p2 (N:Nat) (c1_:(Int×(List Int))→Option (List Int)) (A1:Int) (A0_0 A8:List Int):Option (List Int):= c1_ (w64 (A1+1),A8)
def ZbN.p1 (N:Nat) (A0_0:List Int) (c1_:(Int×(List Int))→Option (List Int)):(Int×(List Int))→Option (List Int):=fun (A1,A5)=> if (decide (A1<256))=true then Zbm (Zdo N A0_0 A1) fun x6=> if (x6==0)=true then Zbm (Zet N A5 A1) fun x7=> ZbN.p2 N c1_ A1 A0_0 x7 else ZbN.p2 N c1_ A1 A0_0 A5 else some A5
def ZbN (N:Nat) (A0_0:List Int):Option (List Int):= loopN (ZbN.p1 N A0_0) N (0,zC 4 0)
def ZbN.p2.S (A1:Int) (A0_0 A8:List Int) (st:LL):S:=mkS 18 [(1,sA 1),(2,sA 2),(3,sA 3),(4,sI A1)] [(1,.cells [zI .u64 4 A0_0]),(2,.cells [zI .u64 4 (zC 4 0)]),(3,.cells [zI .u64 4 A8])] st
def ZbN.p1.S (A1:Int) (A0_0 A5:List Int) (st:LL):S:=mkS 18 [(1,sA 1),(2,sA 2),(3,sA 3),(4,sI A1)] [(1,.cells [zI .u64 4 A0_0]),(2,.cells [zI .u64 4 (zC 4 0)]),(3,.cells [zI .u64 4 A5])] st
theorem ZbN.p2_ok {A1 A0_0 A8 st r c1_ J1} (h:ZbN.p2 N c1_ A1 A0_0 A8=some r) (hE:En Tryz.f118 g0 w0 (ZbN.rs r) st R) (hc1 : ∀A1 A5,c1_ (A1,A5)=some r→At g0 w0 (ZbN.p1.S A1 A0_0 A5 st) J1):At g0 w0 (ZbN.p2.S A1 A0_0 A8 st) (XK zB R [cK ZbN.B [1,1,0,1,0,0,1,1],.h J1,.b 0,cK ZbN.B [1,1,1]]):=by
 unfold ZbN.p2 at h;exact an fol [rZ] [1,2,3,4] [1,2,3] trivial (hc1 (w64 (A1+1)) A8 h)
theorem ZbN.p1_ok {A1 A0_0 A5 st r c1_ J1} (h:ZbN.p1 N A0_0 c1_ (A1,A5)=some r) (hE:En Tryz.f118 g0 w0 (ZbN.rs r) st R) (hc1 : ∀A1 A5,c1_ (A1,A5)=some r→At g0 w0 (ZbN.p1.S A1 A0_0 A5 st) J1):At g0 w0 (ZbN.p1.S A1 A0_0 A5 st) (XK zB R (cK ZbN.B [1,1,0,1,0,0] :: .h J1 :: [.b 0,cK ZbN.B [1,1,1]])):=by
 unfold ZbN.p1 at h;refine Zbc h (fun c5 h1=>?_) (fun c5 h2=>?_)
 ·obtain ⟨x6,c6,h3⟩:=Zac h1;let o1:List PS:=[rZ,cT,.r [(2,q1 [oI x6])]]
  refine Zbc h3 (fun c7 h4=>?_) (fun c7 h5=>?_)
  ·obtain ⟨x7,c8,h6⟩:=Zac h4;exact aq fol (o1++[cT,.r [(2,q1 [.agg [zI .u64 4 x7]])],.s 4]) [1,2,3,4] [1,2,3] (aK c5 (Zdo.snd c6) c7 (Zet.snd c8)) (ZbN.p2_ok h6 hE hc1)
  exact aq fol (o1++[cF,.s 4]) [1,2,3,4] [1,2,3] (aJ c5 (Zdo.snd c6) c7) (ZbN.p2_ok h5 hE hc1)
 exact xS fol h2 hE [rZ,cF,rZ] c5
theorem ZbN.snd {A0_0:List Int} {r:(List Int)} (h:ZbN N A0_0=some r):ZdP zB 118 [.agg [zI .u64 4 A0_0]] (ZbN.rs r):=fun st=>
 sO ZbN.B Tryz.func118 fun g0 w0 R hE=>by
  unfold ZbN at h;exact aq fol [rZ,rZ,rZ] [1,2,3,4] [1,2,3] trivial (At.loop N (At.loopN (fun y:Int×(List Int)=>ZbN.p1.S y.1 A0_0 y.2 st) (fun c J hc y h=>ZbN.p1_ok (A1:=y.1) (A5:=y.2) h hE (fun A1 A5=>hc (A1,A5))) N (0,zC 4 0) h))
def Zdz.B:Code:=Tryz.f90.body.getD .skip
def Zdz.rs (r:(List Int)):List CV:=[.agg [zI .u64 4 r]]
def Zdz (N:Nat):Option (List Int):= Zbm (ZbN N (zC 4 0)) fun x1=> some x1
theorem Zdz.snd {r:(List Int)} (h:Zdz N=some r):ZdP zB 90 [] (Zdz.rs r):=fun st=>
 sO Zdz.B Tryz.func90 fun g0 w0 R hE=>by
  unfold Zdz at h;obtain ⟨x1,c1,h1⟩:=Zac h;exact xS fol h1 hE [rZ,.r [(1,q1 [.agg [zI .u64 4 x1]])]] (ZbN.snd c1)
def Zeu.B:Code:=Tryz.f101.body.getD .skip
def Zeu.rs (r:(List Int)×Bool):List CV:=[.agg [zI .u64 4 r.1],oB r.2]
def Zeu (N:Nat) (A0_0 A1_0:List Int):Option ((List Int)×Bool):= Zbm (ZbN N A1_0) fun x1=> Zbm (Zbq N A0_0 x1) fun (x2,x3)=> Zbm (Zbq N x2 [1,0,0,0]) fun (x4,x5)=> Zbm (ZbI N A0_0 A1_0) fun x6=> some (x4,x6)
theorem Zeu.snd {A0_0 A1_0:List Int} {r:(List Int)×Bool} (h:Zeu N A0_0 A1_0=some r):ZdP zB 101 [.agg [zI .u64 4 A0_0],.agg [zI .u64 4 A1_0]] (Zeu.rs r):=fun st=>
 sO Zeu.B Tryz.func101 fun g0 w0 R hE=>by
  unfold Zeu at h;obtain ⟨x1,c1,h1⟩:=Zac h;obtain ⟨⟨x2,x3⟩,c2,h2⟩:=Zac h1;obtain ⟨⟨x4,x5⟩,c3,h3⟩:=Zac h2;obtain ⟨x6,c4,h4⟩:=Zac h3;exact xSd fol h4 hE [rZ,.d {ds:=[(2,q1 [.agg [zI .u64 4 x1]]),(3,q1 [.agg [zI .u64 4 x2],oB x3])],hv:=384,Hs:=[128,384]},.r [(1,{m:=3}),(2,q1 [.agg [zI .u64 4 x4],oB x5])],.d {ds:=[(3,q1 [oB x6])],hv:=16,Hs:=[16]}] (aM (ZbN.snd c1) (ZbN.snd c1) (Zbq.snd c2) (Zbq.snd c2) (Zbq.snd c3) (ZbI.snd c4))
def Zby.B:Code:=Tryz.f79.body.getD .skip
def Zby.rs (r:(List Int)):List CV:=[.agg [zI .u64 4 r]]
def Zby.p2 (N:Nat) (c1_:(Int×(List Int)×(List Int))→Option (List Int)) (A5:Int) (A0_0 x1 A36 A37:List Int):Option (List Int):= c1_ (w64 (A5-1),A36,A37)
def Zby.p3 (N:Nat) (A41:List Int):Option (List Int):= some A41
def Zby.p1 (N:Nat) (A0_0 x1:List Int) (c1_:(Int×(List Int)×(List Int))→Option (List Int)):(Int×(List Int)×(List Int))→Option (List Int):=fun (A5,A23,A24)=> if (decide (A5≥0))=true then Zbm (Zaq N x1 A5) fun x25=> Zbm (Zaq N x25 (w64 (0-A5))) fun x26=> if (!(x26==x1))=true then Zby.p2 N c1_ A5 A0_0 x1 A23 A24 else Zbm (Zeu N x25 [1,0,0,0]) fun (x27,x28)=> Zbm (ZbI N A24 x27) fun x29=> if (!x29)=true then Zbm (Zeu N A24 x25) fun (x30,x31)=> Zbm (Zaq N [1,0,0,0] A5) fun x32=> Zbm (Zbq N A23 x32) fun (x33,x34)=> Zbm (Zdz N ) fun x35=> if (x30==x35)=true then some x33 else Zby.p2 N c1_ A5 A0_0 x1 x33 x30 else Zby.p2 N c1_ A5 A0_0 x1 A23 A24 else Zbm (ZbI N A24 A0_0) fun x38=> if (!x38)=true then Zbm (Zbq N A23 [1,0,0,0]) fun (x39,x40)=> Zby.p3 N x39 else Zby.p3 N A23
def Zby (N:Nat) (A0_0:List Int):Option (List Int):= Zbm (Zbq N A0_0 [1,0,0,0]) fun (x1,x2)=> if x2=true then some [1,0,0,0] else if (A0_0==(zC 4 0))=true then Zbm (Zdz N ) fun x3=> some x3 else Zbm (Zdz N ) fun x4=> loopN (Zby.p1 N A0_0 x1) N (255,zC 4 0,x4)
def Zby.p2.S (A5:Int) (A0_0 x1 A36 A37:List Int) (st:LL):S:=mkS 79 [(1,sA 1),(2,sA 2),(3,sA 3),(4,sA 4),(6,sA 6),(7,sA 7),(8,sI A5)] [(1,.cells [zI .u64 4 A0_0]),(2,.cells [zI .u64 4 (zC 4 0)]),(3,.cells [zI .u64 4 [1,0,0,0]]),(4,.cells [zI .u64 4 x1]),(6,.cells [zI .u64 4 A36]),(7,.cells [zI .u64 4 A37])] st
def Zby.p3.S (A41:List Int) (st:LL):S:=mkS 79 [(2,sA 2),(6,sA 6)] [(2,.cells [zI .u64 4 (zC 4 0)]),(6,.cells [zI .u64 4 A41])] st
def Zby.p1.S (A5:Int) (A0_0 x1 A23 A24:List Int) (st:LL):S:=mkS 79 [(1,sA 1),(2,sA 2),(3,sA 3),(4,sA 4),(6,sA 6),(7,sA 7),(8,sI A5)] [(1,.cells [zI .u64 4 A0_0]),(2,.cells [zI .u64 4 (zC 4 0)]),(3,.cells [zI .u64 4 [1,0,0,0]]),(4,.cells [zI .u64 4 x1]),(6,.cells [zI .u64 4 A23]),(7,.cells [zI .u64 4 A24])] st
theorem Zby.p2_ok {A5 A0_0 x1 A36 A37 st r c1_ J1} (h:Zby.p2 N c1_ A5 A0_0 x1 A36 A37=some r) (hE:En Tryz.f79 g0 w0 (Zby.rs r) st R) (hc1 : ∀A5 A23 A24,c1_ (A5,A23,A24)=some r→At g0 w0 (Zby.p1.S A5 A0_0 x1 A23 A24 st) J1):At g0 w0 (Zby.p2.S A5 A0_0 x1 A36 A37 st) (XK zB R [cK Zby.B [1,1,1,1,1,1,1,0,1,0,0,1,1],.h J1,.b 0,cK Zby.B [1,1,1,1,1,1,1,1]]):=by
 unfold Zby.p2 at h;exact an fol [rZ] [1,2,3,4,6,7,8] [1,2,3,4,6,7] trivial (hc1 (w64 (A5-1)) A36 A37 h)
theorem Zby.p3_ok {A41 st r} (h:Zby.p3 N A41=some r) (hE:En Tryz.f79 g0 w0 (Zby.rs r) st R):At g0 w0 (Zby.p3.S A41 st) (XK zB R [cK Zby.B [1,1,1,1,1,1,1,1,1]]):=by
 unfold Zby.p3 at h;exact xS fol h hE [rZ] trivial
theorem Zby.p1_ok {A5 A0_0 x1 A23 A24 st r c1_ J1} (h:Zby.p1 N A0_0 x1 c1_ (A5,A23,A24)=some r) (hE:En Tryz.f79 g0 w0 (Zby.rs r) st R) (hc1 : ∀A5 A23 A24,c1_ (A5,A23,A24)=some r→At g0 w0 (Zby.p1.S A5 A0_0 x1 A23 A24 st) J1):At g0 w0 (Zby.p1.S A5 A0_0 x1 A23 A24 st) (XK zB R (cK Zby.B [1,1,1,1,1,1,1,0,1,0,0] :: .h J1 :: [.b 0,cK Zby.B [1,1,1,1,1,1,1,1]])):=by
 unfold Zby.p1 at h;refine Zbc h (fun c21 h1=>?_) (fun c21 h2=>?_)
 ·obtain ⟨x25,c22,h3⟩:=Zac h1;obtain ⟨x26,c23,h4⟩:=Zac h3;let o1:List PS:=[rZ,cT,.r [(2,q1 [.agg [zI .u64 4 x25]])],.d {ds:=[(3,q1 [.agg [zI .u64 4 x26]])],hv:=0,Hs:=[]}]
  have t1 {Q:Prop} (q:Q):=aK c21 (Zaq.snd c22) (Zaq.snd c23) q;refine Zbc h4 (fun c24 h5=>?_) (fun c24 h6=>?_)
  ·exact aqd fol (o1++[cT,.s 4]) [1,2,3,4,6,7,8] [1,2,3,4,6,7] (t1 c24) (Zby.p2_ok h5 hE hc1)
  obtain ⟨⟨x27,x28⟩,c25,h7⟩:=Zac h6;obtain ⟨x29,c26,h8⟩:=Zac h7;let o2:List PS:=o1++[cF,.r [(2,q1 [.agg [zI .u64 4 x27],oB x28])],.r [(2,q1 [oB x29])]]
  have t2 {Q:Prop} (q:Q):=t1 (aK c24 (Zeu.snd c25) (ZbI.snd c26) q);refine Zbc h8 (fun c27 h9=>?_) (fun c27 h10=>?_)
  ·obtain ⟨⟨x30,x31⟩,c28,h11⟩:=Zac h9;obtain ⟨x32,c29,h12⟩:=Zac h11;obtain ⟨⟨x33,x34⟩,c30,h13⟩:=Zac h12;obtain ⟨x35,c31,h14⟩:=Zac h13;let o3:List PS:=o2++[cT,.r [(2,q1 [.agg [zI .u64 4 x30],oB x31])],.d {ds:=[(3,q1 [.agg [zI .u64 4 x32]]),(4,q1 [.agg [zI .u64 4 x33],oB x34])],hv:=256,Hs:=[256]},.d {ds:=[(1,q1 [.agg [zI .u64 4 x35]])],hv:=0,Hs:=[]}]
   have t3 {Q:Prop} (q:Q):=t2 (aM c27 (Zeu.snd c28) (Zaq.snd c29) (Zbq.snd c30) (Zdz.snd c31) q);refine Zbc h14 (fun c32 h15=>?_) (fun c32 h16=>?_)
   ·exact xSd fol h15 hE (o3++[cT,rZ]) (t3 c32)
   exact aqd fol (o3++[cF,.s 4]) [1,2,3,4,6,7,8] [1,2,3,4,6,7] (t3 c32) (Zby.p2_ok h16 hE hc1)
  exact aqd fol (o2++[cF,.s 4]) [1,2,3,4,6,7,8] [1,2,3,4,6,7] (t2 c27) (Zby.p2_ok h10 hE hc1)
 obtain ⟨x38,c33,h17⟩:=Zac h2;let o4:List PS:=[rZ,cF,.r [(2,q1 [oB x38])]]
 refine Zbc h17 (fun c34 h18=>?_) (fun c34 h19=>?_)
 ·obtain ⟨⟨x39,x40⟩,c35,h20⟩:=Zac h18;exact aq fol (o4++[cT,.r [(2,q1 [.agg [zI .u64 4 x39],oB x40])],.s 1]) [2,6] [2,6] (aK c21 (ZbI.snd c33) c34 (Zbq.snd c35)) (Zby.p3_ok h20 hE)
 exact aq fol (o4++[cF,.s 1]) [2,6] [2,6] (aJ c21 (ZbI.snd c33) c34) (Zby.p3_ok h19 hE)
theorem Zby.snd {A0_0:List Int} {r:(List Int)} (h:Zby N A0_0=some r):ZdP zB 79 [.agg [zI .u64 4 A0_0]] (Zby.rs r):=fun st=>
 sO Zby.B Tryz.func79 fun g0 w0 R hE=>by
  unfold Zby at h;obtain ⟨⟨x1,x2⟩,c1,h21⟩:=Zac h;let o5:List PS:=[rZ,.r [(0,{m:=3})],.r [(2,q1 [.agg [zI .u64 4 x1],oB x2])],rZ]
  have t4 {Q:Prop} (q:Q):=aI (Zbq.snd c1) q;refine Zbc h21 (fun c2 h22=>?_) (fun c2 h23=>?_)
  ·exact xS fol h22 hE (o5++[cT,rZ]) (t4 c2)
  refine Zbc h23 (fun c3 h24=>?_) (fun c3 h25=>?_)
  ·obtain ⟨x3,c4,h26⟩:=Zac h24;exact xS fol h26 hE (o5++[cF,rZ,cT,.r [(0,q1 [.agg [zI .u64 4 x3]])]]) (t4 (aJ c2 c3 (Zdz.snd c4)))
  obtain ⟨x4,c5,h27⟩:=Zac h25;exact aq fol (o5++[cF,rZ,cF,rZ,.r [(0,q1 [.agg [zI .u64 4 x4]])],rZ]) [1,2,3,4,6,7,8] [1,2,3,4,6,7] (t4 (aJ c2 c3 (Zdz.snd c5))) (At.loop N (At.loopN (fun y:Int×(List Int)×(List Int)=>Zby.p1.S y.1 A0_0 x1 y.2.1 y.2.2 st) (fun c J hc y h=>Zby.p1_ok (A5:=y.1) (A23:=y.2.1) (A24:=y.2.2) h hE (fun A5 A23 A24=>hc (A5,A23,A24))) N (255,zC 4 0,x4) h27))
def ZcL.B:Code:=Tryz.f55.body.getD .skip
def ZcL.rs (r:(List Int)):List CV:=[.agg [zI .u64 4 r]]
def ZcL (N:Nat) (A0:Int):Option (List Int):= Zbm (ZaV N A0) fun (x1,x2,x3)=> if x2=true then some (zC 4 0) else if x3=true then some (zC 4 0) else if (x1==(zC 4 0))=true then some (zC 4 0) else Zbm (Zby N x1) fun x4=> some x4
theorem ZcL.snd {A0:Int} {r:(List Int)} (h:ZcL N A0=some r):ZdP zB 55 [oI A0] (ZcL.rs r):=fun st=>
 sO ZcL.B Tryz.func55 fun g0 w0 R hE=>by
  unfold ZcL at h;obtain ⟨⟨x1,x2,x3⟩,c1,h1⟩:=Zac h;let o1:List PS:=[rZ,.r [(1,q1 [.agg [zI .u64 4 x1],oB x2,oB x3])]]
  have t1 {Q:Prop} (q:Q):=aI (ZaV.snd c1) q;refine Zbc h1 (fun c2 h2=>?_) (fun c2 h3=>?_)
  ·exact xS fol h2 hE (o1++[.r [(2,wF),(5,wF),(6,wF),(7,wF)],cT,rZ]) (t1 (aN c2 c2 eT eT eT eT eT))
  refine Zbc h3 (fun c3 h4=>?_) (fun c3 h5=>?_)
  ·exact xS fol h4 hE (o1++[.r [(3,yF),(5,wF),(6,wF),(7,wF)],cT,rZ]) (t1 (aN c2 c2 c3 c3 c3 c3 eT))
  let o2:List PS:=o1++[.r [(3,yF),(8,yF)]]
  refine Zbc h5 (fun c4 h6=>?_) (fun c4 h7=>?_)
  ·exact xS fol h6 hE (o2++[cT,rZ]) (t1 (aN c2 c2 c3 c3 c3 c3 c4))
  obtain ⟨x4,c5,h8⟩:=Zac h7;exact xS fol h8 hE (o2++[cF,.r [(1,q1 [.agg [zI .u64 4 x4]])]]) (t1 (aO c2 c2 c3 c3 c3 c3 c4 (Zby.snd c5)))
def ZeW.B:Code:=Tryz.f30.body.getD .skip
def ZeW.rs (r:(Option Nat)×LL):List CV:=[.one (zQ r.1)]
def ZeW (N:Nat) (A0:Zae) (A1:Int) (st:LL):Option ((Option Nat)×LL):= Zbm (Zdy N A0.Genesis) fun x1=> Zbm (ZcL N A0.Genesis.Bits) fun x2=> some ((some (zL st)),st++[Zab.lo (Zab.mk A0 [A0.Genesis.ls] [[zI .u8 32 x1]] [[zK .i64 (-1)]] [[zI .u64 4 x2]] (if (512:Int)<(if (1:Int)>A1 then 1 else A1) then 512 else (if (1:Int)>A1 then 1 else A1)))])
theorem ZeW.snd {A0:Zae} {A1:Int} {st:LL} {r:(Option Nat)×LL} (h:ZeW N A0 A1 st=some r):Snd zB 30 [.agg A0.ls,oI A1] st (ZeW.rs r) r.2:=
 sO ZeW.B Tryz.func30 fun g0 w0 R hE=>by
  unfold ZeW at h;obtain ⟨x1,c1,h1⟩:=Zac h;obtain ⟨x2,c2,h2⟩:=Zac h1;exact xTd fol h2 hE [rZ,.d {ds:=[(6,q1 [.agg [zI .u8 32 x1]]),(12,q1 [.agg [zI .u64 4 x2]]),(17,{mv:=[15,16,17,18]}),(18,{m:=1,mv:=[8,12,13,18],fz:=[8,12,13,18]})],hv:=270728,Hs:=[8,128,136,256,264,384,392,8192,8200,8320,8328,8448,8456,8576,8584,270728]}] (aO (Zdy.snd c1) (Zdy.snd c1) (Zdy.snd c1) (Zdy.snd c1) (ZcL.snd c2) (ZcL.snd c2) (ZcL.snd c2) (aO (ZcL.snd c2) (ZcL.snd c2) (ZcL.snd c2) (ZcL.snd c2) (ZcL.snd c2) z0 (eN (1)) (aM z0 (eN (1)) z0 (eN (1)) z0 (eN (1)))))
def Zfl.B:Code:=Tryz.f31.body.getD .skip
def Zfl.rs (r:(Option Nat)×LL):List CV:=[.one (zQ r.1)]
def Zfl (N:Nat) (st:LL):Option ((Option Nat)×LL):= some ((some (zL st)),zN (st++[ZaF.ls (ZaF.mk (zC 600 0) (zC 600 false))]) (zL st) (ZaF.ls (ZaF.mk (zN (zC 600 0) 0 1) (zC 600 false))))
theorem Zfl.snd {st:LL} {r:(Option Nat)×LL} (h:Zfl N st=some r):Snd zB 31 [] st (Zfl.rs r) r.2:=
 sO Zfl.B Tryz.func31 fun g0 w0 R hE=>by
  unfold Zfl at h;exact xT fol h hE [rZ,.r [(1,{m:=1})],.r [(4,{oc:=[zI .i64 600 (zC 600 0),L.brr 600 (zC 600 false)]})],rZ] (ix 0 600 (st_new st (ZaF.ls (ZaF.mk (zC 600 0) (zC 600 false)))))
def Zed.B:Code:=Tryz.f11.body.getD .skip
def Zed.rs (r:(Option Nat)×LL):List CV:=[.one (zQ r.1)]
def Zed (N:Nat) (A0:Zae) (st:LL):Option ((Option Nat)×LL):= Zbm (Zfz N A0 100 st) fun (x1,x2,st3)=> Zbm (ZeN N x1 st3) fun (x4,st5)=> Zbm (ZeW N A0 100 st5) fun (x6,st7)=> Zbm (Zfl N st7) fun (x8,st9)=> some ((some (zL st9)),st9++[[zQ x1,zQ x4,zQ x6,zQ x8]])
theorem Zed.snd {A0:Zae} {st:LL} {r:(Option Nat)×LL} (h:Zed N A0 st=some r):Snd zB 11 [.agg A0.ls] st (Zed.rs r) r.2:=
 sO Zed.B Tryz.func11 fun g0 w0 R hE=>by
  unfold Zed at h;obtain ⟨⟨x1,x2,st3⟩,c1,h1⟩:=Zac h;obtain ⟨⟨x4,st5⟩,c2,h2⟩:=Zac h1;obtain ⟨⟨x6,st7⟩,c3,h3⟩:=Zac h2;obtain ⟨⟨x8,st9⟩,c4,h4⟩:=Zac h3;exact xTd fol h4 hE [rZ,.r [(1,{rs:=[.one (zQ x1),oI x2],st:=st3})],.d {ds:=[(2,{rs:=[.one (zQ x4)],st:=st5}),(4,{rs:=[.one (zQ x6)],st:=st7}),(5,{rs:=[.one (zQ x8)],st:=st9}),(7,{m:=1})],hv:=180,Hs:=[4,20,52,180]}] (aK (Zfz.snd c1) (ZeN.snd c2) (ZeW.snd c3) (Zfl.snd c4))
def Zfr.B:Code:=Tryz.f149.body.getD .skip
def Zfr.rs (r:Int):List CV:=[oI r]
def Zfr (N:Nat) (A0:Zae) (A1 A2:Int):Option Int:= some (if (w64 ((w64 (A0.Interval*A0.Spacing))*4))<(if (w64 (zS (w64 (A0.Interval*A0.Spacing)) 4))>(w64 (A2-A1)) then (w64 (zS (w64 (A0.Interval*A0.Spacing)) 4)) else (w64 (A2-A1))) then (w64 ((w64 (A0.Interval*A0.Spacing))*4)) else (if (w64 (zS (w64 (A0.Interval*A0.Spacing)) 4))>(w64 (A2-A1)) then (w64 (zS (w64 (A0.Interval*A0.Spacing)) 4)) else (w64 (A2-A1))))
theorem Zfr.snd {A0:Zae} {A1 A2:Int} {r:Int} (h:Zfr N A0 A1 A2=some r):ZdP zB 149 [.agg A0.ls,oI A1,oI A2] (Zfr.rs r):=fun st=>
 sO Zfr.B Tryz.func149 fun g0 w0 R hE=>by
  unfold Zfr at h;exact xS fol h hE [rZ,rZ,rZ] (neI 4)
def Zcn.B:Code:=Tryz.f168.body.getD .skip
def Zcn.rs (r:Int):List CV:=[oI r]
def Zcn (N:Nat) (A0:Int):Option Int:= Zbm (Zaz N A0) fun x1=> some (w64 (64-x1))
theorem Zcn.snd {A0:Int} {r:Int} (h:Zcn N A0=some r):ZdP zB 168 [.one (zK .u64 A0)] (Zcn.rs r):=fun st=>
 sO Zcn.B Tryz.func168 fun g0 w0 R hE=>by
  unfold Zcn at h;obtain ⟨x1,c1,h1⟩:=Zac h;exact xS fol h1 hE [rZ,.r [(1,q1 [oI x1])]] (Zaz.snd c1)
def Zaj.B:Code:=Tryz.f161.body.getD .skip
def Zaj.rs (r:Int×Int):List CV:=[.one (zK .u64 r.1),.one (zK .u64 r.2)]
def Zaj.p6 (N:Nat) (A2 x1 A1 A4 A0 A7:Int):Option (Int×Int):= chk (0≤(v64 (x1)))<| some (v64 ((v64 (A4*4294967296))+A7),ZbF .u64 (v64 ((v64 ((v64 ((v64 ((v64 ((v64 ((ZaG .or .u64 (ZbR .u64 A0 (v64 (x1))) (ZbF .u64 A1 (v64 (64-(v64 (x1))))))*4294967296))+(ZbF .u64 (ZbR .u64 A1 (v64 (x1))) 32)))-(v64 (A4*(ZbR .u64 A2 (v64 (x1)))))))*4294967296))+(ZaG .and .u64 (ZbR .u64 A1 (v64 (x1))) 4294967295)))-(v64 (A7*(ZbR .u64 A2 (v64 (x1))))))) (v64 (x1)))
def Zaj.p5 (N:Nat) (c4_:(Int×Int)→Option (Int×Int)) (A2 x1 A1 A4 A5 A0 A6:Int):Option (Int×Int):= if (decide ((v64 (A5+(ZbF .u64 (ZbR .u64 A2 (v64 (x1))) 32)))≥4294967296))=true then Zaj.p6 N A2 x1 A1 A4 A0 (v64 (A6-1)) else c4_ (v64 (A5+(ZbF .u64 (ZbR .u64 A2 (v64 (x1))) 32)),v64 (A6-1))
def Zaj.p4 (N:Nat) (A2 x1 A1 A4 A0:Int) (c4_:(Int×Int)→Option (Int×Int)):(Int×Int)→Option (Int×Int):=fun (A5,A6)=> if (decide (A6≥4294967296))=true then Zaj.p5 N c4_ A2 x1 A1 A4 A5 A0 A6 else if (decide ((v64 (A6*(ZaG .and .u64 (ZbR .u64 A2 (v64 (x1))) 4294967295)))>(v64 ((v64 (4294967296*A5))+(ZaG .and .u64 (ZbR .u64 A1 (v64 (x1))) 4294967295)))))=true then Zaj.p5 N c4_ A2 x1 A1 A4 A5 A0 A6 else Zaj.p6 N A2 x1 A1 A4 A0 A6
def Zaj.p3 (N:Nat) (A2 x1 A0 A1 A4:Int):Option (Int×Int):= chk ((ZbF .u64 (ZbR .u64 A2 (v64 (x1))) 32)≠0)<| loopN (Zaj.p4 N A2 x1 A1 A4 A0) N (v64 ((v64 ((v64 ((v64 ((ZaG .or .u64 (ZbR .u64 A0 (v64 (x1))) (ZbF .u64 A1 (v64 (64-(v64 (x1))))))*4294967296))+(ZbF .u64 (ZbR .u64 A1 (v64 (x1))) 32)))-(v64 (A4*(ZbR .u64 A2 (v64 (x1)))))))-(v64 ((v64 (zS (v64 ((v64 ((v64 ((ZaG .or .u64 (ZbR .u64 A0 (v64 (x1))) (ZbF .u64 A1 (v64 (64-(v64 (x1))))))*4294967296))+(ZbF .u64 (ZbR .u64 A1 (v64 (x1))) 32)))-(v64 (A4*(ZbR .u64 A2 (v64 (x1))))))) (ZbF .u64 (ZbR .u64 A2 (v64 (x1))) 32)))*(ZbF .u64 (ZbR .u64 A2 (v64 (x1))) 32)))),v64 (zS (v64 ((v64 ((v64 ((ZaG .or .u64 (ZbR .u64 A0 (v64 (x1))) (ZbF .u64 A1 (v64 (64-(v64 (x1))))))*4294967296))+(ZbF .u64 (ZbR .u64 A1 (v64 (x1))) 32)))-(v64 (A4*(ZbR .u64 A2 (v64 (x1))))))) (ZbF .u64 (ZbR .u64 A2 (v64 (x1))) 32)))
def Zaj.p2 (N:Nat) (c1_:(Int×Int)→Option (Int×Int)) (A2 x1 A0 A1 F2 A3:Int):Option (Int×Int):= if (decide ((v64 (A3+(ZbF .u64 (ZbR .u64 A2 (v64 (x1))) 32)))≥4294967296))=true then Zaj.p3 N A2 x1 A0 A1 (v64 (F2-1)) else c1_ (v64 (F2-1),v64 (A3+(ZbF .u64 (ZbR .u64 A2 (v64 (x1))) 32)))
def Zaj.p1 (N:Nat) (A2 x1 A0 A1:Int) (c1_:(Int×Int)→Option (Int×Int)):(Int×Int)→Option (Int×Int):=fun (F2,A3)=> if (decide (F2≥4294967296))=true then Zaj.p2 N c1_ A2 x1 A0 A1 F2 A3 else if (decide ((v64 (F2*(ZaG .and .u64 (ZbR .u64 A2 (v64 (x1))) 4294967295)))>(v64 ((v64 (4294967296*A3))+(ZbF .u64 (ZbR .u64 A1 (v64 (x1))) 32)))))=true then Zaj.p2 N c1_ A2 x1 A0 A1 F2 A3 else Zaj.p3 N A2 x1 A0 A1 F2
def Zaj (N:Nat) (A0 A1 A2:Int):Option (Int×Int):= if (A2==0)=true then none else if (decide (A2≤A0))=true then none else if (A0==0)=true then chk (A2≠0)<| some (v64 (zS A1 A2),zX A1 A2) else Zbm (Zcn N A2) fun x1=> chk (0≤(v64 (x1)))<| chk (0≤(v64 (64-(v64 (x1)))))<| chk ((ZbF .u64 (ZbR .u64 A2 (v64 (x1))) 32)≠0)<| loopN (Zaj.p1 N A2 x1 A0 A1) N (v64 (zS (ZaG .or .u64 (ZbR .u64 A0 (v64 (x1))) (ZbF .u64 A1 (v64 (64-(v64 (x1)))))) (ZbF .u64 (ZbR .u64 A2 (v64 (x1))) 32)),v64 ((ZaG .or .u64 (ZbR .u64 A0 (v64 (x1))) (ZbF .u64 A1 (v64 (64-(v64 (x1))))))-(v64 ((v64 (zS (ZaG .or .u64 (ZbR .u64 A0 (v64 (x1))) (ZbF .u64 A1 (v64 (64-(v64 (x1)))))) (ZbF .u64 (ZbR .u64 A2 (v64 (x1))) 32)))*(ZbF .u64 (ZbR .u64 A2 (v64 (x1))) 32)))))
def Zaj.p6.S (A2 x1 A1 A4 A0 A7:Int) (st:LL):S:=mkS 135 [(2,.one (.l (zK .u64 (ZbR .u64 A2 (v64 (x1)))))),(8,.one (.l (zK .u64 (v64 (x1))))),(14,.one (.l (zK .u64 (ZaG .and .u64 (ZbR .u64 A1 (v64 (x1))) 4294967295)))),(15,.one (.l (zK .u64 A4))),(17,.one (.l (zK .u64 (v64 ((v64 ((v64 ((ZaG .or .u64 (ZbR .u64 A0 (v64 (x1))) (ZbF .u64 A1 (v64 (64-(v64 (x1))))))*4294967296))+(ZbF .u64 (ZbR .u64 A1 (v64 (x1))) 32)))-(v64 (A4*(ZbR .u64 A2 (v64 (x1)))))))))),(18,.one (.l (zK .u64 A7)))] [] st
def Zaj.p5.S (A2 x1 A1 A4 A5 A0 A6:Int) (st:LL):S:=mkS 135 [(2,.one (.l (zK .u64 (ZbR .u64 A2 (v64 (x1)))))),(8,.one (.l (zK .u64 (v64 (x1))))),(9,.one (.l (zK .u64 (ZbF .u64 (ZbR .u64 A2 (v64 (x1))) 32)))),(10,.one (.l (zK .u64 (ZaG .and .u64 (ZbR .u64 A2 (v64 (x1))) 4294967295)))),(14,.one (.l (zK .u64 (ZaG .and .u64 (ZbR .u64 A1 (v64 (x1))) 4294967295)))),(15,.one (.l (zK .u64 A4))),(16,.one (.l (zK .u64 A5))),(17,.one (.l (zK .u64 (v64 ((v64 ((v64 ((ZaG .or .u64 (ZbR .u64 A0 (v64 (x1))) (ZbF .u64 A1 (v64 (64-(v64 (x1))))))*4294967296))+(ZbF .u64 (ZbR .u64 A1 (v64 (x1))) 32)))-(v64 (A4*(ZbR .u64 A2 (v64 (x1)))))))))),(18,.one (.l (zK .u64 A6)))] [] st
def Zaj.p4.S (A2 x1 A1 A4 A5 A0 A6:Int) (st:LL):S:=mkS 135 [(2,.one (.l (zK .u64 (ZbR .u64 A2 (v64 (x1)))))),(8,.one (.l (zK .u64 (v64 (x1))))),(9,.one (.l (zK .u64 (ZbF .u64 (ZbR .u64 A2 (v64 (x1))) 32)))),(10,.one (.l (zK .u64 (ZaG .and .u64 (ZbR .u64 A2 (v64 (x1))) 4294967295)))),(14,.one (.l (zK .u64 (ZaG .and .u64 (ZbR .u64 A1 (v64 (x1))) 4294967295)))),(15,.one (.l (zK .u64 A4))),(16,.one (.l (zK .u64 A5))),(17,.one (.l (zK .u64 (v64 ((v64 ((v64 ((ZaG .or .u64 (ZbR .u64 A0 (v64 (x1))) (ZbF .u64 A1 (v64 (64-(v64 (x1))))))*4294967296))+(ZbF .u64 (ZbR .u64 A1 (v64 (x1))) 32)))-(v64 (A4*(ZbR .u64 A2 (v64 (x1)))))))))),(18,.one (.l (zK .u64 A6)))] [] st
def Zaj.p3.S (A2 x1 A0 A1 A4:Int) (st:LL):S:=mkS 135 [(2,.one (.l (zK .u64 (ZbR .u64 A2 (v64 (x1)))))),(8,.one (.l (zK .u64 (v64 (x1))))),(9,.one (.l (zK .u64 (ZbF .u64 (ZbR .u64 A2 (v64 (x1))) 32)))),(10,.one (.l (zK .u64 (ZaG .and .u64 (ZbR .u64 A2 (v64 (x1))) 4294967295)))),(11,.one (.l (zK .u64 (ZaG .or .u64 (ZbR .u64 A0 (v64 (x1))) (ZbF .u64 A1 (v64 (64-(v64 (x1))))))))),(13,.one (.l (zK .u64 (ZbF .u64 (ZbR .u64 A1 (v64 (x1))) 32)))),(14,.one (.l (zK .u64 (ZaG .and .u64 (ZbR .u64 A1 (v64 (x1))) 4294967295)))),(15,.one (.l (zK .u64 A4)))] [] st
def Zaj.p2.S (A2 x1 A0 A1 F2 A3:Int) (st:LL):S:=mkS 135 [(2,.one (.l (zK .u64 (ZbR .u64 A2 (v64 (x1)))))),(8,.one (.l (zK .u64 (v64 (x1))))),(9,.one (.l (zK .u64 (ZbF .u64 (ZbR .u64 A2 (v64 (x1))) 32)))),(10,.one (.l (zK .u64 (ZaG .and .u64 (ZbR .u64 A2 (v64 (x1))) 4294967295)))),(11,.one (.l (zK .u64 (ZaG .or .u64 (ZbR .u64 A0 (v64 (x1))) (ZbF .u64 A1 (v64 (64-(v64 (x1))))))))),(13,.one (.l (zK .u64 (ZbF .u64 (ZbR .u64 A1 (v64 (x1))) 32)))),(14,.one (.l (zK .u64 (ZaG .and .u64 (ZbR .u64 A1 (v64 (x1))) 4294967295)))),(15,.one (.l (zK .u64 F2))),(16,.one (.l (zK .u64 A3)))] [] st
def Zaj.p1.S (A2 x1 A0 A1 F2 A3:Int) (st:LL):S:=mkS 135 [(2,.one (.l (zK .u64 (ZbR .u64 A2 (v64 (x1)))))),(8,.one (.l (zK .u64 (v64 (x1))))),(9,.one (.l (zK .u64 (ZbF .u64 (ZbR .u64 A2 (v64 (x1))) 32)))),(10,.one (.l (zK .u64 (ZaG .and .u64 (ZbR .u64 A2 (v64 (x1))) 4294967295)))),(11,.one (.l (zK .u64 (ZaG .or .u64 (ZbR .u64 A0 (v64 (x1))) (ZbF .u64 A1 (v64 (64-(v64 (x1))))))))),(13,.one (.l (zK .u64 (ZbF .u64 (ZbR .u64 A1 (v64 (x1))) 32)))),(14,.one (.l (zK .u64 (ZaG .and .u64 (ZbR .u64 A1 (v64 (x1))) 4294967295)))),(15,.one (.l (zK .u64 F2))),(16,.one (.l (zK .u64 A3)))] [] st
theorem Zaj.p6_ok {A2 x1 A1 A4 A0 A7 st r} (h:Zaj.p6 N A2 x1 A1 A4 A0 A7=some r) (hE:En Tryz.f161 g0 w0 (Zaj.rs r) st R):At g0 w0 (Zaj.p6.S A2 x1 A1 A4 A0 A7 st) (XK zB R [cK Zaj.B [1,1,1,1,1,1,1,1,1,1,1,1,1,1,1,1,1,1,1]]):=by
 unfold Zaj.p6 at h;obtain ⟨c16,h1⟩:=Zbe h;exact xS fol h1 hE [rZ] c16
theorem Zaj.p5_ok {A2 x1 A1 A4 A5 A0 A6 st r c4_ J4} (h:Zaj.p5 N c4_ A2 x1 A1 A4 A5 A0 A6=some r) (hE:En Tryz.f161 g0 w0 (Zaj.rs r) st R) (hc4 : ∀A5 A6,c4_ (A5,A6)=some r→At g0 w0 (Zaj.p4.S A2 x1 A1 A4 A5 A0 A6 st) J4):At g0 w0 (Zaj.p5.S A2 x1 A1 A4 A5 A0 A6 st) (XK zB R [cK Zaj.B [1,1,1,1,1,1,1,1,1,1,1,1,1,1,1,1,1,1,0,0,0,1],.h J4,.b 2,cK Zaj.B [1,1,1,1,1,1,1,1,1,1,1,1,1,1,1,1,1,1,1]]):=by
 unfold Zaj.p5 at h;refine Zbc h (fun c15 h2=>?_) (fun c15 h3=>?_)
 ·exact aq fol [rZ,rZ,rZ,cT,.s 1] [2,8,14,15,17,18] [] c15 (Zaj.p6_ok h2 hE)
 exact an fol [rZ,rZ,rZ,cF] [2,8,9,10,14,15,16,17,18] [] c15 (hc4 (v64 (A5+(ZbF .u64 (ZbR .u64 A2 (v64 (x1))) 32))) (v64 (A6-1)) h3)
theorem Zaj.p4_ok {A2 x1 A1 A4 A5 A0 A6 st r c4_ J4} (h:Zaj.p4 N A2 x1 A1 A4 A0 c4_ (A5,A6)=some r) (hE:En Tryz.f161 g0 w0 (Zaj.rs r) st R) (hc4 : ∀A5 A6,c4_ (A5,A6)=some r→At g0 w0 (Zaj.p4.S A2 x1 A1 A4 A5 A0 A6 st) J4):At g0 w0 (Zaj.p4.S A2 x1 A1 A4 A5 A0 A6 st) (XK zB R (cK Zaj.B [1,1,1,1,1,1,1,1,1,1,1,1,1,1,1,1,1,1,0,0,0] :: .h J4 :: [.b 2,cK Zaj.B [1,1,1,1,1,1,1,1,1,1,1,1,1,1,1,1,1,1,1]])):=by
 unfold Zaj.p4 at h;refine Zbc h (fun c13 h4=>?_) (fun c13 h5=>?_)
 ·exact aq fol [.r [(3,wF),(4,wF),(5,wF),(6,wF),(7,wF),(8,wF),(9,wF),(10,wF)],cT,.s 4] [2,8,9,10,14,15,16,17,18] [] (aO c13 c13 c13 c13 c13 c13 c13 (aJ c13 c13 eT)) (Zaj.p5_ok h4 hE hc4)
 have t1 {Q:Prop} (q:Q):=aO c13 c13 c13 c13 c13 c13 c13 (aJ c13 c13 q);refine Zbc h5 (fun c14 h6=>?_) (fun c14 h7=>?_)
 ·exact aq fol [.r [(11,yF)],cT,.s 4] [2,8,9,10,14,15,16,17,18] [] (t1 c14) (Zaj.p5_ok h6 hE hc4)
 exact aq fol [.r [(11,yF)],cF,.s 1] [2,8,14,15,17,18] [] (t1 c14) (Zaj.p6_ok h7 hE)
theorem Zaj.p3_ok {A2 x1 A0 A1 A4 st r} (h:Zaj.p3 N A2 x1 A0 A1 A4=some r) (hE:En Tryz.f161 g0 w0 (Zaj.rs r) st R):At g0 w0 (Zaj.p3.S A2 x1 A0 A1 A4 st) (XK zB R [cK Zaj.B [1,1,1,1,1,1,1,1,1,1,1,1,1,1,1]]):=by
 unfold Zaj.p3 at h;obtain ⟨c12,h8⟩:=Zbe h;exact aq fol [rZ,rZ,rZ] [2,8,9,10,14,15,16,17,18] [] c12 (At.loop N (At.loopN (fun y:Int×Int=>Zaj.p4.S A2 x1 A1 A4 y.1 A0 y.2 st) (fun c J hc y h=>Zaj.p4_ok (A5:=y.1) (A6:=y.2) h hE (fun A5 A6=>hc (A5,A6))) N (v64 ((v64 ((v64 ((v64 ((ZaG .or .u64 (ZbR .u64 A0 (v64 (x1))) (ZbF .u64 A1 (v64 (64-(v64 (x1))))))*4294967296))+(ZbF .u64 (ZbR .u64 A1 (v64 (x1))) 32)))-(v64 (A4*(ZbR .u64 A2 (v64 (x1)))))))-(v64 ((v64 (zS (v64 ((v64 ((v64 ((ZaG .or .u64 (ZbR .u64 A0 (v64 (x1))) (ZbF .u64 A1 (v64 (64-(v64 (x1))))))*4294967296))+(ZbF .u64 (ZbR .u64 A1 (v64 (x1))) 32)))-(v64 (A4*(ZbR .u64 A2 (v64 (x1))))))) (ZbF .u64 (ZbR .u64 A2 (v64 (x1))) 32)))*(ZbF .u64 (ZbR .u64 A2 (v64 (x1))) 32)))),v64 (zS (v64 ((v64 ((v64 ((ZaG .or .u64 (ZbR .u64 A0 (v64 (x1))) (ZbF .u64 A1 (v64 (64-(v64 (x1))))))*4294967296))+(ZbF .u64 (ZbR .u64 A1 (v64 (x1))) 32)))-(v64 (A4*(ZbR .u64 A2 (v64 (x1))))))) (ZbF .u64 (ZbR .u64 A2 (v64 (x1))) 32))) h8))
theorem Zaj.p2_ok {A2 x1 A0 A1 F2 A3 st r c1_ J1} (h:Zaj.p2 N c1_ A2 x1 A0 A1 F2 A3=some r) (hE:En Tryz.f161 g0 w0 (Zaj.rs r) st R) (hc1 : ∀F2 A3,c1_ (F2,A3)=some r→At g0 w0 (Zaj.p1.S A2 x1 A0 A1 F2 A3 st) J1):At g0 w0 (Zaj.p2.S A2 x1 A0 A1 F2 A3 st) (XK zB R [cK Zaj.B [1,1,1,1,1,1,1,1,1,1,1,1,1,1,0,0,0,1],.h J1,.b 0,cK Zaj.B [1,1,1,1,1,1,1,1,1,1,1,1,1,1,1]]):=by
 unfold Zaj.p2 at h;refine Zbc h (fun c11 h9=>?_) (fun c11 h10=>?_)
 ·exact aq fol [rZ,rZ,rZ,cT,.s 1] [2,8,9,10,11,13,14,15] [] c11 (Zaj.p3_ok h9 hE)
 exact an fol [rZ,rZ,rZ,cF] [2,8,9,10,11,13,14,15,16] [] c11 (hc1 (v64 (F2-1)) (v64 (A3+(ZbF .u64 (ZbR .u64 A2 (v64 (x1))) 32))) h10)
theorem Zaj.p1_ok {A2 x1 A0 A1 F2 A3 st r c1_ J1} (h:Zaj.p1 N A2 x1 A0 A1 c1_ (F2,A3)=some r) (hE:En Tryz.f161 g0 w0 (Zaj.rs r) st R) (hc1 : ∀F2 A3,c1_ (F2,A3)=some r→At g0 w0 (Zaj.p1.S A2 x1 A0 A1 F2 A3 st) J1):At g0 w0 (Zaj.p1.S A2 x1 A0 A1 F2 A3 st) (XK zB R (cK Zaj.B [1,1,1,1,1,1,1,1,1,1,1,1,1,1,0,0,0] :: .h J1 :: [.b 0,cK Zaj.B [1,1,1,1,1,1,1,1,1,1,1,1,1,1,1]])):=by
 unfold Zaj.p1 at h;refine Zbc h (fun c9 h11=>?_) (fun c9 h12=>?_)
 ·exact aq fol [.r [(3,wF),(4,wF),(5,wF),(6,wF),(7,wF),(8,wF),(9,wF),(10,wF)],cT,.s 4] [2,8,9,10,11,13,14,15,16] [] (aO c9 c9 c9 c9 c9 c9 c9 (aJ c9 c9 eT)) (Zaj.p2_ok h11 hE hc1)
 refine Zbc h12 (fun c10 h13=>?_) (fun c10 h14=>?_)
 ·exact aq fol [.r [(11,yF)],cT,.s 4] [2,8,9,10,11,13,14,15,16] [] (aO c9 c9 c9 c9 c9 c9 c9 (aJ c9 c9 c10)) (Zaj.p2_ok h13 hE hc1)
 exact aq fol [.r [(11,yF)],cF,.s 1] [2,8,9,10,11,13,14,15] [] (aO c9 c9 c9 c9 c9 c9 c9 (aJ c9 c9 c10)) (Zaj.p3_ok h14 hE)
theorem Zaj.snd {A0 A1 A2:Int} {r:Int×Int} (h:Zaj N A0 A1 A2=some r):ZdP zB 161 [.one (zK .u64 A0),.one (zK .u64 A1),.one (zK .u64 A2)] (Zaj.rs r):=fun st=>
 sO Zaj.B Tryz.func161 fun g0 w0 R hE=>by
  unfold Zaj at h;let o1:List PS:=[rZ,rZ,cF,rZ,cF,rZ]
  refine Zbc h (fun c1 h15=>?_) (fun c1 h16=>?_)
  ·cases h15
  refine Zbc h16 (fun c2 h17=>?_) (fun c2 h18=>?_)
  ·cases h17
  refine Zbc h18 (fun c3 h19=>?_) (fun c3 h20=>?_)
  ·obtain ⟨c4,h21⟩:=Zbe h19;exact xSd fol h21 hE (o1++[cT,.d {ds:=[],hv:=0,Hs:=[]}]) (aL c1 c2 c3 c4 c4)
  obtain ⟨x1,c5,h22⟩:=Zac h20;obtain ⟨c6,c7,c8,h23⟩:=ck3 h22;exact aq fol (o1++[cF,.r [(1,q1 [oI x1])],rZ,rZ,rZ,rZ,rZ,rZ,rZ,rZ,rZ]) [2,8,9,10,11,13,14,15,16] [] (aO c1 c2 c3 (Zcn.snd c5) c6 (leI 0 32) c6 (aK c7 c6 (leI 0 32) c8)) (At.loop N (At.loopN (fun y:Int×Int=>Zaj.p1.S A2 x1 A0 A1 y.1 y.2 st) (fun c J hc y h=>Zaj.p1_ok (F2:=y.1) (A3:=y.2) h hE (fun F2 A3=>hc (F2,A3))) N (v64 (zS (ZaG .or .u64 (ZbR .u64 A0 (v64 (x1))) (ZbF .u64 A1 (v64 (64-(v64 (x1)))))) (ZbF .u64 (ZbR .u64 A2 (v64 (x1))) 32)),v64 ((ZaG .or .u64 (ZbR .u64 A0 (v64 (x1))) (ZbF .u64 A1 (v64 (64-(v64 (x1))))))-(v64 ((v64 (zS (ZaG .or .u64 (ZbR .u64 A0 (v64 (x1))) (ZbF .u64 A1 (v64 (64-(v64 (x1)))))) (ZbF .u64 (ZbR .u64 A2 (v64 (x1))) 32)))*(ZbF .u64 (ZbR .u64 A2 (v64 (x1))) 32))))) h23))
def ZcR.B:Code:=Tryz.f150.body.getD .skip
def ZcR.rs (r:(List Int)×Int):List CV:=[.agg [zI .u64 4 r.1],.one (zK .u64 r.2)]
def ZcR.p1 (N:Nat) (F1:Int) (c1_:(Int×Int×(List Int))→Option ((List Int)×Int)):(Int×Int×(List Int))→Option ((List Int)×Int):=fun (A1,A2,A5)=> if (decide (A2≥0))=true then chk (0≤A2)<| chk (A2<4)<| Zbm (Zaj N A1 (zF A5 (zD A2) 0) F1) fun (x6,x7)=> c1_ (x7,w64 (A2-1),zN A5 (zD A2) x6) else some (A5,A1)
def ZcR (N:Nat) (A0_0:List Int) (F1:Int):Option ((List Int)×Int):= if (F1==0)=true then some (zC 4 0,0) else loopN (ZcR.p1 N F1) N (0,3,A0_0)
def ZcR.p1.S (F1 A1 A2:Int) (A5:List Int) (st:LL):S:=mkS 28 [(1,.one (.l (zK .u64 F1))),(2,sA 2),(4,sA 4),(6,.one (.l (zK .u64 A1))),(7,sI A2)] [(2,.cells [zI .u64 4 A5]),(4,.cells [zI .u64 4 (zC 4 0)])] st
theorem ZcR.p1_ok {F1 A1 A2 A5 st r c1_ J1} (h:ZcR.p1 N F1 c1_ (A1,A2,A5)=some r) (hE:En Tryz.f150 g0 w0 (ZcR.rs r) st R) (hc1 : ∀A1 A2 A5,c1_ (A1,A2,A5)=some r→At g0 w0 (ZcR.p1.S F1 A1 A2 A5 st) J1):At g0 w0 (ZcR.p1.S F1 A1 A2 A5 st) (XK zB R (cK ZcR.B [1,1,1,0,1,0,0] :: .h J1 :: [.b 0,cK ZcR.B [1,1,1,1]])):=by
 unfold ZcR.p1 at h;refine Zbc h (fun c6 h1=>?_) (fun c6 h2=>?_)
 ·obtain ⟨c7,c8,h3⟩:=ck2 h1;obtain ⟨⟨x6,x7⟩,c9,h4⟩:=Zac h3;exact an fol [rZ,cT,.r [(6,q1 [.one (zK .u64 x6),.one (zK .u64 x7)])],rZ] [1,2,4,6,7] [2,4] (aM c6 c7 c8 (Zaj.snd c9) c7 c8) (hc1 x7 (w64 (A2-1)) (zN A5 (zD A2) x6) h4)
 exact xS fol h2 hE [rZ,cF,rZ] c6
theorem ZcR.snd {A0_0:List Int} {F1:Int} {r:(List Int)×Int} (h:ZcR N A0_0 F1=some r):ZdP zB 150 [.agg [zI .u64 4 A0_0],.one (zK .u64 F1)] (ZcR.rs r):=fun st=>
 sO ZcR.B Tryz.func150 fun g0 w0 R hE=>by
  unfold ZcR at h;refine Zbc h (fun c1 h5=>?_) (fun c1 h6=>?_)
  ·exact xS fol h5 hE [rZ,rZ,cT,rZ] c1
  exact aq fol [rZ,rZ,cF,rZ,rZ] [1,2,4,6,7] [2,4] c1 (At.loop N (At.loopN (fun y:Int×Int×(List Int)=>ZcR.p1.S F1 y.1 y.2.1 y.2.2 st) (fun c J hc y h=>ZcR.p1_ok (A1:=y.1) (A2:=y.2.1) (A5:=y.2.2) h hE (fun A1 A2 A5=>hc (A1,A2,A5))) N (0,3,A0_0) h6))
end Go.Dn.F
end
