import Derived.Test.YthiibbfaabjpgaaGreatDoorFba
set_option linter.all false
open Go.Dn.L renaming arr->zL,int->zK,ptr->zN,own->yI,bool->wD,bx->wE
open Go.Proofs.Tryz renaming prog->zC
open Int renaming toNat->zD,tdiv->zT,tmod->yB,natCast_nonneg->vP
open List renaming getD->zF,replicate->zB,set->zR,length->zG
open Option renaming isNone->xX
noncomputable section
set_option maxRecDepth 100000
namespace Go.Dn.F
open Go.Proofs
variable {N:Nat} {g0:G} {w0:World} {R:Exit->Act->World->Prop}
def ZbX.B:Code:=Tryz.f78.body.getD .skip
def ZbX.rs (r:(List Int)):List CV:=[.agg [zL .u8 32 r]]
def ZbX.p1 (N:Nat) (x1:List Int) (c1_:(ByteArray×Int)->Option (List Int)):(ByteArray×Int)->Option (List Int):=fun (A4,A2)=> if (decide (A2<32))=true then chk (0<=A2)<| chk (isB [[zK .u8 (zF x1 (zD A2) 0)]]=true)<| chk (ByteArray.size A4+ByteArray.size (Zlz (List.map Zge [[zK .u8 (zF x1 (zD A2) 0)]]))<=9223372036854775807)<| c1_ (A4++(Zlz (List.map Zge [[zK .u8 (zF x1 (zD A2) 0)]])),w64 (A2+1)) else Zbb (Zas N A4) fun x5=> some x5
def ZbX (N:Nat) (A0:ByteArray):Option (List Int):= Zbb (Zas N A0) fun x1=> loopN (ZbX.p1 N x1) N ((ByteArray.mk #[]),0)
def ZbX.S1 (A4:ByteArray) (A2:Int) (x1:List Int) (st:LL):S:=mkS 21 [(2,sA 2),(3,sA 3),(4,.one (.l (L.str A4))),(5,sI A2)] [(2,.cells [zL .u8 32 (zB 32 0)]),(3,.cells [zL .u8 32 x1])] st
def ZbX.k1 {A4 A2 x1 st r c1_ J1} (h:ZbX.p1 N x1 c1_ (A4,A2)=some r) (hE:En Tryz.f78 g0 w0 (ZbX.rs r) st R) (hc1 : ∀A4 A2,c1_ (A4,A2)=some r->At g0 w0 (ZbX.S1 A4 A2 x1 st) J1):At g0 w0 (ZbX.S1 A4 A2 x1 st) (XK zC R (cK ZbX.B [1,1,1,0,1,0,0] :: .h J1 :: [.b 0,cK ZbX.B [1,1,1,1]])):=by
 unfold ZbX.p1 at h;refine Zbd h (fun c7 h=>?_) (fun c7 h=>?_)
 ·obtain ⟨c8,c9,c10,h⟩:=ck3 h;exact an [rZ,cT,rZ,rZ] (aN c7 c8 (oD c7) z0 (eN (1)) c9 c10) (hc1 (A4++(Zlz (List.map Zge [[zK .u8 (zF x1 (zD A2) 0)]]))) (w64 (A2+1)) h)
 obtain ⟨x5,c11,h⟩:=Zab h;exact xS h hE [rZ,cF,.r [(1,q1 [.agg [zL .u8 32 x5]])]] (aI c7 (Zas.s c11))
def ZbX.s {A0:ByteArray} {r:(List Int)} (h:ZbX N A0=some r):ZdW zC 78 [.one (L.str A0)] (ZbX.rs r):=fun st=>
 sO ZbX.B Tryz.func78 fun g0 w0 R hE=>by
  unfold ZbX at h;obtain ⟨x1,c1,h⟩:=Zab h;exact aq [rZ,.r [(1,q1 [.agg [zL .u8 32 x1]])],rZ,rZ] (Zas.s c1) (At.loop N (At.loopN (fun y:ByteArray×Int=>ZbX.S1 y.1 y.2 x1 st) (fun c J hc y h=>ZbX.k1 (A4:=y.1) (A2:=y.2) h hE (fun A4 A2=>hc (A4,A2))) N ((ByteArray.mk #[]),0) h))
def ZdF.B:Code:=Tryz.f43.body.getD .skip
def ZdF.rs (r:(List Int)):List CV:=[.agg [zL .u8 32 r]]
def ZdF (N:Nat) (h_0:Zal):Option (List Int):= Zbb (Zdw N h_0) fun x1=> if (!x1)=true then some (zB 32 0) else Zbb (Zeo N h_0) fun x2=> Zbb (ZbX N x2) fun x3=> some x3
def ZdF.s {h_0:Zal} {r:(List Int)} (h:ZdF N h_0=some r):ZdW zC 43 [.agg h_0.ls] (ZdF.rs r):=fun st=>
 sO ZdF.B Tryz.func43 fun g0 w0 R hE=>by
  unfold ZdF at h;obtain ⟨x1,c1,h⟩:=Zab h;let o1:List PS:=[rZ,.r [(1,q1 [oB x1])]]
  refine Zbd h (fun c2 h=>xS h hE (o1++[cT,rZ]) (aI (Zdw.s c1) c2)) fun c2 h=>?_;obtain ⟨x2,c3,h⟩:=Zab h;obtain ⟨x3,c4,h⟩:=Zab h;exact xS h hE (o1++[cF,.r [(1,q1 [.one (L.str x2)]),(2,q1 [.agg [zL .u8 32 x3]])]]) (aK (Zdw.s c1) c2 (Zeo.s c3) (ZbX.s c4))
def ZeI.B:Code:=Tryz.f125.body.getD .skip
def ZeI.rs (r:(List Int)):List CV:=[.agg [zL .u64 4 r]]
def ZeI (N:Nat) (A0_0:List Int) (A1:Int):Option (List Int):= chk (0<=(w64 (zT A1 64)))<| chk ((w64 (zT A1 64))<4)<| chk (0<=(v64 (yB A1 64)))<| some (zR A0_0 (zD (w64 (zT A1 64))) (ZaI .or .u64 (zF A0_0 (zD (w64 (zT A1 64))) 0) (ZbP .u64 1 (v64 (yB A1 64)))))
def ZeI.s {A0_0:List Int} {A1:Int} {r:(List Int)} (h:ZeI N A0_0 A1=some r):ZdW zC 125 [.agg [zL .u64 4 A0_0],oI A1] (ZeI.rs r):=fun st=>
 sO ZeI.B Tryz.func125 fun g0 w0 R hE=>by
  unfold ZeI at h;obtain ⟨c1,c2,c3,h⟩:=ck3 h;exact xS h hE [rZ,rZ,rZ] (aO (neI 64) (neI 64) c1 c2 (neI 64) c3 c1 c2)
def Zbm.B:Code:=Tryz.f89.body.getD .skip
def Zbm.rs (r:(List Int)×Bool):List CV:=[.agg [zL .u64 4 r.1],oB r.2]
def Zbm.p2 (N:Nat) (c1_:(Int×Int×(List Int))->Option ((List Int)×Bool)) (A2 x8 x9 A1:Int) (A0_0 A1_0 A11:List Int):Option ((List Int)×Bool):= c1_ (w64 (zT (w64 ((w64 (x8+x9))+A1)) 2),w64 (A2+1),A11)
def Zbm.p1 (N:Nat) (A0_0 A1_0:List Int) (c1_:(Int×Int×(List Int))->Option ((List Int)×Bool)):(Int×Int×(List Int))->Option ((List Int)×Bool):=fun (A1,A2,A7)=> if (decide (A2<256))=true then Zbb (Zdo N A0_0 A2) fun x8=> Zbb (Zdo N A1_0 A2) fun x9=> if ((yB (w64 ((w64 (x8+x9))+A1)) 2)==1)=true then Zbb (ZeI N A7 A2) fun x10=> Zbm.p2 N c1_ A2 x8 x9 A1 A0_0 A1_0 x10 else Zbm.p2 N c1_ A2 x8 x9 A1 A0_0 A1_0 A7 else some (A7,A1==1)
def Zbm (N:Nat) (A0_0 A1_0:List Int):Option ((List Int)×Bool):= loopN (Zbm.p1 N A0_0 A1_0) N (0,0,zB 4 0)
def Zbm.S2 (A2 x8 x9 A1:Int) (A0_0 A1_0 A11:List Int) (st:LL):S:=mkS 35 [(2,sA 2),(3,sA 3),(4,sA 4),(6,sA 6),(8,sI A2),(9,sI (w64 ((w64 (x8+x9))+A1)))] [(2,.cells [zL .u64 4 A0_0]),(3,.cells [zL .u64 4 A1_0]),(4,.cells [zL .u64 4 (zB 4 0)]),(6,.cells [zL .u64 4 A11])] st
def Zbm.S1 (A1 A2:Int) (A0_0 A1_0 A7:List Int) (st:LL):S:=mkS 35 [(2,sA 2),(3,sA 3),(4,sA 4),(6,sA 6),(7,sI A1),(8,sI A2)] [(2,.cells [zL .u64 4 A0_0]),(3,.cells [zL .u64 4 A1_0]),(4,.cells [zL .u64 4 (zB 4 0)]),(6,.cells [zL .u64 4 A7])] st
def Zbm.k2 {A2 x8 x9 A1 A0_0 A1_0 A11 st r c1_ J1} (h:Zbm.p2 N c1_ A2 x8 x9 A1 A0_0 A1_0 A11=some r) (hE:En Tryz.f89 g0 w0 (Zbm.rs r) st R) (hc1 : ∀A1 A2 A7,c1_ (A1,A2,A7)=some r->At g0 w0 (Zbm.S1 A1 A2 A0_0 A1_0 A7 st) J1):At g0 w0 (Zbm.S2 A2 x8 x9 A1 A0_0 A1_0 A11 st) (XK zC R [cK Zbm.B [1,1,1,0,1,0,0,1,0,0,1,1],.b 1,cK Zbm.B [1,1,1,0,1,0,0,1,1],.h J1,.b 0,cK Zbm.B [1,1,1,1]]):=by
 unfold Zbm.p2 at h;exact an [rZ,rZ] (neI 2) (hc1 (w64 (zT (w64 ((w64 (x8+x9))+A1)) 2)) (w64 (A2+1)) A11 h)
def Zbm.k1 {A1 A2 A0_0 A1_0 A7 st r c1_ J1} (h:Zbm.p1 N A0_0 A1_0 c1_ (A1,A2,A7)=some r) (hE:En Tryz.f89 g0 w0 (Zbm.rs r) st R) (hc1 : ∀A1 A2 A7,c1_ (A1,A2,A7)=some r->At g0 w0 (Zbm.S1 A1 A2 A0_0 A1_0 A7 st) J1):At g0 w0 (Zbm.S1 A1 A2 A0_0 A1_0 A7 st) (XK zC R (cK Zbm.B [1,1,1,0,1,0,0] :: .h J1 :: [.b 0,cK Zbm.B [1,1,1,1]])):=by
 unfold Zbm.p1 at h;refine Zbd h (fun c6 h=>?_) (fun c6 h=>?_)
 ·obtain ⟨x8,c7,h⟩:=Zab h;obtain ⟨x9,c8,h⟩:=Zab h;let o1:List PS:=[rZ,cT,.d {ds:=[(2,q1 [oI x8]),(5,q1 [oI x9])],hv:=0,Hs:=[]},rZ]
  have t1 {Q:Prop} (q:Q):=aL c6 (Zdo.s c7) (Zdo.s c8) (neI 2) q;refine Zbd h (fun c9 h=>?_) (fun c9 h=>?_)
  ·obtain ⟨x10,c10,h⟩:=Zab h;exact aqd (o1++[cT,.r [(2,q1 [.agg [zL .u64 4 x10]])],.s 6]) (t1 (aI c9 (ZeI.s c10))) (Zbm.k2 h hE hc1)
  exact aqd (o1++[cF,.s 6]) (t1 c9) (Zbm.k2 h hE hc1)
 exact xS h hE [rZ,cF,rZ] c6
def Zbm.s {A0_0 A1_0:List Int} {r:(List Int)×Bool} (h:Zbm N A0_0 A1_0=some r):ZdW zC 89 [.agg [zL .u64 4 A0_0],.agg [zL .u64 4 A1_0]] (Zbm.rs r):=fun st=>
 sO Zbm.B Tryz.func89 fun g0 w0 R hE=>by
  unfold Zbm at h;exact aq [rZ,rZ,rZ,rZ] trivial (At.loop N (At.loopN (fun y:Int×Int×(List Int)=>Zbm.S1 y.1 y.2.1 A0_0 A1_0 y.2.2 st) (fun c J hc y h=>Zbm.k1 (A1:=y.1) (A2:=y.2.1) (A7:=y.2.2) h hE (fun A1 A2 A7=>hc (A1,A2,A7))) N (0,0,zB 4 0) h))
def ZbL.B:Code:=Tryz.f126.body.getD .skip
def ZbL.rs (r:(List Int)):List CV:=[.agg [zL .u64 4 r]]
def ZbL.p2 (N:Nat) (c1_:(Int×(List Int))->Option (List Int)) (A1:Int) (A0_0 A8:List Int):Option (List Int):= c1_ (w64 (A1+1),A8)
def ZbL.p1 (N:Nat) (A0_0:List Int) (c1_:(Int×(List Int))->Option (List Int)):(Int×(List Int))->Option (List Int):=fun (A1,A5)=> if (decide (A1<256))=true then Zbb (Zdo N A0_0 A1) fun x6=> if (x6==0)=true then Zbb (ZeI N A5 A1) fun x7=> ZbL.p2 N c1_ A1 A0_0 x7 else ZbL.p2 N c1_ A1 A0_0 A5 else some A5
def ZbL (N:Nat) (A0_0:List Int):Option (List Int):= loopN (ZbL.p1 N A0_0) N (0,zB 4 0)
def ZbL.S2 (A1:Int) (A0_0 A8:List Int) (st:LL):S:=mkS 18 [(1,sA 1),(2,sA 2),(3,sA 3),(4,sI A1)] [(1,.cells [zL .u64 4 A0_0]),(2,.cells [zL .u64 4 (zB 4 0)]),(3,.cells [zL .u64 4 A8])] st
def ZbL.S1 (A1:Int) (A0_0 A5:List Int) (st:LL):S:=mkS 18 [(1,sA 1),(2,sA 2),(3,sA 3),(4,sI A1)] [(1,.cells [zL .u64 4 A0_0]),(2,.cells [zL .u64 4 (zB 4 0)]),(3,.cells [zL .u64 4 A5])] st
def ZbL.k2 {A1 A0_0 A8 st r c1_ J1} (h:ZbL.p2 N c1_ A1 A0_0 A8=some r) (hE:En Tryz.f126 g0 w0 (ZbL.rs r) st R) (hc1 : ∀A1 A5,c1_ (A1,A5)=some r->At g0 w0 (ZbL.S1 A1 A0_0 A5 st) J1):At g0 w0 (ZbL.S2 A1 A0_0 A8 st) (XK zC R [cK ZbL.B [1,1,0,1,0,0,1,1],.h J1,.b 0,cK ZbL.B [1,1,1]]):=by
 unfold ZbL.p2 at h;exact an [rZ] trivial (hc1 (w64 (A1+1)) A8 h)
def ZbL.k1 {A1 A0_0 A5 st r c1_ J1} (h:ZbL.p1 N A0_0 c1_ (A1,A5)=some r) (hE:En Tryz.f126 g0 w0 (ZbL.rs r) st R) (hc1 : ∀A1 A5,c1_ (A1,A5)=some r->At g0 w0 (ZbL.S1 A1 A0_0 A5 st) J1):At g0 w0 (ZbL.S1 A1 A0_0 A5 st) (XK zC R (cK ZbL.B [1,1,0,1,0,0] :: .h J1 :: [.b 0,cK ZbL.B [1,1,1]])):=by
 unfold ZbL.p1 at h;refine Zbd h (fun c5 h=>?_) (fun c5 h=>?_)
 ·obtain ⟨x6,c6,h⟩:=Zab h;let o1:List PS:=[rZ,cT,.r [(2,q1 [oI x6])]]
  refine Zbd h (fun c7 h=>?_) (fun c7 h=>?_)
  ·obtain ⟨x7,c8,h⟩:=Zab h;exact aq (o1++[cT,.r [(2,q1 [.agg [zL .u64 4 x7]])],.s 4]) (aK c5 (Zdo.s c6) c7 (ZeI.s c8)) (ZbL.k2 h hE hc1)
  exact aq (o1++[cF,.s 4]) (aJ c5 (Zdo.s c6) c7) (ZbL.k2 h hE hc1)
 exact xS h hE [rZ,cF,rZ] c5
def ZbL.s {A0_0:List Int} {r:(List Int)} (h:ZbL N A0_0=some r):ZdW zC 126 [.agg [zL .u64 4 A0_0]] (ZbL.rs r):=fun st=>
 sO ZbL.B Tryz.func126 fun g0 w0 R hE=>by
  unfold ZbL at h;exact aq [rZ,rZ,rZ] trivial (At.loop N (At.loopN (fun y:Int×(List Int)=>ZbL.S1 y.1 A0_0 y.2 st) (fun c J hc y h=>ZbL.k1 (A1:=y.1) (A5:=y.2) h hE (fun A1 A5=>hc (A1,A5))) N (0,zB 4 0) h))
def ZdG.B:Code:=Tryz.f90.body.getD .skip
def ZdG.rs (r:(List Int)):List CV:=[.agg [zL .u64 4 r]]
def ZdG (N:Nat):Option (List Int):= Zbb (ZbL N (zB 4 0)) fun x1=> some x1
def ZdG.s {r:(List Int)} (h:ZdG N=some r):ZdW zC 90 [] (ZdG.rs r):=fun st=>
 sO ZdG.B Tryz.func90 fun g0 w0 R hE=>by
  unfold ZdG at h;obtain ⟨x1,c1,h⟩:=Zab h;exact xS h hE [rZ,.r [(1,q1 [.agg [zL .u64 4 x1]])]] (ZbL.s c1)
def ZeJ.B:Code:=Tryz.f116.body.getD .skip
def ZeJ.rs (r:(List Int)×Bool):List CV:=[.agg [zL .u64 4 r.1],oB r.2]
def ZeJ (N:Nat) (A0_0 A1_0:List Int):Option ((List Int)×Bool):= Zbb (ZbL N A1_0) fun x1=> Zbb (Zbm N A0_0 x1) fun (x2,x3)=> Zbb (Zbm N x2 [1,0,0,0]) fun (x4,x5)=> Zbb (ZbG N A0_0 A1_0) fun x6=> some (x4,x6)
def ZeJ.s {A0_0 A1_0:List Int} {r:(List Int)×Bool} (h:ZeJ N A0_0 A1_0=some r):ZdW zC 116 [.agg [zL .u64 4 A0_0],.agg [zL .u64 4 A1_0]] (ZeJ.rs r):=fun st=>
 sO ZeJ.B Tryz.func116 fun g0 w0 R hE=>by
  unfold ZeJ at h;obtain ⟨x1,c1,h⟩:=Zab h;obtain ⟨⟨x2,x3⟩,c2,h⟩:=Zab h;obtain ⟨⟨x4,x5⟩,c3,h⟩:=Zab h;obtain ⟨x6,c4,h⟩:=Zab h;exact xSd h hE [rZ,.d {ds:=[(2,q1 [.agg [zL .u64 4 x1]]),(3,q1 [.agg [zL .u64 4 x2],oB x3])],hv:=384,Hs:=[128,384]},.r [(1,{m:=3}),(2,q1 [.agg [zL .u64 4 x4],oB x5])],.d {ds:=[(3,q1 [oB x6])],hv:=16,Hs:=[16]}] (aM (ZbL.s c1) (ZbL.s c1) (Zbm.s c2) (Zbm.s c2) (Zbm.s c3) (ZbG.s c4))
def Zbz.B:Code:=Tryz.f81.body.getD .skip
def Zbz.rs (r:(List Int)):List CV:=[.agg [zL .u64 4 r]]
def Zbz.p2 (N:Nat) (c1_:(Int×(List Int)×(List Int))->Option (List Int)) (A5:Int) (A0_0 x1 A36 A37:List Int):Option (List Int):= c1_ (w64 (A5-1),A36,A37)
def Zbz.p3 (N:Nat) (A41:List Int):Option (List Int):= some A41
def Zbz.p1 (N:Nat) (A0_0 x1:List Int) (c1_:(Int×(List Int)×(List Int))->Option (List Int)):(Int×(List Int)×(List Int))->Option (List Int):=fun (A5,A23,A24)=> if (decide (A5>=0))=true then Zbb (Zap N x1 A5) fun x25=> Zbb (Zap N x25 (w64 (0-A5))) fun x26=> if (!(x26==x1))=true then Zbz.p2 N c1_ A5 A0_0 x1 A23 A24 else Zbb (ZeJ N x25 [1,0,0,0]) fun (x27,x28)=> Zbb (ZbG N A24 x27) fun x29=> if (!x29)=true then Zbb (ZeJ N A24 x25) fun (x30,x31)=> Zbb (Zap N [1,0,0,0] A5) fun x32=> Zbb (Zbm N A23 x32) fun (x33,x34)=> Zbb (ZdG N ) fun x35=> if (x30==x35)=true then some x33 else Zbz.p2 N c1_ A5 A0_0 x1 x33 x30 else Zbz.p2 N c1_ A5 A0_0 x1 A23 A24 else Zbb (ZbG N A24 A0_0) fun x38=> if (!x38)=true then Zbb (Zbm N A23 [1,0,0,0]) fun (x39,x40)=> Zbz.p3 N x39 else Zbz.p3 N A23
def Zbz (N:Nat) (A0_0:List Int):Option (List Int):= Zbb (Zbm N A0_0 [1,0,0,0]) fun (x1,x2)=> if x2=true then some [1,0,0,0] else if (A0_0==(zB 4 0))=true then Zbb (ZdG N ) fun x3=> some x3 else Zbb (ZdG N ) fun x4=> loopN (Zbz.p1 N A0_0 x1) N (255,zB 4 0,x4)
def Zbz.S2 (A5:Int) (A0_0 x1 A36 A37:List Int) (st:LL):S:=mkS 79 [(1,sA 1),(2,sA 2),(3,sA 3),(4,sA 4),(6,sA 6),(7,sA 7),(8,sI A5)] [(1,.cells [zL .u64 4 A0_0]),(2,.cells [zL .u64 4 (zB 4 0)]),(3,.cells [zL .u64 4 [1,0,0,0]]),(4,.cells [zL .u64 4 x1]),(6,.cells [zL .u64 4 A36]),(7,.cells [zL .u64 4 A37])] st
def Zbz.S3 (A41:List Int) (st:LL):S:=mkS 79 [(2,sA 2),(6,sA 6)] [(2,.cells [zL .u64 4 (zB 4 0)]),(6,.cells [zL .u64 4 A41])] st
def Zbz.S1 (A5:Int) (A0_0 x1 A23 A24:List Int) (st:LL):S:=mkS 79 [(1,sA 1),(2,sA 2),(3,sA 3),(4,sA 4),(6,sA 6),(7,sA 7),(8,sI A5)] [(1,.cells [zL .u64 4 A0_0]),(2,.cells [zL .u64 4 (zB 4 0)]),(3,.cells [zL .u64 4 [1,0,0,0]]),(4,.cells [zL .u64 4 x1]),(6,.cells [zL .u64 4 A23]),(7,.cells [zL .u64 4 A24])] st
def Zbz.k2 {A5 A0_0 x1 A36 A37 st r c1_ J1} (h:Zbz.p2 N c1_ A5 A0_0 x1 A36 A37=some r) (hE:En Tryz.f81 g0 w0 (Zbz.rs r) st R) (hc1 : ∀A5 A23 A24,c1_ (A5,A23,A24)=some r->At g0 w0 (Zbz.S1 A5 A0_0 x1 A23 A24 st) J1):At g0 w0 (Zbz.S2 A5 A0_0 x1 A36 A37 st) (XK zC R [cK Zbz.B [1,1,1,1,1,1,1,0,1,0,0,1,1],.h J1,.b 0,cK Zbz.B [1,1,1,1,1,1,1,1]]):=by
 unfold Zbz.p2 at h;exact an [rZ] trivial (hc1 (w64 (A5-1)) A36 A37 h)
def Zbz.k3 {A41 st r} (h:Zbz.p3 N A41=some r) (hE:En Tryz.f81 g0 w0 (Zbz.rs r) st R):At g0 w0 (Zbz.S3 A41 st) (XK zC R [cK Zbz.B [1,1,1,1,1,1,1,1,1]]):=by
 unfold Zbz.p3 at h;exact xS h hE [rZ] trivial
def Zbz.k1 {A5 A0_0 x1 A23 A24 st r c1_ J1} (h:Zbz.p1 N A0_0 x1 c1_ (A5,A23,A24)=some r) (hE:En Tryz.f81 g0 w0 (Zbz.rs r) st R) (hc1 : ∀A5 A23 A24,c1_ (A5,A23,A24)=some r->At g0 w0 (Zbz.S1 A5 A0_0 x1 A23 A24 st) J1):At g0 w0 (Zbz.S1 A5 A0_0 x1 A23 A24 st) (XK zC R (cK Zbz.B [1,1,1,1,1,1,1,0,1,0,0] :: .h J1 :: [.b 0,cK Zbz.B [1,1,1,1,1,1,1,1]])):=by
 unfold Zbz.p1 at h;refine Zbd h (fun c21 h=>?_) (fun c21 h=>?_)
 ·obtain ⟨x25,c22,h⟩:=Zab h;obtain ⟨x26,c23,h⟩:=Zab h;let o1:List PS:=[rZ,cT,.r [(2,q1 [.agg [zL .u64 4 x25]])],.d {ds:=[(3,q1 [.agg [zL .u64 4 x26]])],hv:=0,Hs:=[]}]
  have t1 {Q:Prop} (q:Q):=aK c21 (Zap.s c22) (Zap.s c23) q;refine Zbd h (fun c24 h=>aqd (o1++[cT,.s 4]) (t1 c24) (Zbz.k2 h hE hc1)) fun c24 h=>?_;obtain ⟨⟨x27,x28⟩,c25,h⟩:=Zab h;obtain ⟨x29,c26,h⟩:=Zab h;let o2:List PS:=o1++[cF,.r [(2,q1 [.agg [zL .u64 4 x27],oB x28])],.r [(2,q1 [oB x29])]]
  have t2 {Q:Prop} (q:Q):=t1 (aK c24 (ZeJ.s c25) (ZbG.s c26) q);refine Zbd h (fun c27 h=>?_) (fun c27 h=>?_)
  ·obtain ⟨⟨x30,x31⟩,c28,h⟩:=Zab h;obtain ⟨x32,c29,h⟩:=Zab h;obtain ⟨⟨x33,x34⟩,c30,h⟩:=Zab h;obtain ⟨x35,c31,h⟩:=Zab h;let o3:List PS:=o2++[cT,.r [(2,q1 [.agg [zL .u64 4 x30],oB x31])],.d {ds:=[(3,q1 [.agg [zL .u64 4 x32]]),(4,q1 [.agg [zL .u64 4 x33],oB x34])],hv:=256,Hs:=[256]},.d {ds:=[(1,q1 [.agg [zL .u64 4 x35]])],hv:=0,Hs:=[]}]
   have t3 {Q:Prop} (q:Q):=t2 (aM c27 (ZeJ.s c28) (Zap.s c29) (Zbm.s c30) (ZdG.s c31) q);exact Zbd h (fun c32 h=>xSd h hE (o3++[cT,rZ]) (t3 c32)) fun c32 h=>aqd (o3++[cF,.s 4]) (t3 c32) (Zbz.k2 h hE hc1)
  exact aqd (o2++[cF,.s 4]) (t2 c27) (Zbz.k2 h hE hc1)
 obtain ⟨x38,c33,h⟩:=Zab h;let o4:List PS:=[rZ,cF,.r [(2,q1 [oB x38])]]
 refine Zbd h (fun c34 h=>?_) (fun c34 h=>?_)
 ·obtain ⟨⟨x39,x40⟩,c35,h⟩:=Zab h;exact aq (o4++[cT,.r [(2,q1 [.agg [zL .u64 4 x39],oB x40])],.s 1]) (aK c21 (ZbG.s c33) c34 (Zbm.s c35)) (Zbz.k3 h hE)
 exact aq (o4++[cF,.s 1]) (aJ c21 (ZbG.s c33) c34) (Zbz.k3 h hE)
def Zbz.s {A0_0:List Int} {r:(List Int)} (h:Zbz N A0_0=some r):ZdW zC 81 [.agg [zL .u64 4 A0_0]] (Zbz.rs r):=fun st=>
 sO Zbz.B Tryz.func81 fun g0 w0 R hE=>by
  unfold Zbz at h;obtain ⟨⟨x1,x2⟩,c1,h⟩:=Zab h;let o5:List PS:=[rZ,.r [(0,{m:=3})],.r [(2,q1 [.agg [zL .u64 4 x1],oB x2])],rZ]
  have t4 {Q:Prop} (q:Q):=aI (Zbm.s c1) q;refine Zbd h (fun c2 h=>xS h hE (o5++[cT,rZ]) (t4 c2)) fun c2 h=>?_;refine Zbd h (fun c3 h=>?_) (fun c3 h=>?_)
  ·obtain ⟨x3,c4,h⟩:=Zab h;exact xS h hE (o5++[cF,rZ,cT,.r [(0,q1 [.agg [zL .u64 4 x3]])]]) (t4 (aJ c2 c3 (ZdG.s c4)))
  obtain ⟨x4,c5,h⟩:=Zab h;exact aq (o5++[cF,rZ,cF,rZ,.r [(0,q1 [.agg [zL .u64 4 x4]])],rZ]) (t4 (aJ c2 c3 (ZdG.s c5))) (At.loop N (At.loopN (fun y:Int×(List Int)×(List Int)=>Zbz.S1 y.1 A0_0 x1 y.2.1 y.2.2 st) (fun c J hc y h=>Zbz.k1 (A5:=y.1) (A23:=y.2.1) (A24:=y.2.2) h hE (fun A5 A23 A24=>hc (A5,A23,A24))) N (255,zB 4 0,x4) h))
def ZcG.B:Code:=Tryz.f44.body.getD .skip
def ZcG.rs (r:(List Int)):List CV:=[.agg [zL .u64 4 r]]
def ZcG (N:Nat) (A0:Int):Option (List Int):= Zbb (ZaT N A0) fun (x1,x2,x3)=> if x2=true then some (zB 4 0) else if x3=true then some (zB 4 0) else if (x1==(zB 4 0))=true then some (zB 4 0) else Zbb (Zbz N x1) fun x4=> some x4
def ZcG.s {A0:Int} {r:(List Int)} (h:ZcG N A0=some r):ZdW zC 44 [oI A0] (ZcG.rs r):=fun st=>
 sO ZcG.B Tryz.func44 fun g0 w0 R hE=>by
  unfold ZcG at h;obtain ⟨⟨x1,x2,x3⟩,c1,h⟩:=Zab h;let o1:List PS:=[rZ,.r [(1,q1 [.agg [zL .u64 4 x1],oB x2,oB x3])]]
  have t1 {Q:Prop} (q:Q):=aI (ZaT.s c1) q;refine Zbd h (fun c2 h=>xS h hE (o1++[.r [(2,wF),(5,wF),(6,wF),(7,wF)],cT,rZ]) (t1 (aN c2 c2 eT eT eT eT eT))) fun c2 h=>?_;refine Zbd h (fun c3 h=>xS h hE (o1++[.r [(3,yF),(5,wF),(6,wF),(7,wF)],cT,rZ]) (t1 (aN c2 c2 c3 c3 c3 c3 eT))) fun c3 h=>?_;let o2:List PS:=o1++[.r [(3,yF),(8,yF)]]
  refine Zbd h (fun c4 h=>xS h hE (o2++[cT,rZ]) (t1 (aN c2 c2 c3 c3 c3 c3 c4))) fun c4 h=>?_;obtain ⟨x4,c5,h⟩:=Zab h;exact xS h hE (o2++[cF,.r [(1,q1 [.agg [zL .u64 4 x4]])]]) (t1 (aO c2 c2 c3 c3 c3 c3 c4 (Zbz.s c5)))
def Zfg.B:Code:=Tryz.f19.body.getD .skip
def Zfg.rs (r:(Option Nat)×LL):List CV:=[.one (zN r.1)]
def Zfg (N:Nat) (A0:Zae) (A1:Int) (st:LL):Option ((Option Nat)×LL):= Zbb (ZdF N A0.Genesis) fun x1=> Zbb (ZcG N A0.Genesis.Bits) fun x2=> some ((some (zG st)),st++[Zad.lo (Zad.mk A0 [A0.Genesis.ls] [[zL .u8 32 x1]] [[zK .i64 (-1)]] [[zL .u64 4 x2]] (if (512:Int)<(if (1:Int)>A1 then 1 else A1) then 512 else (if (1:Int)>A1 then 1 else A1)))])
def Zfg.s {A0:Zae} {A1:Int} {st:LL} {r:(Option Nat)×LL} (h:Zfg N A0 A1 st=some r):Snd zC 19 [.agg A0.ls,oI A1] st (Zfg.rs r) r.2:=
 sO Zfg.B Tryz.func19 fun g0 w0 R hE=>by
  unfold Zfg at h;obtain ⟨x1,c1,h⟩:=Zab h;obtain ⟨x2,c2,h⟩:=Zab h;exact xTd h hE [rZ,.d {ds:=[(6,q1 [.agg [zL .u8 32 x1]]),(12,q1 [.agg [zL .u64 4 x2]]),(17,{mv:=[15,16,17,18]}),(18,{m:=1,mv:=[8,12,13,18],fz:=[8,12,13,18]})],hv:=270728,Hs:=[8,128,136,256,264,384,392,8192,8200,8320,8328,8448,8456,8576,8584,270728]}] (aO (ZdF.s c1) (ZdF.s c1) (ZdF.s c1) (ZdF.s c1) (ZcG.s c2) (ZcG.s c2) (ZcG.s c2) (aO (ZcG.s c2) (ZcG.s c2) (ZcG.s c2) (ZcG.s c2) (ZcG.s c2) z0 (eN (1)) (aM z0 (eN (1)) z0 (eN (1)) z0 (eN (1)))))
def Zfx.B:Code:=Tryz.f42.body.getD .skip
def Zfx.rs (r:(Option Nat)×LL):List CV:=[.one (zN r.1)]
def Zfx (N:Nat) (st:LL):Option ((Option Nat)×LL):= some ((some (zG st)),zR (st++[ZbD.ls (ZbD.mk (zB 600 0) (zB 600 false))]) (zG st) (ZbD.ls (ZbD.mk (zR (zB 600 0) 0 1) (zB 600 false))))
def Zfx.s {st:LL} {r:(Option Nat)×LL} (h:Zfx N st=some r):Snd zC 42 [] st (Zfx.rs r) r.2:=
 sO Zfx.B Tryz.func42 fun g0 w0 R hE=>by
  unfold Zfx at h;exact xT h hE [rZ,.r [(1,{m:=1})],.r [(4,{oc:=[zL .i64 600 (zB 600 0),L.brr 600 (zB 600 false)]})],rZ] (ix 0 600 (st_new st (ZbD.ls (ZbD.mk (zB 600 0) (zB 600 false)))))
def Zfw.B:Code:=Tryz.f18.body.getD .skip
def Zfw.rs (r:(Option Nat)×LL):List CV:=[.one (zN r.1)]
def Zfw (N:Nat) (A0:Option Nat) (st:LL):Option ((Option Nat)×LL):= Zbb (Zfx N st) fun (x1,st2)=> some ((some (zG st2)),st2++[[zN A0,zN x1,yI true 1 [[zK .i64 0]]]])
def Zfw.s {A0:Option Nat} {st:LL} {r:(Option Nat)×LL} (h:Zfw N A0 st=some r):Snd zC 18 [.one (zN A0)] st (Zfw.rs r) r.2:=
 sO Zfw.B Tryz.func18 fun g0 w0 R hE=>by
  unfold Zfw at h;obtain ⟨⟨x1,st2⟩,c1,h⟩:=Zab h;exact xT h hE [rZ,.r [(1,{rs:=[.one (zN x1)],st:=st2}),(3,{ns:=[2]}),(4,{m:=1,mv:=[5]})]] (aJ (Zfx.s c1) z0 (eN (1)))
def Zep.B:Code:=Tryz.f6.body.getD .skip
def Zep.rs (r:(Option Nat)×LL):List CV:=[.one (zN r.1)]
def Zep (N:Nat) (A0:Zae) (st:LL):Option ((Option Nat)×LL):= Zbb (Zfe N A0 100 st) fun (x1,x2,st3)=> Zbb (Zfg N A0 100 st3) fun (x4,st5)=> Zbb (Zfw N x4 st5) fun (x6,st7)=> some ((some (zG st7)),st7++[[zN x1,zN x6]])
def Zep.s {A0:Zae} {st:LL} {r:(Option Nat)×LL} (h:Zep N A0 st=some r):Snd zC 6 [.agg A0.ls] st (Zep.rs r) r.2:=
 sO Zep.B Tryz.func6 fun g0 w0 R hE=>by
  unfold Zep at h;obtain ⟨⟨x1,x2,st3⟩,c1,h⟩:=Zab h;obtain ⟨⟨x4,st5⟩,c2,h⟩:=Zab h;obtain ⟨⟨x6,st7⟩,c3,h⟩:=Zab h;exact xT h hE [rZ,.r [(1,{rs:=[.one (zN x1),oI x2],st:=st3})],.r [(2,{rs:=[.one (zN x4)],st:=st5}),(3,{rs:=[.one (zN x6)],st:=st7}),(5,{m:=1})]] (aJ (Zfe.s c1) (Zfg.s c2) (Zfw.s c3))
def ZfE.B:Code:=Tryz.f178.body.getD .skip
def ZfE.rs (r:Int):List CV:=[oI r]
def ZfE (N:Nat) (A0:Zae) (A1 A2:Int):Option Int:= some (if (w64 ((w64 (A0.Interval*A0.Spacing))*4))<(if (w64 (zT (w64 (A0.Interval*A0.Spacing)) 4))>(w64 (A2-A1)) then (w64 (zT (w64 (A0.Interval*A0.Spacing)) 4)) else (w64 (A2-A1))) then (w64 ((w64 (A0.Interval*A0.Spacing))*4)) else (if (w64 (zT (w64 (A0.Interval*A0.Spacing)) 4))>(w64 (A2-A1)) then (w64 (zT (w64 (A0.Interval*A0.Spacing)) 4)) else (w64 (A2-A1))))
def ZfE.s {A0:Zae} {A1 A2:Int} {r:Int} (h:ZfE N A0 A1 A2=some r):ZdW zC 178 [.agg A0.ls,oI A1,oI A2] (ZfE.rs r):=fun st=>
 sO ZfE.B Tryz.func178 fun g0 w0 R hE=>by
  unfold ZfE at h;exact xS h hE [rZ,rZ,rZ] (neI 4)
def Zcc.B:Code:=Tryz.f195.body.getD .skip
def Zcc.rs (r:Int):List CV:=[oI r]
def Zcc (N:Nat) (A0:Int):Option Int:= Zbb (ZaC N A0) fun x1=> some (w64 (64-x1))
def Zcc.s {A0:Int} {r:Int} (h:Zcc N A0=some r):ZdW zC 195 [.one (zK .u64 A0)] (Zcc.rs r):=fun st=>
 sO Zcc.B Tryz.func195 fun g0 w0 R hE=>by
  unfold Zcc at h;obtain ⟨x1,c1,h⟩:=Zab h;exact xS h hE [rZ,.r [(1,q1 [oI x1])]] (ZaC.s c1)
def Zak.B:Code:=Tryz.f188.body.getD .skip
def Zak.rs (r:Int×Int):List CV:=[.one (zK .u64 r.1),.one (zK .u64 r.2)]
def Zak.p6 (N:Nat) (A2 x1 A1 A4 A0 A7:Int):Option (Int×Int):= chk (0<=(v64 (x1)))<| some (v64 ((v64 (A4*4294967296))+A7),Zbx .u64 (v64 ((v64 ((v64 ((v64 ((v64 ((v64 ((ZaI .or .u64 (ZbP .u64 A0 (v64 (x1))) (Zbx .u64 A1 (v64 (64-(v64 (x1))))))*4294967296))+(Zbx .u64 (ZbP .u64 A1 (v64 (x1))) 32)))-(v64 (A4*(ZbP .u64 A2 (v64 (x1)))))))*4294967296))+(ZaI .and .u64 (ZbP .u64 A1 (v64 (x1))) 4294967295)))-(v64 (A7*(ZbP .u64 A2 (v64 (x1))))))) (v64 (x1)))
def Zak.p5 (N:Nat) (c4_:(Int×Int)->Option (Int×Int)) (A2 x1 A1 A4 A5 A0 A6:Int):Option (Int×Int):= if (decide ((v64 (A5+(Zbx .u64 (ZbP .u64 A2 (v64 (x1))) 32)))>=4294967296))=true then Zak.p6 N A2 x1 A1 A4 A0 (v64 (A6-1)) else c4_ (v64 (A5+(Zbx .u64 (ZbP .u64 A2 (v64 (x1))) 32)),v64 (A6-1))
def Zak.p4 (N:Nat) (A2 x1 A1 A4 A0:Int) (c4_:(Int×Int)->Option (Int×Int)):(Int×Int)->Option (Int×Int):=fun (A5,A6)=> if (decide (A6>=4294967296))=true then Zak.p5 N c4_ A2 x1 A1 A4 A5 A0 A6 else if (decide ((v64 (A6*(ZaI .and .u64 (ZbP .u64 A2 (v64 (x1))) 4294967295)))>(v64 ((v64 (4294967296*A5))+(ZaI .and .u64 (ZbP .u64 A1 (v64 (x1))) 4294967295)))))=true then Zak.p5 N c4_ A2 x1 A1 A4 A5 A0 A6 else Zak.p6 N A2 x1 A1 A4 A0 A6
def Zak.p3 (N:Nat) (A2 x1 A0 A1 A4:Int):Option (Int×Int):= chk ((Zbx .u64 (ZbP .u64 A2 (v64 (x1))) 32)≠0)<| loopN (Zak.p4 N A2 x1 A1 A4 A0) N (v64 ((v64 ((v64 ((v64 ((ZaI .or .u64 (ZbP .u64 A0 (v64 (x1))) (Zbx .u64 A1 (v64 (64-(v64 (x1))))))*4294967296))+(Zbx .u64 (ZbP .u64 A1 (v64 (x1))) 32)))-(v64 (A4*(ZbP .u64 A2 (v64 (x1)))))))-(v64 ((v64 (zT (v64 ((v64 ((v64 ((ZaI .or .u64 (ZbP .u64 A0 (v64 (x1))) (Zbx .u64 A1 (v64 (64-(v64 (x1))))))*4294967296))+(Zbx .u64 (ZbP .u64 A1 (v64 (x1))) 32)))-(v64 (A4*(ZbP .u64 A2 (v64 (x1))))))) (Zbx .u64 (ZbP .u64 A2 (v64 (x1))) 32)))*(Zbx .u64 (ZbP .u64 A2 (v64 (x1))) 32)))),v64 (zT (v64 ((v64 ((v64 ((ZaI .or .u64 (ZbP .u64 A0 (v64 (x1))) (Zbx .u64 A1 (v64 (64-(v64 (x1))))))*4294967296))+(Zbx .u64 (ZbP .u64 A1 (v64 (x1))) 32)))-(v64 (A4*(ZbP .u64 A2 (v64 (x1))))))) (Zbx .u64 (ZbP .u64 A2 (v64 (x1))) 32)))
def Zak.p2 (N:Nat) (c1_:(Int×Int)->Option (Int×Int)) (A2 x1 A0 A1 F2 A3:Int):Option (Int×Int):= if (decide ((v64 (A3+(Zbx .u64 (ZbP .u64 A2 (v64 (x1))) 32)))>=4294967296))=true then Zak.p3 N A2 x1 A0 A1 (v64 (F2-1)) else c1_ (v64 (F2-1),v64 (A3+(Zbx .u64 (ZbP .u64 A2 (v64 (x1))) 32)))
def Zak.p1 (N:Nat) (A2 x1 A0 A1:Int) (c1_:(Int×Int)->Option (Int×Int)):(Int×Int)->Option (Int×Int):=fun (F2,A3)=> if (decide (F2>=4294967296))=true then Zak.p2 N c1_ A2 x1 A0 A1 F2 A3 else if (decide ((v64 (F2*(ZaI .and .u64 (ZbP .u64 A2 (v64 (x1))) 4294967295)))>(v64 ((v64 (4294967296*A3))+(Zbx .u64 (ZbP .u64 A1 (v64 (x1))) 32)))))=true then Zak.p2 N c1_ A2 x1 A0 A1 F2 A3 else Zak.p3 N A2 x1 A0 A1 F2
def Zak (N:Nat) (A0 A1 A2:Int):Option (Int×Int):= if (A2==0)=true then none else if (decide (A2<=A0))=true then none else if (A0==0)=true then chk (A2≠0)<| some (v64 (zT A1 A2),yB A1 A2) else Zbb (Zcc N A2) fun x1=> chk (0<=(v64 (x1)))<| chk (0<=(v64 (64-(v64 (x1)))))<| chk ((Zbx .u64 (ZbP .u64 A2 (v64 (x1))) 32)≠0)<| loopN (Zak.p1 N A2 x1 A0 A1) N (v64 (zT (ZaI .or .u64 (ZbP .u64 A0 (v64 (x1))) (Zbx .u64 A1 (v64 (64-(v64 (x1)))))) (Zbx .u64 (ZbP .u64 A2 (v64 (x1))) 32)),v64 ((ZaI .or .u64 (ZbP .u64 A0 (v64 (x1))) (Zbx .u64 A1 (v64 (64-(v64 (x1))))))-(v64 ((v64 (zT (ZaI .or .u64 (ZbP .u64 A0 (v64 (x1))) (Zbx .u64 A1 (v64 (64-(v64 (x1)))))) (Zbx .u64 (ZbP .u64 A2 (v64 (x1))) 32)))*(Zbx .u64 (ZbP .u64 A2 (v64 (x1))) 32)))))
def Zak.S6 (A2 x1 A1 A4 A0 A7:Int) (st:LL):S:=mkS 135 [(2,.one (.l (zK .u64 (ZbP .u64 A2 (v64 (x1)))))),(8,.one (.l (zK .u64 (v64 (x1))))),(14,.one (.l (zK .u64 (ZaI .and .u64 (ZbP .u64 A1 (v64 (x1))) 4294967295)))),(15,.one (.l (zK .u64 A4))),(17,.one (.l (zK .u64 (v64 ((v64 ((v64 ((ZaI .or .u64 (ZbP .u64 A0 (v64 (x1))) (Zbx .u64 A1 (v64 (64-(v64 (x1))))))*4294967296))+(Zbx .u64 (ZbP .u64 A1 (v64 (x1))) 32)))-(v64 (A4*(ZbP .u64 A2 (v64 (x1)))))))))),(18,.one (.l (zK .u64 A7)))] [] st
def Zak.S5 (A2 x1 A1 A4 A5 A0 A6:Int) (st:LL):S:=mkS 135 [(2,.one (.l (zK .u64 (ZbP .u64 A2 (v64 (x1)))))),(8,.one (.l (zK .u64 (v64 (x1))))),(9,.one (.l (zK .u64 (Zbx .u64 (ZbP .u64 A2 (v64 (x1))) 32)))),(10,.one (.l (zK .u64 (ZaI .and .u64 (ZbP .u64 A2 (v64 (x1))) 4294967295)))),(14,.one (.l (zK .u64 (ZaI .and .u64 (ZbP .u64 A1 (v64 (x1))) 4294967295)))),(15,.one (.l (zK .u64 A4))),(16,.one (.l (zK .u64 A5))),(17,.one (.l (zK .u64 (v64 ((v64 ((v64 ((ZaI .or .u64 (ZbP .u64 A0 (v64 (x1))) (Zbx .u64 A1 (v64 (64-(v64 (x1))))))*4294967296))+(Zbx .u64 (ZbP .u64 A1 (v64 (x1))) 32)))-(v64 (A4*(ZbP .u64 A2 (v64 (x1)))))))))),(18,.one (.l (zK .u64 A6)))] [] st
def Zak.S4 (A2 x1 A1 A4 A5 A0 A6:Int) (st:LL):S:=mkS 135 [(2,.one (.l (zK .u64 (ZbP .u64 A2 (v64 (x1)))))),(8,.one (.l (zK .u64 (v64 (x1))))),(9,.one (.l (zK .u64 (Zbx .u64 (ZbP .u64 A2 (v64 (x1))) 32)))),(10,.one (.l (zK .u64 (ZaI .and .u64 (ZbP .u64 A2 (v64 (x1))) 4294967295)))),(14,.one (.l (zK .u64 (ZaI .and .u64 (ZbP .u64 A1 (v64 (x1))) 4294967295)))),(15,.one (.l (zK .u64 A4))),(16,.one (.l (zK .u64 A5))),(17,.one (.l (zK .u64 (v64 ((v64 ((v64 ((ZaI .or .u64 (ZbP .u64 A0 (v64 (x1))) (Zbx .u64 A1 (v64 (64-(v64 (x1))))))*4294967296))+(Zbx .u64 (ZbP .u64 A1 (v64 (x1))) 32)))-(v64 (A4*(ZbP .u64 A2 (v64 (x1)))))))))),(18,.one (.l (zK .u64 A6)))] [] st
def Zak.S3 (A2 x1 A0 A1 A4:Int) (st:LL):S:=mkS 135 [(2,.one (.l (zK .u64 (ZbP .u64 A2 (v64 (x1)))))),(8,.one (.l (zK .u64 (v64 (x1))))),(9,.one (.l (zK .u64 (Zbx .u64 (ZbP .u64 A2 (v64 (x1))) 32)))),(10,.one (.l (zK .u64 (ZaI .and .u64 (ZbP .u64 A2 (v64 (x1))) 4294967295)))),(11,.one (.l (zK .u64 (ZaI .or .u64 (ZbP .u64 A0 (v64 (x1))) (Zbx .u64 A1 (v64 (64-(v64 (x1))))))))),(13,.one (.l (zK .u64 (Zbx .u64 (ZbP .u64 A1 (v64 (x1))) 32)))),(14,.one (.l (zK .u64 (ZaI .and .u64 (ZbP .u64 A1 (v64 (x1))) 4294967295)))),(15,.one (.l (zK .u64 A4)))] [] st
def Zak.S2 (A2 x1 A0 A1 F2 A3:Int) (st:LL):S:=mkS 135 [(2,.one (.l (zK .u64 (ZbP .u64 A2 (v64 (x1)))))),(8,.one (.l (zK .u64 (v64 (x1))))),(9,.one (.l (zK .u64 (Zbx .u64 (ZbP .u64 A2 (v64 (x1))) 32)))),(10,.one (.l (zK .u64 (ZaI .and .u64 (ZbP .u64 A2 (v64 (x1))) 4294967295)))),(11,.one (.l (zK .u64 (ZaI .or .u64 (ZbP .u64 A0 (v64 (x1))) (Zbx .u64 A1 (v64 (64-(v64 (x1))))))))),(13,.one (.l (zK .u64 (Zbx .u64 (ZbP .u64 A1 (v64 (x1))) 32)))),(14,.one (.l (zK .u64 (ZaI .and .u64 (ZbP .u64 A1 (v64 (x1))) 4294967295)))),(15,.one (.l (zK .u64 F2))),(16,.one (.l (zK .u64 A3)))] [] st
def Zak.S1 (A2 x1 A0 A1 F2 A3:Int) (st:LL):S:=mkS 135 [(2,.one (.l (zK .u64 (ZbP .u64 A2 (v64 (x1)))))),(8,.one (.l (zK .u64 (v64 (x1))))),(9,.one (.l (zK .u64 (Zbx .u64 (ZbP .u64 A2 (v64 (x1))) 32)))),(10,.one (.l (zK .u64 (ZaI .and .u64 (ZbP .u64 A2 (v64 (x1))) 4294967295)))),(11,.one (.l (zK .u64 (ZaI .or .u64 (ZbP .u64 A0 (v64 (x1))) (Zbx .u64 A1 (v64 (64-(v64 (x1))))))))),(13,.one (.l (zK .u64 (Zbx .u64 (ZbP .u64 A1 (v64 (x1))) 32)))),(14,.one (.l (zK .u64 (ZaI .and .u64 (ZbP .u64 A1 (v64 (x1))) 4294967295)))),(15,.one (.l (zK .u64 F2))),(16,.one (.l (zK .u64 A3)))] [] st
def Zak.k6 {A2 x1 A1 A4 A0 A7 st r} (h:Zak.p6 N A2 x1 A1 A4 A0 A7=some r) (hE:En Tryz.f188 g0 w0 (Zak.rs r) st R):At g0 w0 (Zak.S6 A2 x1 A1 A4 A0 A7 st) (XK zC R [cK Zak.B [1,1,1,1,1,1,1,1,1,1,1,1,1,1,1,1,1,1,1]]):=by
 unfold Zak.p6 at h;obtain ⟨c16,h⟩:=Zba h;exact xS h hE [rZ] c16
def Zak.k5 {A2 x1 A1 A4 A5 A0 A6 st r c4_ J4} (h:Zak.p5 N c4_ A2 x1 A1 A4 A5 A0 A6=some r) (hE:En Tryz.f188 g0 w0 (Zak.rs r) st R) (hc4 : ∀A5 A6,c4_ (A5,A6)=some r->At g0 w0 (Zak.S4 A2 x1 A1 A4 A5 A0 A6 st) J4):At g0 w0 (Zak.S5 A2 x1 A1 A4 A5 A0 A6 st) (XK zC R [cK Zak.B [1,1,1,1,1,1,1,1,1,1,1,1,1,1,1,1,1,1,0,0,0,1],.h J4,.b 2,cK Zak.B [1,1,1,1,1,1,1,1,1,1,1,1,1,1,1,1,1,1,1]]):=by
 unfold Zak.p5 at h;exact Zbd h (fun c15 h=>aq [rZ,rZ,rZ,cT,.s 1] c15 (Zak.k6 h hE)) fun c15 h=>an [rZ,rZ,rZ,cF] c15 (hc4 (v64 (A5+(Zbx .u64 (ZbP .u64 A2 (v64 (x1))) 32))) (v64 (A6-1)) h)
def Zak.k4 {A2 x1 A1 A4 A5 A0 A6 st r c4_ J4} (h:Zak.p4 N A2 x1 A1 A4 A0 c4_ (A5,A6)=some r) (hE:En Tryz.f188 g0 w0 (Zak.rs r) st R) (hc4 : ∀A5 A6,c4_ (A5,A6)=some r->At g0 w0 (Zak.S4 A2 x1 A1 A4 A5 A0 A6 st) J4):At g0 w0 (Zak.S4 A2 x1 A1 A4 A5 A0 A6 st) (XK zC R (cK Zak.B [1,1,1,1,1,1,1,1,1,1,1,1,1,1,1,1,1,1,0,0,0] :: .h J4 :: [.b 2,cK Zak.B [1,1,1,1,1,1,1,1,1,1,1,1,1,1,1,1,1,1,1]])):=by
 unfold Zak.p4 at h;refine Zbd h (fun c13 h=>aq [.r [(3,wF),(4,wF),(5,wF),(6,wF),(7,wF),(8,wF),(9,wF),(10,wF)],cT,.s 4] (aO c13 c13 c13 c13 c13 c13 c13 (aJ c13 c13 eT)) (Zak.k5 h hE hc4)) fun c13 h=>?_;have t1 {Q:Prop} (q:Q):=aO c13 c13 c13 c13 c13 c13 c13 (aJ c13 c13 q);exact Zbd h (fun c14 h=>aq [.r [(11,yF)],cT,.s 4] (t1 c14) (Zak.k5 h hE hc4)) fun c14 h=>aq [.r [(11,yF)],cF,.s 1] (t1 c14) (Zak.k6 h hE)
def Zak.k3 {A2 x1 A0 A1 A4 st r} (h:Zak.p3 N A2 x1 A0 A1 A4=some r) (hE:En Tryz.f188 g0 w0 (Zak.rs r) st R):At g0 w0 (Zak.S3 A2 x1 A0 A1 A4 st) (XK zC R [cK Zak.B [1,1,1,1,1,1,1,1,1,1,1,1,1,1,1]]):=by
 unfold Zak.p3 at h;obtain ⟨c12,h⟩:=Zba h;let u6:=v64 ((v64 ((v64 ((ZaI .or .u64 (ZbP .u64 A0 (v64 (x1))) (Zbx .u64 A1 (v64 (64-(v64 (x1))))))*4294967296))+(Zbx .u64 (ZbP .u64 A1 (v64 (x1))) 32)))-(v64 (A4*(ZbP .u64 A2 (v64 (x1))))));let u7:=Zbx .u64 (ZbP .u64 A2 (v64 (x1))) 32;exact aq [rZ,rZ,rZ] c12 (At.loop N (At.loopN (fun y:Int×Int=>Zak.S4 A2 x1 A1 A4 y.1 A0 y.2 st) (fun c J hc y h=>Zak.k4 (A5:=y.1) (A6:=y.2) h hE (fun A5 A6=>hc (A5,A6))) N (v64 (u6-(v64 ((v64 (zT u6 u7))*u7))),v64 (zT u6 u7)) h))
def Zak.k2 {A2 x1 A0 A1 F2 A3 st r c1_ J1} (h:Zak.p2 N c1_ A2 x1 A0 A1 F2 A3=some r) (hE:En Tryz.f188 g0 w0 (Zak.rs r) st R) (hc1 : ∀F2 A3,c1_ (F2,A3)=some r->At g0 w0 (Zak.S1 A2 x1 A0 A1 F2 A3 st) J1):At g0 w0 (Zak.S2 A2 x1 A0 A1 F2 A3 st) (XK zC R [cK Zak.B [1,1,1,1,1,1,1,1,1,1,1,1,1,1,0,0,0,1],.h J1,.b 0,cK Zak.B [1,1,1,1,1,1,1,1,1,1,1,1,1,1,1]]):=by
 unfold Zak.p2 at h;exact Zbd h (fun c11 h=>aq [rZ,rZ,rZ,cT,.s 1] c11 (Zak.k3 h hE)) fun c11 h=>an [rZ,rZ,rZ,cF] c11 (hc1 (v64 (F2-1)) (v64 (A3+(Zbx .u64 (ZbP .u64 A2 (v64 (x1))) 32))) h)
def Zak.k1 {A2 x1 A0 A1 F2 A3 st r c1_ J1} (h:Zak.p1 N A2 x1 A0 A1 c1_ (F2,A3)=some r) (hE:En Tryz.f188 g0 w0 (Zak.rs r) st R) (hc1 : ∀F2 A3,c1_ (F2,A3)=some r->At g0 w0 (Zak.S1 A2 x1 A0 A1 F2 A3 st) J1):At g0 w0 (Zak.S1 A2 x1 A0 A1 F2 A3 st) (XK zC R (cK Zak.B [1,1,1,1,1,1,1,1,1,1,1,1,1,1,0,0,0] :: .h J1 :: [.b 0,cK Zak.B [1,1,1,1,1,1,1,1,1,1,1,1,1,1,1]])):=by
 unfold Zak.p1 at h;exact Zbd h (fun c9 h=>aq [.r [(3,wF),(4,wF),(5,wF),(6,wF),(7,wF),(8,wF),(9,wF),(10,wF)],cT,.s 4] (aO c9 c9 c9 c9 c9 c9 c9 (aJ c9 c9 eT)) (Zak.k2 h hE hc1)) fun c9 h=>Zbd h (fun c10 h=>aq [.r [(11,yF)],cT,.s 4] (aO c9 c9 c9 c9 c9 c9 c9 (aJ c9 c9 c10)) (Zak.k2 h hE hc1)) fun c10 h=>aq [.r [(11,yF)],cF,.s 1] (aO c9 c9 c9 c9 c9 c9 c9 (aJ c9 c9 c10)) (Zak.k3 h hE)
def Zak.s {A0 A1 A2:Int} {r:Int×Int} (h:Zak N A0 A1 A2=some r):ZdW zC 188 [.one (zK .u64 A0),.one (zK .u64 A1),.one (zK .u64 A2)] (Zak.rs r):=fun st=>
 sO Zak.B Tryz.func188 fun g0 w0 R hE=>by
  unfold Zak at h;let o1:List PS:=[rZ,rZ,cF,rZ,cF,rZ]
  refine Zbd h (fun c1 h=>?_) (fun c1 h=>?_)
  ·cases h
  refine Zbd h (fun c2 h=>?_) (fun c2 h=>?_)
  ·cases h
  refine Zbd h (fun c3 h=>?_) (fun c3 h=>?_)
  ·obtain ⟨c4,h⟩:=Zba h;exact xSd h hE (o1++[cT,.d {ds:=[],hv:=0,Hs:=[]}]) (aL c1 c2 c3 c4 c4)
  obtain ⟨x1,c5,h⟩:=Zab h;obtain ⟨c6,c7,c8,h⟩:=ck3 h;let u6:=ZaI .or .u64 (ZbP .u64 A0 (v64 (x1))) (Zbx .u64 A1 (v64 (64-(v64 (x1)))));let u7:=Zbx .u64 (ZbP .u64 A2 (v64 (x1))) 32;exact aq (o1++[cF,.r [(1,q1 [oI x1])],rZ,rZ,rZ,rZ,rZ,rZ,rZ,rZ,rZ]) (aO c1 c2 c3 (Zcc.s c5) c6 (leI 0 32) c6 (aK c7 c6 (leI 0 32) c8)) (At.loop N (At.loopN (fun y:Int×Int=>Zak.S1 A2 x1 A0 A1 y.1 y.2 st) (fun c J hc y h=>Zak.k1 (F2:=y.1) (A3:=y.2) h hE (fun F2 A3=>hc (F2,A3))) N (v64 (zT u6 u7),v64 (u6-(v64 ((v64 (zT u6 u7))*u7)))) h))
def ZcN.B:Code:=Tryz.f179.body.getD .skip
def ZcN.rs (r:(List Int)×Int):List CV:=[.agg [zL .u64 4 r.1],.one (zK .u64 r.2)]
def ZcN.p1 (N:Nat) (F1:Int) (c1_:(Int×Int×(List Int))->Option ((List Int)×Int)):(Int×Int×(List Int))->Option ((List Int)×Int):=fun (A1,A2,A5)=> if (decide (A2>=0))=true then chk (0<=A2)<| chk (A2<4)<| Zbb (Zak N A1 (zF A5 (zD A2) 0) F1) fun (x6,x7)=> c1_ (x7,w64 (A2-1),zR A5 (zD A2) x6) else some (A5,A1)
def ZcN (N:Nat) (A0_0:List Int) (F1:Int):Option ((List Int)×Int):= if (F1==0)=true then some (zB 4 0,0) else loopN (ZcN.p1 N F1) N (0,3,A0_0)
def ZcN.S1 (F1 A1 A2:Int) (A5:List Int) (st:LL):S:=mkS 28 [(1,.one (.l (zK .u64 F1))),(2,sA 2),(4,sA 4),(6,.one (.l (zK .u64 A1))),(7,sI A2)] [(2,.cells [zL .u64 4 A5]),(4,.cells [zL .u64 4 (zB 4 0)])] st
def ZcN.k1 {F1 A1 A2 A5 st r c1_ J1} (h:ZcN.p1 N F1 c1_ (A1,A2,A5)=some r) (hE:En Tryz.f179 g0 w0 (ZcN.rs r) st R) (hc1 : ∀A1 A2 A5,c1_ (A1,A2,A5)=some r->At g0 w0 (ZcN.S1 F1 A1 A2 A5 st) J1):At g0 w0 (ZcN.S1 F1 A1 A2 A5 st) (XK zC R (cK ZcN.B [1,1,1,0,1,0,0] :: .h J1 :: [.b 0,cK ZcN.B [1,1,1,1]])):=by
 unfold ZcN.p1 at h;refine Zbd h (fun c6 h=>?_) (fun c6 h=>?_)
 ·obtain ⟨c7,c8,h⟩:=ck2 h;obtain ⟨⟨x6,x7⟩,c9,h⟩:=Zab h;exact an [rZ,cT,.r [(6,q1 [.one (zK .u64 x6),.one (zK .u64 x7)])],rZ] (aM c6 c7 c8 (Zak.s c9) c7 c8) (hc1 x7 (w64 (A2-1)) (zR A5 (zD A2) x6) h)
 exact xS h hE [rZ,cF,rZ] c6
def ZcN.s {A0_0:List Int} {F1:Int} {r:(List Int)×Int} (h:ZcN N A0_0 F1=some r):ZdW zC 179 [.agg [zL .u64 4 A0_0],.one (zK .u64 F1)] (ZcN.rs r):=fun st=>
 sO ZcN.B Tryz.func179 fun g0 w0 R hE=>by
  unfold ZcN at h;exact Zbd h (fun c1 h=>xS h hE [rZ,rZ,cT,rZ] c1) fun c1 h=>aq [rZ,rZ,cF,rZ,rZ] c1 (At.loop N (At.loopN (fun y:Int×Int×(List Int)=>ZcN.S1 F1 y.1 y.2.1 y.2.2 st) (fun c J hc y h=>ZcN.k1 (A1:=y.1) (A2:=y.2.1) (A5:=y.2.2) h hE (fun A1 A2 A5=>hc (A1,A2,A5))) N (0,3,A0_0) h))
def Zdj.B:Code:=Tryz.f189.body.getD .skip
def Zdj.rs (r:Int×Int):List CV:=[.one (zK .u64 r.1),.one (zK .u64 r.2)]
def Zdj (N:Nat) (A0 A1:Int):Option (Int×Int):= some (v64 ((v64 ((v64 ((Zbx .u64 A0 32)*(Zbx .u64 A1 32)))+(Zbx .u64 (v64 ((v64 ((Zbx .u64 A0 32)*(ZaI .and .u64 A1 4294967295)))+(Zbx .u64 (v64 ((ZaI .and .u64 A0 4294967295)*(ZaI .and .u64 A1 4294967295))) 32))) 32)))+(Zbx .u64 (v64 ((ZaI .and .u64 (v64 ((v64 ((Zbx .u64 A0 32)*(ZaI .and .u64 A1 4294967295)))+(Zbx .u64 (v64 ((ZaI .and .u64 A0 4294967295)*(ZaI .and .u64 A1 4294967295))) 32))) 4294967295)+(v64 ((ZaI .and .u64 A0 4294967295)*(Zbx .u64 A1 32))))) 32)),v64 (A0*A1))
def Zdj.s {A0 A1:Int} {r:Int×Int} (h:Zdj N A0 A1=some r):ZdW zC 189 [.one (zK .u64 A0),.one (zK .u64 A1)] (Zdj.rs r):=fun st=>
 sO Zdj.B Tryz.func189 fun g0 w0 R hE=>by
  unfold Zdj at h;exact xS h hE [rZ,rZ,rZ,rZ,rZ,rZ,rZ,rZ,rZ,rZ,rZ,rZ] (aL (leI 0 32) (leI 0 32) (leI 0 32) (leI 0 32) (leI 0 32))
def Zcp.B:Code:=Tryz.f180.body.getD .skip
def Zcp.rs (r:(List Int)×Bool):List CV:=[.agg [zL .u64 4 r.1],oB r.2]
def Zcp.p1 (N:Nat) (F1:Int) (c1_:(Int×Int×(List Int))->Option ((List Int)×Bool)):(Int×Int×(List Int))->Option ((List Int)×Bool):=fun (A1,v2,A7)=> if (decide (v2<4))=true then chk (0<=v2)<| Zbb (Zdj N (zF A7 (zD v2) 0) F1) fun (x8,x9)=> Zbb (ZeH N x9 A1 0) fun (x10,x11)=> c1_ (v64 (x8+x11),w64 (v2+1),zR A7 (zD v2) x10) else some (A7,A1 != 0)
def Zcp (N:Nat) (A0_0:List Int) (F1:Int):Option ((List Int)×Bool):= loopN (Zcp.p1 N F1) N (0,0,A0_0)
def Zcp.S1 (F1 A1 v2:Int) (A7:List Int) (st:LL):S:=mkS 37 [(1,.one (.l (zK .u64 F1))),(2,sA 2),(4,sA 4),(6,.one (.l (zK .u64 A1))),(11,sI v2)] [(2,.cells [zL .u64 4 A7]),(4,.cells [zL .u64 4 (zB 4 0)])] st
def Zcp.k1 {F1 A1 v2 A7 st r c1_ J1} (h:Zcp.p1 N F1 c1_ (A1,v2,A7)=some r) (hE:En Tryz.f180 g0 w0 (Zcp.rs r) st R) (hc1 : ∀A1 v2 A7,c1_ (A1,v2,A7)=some r->At g0 w0 (Zcp.S1 F1 A1 v2 A7 st) J1):At g0 w0 (Zcp.S1 F1 A1 v2 A7 st) (XK zC R (cK Zcp.B [1,1,0,1,0,0] :: .h J1 :: [.b 0,cK Zcp.B [1,1,1]])):=by
 unfold Zcp.p1 at h;refine Zbd h (fun c5 h=>?_) (fun c5 h=>?_)
 ·obtain ⟨c6,h⟩:=Zba h;obtain ⟨⟨x8,x9⟩,c7,h⟩:=Zab h;obtain ⟨⟨x10,x11⟩,c8,h⟩:=Zab h;exact an [rZ,cT,rZ,.r [(4,q1 [.one (zK .u64 x8),.one (zK .u64 x9)])],rZ,.r [(3,{rs:=[.one (zK .u64 x10),.one (zK .u64 x11)],m:=4})],rZ,rZ] (aN c5 c6 (oD c5) (Zdj.s c7) (ZeH.s c8) c6 (oD c5)) (hc1 (v64 (x8+x11)) (w64 (v2+1)) (zR A7 (zD v2) x10) h)
 exact xS h hE [rZ,cF,rZ] c5
def Zcp.s {A0_0:List Int} {F1:Int} {r:(List Int)×Bool} (h:Zcp N A0_0 F1=some r):ZdW zC 180 [.agg [zL .u64 4 A0_0],.one (zK .u64 F1)] (Zcp.rs r):=fun st=>
 sO Zcp.B Tryz.func180 fun g0 w0 R hE=>by
  unfold Zcp at h;exact aq [rZ,rZ,rZ] trivial (At.loop N (At.loopN (fun y:Int×Int×(List Int)=>Zcp.S1 F1 y.1 y.2.1 y.2.2 st) (fun c J hc y h=>Zcp.k1 (A1:=y.1) (v2:=y.2.1) (A7:=y.2.2) h hE (fun A1 v2 A7=>hc (A1,v2,A7))) N (0,0,A0_0) h))
def ZaZ.B:Code:=Tryz.f181.body.getD .skip
def ZaZ.rs (r:Int):List CV:=[oI r]
def ZaZ.p2 (N:Nat) (A5 A6:Int):Option Int:= some (ZaI .or .i64 (ZbP .i64 A5 24) A6)
def ZaZ.p1 (N:Nat) (x1 A4:Int):Option Int:= if ((ZaI .and .i64 A4 8388608) != 0)=true then ZaZ.p2 N (w64 ((w64 (zT (w64 (x1+7)) 8))+1)) (Zbx .i64 A4 8) else ZaZ.p2 N (w64 (zT (w64 (x1+7)) 8)) A4
def ZaZ (N:Nat) (A0_0:List Int):Option Int:= Zbb (ZcV N A0_0) fun x1=> if (decide ((w64 (zT (w64 (x1+7)) 8))<=3))=true then Zbb (ZbY N A0_0 (w64 (8*(w64 (3-(w64 (zT (w64 (x1+7)) 8))))))) fun x2=> ZaZ.p1 N x1 (w64 (zF x2 0 0)) else Zbb (Zbu N A0_0 (w64 (8*(w64 ((w64 (zT (w64 (x1+7)) 8))-3))))) fun x3=> ZaZ.p1 N x1 (w64 (zF x3 0 0))
def ZaZ.S2 (A5 A6:Int) (st:LL):S:=mkS 36 [(3,sI A5),(4,sI A6)] [] st
def ZaZ.S1 (x1 A4:Int) (st:LL):S:=mkS 36 [(3,sI (w64 (zT (w64 (x1+7)) 8))),(4,sI A4)] [] st
def ZaZ.k2 {A5 A6 st r} (h:ZaZ.p2 N A5 A6=some r) (hE:En Tryz.f181 g0 w0 (ZaZ.rs r) st R):At g0 w0 (ZaZ.S2 A5 A6 st) (XK zC R [cK ZaZ.B [1,1,1,1,1]]):=by
 unfold ZaZ.p2 at h;exact xS h hE [rZ] (leI 0 24)
def ZaZ.k1 {x1 A4 st r} (h:ZaZ.p1 N x1 A4=some r) (hE:En Tryz.f181 g0 w0 (ZaZ.rs r) st R):At g0 w0 (ZaZ.S1 x1 A4 st) (XK zC R [cK ZaZ.B [1,1,1,1]]):=by
 unfold ZaZ.p1 at h;exact Zbd h (fun c5 h=>aq [rZ,cT,rZ,rZ,.s 1] (aI c5 (leI 0 8)) (ZaZ.k2 h hE)) fun c5 h=>aq [rZ,cF,.s 1] c5 (ZaZ.k2 h hE)
def ZaZ.s {A0_0:List Int} {r:Int} (h:ZaZ N A0_0=some r):ZdW zC 181 [.agg [zL .u64 4 A0_0]] (ZaZ.rs r):=fun st=>
 sO ZaZ.B Tryz.func181 fun g0 w0 R hE=>by
  unfold ZaZ at h;obtain ⟨x1,c1,h⟩:=Zab h;let o1:List PS:=[rZ,.r [(1,q1 [oI x1])],rZ,rZ]
  refine Zbd h (fun c2 h=>?_) (fun c2 h=>?_)
  ·obtain ⟨x2,c3,h⟩:=Zab h;exact aq (o1++[cT,.r [(4,q1 [.agg [zL .u64 4 x2]])],.s 1]) (aM (ZcV.s c1) (neI 8) c2 (ZbY.s c3) (leI 0 0) (ltI 0 4)) (ZaZ.k1 h hE)
  obtain ⟨x3,c4,h⟩:=Zab h;exact aq (o1++[cF,.r [(4,q1 [.agg [zL .u64 4 x3]])],.s 1]) (aM (ZcV.s c1) (neI 8) c2 (Zbu.s c4) (leI 0 0) (ltI 0 4)) (ZaZ.k1 h hE)
def ZbV.B:Code:=Tryz.f161.body.getD .skip
def ZbV.rs (r:Int):List CV:=[oI r]
def ZbV.p1 (N:Nat) (A17:List Int):Option Int:= Zbb (ZaZ N A17) fun x18=> some x18
def ZbV (N:Nat) (A0:Zae) (A1 A2 A3:Int):Option Int:= Zbb (ZcR N A1 A0.Limit) fun (x1,x2)=> Zbb (ZeY N A0) fun x3=> if (!x3)=true then some A0.Limit else if (!x2)=true then some A0.Limit else Zbb (ZfE N A0 A2 A3) fun x4=> Zbb (ZcN N x1 (v64 (w64 (A0.Interval*A0.Spacing)))) fun (x5,x6)=> Zbb (Zcp N x5 (v64 (x4))) fun (x7,x8)=> chk ((v64 (w64 (A0.Interval*A0.Spacing)))≠0)<| Zbb (ZdX N (v64 (zT (v64 (x6*(v64 (x4)))) (v64 (w64 (A0.Interval*A0.Spacing)))))) fun x9=> Zbb (Zci N x7 x9) fun (x10,x11)=> Zbb (ZcR N A0.Limit A0.Limit) fun (x12,x13)=> if x8=true then some A0.Limit else if x11=true then some A0.Limit else Zbb (ZdN N x12 x10) fun x14=> if x14=true then some A0.Limit else Zbb (Zdy N x10) fun x15=> if x15=true then Zbb (ZdX N 1) fun x16=> ZbV.p1 N x16 else ZbV.p1 N x10
def ZbV.S1 (A17:List Int) (st:LL):S:=mkS 94 [(15,sA 15)] [(15,.cells [zL .u64 4 A17])] st
def ZbV.k1 {A17 st r} (h:ZbV.p1 N A17=some r) (hE:En Tryz.f161 g0 w0 (ZbV.rs r) st R):At g0 w0 (ZbV.S1 A17 st) (XK zC R [cK ZbV.B [1,1,1,1,1,1,1,1,1,1,1]]):=by
 unfold ZbV.p1 at h;obtain ⟨x18,c19,h⟩:=Zab h;exact xS h hE [.r [(1,q1 [oI x18])]] (ZaZ.s c19)
def ZbV.s {A0:Zae} {A1 A2 A3:Int} {r:Int} (h:ZbV N A0 A1 A2 A3=some r):ZdW zC 161 [.agg A0.ls,oI A1,oI A2,oI A3] (ZbV.rs r):=fun st=>
 sO ZbV.B Tryz.func161 fun g0 w0 R hE=>by
  unfold ZbV at h;obtain ⟨⟨x1,x2⟩,c1,h⟩:=Zab h;obtain ⟨x3,c2,h⟩:=Zab h;let o1:List PS:=[rZ,.r [(3,q1 [.agg [zL .u64 4 x1],oB x2])]]
  have t1 {Q:Prop} (q:Q):=aJ (ZcR.s c1) (ZeY.s c2) q;refine Zbd h (fun c3 h=>xS h hE (o1++[.r [(1,q1 [oB x3]),(4,wF),(5,wF)],cT,rZ]) (t1 (aK (not_false (Zcu c3)) (not_false (Zcu c3)) (not_false (Zcu c3)) eT))) fun c3 h=>?_;let o2:List PS:=o1++[.r [(1,q1 [oB x3]),(6,yF)]]
  have t2 {Q:Prop} (q:Q):=t1 (aK (not_true (Zcv c3)) (not_true (Zcv c3)) (not_true (Zcv c3)) q);refine Zbd h (fun c4 h=>xS h hE (o2++[cT,rZ]) (t2 c4)) fun c4 h=>?_;obtain ⟨x4,c5,h⟩:=Zab h;obtain ⟨⟨x5,x6⟩,c6,h⟩:=Zab h;obtain ⟨⟨x7,x8⟩,c7,h⟩:=Zab h;obtain ⟨c8,h⟩:=Zba h;obtain ⟨x9,c9,h⟩:=Zab h;obtain ⟨⟨x10,x11⟩,c10,h⟩:=Zab h;obtain ⟨⟨x12,x13⟩,c11,h⟩:=Zab h;let o3:List PS:=o2++[cF,rZ,.r [(3,q1 [oI x4])],.r [(2,q1 [.agg [zL .u64 4 x5],.one (zK .u64 x6)])],.r [(2,q1 [.agg [zL .u64 4 x7],oB x8])],.d {ds:=[(6,q1 [.agg [zL .u64 4 x9]]),(7,q1 [.agg [zL .u64 4 x10],oB x11])],hv:=2048,Hs:=[2048]},.r [(4,q1 [.agg [zL .u64 4 x12],oB x13])]]
  have t3 {Q:Prop} (q:Q):=t2 (aO c4 (ZfE.s c5) (ZcN.s c6) (Zcp.s c7) c8 (ZdX.s c9) (Zci.s c10) (aI (ZcR.s c11) q));refine Zbd h (fun c12 h=>xSd h hE (o3++[.r [(2,wF),(5,wF),(6,wF),(7,wF)],cT,rZ]) (t3 (aN c12 c12 eT eT eT eT eT))) fun c12 h=>?_;refine Zbd h (fun c13 h=>xSd h hE (o3++[.r [(3,yF),(5,wF),(6,wF),(7,wF)],cT,rZ]) (t3 (aN c12 c12 c13 c13 c13 c13 eT))) fun c13 h=>?_;obtain ⟨x14,c14,h⟩:=Zab h;let o4:List PS:=o3++[.r [(3,yF),(7,q1 [oB x14]),(8,yF)]]
  have t4 {Q:Prop} (q:Q):=t3 (aO c12 c12 c13 c13 c13 (ZdN.s c14) c13 q);refine Zbd h (fun c15 h=>xSd h hE (o4++[cT,rZ]) (t4 c15)) fun c15 h=>?_;obtain ⟨x15,c16,h⟩:=Zab h;let o5:List PS:=o4++[cF,.r [(1,q1 [oB x15])]]
  refine Zbd h (fun c17 h=>?_) (fun c17 h=>?_)
  ·obtain ⟨x16,c18,h⟩:=Zab h;exact aqd (o5++[cT,.r [(0,q1 [.agg [zL .u64 4 x16]])],.s 1]) (t4 (aK c15 (Zdy.s c16) c17 (ZdX.s c18))) (ZbV.k1 h hE)
  exact aqd (o5++[cF,.s 1]) (t4 (aJ c15 (Zdy.s c16) c17)) (ZbV.k1 h hE)
def ZfF.B:Code:=Tryz.f141.body.getD .skip
def ZfF.rs (r:Int):List CV:=[oI r]
def ZfF (N:Nat) (A0:Zae) (at_1:Zeh) (A2:Int):Option Int:= if (decide (at_1.Height<=0))=true then some A0.Limit else Zbb (ZdS N A0 at_1.Height) fun x1=> if x1=true then Zbb (ZbV N A0 at_1.Bits at_1.First at_1.Time) fun x2=> some x2 else if (!A0.Easy)=true then some at_1.Bits else if (decide ((w64 (A2-at_1.Time))>(w64 (2*A0.Spacing))))=true then some A0.Limit else some at_1.Hard
def ZfF.s {A0:Zae} {at_1:Zeh} {A2:Int} {r:Int} (h:ZfF N A0 at_1 A2=some r):ZdW zC 141 [.agg A0.ls,.agg at_1.ls,oI A2] (ZfF.rs r):=fun st=>
 sO ZfF.B Tryz.func141 fun g0 w0 R hE=>by
  unfold ZfF at h;refine Zbd h (fun c1 h=>xS h hE [rZ,rZ,cT,rZ] c1) fun c1 h=>?_;obtain ⟨x1,c2,h⟩:=Zab h;let o1:List PS:=[rZ,rZ,cF,.r [(3,q1 [oB x1])]]
  have t1 {Q:Prop} (q:Q):=aJ c1 (ZdS.s c2) q;refine Zbd h (fun c3 h=>?_) (fun c3 h=>?_)
  ·obtain ⟨x2,c4,h⟩:=Zab h;exact xS h hE (o1++[cT,.r [(7,q1 [oI x2])]]) (t1 (aI c3 (ZbV.s c4)))
  exact Zbd h (fun c5 h=>xS h hE (o1++[cF,rZ,cT,rZ]) (t1 (aI c3 c5))) fun c5 h=>Zbd h (fun c6 h=>xS h hE (o1++[cF,rZ,cF,rZ,cT,rZ]) (t1 (aJ c3 c5 c6))) fun c6 h=>xS h hE (o1++[cF,rZ,cF,rZ,cF,rZ]) (t1 (aJ c3 c5 c6))
def ZbQ.B:Code:=Tryz.f182.body.getD .skip
def ZbQ.rs (r:(List Int)):List CV:=[.agg [zL .u64 4 r]]
def ZbQ.p1 (N:Nat) (A0_0:List Int) (c1_:(Int×(List Int))->Option (List Int)):(Int×(List Int))->Option (List Int):=fun (v1,A2)=> if (decide (v1<32))=true then chk (0<=v1)<| chk (0<=(w64 (zT v1 8)))<| chk ((w64 (zT v1 8))<4)<| chk (0<=(w64 (8*(yB v1 8))))<| c1_ (w64 (v1+1),zR A2 (zD (w64 (zT v1 8))) (ZaI .or .u64 (zF A2 (zD (w64 (zT v1 8))) 0) (ZbP .u64 (v64 (zF A0_0 (zD v1) 0)) (w64 (8*(yB v1 8)))))) else some A2
def ZbQ (N:Nat) (A0_0:List Int):Option (List Int):= loopN (ZbQ.p1 N A0_0) N (0,zB 4 0)
def ZbQ.S1 (A0_0:List Int) (v1:Int) (A2:List Int) (st:LL):S:=mkS 25 [(2,sA 2),(3,sA 3),(6,.agg [.l (zL .u8 32 A0_0)]),(7,sI v1)] [(2,.cells [zL .u64 4 (zB 4 0)]),(3,.cells [zL .u64 4 A2])] st
def ZbQ.k1 {A0_0 v1 A2 st r c1_ J1} (h:ZbQ.p1 N A0_0 c1_ (v1,A2)=some r) (hE:En Tryz.f182 g0 w0 (ZbQ.rs r) st R) (hc1 : ∀v1 A2,c1_ (v1,A2)=some r->At g0 w0 (ZbQ.S1 A0_0 v1 A2 st) J1):At g0 w0 (ZbQ.S1 A0_0 v1 A2 st) (XK zC R (cK ZbQ.B [1,1,0,1,0,0] :: .h J1 :: [.b 0,cK ZbQ.B [1,1,1]])):=by
 unfold ZbQ.p1 at h;refine Zbd h (fun c6 h=>?_) (fun c6 h=>?_)
 ·obtain ⟨c7,c8,c9,c10,h⟩:=ck4 h;exact Zlu fol [rZ,cT,rZ,.d {ds:=[],hv:=4096,Hs:=[4096]},rZ] [2,3,6,7] [2,3] (aO c6 c7 (oD c6) (neI 8) c8 c9 (neI 8) (aJ c10 c8 c9)) (hc1 (w64 (v1+1)) (zR A2 (zD (w64 (zT v1 8))) (ZaI .or .u64 (zF A2 (zD (w64 (zT v1 8))) 0) (ZbP .u64 (v64 (zF A0_0 (zD v1) 0)) (w64 (8*(yB v1 8)))))) h)
 exact xS h hE [rZ,cF,rZ] c6
def ZbQ.s {A0_0:List Int} {r:(List Int)} (h:ZbQ N A0_0=some r):ZdW zC 182 [.agg [zL .u8 32 A0_0]] (ZbQ.rs r):=fun st=>
 sO ZbQ.B Tryz.func182 fun g0 w0 R hE=>by
  unfold ZbQ at h;exact aq [rZ,rZ,rZ] trivial (At.loop N (At.loopN (fun y:Int×(List Int)=>ZbQ.S1 A0_0 y.1 y.2 st) (fun c J hc y h=>ZbQ.k1 (v1:=y.1) (A2:=y.2) h hE (fun v1 A2=>hc (v1,A2))) N (0,zB 4 0) h))
def Zea.B:Code:=Tryz.f162.body.getD .skip
def Zea.rs (r:Bool):List CV:=[oB r]
def Zea (N:Nat) (A0_0 A1_0:List Int):Option Bool:= Zbb (ZbQ N A0_0) fun x1=> Zbb (ZdN N A1_0 x1) fun x2=> some (!x2)
def Zea.s {A0_0 A1_0:List Int} {r:Bool} (h:Zea N A0_0 A1_0=some r):ZdW zC 162 [.agg [zL .u8 32 A0_0],.agg [zL .u64 4 A1_0]] (Zea.rs r):=fun st=>
 sO Zea.B Tryz.func162 fun g0 w0 R hE=>by
  unfold Zea at h;obtain ⟨x1,c1,h⟩:=Zab h;obtain ⟨x2,c2,h⟩:=Zab h;exact xSd h hE [rZ,.d {ds:=[(2,q1 [.agg [zL .u64 4 x1]]),(3,q1 [oB x2])],hv:=0,Hs:=[]}] (aI (ZbQ.s c1) (ZdN.s c2))
def ZeL.B:Code:=Tryz.f142.body.getD .skip
def ZeL.rs (r:Int):List CV:=[oI r]
def ZeL (N:Nat) (A0:Zae) (A1:Zal):Option Int:= Zbb (ZcW N A1) fun x1=> if (!x1)=true then some 1 else Zbb (ZcR N A1.Bits A0.Limit) fun (x2,x3)=> if (!x3)=true then some 4 else Zbb (ZeG N A1) fun x4=> Zbb (Zea N x4 x2) fun x5=> if (!x5)=true then some 4 else some 0
def ZeL.s {A0:Zae} {A1:Zal} {r:Int} (h:ZeL N A0 A1=some r):ZdW zC 142 [.agg A0.ls,.agg A1.ls] (ZeL.rs r):=fun st=>
 sO ZeL.B Tryz.func142 fun g0 w0 R hE=>by
  unfold ZeL at h;obtain ⟨x1,c1,h⟩:=Zab h;let o1:List PS:=[rZ,.r [(1,q1 [oB x1])]]
  have t1 {Q:Prop} (q:Q):=aI (ZcW.s c1) q;refine Zbd h (fun c2 h=>xS h hE (o1++[cT,rZ]) (t1 c2)) fun c2 h=>?_;obtain ⟨⟨x2,x3⟩,c3,h⟩:=Zab h;let o2:List PS:=o1++[cF,.r [(4,q1 [.agg [zL .u64 4 x2],oB x3])]]
  have t2 {Q:Prop} (q:Q):=t1 (aJ c2 (ZcR.s c3) q);refine Zbd h (fun c4 h=>xSd h hE (o2++[.d {ds:=[(3,wF),(4,wF),(5,wF),(6,wF),(7,wF)],hv:=0,Hs:=[]},cT,rZ]) (t2 (aN (not_false (Zcu c4)) (not_false (Zcu c4)) (not_false (Zcu c4)) (not_false (Zcu c4)) (not_false (Zcu c4)) (not_false (Zcu c4)) eT))) fun c4 h=>?_;obtain ⟨x4,c5,h⟩:=Zab h;obtain ⟨x5,c6,h⟩:=Zab h;let o3:List PS:=o2++[.d {ds:=[(4,q1 [.agg [zL .u8 32 x4]]),(6,q1 [oB x5]),(8,yF)],hv:=0,Hs:=[]}]
  have t3 {Q:Prop} (q:Q):=t2 (aO (not_true (Zcv c4)) (not_true (Zcv c4)) (ZeG.s c5) (not_true (Zcv c4)) (not_true (Zcv c4)) (Zea.s c6) (not_true (Zcv c4)) (aI (not_true (Zcv c4)) q));exact Zbd h (fun c7 h=>xSd h hE (o3++[cT,rZ]) (t3 c7)) fun c7 h=>xSd h hE (o3++[cF,rZ]) (t3 c7)
def ZfH.B:Code:=Tryz.f163.body.getD .skip
def ZfH.rs (r:Int):List CV:=[oI r]
def ZfH (N:Nat) (A0:LL):Option Int:= chk (0<=(if (11:Int)<(len A0) then 11 else (len A0)))<| chk ((zD (if (11:Int)<(len A0) then 11 else (len A0)))<=(zG A0))<| Zbb (ZbI N (List.take (zD (if (11:Int)<(len A0) then 11 else (len A0))) (List.drop 0 A0))) fun x1=> if ((len x1)==0)=true then some 0 else chk (isI x1=true)<| chk (zG x1<4611686018427387904)<| chk (0<=(w64 (zT (len x1) 2)))<| chk ((w64 (zT (len x1) 2))<(len x1))<| ZcO ((ZlY x1)[0+(zD (w64 (zT (len x1) 2)))]?) Zdv fun x2=> some x2
def ZfH.s {A0:LL} {r:Int} (h:ZfH N A0=some r):ZdW zC 163 [.one (L.sl 1 A0)] (ZfH.rs r):=fun st=>
 sO ZfH.B Tryz.func163 fun g0 w0 R hE=>by
  unfold ZfH at h;obtain ⟨c1,c2,h⟩:=ck2 h;obtain ⟨x1,c3,h⟩:=Zab h;let o1:List PS:=[rZ,.r [(5,{rs:=[.row true 1 x1],ns:=[9],m:=1})],rZ]
  have t1 {Q:Prop} (q:Q):=aL c1 (Nat.zero_le (zD (if (11:Int)<(len A0) then 11 else (len A0)))) c2 (ZbI.s c3) q;refine Zbd h (fun c4 h=>xS h hE (o1++[cT,rZ]) (t1 c4)) fun c4 h=>?_;obtain ⟨c5,c6,c7,c8,h⟩:=ck4 h;obtain ⟨x2,c9,h⟩:=Zcq h;exact xS h hE (o1++[cF,.r [(1,{m:=7})],.r [(5,{oe:=[zK .i64 x2]})]]) (t1 (aO c4 z0 (@rfl _ (zG x1):(zG x1)=(zG x1)) c5 c6 slices_Sort_int.snd (neI 2) (aJ c7 c8 c9)))
def Zei.B:Code:=Tryz.f143.body.getD .skip
def Zei.rs (r:Bool):List CV:=[oB r]
def Zei (N:Nat) (A0:Int) (A1:LL):Option Bool:= if ((len A1)==0)=true then some true else Zbb (ZfH N A1) fun x1=> some (decide (A0>x1))
def Zei.s {A0:Int} {A1:LL} {r:Bool} (h:Zei N A0 A1=some r):ZdW zC 143 [oI A0,.one (L.sl 1 A1)] (Zei.rs r):=fun st=>
 sO Zei.B Tryz.func143 fun g0 w0 R hE=>by
  unfold Zei at h;refine Zbd h (fun c1 h=>xS h hE [rZ,.r [(4,wF),(5,wF),(6,wF),(7,wF)]] (aL c1 c1 c1 c1 c1)) fun c1 h=>?_;obtain ⟨x1,c2,h⟩:=Zab h;exact xS h hE [rZ,.r [(6,q1 [oI x1]),(8,yF)]] (aM c1 c1 c1 (ZfH.s c2) c1 c1)
def ZeM.B:Code:=Tryz.f144.body.getD .skip
def ZeM.rs (r:Bool):List CV:=[oB r]
def ZeM (N:Nat) (A0 A1 A2:Int):Option Bool:= if (decide (A2>=0))=true then if (decide (A0<=A1))=true then some true else some (decide ((w64 (A0-A1))<=A2)) else some false
def ZeM.s {A0 A1 A2:Int} {r:Bool} (h:ZeM N A0 A1 A2=some r):ZdW zC 144 [oI A0,oI A1,oI A2] (ZeM.rs r):=fun st=>
 sO ZeM.B Tryz.func144 fun g0 w0 R hE=>by
  unfold ZeM at h;exact Zbd h (fun c1 h=>Zbd h (fun c2 h=>xS h hE [rZ,.r [(7,wF),(8,wF),(9,wF),(10,wF),(11,wF)]] (aO c1 c1 c1 c1 c2 c2 c2 (aL c2 c2 c1 c2 c1))) fun c2 h=>xS h hE [rZ,.r [(12,yF)]] (aO c1 c1 c1 c1 c2 c2 c2 (aL c2 c2 c1 c2 c1))) fun c1 h=>xS h hE [rZ,.r [(3,wF),(4,wF),(5,wF),(6,wF),(12,wF),(13,yF)]] (aM c1 c1 c1 c1 c1 c1)
def Zbn.B:Code:=Tryz.f145.body.getD .skip
def Zbn.rs (r:Int):List CV:=[oI r]
def Zbn.p2 (N:Nat) (c1_:(Int×Int)->Option Int) (A0 A4:Int) (A1:LL) (v2:Int):Option Int:= c1_ (A4,w64 (v2+1))
def Zbn.p1 (N:Nat) (A0:Int) (A1:LL) (c1_:(Int×Int)->Option Int):(Int×Int)->Option Int:=fun (F1,v2)=> if (decide (v2<(len A1)))=true then chk (0<=v2)<| ZcO (A1[zD v2]?) Zfi fun x3=> if (decide (A0>=x3.Height))=true then Zbn.p2 N c1_ A0 (if x3.Version>F1 then x3.Version else F1) A1 v2 else Zbn.p2 N c1_ A0 F1 A1 v2 else some F1
def Zbn (N:Nat) (A0:Int) (A1:LL):Option Int:= loopN (Zbn.p1 N A0 A1) N ((-2147483648),0)
def Zbn.S2 (A0 A4:Int) (A1:LL) (v2:Int) (st:LL):S:=mkS 24 [(0,sI A0),(5,sI A4),(8,sV 2 A1),(9,sI (len A1)),(10,sI v2)] [] st
def Zbn.S1 (A0 F1:Int) (A1:LL) (v2:Int) (st:LL):S:=mkS 24 [(0,sI A0),(5,sI F1),(8,sV 2 A1),(9,sI (len A1)),(10,sI v2)] [] st
def Zbn.k2 {A0 A4 A1 v2 st r c1_ J1} (h:Zbn.p2 N c1_ A0 A4 A1 v2=some r) (hE:En Tryz.f145 g0 w0 (Zbn.rs r) st R) (hc1 : ∀F1 v2,c1_ (F1,v2)=some r->At g0 w0 (Zbn.S1 A0 F1 A1 v2 st) J1):At g0 w0 (Zbn.S2 A0 A4 A1 v2 st) (XK zC R [cK Zbn.B [1,1,0,1,0,0,1,1,1],.h J1,.b 0,cK Zbn.B [1,1,1]]):=by
 unfold Zbn.p2 at h;exact an [rZ] trivial (hc1 A4 (w64 (v2+1)) h)
def Zbn.k1 {A0 F1 A1 v2 st r c1_ J1} (h:Zbn.p1 N A0 A1 c1_ (F1,v2)=some r) (hE:En Tryz.f145 g0 w0 (Zbn.rs r) st R) (hc1 : ∀F1 v2,c1_ (F1,v2)=some r->At g0 w0 (Zbn.S1 A0 F1 A1 v2 st) J1):At g0 w0 (Zbn.S1 A0 F1 A1 v2 st) (XK zC R (cK Zbn.B [1,1,0,1,0,0] :: .h J1 :: [.b 0,cK Zbn.B [1,1,1]])):=by
 unfold Zbn.p1 at h;refine Zbd h (fun c1 h=>?_) (fun c1 h=>?_)
 ·obtain ⟨c2,h⟩:=Zba h;obtain ⟨x3,c3,h⟩:=Zfn h;let o1:List PS:=[rZ,cT,.r [(1,{oe:=x3.ls})],rZ]
  exact Zbd h (fun c4 h=>aq (o1++[cT,rZ,.s 4]) (aL c1 c2 (oD c1) c3 c4) (Zbn.k2 h hE hc1)) fun c4 h=>aq (o1++[cF,.s 4]) (aL c1 c2 (oD c1) c3 c4) (Zbn.k2 h hE hc1)
 exact xS h hE [rZ,cF,rZ] c1
def Zbn.s {A0:Int} {A1:LL} {r:Int} (h:Zbn N A0 A1=some r):ZdW zC 145 [oI A0,.one (L.sl 2 A1)] (Zbn.rs r):=fun st=>
 sO Zbn.B Tryz.func145 fun g0 w0 R hE=>by
  unfold Zbn at h;exact aq [rZ,rZ,rZ] trivial (At.loop N (At.loopN (fun y:Int×Int=>Zbn.S1 A0 y.1 A1 y.2 st) (fun c J hc y h=>Zbn.k1 (F1:=y.1) (v2:=y.2) h hE (fun F1 v2=>hc (F1,v2))) N ((-2147483648),0) h))
def Zcm.B:Code:=Tryz.f146.body.getD .skip
def Zcm.rs (r:Bool):List CV:=[oB r]
def Zcm.p1 (N:Nat) (A0:Int) (A2:LL) (A1_0:List Int) (c1_:Int->Option Bool):Int->Option Bool:=fun v1=> if (decide (v1<(len A2)))=true then chk (0<=v1)<| ZcO (A2[zD v1]?) ZeV fun x2=> if (x2.Height==A0)=true then if (!(x2.Id==A1_0))=true then some false else c1_ (w64 (v1+1)) else c1_ (w64 (v1+1)) else some true
def Zcm (N:Nat) (A0:Int) (A1_0:List Int) (A2:LL):Option Bool:= loopN (Zcm.p1 N A0 A2 A1_0) N 0
def Zcm.S1 (A0:Int) (A2:LL) (v1:Int) (A1_0:List Int) (st:LL):S:=mkS 26 [(0,sI A0),(4,sA 4),(9,sV 33 A2),(10,sI (len A2)),(11,sI v1)] [(4,.cells [zL .u8 32 A1_0])] st
def Zcm.k1 {A0 A2 v1 A1_0 st r c1_ J1} (h:Zcm.p1 N A0 A2 A1_0 c1_ v1=some r) (hE:En Tryz.f146 g0 w0 (Zcm.rs r) st R) (hc1 : ∀v1,c1_ v1=some r->At g0 w0 (Zcm.S1 A0 A2 v1 A1_0 st) J1):At g0 w0 (Zcm.S1 A0 A2 v1 A1_0 st) (XK zC R (cK Zcm.B [1,0,1,0,0] :: .h J1 :: [.b 0,cK Zcm.B [1,1]])):=by
 unfold Zcm.p1 at h;refine Zbd h (fun c1 h=>?_) (fun c1 h=>?_)
 ·obtain ⟨c2,h⟩:=Zba h;obtain ⟨x2,c3,h⟩:=Zfd h;let o1:List PS:=[rZ,cT,.r [(1,{oe:=x2.ls})]]
  refine Zbd h (fun c4 h=>?_) (fun c4 h=>?_)
  ·have t1 {Q:Prop} (q:Q):=aO c1 c2 (oD c1) c3 c4 c4 c4 (aJ c4 c4 q);exact Zbd h (fun c5 h=>xS h hE (o1++[rZ,cT,rZ]) (t1 c5)) fun c5 h=>an (o1++[rZ,cF,rZ]) (t1 c5) (hc1 (w64 (v1+1)) h)
  exact an (o1++[.r [(5,wF),(6,wF),(7,wF),(8,wF),(9,yF)],cF,rZ]) (aO c1 c2 (oD c1) c3 c4 c4 c4 (aJ c4 c4 eF)) (hc1 (w64 (v1+1)) h)
 exact xS h hE [rZ,cF,rZ] c1
def Zcm.s {A0:Int} {A1_0:List Int} {A2:LL} {r:Bool} (h:Zcm N A0 A1_0 A2=some r):ZdW zC 146 [oI A0,.agg [zL .u8 32 A1_0],.one (L.sl 33 A2)] (Zcm.rs r):=fun st=>
 sO Zcm.B Tryz.func146 fun g0 w0 R hE=>by
  unfold Zcm at h;exact aq [rZ,rZ] trivial (At.loop N (At.loopN (fun y:Int=>Zcm.S1 A0 A2 y A1_0 st) (fun c J hc y h=>Zcm.k1 h hE (fun v1=>hc v1)) N 0 h))
def ZeW.B:Code:=Tryz.f119.body.getD .skip
def ZeW.rs (r:Int):List CV:=[oI r]
def ZeW (N:Nat) (A0:Zae) (at_1:ZaW) (h_2:Zal) (A3:Int):Option Int:= Zbb (ZcW N h_2) fun x1=> if (!x1)=true then some 1 else if (!(h_2.Prev==at_1.Prev))=true then some 2 else Zbb (ZfF N A0 at_1.Point h_2.Time) fun x2=> if (h_2.Bits != x2)=true then some 3 else Zbb (ZeL N A0 h_2) fun x3=> if (x3 != 0)=true then some 4 else Zbb (Zei N h_2.Time at_1.Times) fun x4=> if (!x4)=true then some 5 else Zbb (ZeM N h_2.Time A3 A0.Future) fun x5=> if (!x5)=true then some 6 else Zbb (Zbn N at_1.Point.Height A0.Gates) fun x6=> if (decide (h_2.Version<x6))=true then some 7 else Zbb (ZeG N h_2) fun x7=> Zbb (Zcm N at_1.Point.Height x7 A0.Checks) fun x8=> if (!x8)=true then some 8 else some 0
def ZeW.s {A0:Zae} {at_1:ZaW} {h_2:Zal} {A3:Int} {r:Int} (h:ZeW N A0 at_1 h_2 A3=some r):ZdW zC 119 [.agg A0.ls,.agg at_1.ls,.agg h_2.ls,oI A3] (ZeW.rs r):=fun st=>
 sO ZeW.B Tryz.func119 fun g0 w0 R hE=>by
  unfold ZeW at h;obtain ⟨x1,c1,h⟩:=Zab h;let o1:List PS:=[rZ,.r [(1,q1 [oB x1])]]
  have t1 {Q:Prop} (q:Q):=aI (ZcW.s c1) q;refine Zbd h (fun c2 h=>xS h hE (o1++[cT,rZ]) (t1 c2)) fun c2 h=>?_;let o2:List PS:=o1++[cF,rZ]
  refine Zbd h (fun c3 h=>xS h hE (o2++[cT,rZ]) (t1 (aI c2 c3))) fun c3 h=>?_;obtain ⟨x2,c4,h⟩:=Zab h;let o3:List PS:=o2++[cF,.d {ds:=[(7,q1 [oI x2])],hv:=0,Hs:=[]}]
  have t2 {Q:Prop} (q:Q):=t1 (aK c2 c3 (ZfF.s c4) q);refine Zbd h (fun c5 h=>xSd h hE (o3++[cT,rZ]) (t2 c5)) fun c5 h=>?_;obtain ⟨x3,c6,h⟩:=Zab h;let o4:List PS:=o3++[cF,.r [(2,q1 [oI x3])]]
  have t3 {Q:Prop} (q:Q):=t2 (aJ c5 (ZeL.s c6) q);refine Zbd h (fun c7 h=>xSd h hE (o4++[cT,rZ]) (t3 c7)) fun c7 h=>?_;obtain ⟨x4,c8,h⟩:=Zab h;let o5:List PS:=o4++[cF,.r [(4,q1 [oB x4])]]
  have t4 {Q:Prop} (q:Q):=t3 (aJ c7 (Zei.s c8) q);refine Zbd h (fun c9 h=>xSd h hE (o5++[cT,rZ]) (t4 c9)) fun c9 h=>?_;obtain ⟨x5,c10,h⟩:=Zab h;let o6:List PS:=o5++[cF,.r [(5,q1 [oB x5])]]
  have t5 {Q:Prop} (q:Q):=t4 (aJ c9 (ZeM.s c10) q);refine Zbd h (fun c11 h=>xSd h hE (o6++[cT,rZ]) (t5 c11)) fun c11 h=>?_;obtain ⟨x6,c12,h⟩:=Zab h;let o7:List PS:=o6++[cF,.d {ds:=[(7,q1 [oI x6])],hv:=0,Hs:=[]}]
  have t6 {Q:Prop} (q:Q):=t5 (aJ c11 (Zbn.s c12) q);refine Zbd h (fun c13 h=>xSd h hE (o7++[cT,rZ]) (t6 c13)) fun c13 h=>?_;obtain ⟨x7,c14,h⟩:=Zab h;obtain ⟨x8,c15,h⟩:=Zab h;let o8:List PS:=o7++[cF,.d {ds:=[(4,q1 [.agg [zL .u8 32 x7]]),(7,q1 [oB x8])],hv:=0,Hs:=[]}]
  have t7 {Q:Prop} (q:Q):=t6 (aK c13 (ZeG.s c14) (Zcm.s c15) q);exact Zbd h (fun c16 h=>xSd h hE (o8++[cT,rZ]) (t7 c16)) fun c16 h=>xSd h hE (o8++[cF,rZ]) (t7 c16)
def ZaM.B:Code:=Tryz.f82.body.getD .skip
def ZaM.rs (r:Int×Int×Int×LL):List CV:=[oI r.1,oI r.2.1,oI r.2.2.1]
def ZaM.p2 (N:Nat) (i2:Nat) (A2 A12:Int) (A13:Bool) (A1:Zal) (st:LL):Option (Int×Int×Int×LL):= if (!A13)=true then some ((-1),2,5,st) else ZcO (st[i2]?) Zbt fun x14=> chk (0<=A12)<| chk (A12<(len x14.spots))<| ZcO (x14.spots[0+(zD A12)]?) Zhf fun x15=> Zbb (ZeW N x14.rules x15 A1 A2) fun x16=> if (x16 != 0)=true then some ((-1),x16,8,st) else if (decide ((len x14.list)>=x14.room))=true then some ((-1),0,6,st) else Zbb (Zen N x14.rules x15 A1) fun x17=> Zbb (Zbg N (some i2) A1 A12 x17 st) fun (x18,st19)=> some (x18,0,0,st19)
def ZaM.p1 (N:Nat) (i2:Nat) (A2 A7:Int) (A8:Bool) (A1:Zal) (st:LL):Option (Int×Int×Int×LL):= if A8=true then some (A7,0,0,st) else ZcO (st[i2]?) Zbt fun x9=> optM (ZiT x9.places (zL .u8 32 A1.Prev)) (fun j10 e=>Zdv [e] fun x11=> ZaM.p2 N i2 A2 x11 true A1 st) ( ZaM.p2 N i2 A2 0 false A1 st)
def ZaM (N:Nat) (A0:Option Nat) (A1:Zal) (A2:Int) (st:LL):Option (Int×Int×Int×LL):= if (xX A0)=true then some ((-1),0,2,st) else Zbb (ZcW N A1) fun x1=> if (!x1)=true then some ((-1),1,8,st) else Zbb A0 fun i2=> ZcO (st[i2]?) Zbt fun x3=> Zbb (ZeG N A1) fun x4=> optM (ZiT x3.places (zL .u8 32 x4)) (fun j5 e=>Zdv [e] fun x6=> ZaM.p1 N i2 A2 x6 true A1 st) ( ZaM.p1 N i2 A2 0 false A1 st)
def ZaM.S2 (i2:Nat) (A2 A12:Int) (A13:Bool) (A1:Zal) (st:LL):S:=mkS 87 [(0,sP (some i2)),(2,sI A2),(4,sA 4),(11,sI A12),(12,.one (.l (wD A13)))] [(4,.cells A1.ls)] st
def ZaM.S1 (i2:Nat) (A2 A7:Int) (A8:Bool) (A1:Zal) (st:LL):S:=mkS 87 [(0,sP (some i2)),(2,sI A2),(4,sA 4),(9,sI A7),(10,.one (.l (wD A8)))] [(4,.cells A1.ls)] st
def ZaM.k2 {i2 A2 A12 A13 A1 st r} (h:ZaM.p2 N i2 A2 A12 A13 A1 st=some r) (hE:En Tryz.f82 g0 w0 (ZaM.rs r) r.2.2.2 R):At g0 w0 (ZaM.S2 i2 A2 A12 A13 A1 st) (XK zC R [cK ZaM.B [1,1,1,1,1]]):=by
 unfold ZaM.p2 at h;refine Zbd h (fun c11 h=>xV h hE [rZ,cT,rZ] c11) fun c11 h=>?_;obtain ⟨x14,c12,h⟩:=Zbi h;obtain ⟨c13,c14,h⟩:=ck2 h;obtain ⟨x15,c15,h⟩:=ZkU h;obtain ⟨x16,c16,h⟩:=Zab h;let o1:List PS:=[rZ,cF,.d {ds:=[(3,{oc:=x14.lo}),(7,{oc:=x14.lo}),(10,{oc:=x14.lo,oe:=x15.ls}),(13,q1 [oI x16])],hv:=0,Hs:=[]},rZ]
 have t1 {Q:Prop} (q:Q):=aO c11 c12 c12 c13 c14 c15 c12 (aI (ZeW.s c16) q);refine Zbd h (fun c17 h=>xVd h hE (o1++[cT,rZ]) (t1 c17)) fun c17 h=>?_;let o2:List PS:=o1++[cF,.d {ds:=[(3,{oc:=x14.lo}),(8,{oc:=x14.lo})],hv:=0,Hs:=[]}]
 refine Zbd h (fun c18 h=>xVd h hE (o2++[cT,rZ]) (t1 (aK c17 c12 c12 c18))) fun c18 h=>?_;obtain ⟨x17,c19,h⟩:=Zab h;obtain ⟨⟨x18,st19⟩,c20,h⟩:=Zab h;exact xVd h hE (o2++[cF,.d {ds:=[(6,{oc:=x14.lo}),(10,{oc:=x14.lo}),(13,{oc:=x14.lo,oe:=x15.ls}),(15,q1 [.agg x17.ls]),(16,{rs:=[oI x18],st:=st19})],hv:=65536,Hs:=[65536]}]) (t1 (aO c17 c12 c12 c18 c12 c12 c13 (aL c14 c15 c12 (Zen.s c19) (Zbg.s c20))))
def ZaM.k1 {i2 A2 A7 A8 A1 st r} (h:ZaM.p1 N i2 A2 A7 A8 A1 st=some r) (hE:En Tryz.f82 g0 w0 (ZaM.rs r) r.2.2.2 R):At g0 w0 (ZaM.S1 i2 A2 A7 A8 A1 st) (XK zC R [cK ZaM.B [1,1,1,0,1],cK ZaM.B [1,1,1,1]]):=by
 unfold ZaM.p1 at h;refine Zbd h (fun c8 h13=>xV h13 hE [rZ,cT,rZ] c8) fun c8 h14=>?_;obtain ⟨x9,c9,h15⟩:=Zbi h14;rcases Zov h15 with ⟨j10,h19,c10,h16⟩ | ⟨c10,h17⟩
 ·obtain ⟨x11,h20,h18⟩:=ZjI h16;obtain rfl:=ZkH h20;exact aqd [rZ,cF,.d {ds:=[(3,{oc:=x9.lo}),(6,{oc:=x9.lo,oe:=[zK .i64 x11]})],hv:=0,Hs:=[]},.s 1] (aK c8 c9 (ZuE c10) c9) (ZaM.k2 h18 hE)
 exact aqd [rZ,cF,.d {ds:=[(3,{oc:=x9.lo}),(6,{oc:=x9.lo,yes:=false})],hv:=0,Hs:=[]},.s 1] (aK c8 c9 c10 c9) (ZaM.k2 h17 hE)
def ZaM.s {A0:Option Nat} {A1:Zal} {A2:Int} {st:LL} {r:Int×Int×Int×LL} (h:ZaM N A0 A1 A2 st=some r):Snd zC 82 [.one (zN A0),.agg A1.ls,oI A2] st (ZaM.rs r) r.2.2.2:=
 sO ZaM.B Tryz.func82 fun g0 w0 R hE=>by
  unfold ZaM at h;refine Zbd h (fun c1 h21=>xV h21 hE [rZ,rZ,cT,rZ] c1) fun c1 h22=>?_;obtain ⟨x1,c2,h23⟩:=Zab h22;let o3:List PS:=[rZ,rZ,cF,.r [(1,q1 [oB x1])]]
  have t2 {Q:Prop} (q:Q):=aJ c1 (ZcW.s c2) q;refine Zbd h23 (fun c3 h24=>xV h24 hE (o3++[cT,rZ]) (t2 c3)) fun c3 h25=>?_;obtain ⟨i2,rfl,h26⟩:=Zab h25;obtain ⟨x3,c5,h27⟩:=Zbi h26;obtain ⟨x4,c6,h28⟩:=Zab h27;rcases Zov h28 with ⟨j5,h32,c7,h29⟩ | ⟨c7,h30⟩
  ·obtain ⟨x6,h33,h31⟩:=ZjI h29;obtain rfl:=ZkH h33;exact aqd (o3++[cF,.d {ds:=[(3,{oc:=x3.lo}),(5,q1 [.agg [zL .u8 32 x4]]),(6,{oc:=x3.lo,oe:=[zK .i64 x6]})],hv:=0,Hs:=[]},.s 2]) (t2 (aL c3 c5 (ZeG.s c6) (ZuE c7) c5)) (ZaM.k1 h31 hE)
  exact aqd (o3++[cF,.d {ds:=[(3,{oc:=x3.lo}),(5,q1 [.agg [zL .u8 32 x4]]),(6,{oc:=x3.lo,yes:=false})],hv:=0,Hs:=[]},.s 2]) (t2 (aL c3 c5 (ZeG.s c6) c7 c5)) (ZaM.k1 h30 hE)
def Zer.B:Code:=Tryz.f121.body.getD .skip
def Zer.rs (r:Int):List CV:=[oI r]
def Zer (N:Nat) (A0:Int):Option Int:= some (ZaI .and .i64 A0 (w64 (A0-1)))
def Zer.s {A0:Int} {r:Int} (h:Zer N A0=some r):ZdW zC 121 [oI A0] (Zer.rs r):=fun st=>
 sO Zer.B Tryz.func121 fun g0 w0 R hE=>by
  unfold Zer at h;exact xS h hE [rZ,rZ] trivial
def ZeK.B:Code:=Tryz.f84.body.getD .skip
def ZeK.rs (r:Int):List CV:=[oI r]
def ZeK (N:Nat) (h_0:Int):Option Int:= if (decide (h_0<2))=true then some 0 else if ((ZaI .and .i64 h_0 1)==0)=true then Zbb (Zer N h_0) fun x1=> some x1 else Zbb (Zer N (w64 (h_0-1))) fun x2=> Zbb (Zer N x2) fun x3=> some (w64 (x3+1))
def ZeK.s {h_0:Int} {r:Int} (h:ZeK N h_0=some r):ZdW zC 84 [oI h_0] (ZeK.rs r):=fun st=>
 sO ZeK.B Tryz.func84 fun g0 w0 R hE=>by
  unfold ZeK at h;refine Zbd h (fun c1 h=>xS h hE [rZ,rZ,cT,rZ] c1) fun c1 h=>?_;refine Zbd h (fun c2 h=>?_) (fun c2 h=>?_)
  ·obtain ⟨x1,c3,h⟩:=Zab h;exact xS h hE [rZ,rZ,cF,rZ,cT,.r [(1,q1 [oI x1])]] (aJ c1 c2 (Zer.s c3))
  obtain ⟨x2,c4,h⟩:=Zab h;obtain ⟨x3,c5,h⟩:=Zab h;exact xS h hE [rZ,rZ,cF,rZ,cF,.r [(2,q1 [oI x2]),(3,q1 [oI x3])]] (aK c1 c2 (Zer.s c4) (Zer.s c5))
def Zbo.B:Code:=Tryz.f93.body.getD .skip
def Zbo.rs (r:Int):List CV:=[oI r]
def Zbo (N:Nat) (A0:Zat) (at_1:Int):Option Int:= Zbb (ZbU N A0 at_1) fun (x1,x2)=> if (!x2)=true then some (-1) else some x1.Height
def Zbo.s {A0:Zat} {at_1:Int} {r:Int} (h:Zbo N A0 at_1=some r):ZdW zC 93 [.one (wE 2 A0.ls),oI at_1] (Zbo.rs r):=fun st=>
 sO Zbo.B Tryz.func93 fun g0 w0 R hE=>by
  unfold Zbo at h;obtain ⟨⟨x1,x2⟩,c1,h⟩:=Zab h;let o1:List PS:=[rZ,.r [(2,q0 [.agg x1.ls,oB x2])],rZ]
  exact Zbd h (fun c2 h=>xS h hE (o1++[cT,rZ]) (aI (ZbU.s c1) c2)) fun c2 h=>xS h hE (o1++[cF,rZ]) (aI (ZbU.s c1) c2)
def ZaA.B:Code:=Tryz.f57.body.getD .skip
def ZaA.rs (r:Int):List CV:=[oI r]
def ZaA.p2 (N:Nat) (c1_:(Int×Int)->Option Int) (A0:Zat) (F2 A8 x6 x7:Int):Option Int:= Zbb (Zbo N A0 A8) fun x9=> c1_ (A8,x9)
def ZaA.p1 (N:Nat) (A0:Zat) (F2:Int) (c1_:(Int×Int)->Option Int):(Int×Int)->Option Int:=fun (A2,h_3)=> if (decide (h_3>F2))=true then Zbb (ZbU N A0 A2) fun (x4,x5)=> chk (0<=A2)<| chk (A2<(len A0.leaps))<| ZcO (A0.leaps[zD A2]?) Zdv fun x6=> if (x6 != (-1))=true then Zbb (Zbo N A0 x6) fun x7=> if (decide (x7>=F2))=true then ZaA.p2 N c1_ A0 F2 x6 x6 x7 else ZaA.p2 N c1_ A0 F2 x4.Ahead x6 x7 else Zbb (Zbo N A0 x4.Ahead) fun x10=> c1_ (x4.Ahead,x10) else some A2
def ZaA (N:Nat) (A0:Zat) (at_1 F2:Int):Option Int:= Zbb (Zbo N A0 at_1) fun x1=> if (decide (F2<0))=true then some (-1) else if (decide (F2>x1))=true then some (-1) else loopN (ZaA.p1 N A0 F2) N (at_1,x1)
def ZaA.S2 (A0:Zat) (F2 A8 x6 x7:Int) (st:LL):S:=mkS 55 [(0,.one (.l (wE 2 A0.ls))),(2,sI F2),(10,sI A8),(43,.one (.l (wE 2 A0.ls))),(44,sI x6),(45,sI x7),(46,sI F2),(47,.one (.l (wD (decide (x7>=F2)))))] [] st
def ZaA.S1 (A0:Zat) (A2 F2 h_3:Int) (st:LL):S:=mkS 55 [(0,.one (.l (wE 2 A0.ls))),(1,sI A2),(2,sI F2),(7,sI h_3)] [] st
def ZaA.k2 {A0 F2 A8 x6 x7 st r c1_ J1} (h:ZaA.p2 N c1_ A0 F2 A8 x6 x7=some r) (hE:En Tryz.f57 g0 w0 (ZaA.rs r) st R) (hc1 : ∀A2 h_3,c1_ (A2,h_3)=some r->At g0 w0 (ZaA.S1 A0 A2 F2 h_3 st) J1):At g0 w0 (ZaA.S2 A0 F2 A8 x6 x7 st) (XK zC R [cK ZaA.B [1,1,1,0,0,0,1,0,1,1,1],.b 1,.h J1,.b 0,cK ZaA.B [1,1,1,1]]):=by
 unfold ZaA.p2 at h;obtain ⟨x9,c12,h⟩:=Zab h;exact an [.r [(3,q0 [oI x9])]] (Zbo.s c12) (hc1 A8 x9 h)
def ZaA.k1 {A0 A2 F2 h_3 st r c1_ J1} (h:ZaA.p1 N A0 F2 c1_ (A2,h_3)=some r) (hE:En Tryz.f57 g0 w0 (ZaA.rs r) st R) (hc1 : ∀A2 h_3,c1_ (A2,h_3)=some r->At g0 w0 (ZaA.S1 A0 A2 F2 h_3 st) J1):At g0 w0 (ZaA.S1 A0 A2 F2 h_3 st) (XK zC R (cK ZaA.B [1,1,1,0,0,0] :: .h J1 :: [.b 0,cK ZaA.B [1,1,1,1]])):=by
 unfold ZaA.p1 at h;refine Zbd h (fun c4 h=>?_) (fun c4 h=>?_)
 ·obtain ⟨⟨x4,x5⟩,c5,h⟩:=Zab h;obtain ⟨c6,c7,h⟩:=ck2 h;obtain ⟨x6,c8,h⟩:=Zcq h;let o1:List PS:=[rZ,cT,.r [(2,q0 [.agg x4.ls,oB x5])],rZ,.r [(3,{oe:=A0.ls}),(6,{oe:=[zK .i64 x6]})]]
  have t1 {Q:Prop} (q:Q):=aN c4 (ZbU.s c5) (eO A0.ls) c6 c7 c8 q;refine Zbd h (fun c9 h=>?_) (fun c9 h=>?_)
  ·obtain ⟨x7,c10,h⟩:=Zab h;let o2:List PS:=o1++[.r [(5,q0 [oI x7])]]
   have t2 {Q:Prop} (q:Q):=t1 (aO c9 c9 c9 (Zbo.s c10) c9 c9 c9 q);exact Zbd h (fun c11 h=>aq (o2++[cT,rZ,.s 5]) (t2 c11) (ZaA.k2 h hE hc1)) fun c11 h=>aq (o2++[cF,.s 5]) (t2 c11) (ZaA.k2 h hE hc1)
  obtain ⟨x10,c13,h⟩:=Zab h;exact an (o1++[.r [(3,wF),(4,wF),(5,wF),(6,wF),(7,wF),(8,yF)],cF,.r [(3,q0 [oI x10])]]) (t1 (aO c9 c9 c9 c9 c9 c9 eF (Zbo.s c13))) (hc1 x4.Ahead x10 h)
 exact xS h hE [rZ,cF,rZ] c4
def ZaA.s {A0:Zat} {at_1 F2:Int} {r:Int} (h:ZaA N A0 at_1 F2=some r):ZdW zC 57 [.one (wE 2 A0.ls),oI at_1,oI F2] (ZaA.rs r):=fun st=>
 sO ZaA.B Tryz.func57 fun g0 w0 R hE=>by
  unfold ZaA at h;obtain ⟨x1,c1,h⟩:=Zab h;let o3:List PS:=[rZ,.r [(2,q0 [oI x1])]]
  have t3 {Q:Prop} (q:Q):=aI (Zbo.s c1) q;exact Zbd h (fun c2 h=>xS h hE (o3++[.r [(3,wF),(4,wF),(5,wF)],cT,rZ]) (t3 (aL c2 c2 c2 c2 eT))) fun c2 h=>Zbd h (fun c3 h=>xS h hE (o3++[.r [(6,yF)],cT,rZ]) (t3 (aL c2 c2 c2 c2 c3))) fun c3 h=>aq (o3++[.r [(6,yF)],cF]) (t3 (aL c2 c2 c2 c2 c3)) (At.loop N (At.loopN (fun y:Int×Int=>ZaA.S1 A0 y.1 F2 y.2 st) (fun c J hc y h=>ZaA.k1 (A2:=y.1) (h_3:=y.2) h hE (fun A2 h_3=>hc (A2,h_3))) N (at_1,x1) h))
def ZdR.B:Code:=Tryz.f93.body.getD .skip
def ZdR.rs (r:Int×LL):List CV:=[oI r.1]
def ZdR (N:Nat) (A0:Option Nat) (at_1:Int) (st:LL):Option (Int×LL):= Zbb (ZeB N A0 at_1 st) fun (x1,x2,st3)=> if (!x2)=true then some ((-1),st3) else some (x1.Height,st3)
def ZdR.s {A0:Option Nat} {at_1:Int} {st:LL} {r:Int×LL} (h:ZdR N A0 at_1 st=some r):Snd zC 93 [.one (zN A0),oI at_1] st (ZdR.rs r) r.2:=
 sO ZdR.B Tryz.func93 fun g0 w0 R hE=>by
  unfold ZdR at h;obtain ⟨⟨x1,x2,st3⟩,c1,h⟩:=Zab h;let o1:List PS:=[rZ,.r [(2,{rs:=[.agg x1.ls,oB x2],st:=st3})],rZ]
  exact Zbd h (fun c2 h=>xT h hE (o1++[cT,rZ]) (aI (ZeB.s c1) c2)) fun c2 h=>xT h hE (o1++[cF,rZ]) (aI (ZeB.s c1) c2)
def ZaO.B:Code:=Tryz.f57.body.getD .skip
def ZaO.rs (r:Int×LL):List CV:=[oI r.1]
def ZaO.p2 (N:Nat) (c1_:((Option Nat)×Int×Int×LL)->Option (Int×LL)) (i26:Nat) (F2 A35 x33 x34:Int) (st25:LL):Option (Int×LL):= ZcO (st25[i26]?) ZbO fun x36 x37=> Zbb x36 fun i38=> ZcO (st25[i38]?) Zbt fun x39=> Zbb (Zbo N (Zat.mk x39 x37) A35) fun x40=> c1_ ((some i26),A35,x40,st25)
def ZaO.p1 (N:Nat) (F2:Int) (c1_:((Option Nat)×Int×Int×LL)->Option (Int×LL)):((Option Nat)×Int×Int×LL)->Option (Int×LL):=fun (A24,A3,A4,st25)=> if (decide (A4>F2))=true then Zbb A24 fun i26=> ZcO (st25[i26]?) ZbO fun x27 x28=> Zbb x27 fun i29=> ZcO (st25[i29]?) Zbt fun x30=> Zbb (ZbU N (Zat.mk x30 x28) A3) fun (x31,x32)=> chk (0<=A3)<| chk (A3<(len x28))<| ZcO (x28[0+(zD A3)]?) Zdv fun x33=> if (x33 != (-1))=true then Zbb (Zbo N (Zat.mk x30 x28) x33) fun x34=> if (decide (x34>=F2))=true then ZaO.p2 N c1_ i26 F2 x33 x33 x34 st25 else ZaO.p2 N c1_ i26 F2 x31.Ahead x33 x34 st25 else Zbb (Zbo N (Zat.mk x30 x28) x31.Ahead) fun x41=> c1_ ((some i26),x31.Ahead,x41,st25) else some (A3,st25)
def ZaO (N:Nat) (A0:Option Nat) (at_1 F2:Int) (st:LL):Option (Int×LL):= Zbb (ZdR N A0 at_1 st) fun (x1,st2)=> if (decide (F2<0))=true then some ((-1),st2) else if (decide (F2>x1))=true then some ((-1),st2) else loopN (ZaO.p1 N F2) N (A0,at_1,x1,st2)
def ZaO.S2 (i26:Nat) (F2 A35 x33 x34:Int) (st25:LL):S:=mkS 55 [(0,sP (some i26)),(2,sI F2),(10,sI A35),(43,sP (some i26)),(44,sI x33),(45,sI x34),(46,sI F2),(47,.one (.l (wD (decide (x34>=F2)))))] [] st25
def ZaO.S1 (A24:Option Nat) (A3 F2 A4:Int) (st25:LL):S:=mkS 55 [(0,sP A24),(1,sI A3),(2,sI F2),(7,sI A4)] [] st25
def ZaO.k2 {i26 F2 A35 x33 x34 st25 r c1_ J1} (h:ZaO.p2 N c1_ i26 F2 A35 x33 x34 st25=some r) (hE:En Tryz.f57 g0 w0 (ZaO.rs r) r.2 R) (hc1 : ∀A24 A3 A4 st25,c1_ (A24,A3,A4,st25)=some r->At g0 w0 (ZaO.S1 A24 A3 F2 A4 st25) J1):At g0 w0 (ZaO.S2 i26 F2 A35 x33 x34 st25) (XK zC R [cK ZaO.B [1,1,1,0,0,0,1,0,1,1,1],.b 1,.h J1,.b 0,cK ZaO.B [1,1,1,1]]):=by
 unfold ZaO.p2 at h;obtain ⟨x36,x37,c35,h⟩:=Zbs h;obtain ⟨i38,rfl,h⟩:=Zab h;obtain ⟨x39,c37,h⟩:=Zbi h;obtain ⟨x40,c38,h⟩:=Zab h;let u6:=Zat.ls (Zat.mk x39 x37);exact an [.r [(3,{rs:=[oI x40],m:=10,cv:=[.one (wE 2 u6)]})]] (aI (bO 2 c35 ((bC 87 c37 (ZaG.bv x39) (bW bN)):BVs st25 [zN (some i38),yI true 1 x37] u6)) (Zbo.s c38)) (hc1 (some i26) A35 x40 st25 h)
def ZaO.k1 {A24 A3 F2 A4 st25 r c1_ J1} (h:ZaO.p1 N F2 c1_ (A24,A3,A4,st25)=some r) (hE:En Tryz.f57 g0 w0 (ZaO.rs r) r.2 R) (hc1 : ∀A24 A3 A4 st25,c1_ (A24,A3,A4,st25)=some r->At g0 w0 (ZaO.S1 A24 A3 F2 A4 st25) J1):At g0 w0 (ZaO.S1 A24 A3 F2 A4 st25) (XK zC R (cK ZaO.B [1,1,1,0,0,0] :: .h J1 :: [.b 0,cK ZaO.B [1,1,1,1]])):=by
 unfold ZaO.p1 at h;refine Zbd h (fun c23 h=>?_) (fun c23 h=>?_)
 ·obtain ⟨i26,rfl,h⟩:=Zab h;obtain ⟨x27,x28,c25,h⟩:=Zbs h;obtain ⟨i29,rfl,h⟩:=Zab h;obtain ⟨x30,c27,h⟩:=Zbi h;obtain ⟨⟨x31,x32⟩,c28,h⟩:=Zab h;obtain ⟨c29,c30,h⟩:=ck2 h;obtain ⟨x33,c31,h⟩:=Zcq h;let o1:List PS:=[rZ,cT,.r [(2,{rs:=[.agg x31.ls,oB x32],m:=10,cv:=[.one (wE 2 (Zat.ls (Zat.mk x30 x28)))]})],rZ,.r [(3,{oc:=[zN (some i29),yI true 1 x28]}),(6,{oc:=[zN (some i29),yI true 1 x28],oe:=[zK .i64 x33]})]]
  have t1 {Q:Prop} (q:Q):=aO c23 (bO 2 c25 ((bC 87 c27 (ZaG.bv x30) (bW bN)):BVs st25 [zN (some i29),yI true 1 x28] (Zat.ls (Zat.mk x30 x28)))) (ZbU.s c28) c25 c29 c30 c31 (aI c25 q);refine Zbd h (fun c32 h=>?_) (fun c32 h=>?_)
  ·obtain ⟨x34,c33,h⟩:=Zab h;let o2:List PS:=o1++[.r [(5,{rs:=[oI x34],m:=10,cv:=[.one (wE 2 (Zat.ls (Zat.mk x30 x28)))]})]]
   have t2 {Q:Prop} (q:Q):=t1 (aO c32 c32 c32 (bO 2 c25 ((bC 87 c27 (ZaG.bv x30) (bW bN)):BVs st25 [zN (some i29),yI true 1 x28] (Zat.ls (Zat.mk x30 x28)))) (Zbo.s c33) c32 c32 (aI c32 q));exact Zbd h (fun c34 h=>aq (o2++[cT,rZ,.s 5]) (t2 c34) (ZaO.k2 h hE hc1)) fun c34 h=>aq (o2++[cF,.s 5]) (t2 c34) (ZaO.k2 h hE hc1)
  obtain ⟨x41,c39,h⟩:=Zab h;let u6:=Zat.ls (Zat.mk x30 x28);exact an (o1++[.r [(3,wF),(4,wF),(5,wF),(6,wF),(7,wF),(8,yF)],cF,.r [(3,{rs:=[oI x41],m:=10,cv:=[.one (wE 2 u6)]})]]) (t1 (aO c32 c32 c32 c32 c32 c32 eF (aI (bO 2 c25 ((bC 87 c27 (ZaG.bv x30) (bW bN)):BVs st25 [zN (some i29),yI true 1 x28] u6)) (Zbo.s c39)))) (hc1 (some i26) x31.Ahead x41 st25 h)
 exact xT h hE [rZ,cF,rZ] c23
def ZaO.s {A0:Option Nat} {at_1 F2:Int} {st:LL} {r:Int×LL} (h:ZaO N A0 at_1 F2 st=some r):Snd zC 57 [.one (zN A0),oI at_1,oI F2] st (ZaO.rs r) r.2:=
 sO ZaO.B Tryz.func57 fun g0 w0 R hE=>by
  unfold ZaO at h;obtain ⟨⟨x1,st2⟩,c1,h⟩:=Zab h;let o3:List PS:=[rZ,.r [(2,{rs:=[oI x1],st:=st2})]]
  have t3 {Q:Prop} (q:Q):=aI (ZdR.s c1) q;exact Zbd h (fun c2 h=>xT h hE (o3++[.r [(3,wF),(4,wF),(5,wF)],cT,rZ]) (t3 (aL c2 c2 c2 c2 eT))) fun c2 h=>Zbd h (fun c3 h=>xT h hE (o3++[.r [(6,yF)],cT,rZ]) (t3 (aL c2 c2 c2 c2 c3))) fun c3 h=>aq (o3++[.r [(6,yF)],cF]) (t3 (aL c2 c2 c2 c2 c3)) (At.loop N (At.loopN (fun y:(Option Nat)×Int×Int×LL=>ZaO.S1 y.1 y.2.1 F2 y.2.2.1 y.2.2.2) (fun c J hc y h=>ZaO.k1 (A24:=y.1) (A3:=y.2.1) (A4:=y.2.2.1) (st25:=y.2.2.2) h hE (fun A24 A3 A4 st25=>hc (A24,A3,A4,st25))) N (A0,at_1,x1,st2) h))
def Zcf.B:Code:=Tryz.f45.body.getD .skip
def Zcf.rs (r:Int×Int×Int×LL):List CV:=[oI r.1,oI r.2.1,oI r.2.2.1]
def Zcf.p1 (N:Nat) (x4 x5 x6:Int) (st16:LL):Option (Int×Int×Int×LL):= some (x4,x5,x6,st16)
def Zcf (N:Nat) (A0:Option Nat) (A1:Zal) (A2:Int) (st:LL):Option (Int×Int×Int×LL):= if (xX A0)=true then some ((-1),0,2,st) else Zbb A0 fun i1=> ZcO (st[i1]?) ZbO fun x2 x3=> Zbb (ZaM N x2 A1 A2 st) fun (x4,x5,x6,st7)=> if (x6==0)=true then ZcO (st7[i1]?) ZbO fun x8 x9=> if (x4==(len x9))=true then Zbb x8 fun i10=> ZcO (st7[i10]?) Zbt fun x11=> Zbb (Zco N x11 x4) fun (x12,x13)=> Zbb (ZeK N x12.Height) fun x14=> Zbb (ZaA N (Zat.mk x11 x9) x12.Ahead x14) fun x15=> chk (zG (x9++[[zK .i64 x15]])*8<=140737488355328)<| Zcf.p1 N x4 x5 x6 (zR (zR st7 i1 [zN (some i10),L.gone]) i1 [zN (some i10),yI true 1 (x9++[[zK .i64 x15]])]) else Zcf.p1 N x4 x5 x6 st7 else some (x4,x5,x6,st7)
def Zcf.S1 (x4 x5 x6:Int) (st16:LL):S:=mkS 66 [(9,sI x4),(10,sI x5),(11,sI x6)] [] st16
def Zcf.k1 {x4 x5 x6 st16 r} (h:Zcf.p1 N x4 x5 x6 st16=some r) (hE:En Tryz.f45 g0 w0 (Zcf.rs r) r.2.2.2 R):At g0 w0 (Zcf.S1 x4 x5 x6 st16) (XK zC R [cK Zcf.B [1,1,1,1]]):=by
 unfold Zcf.p1 at h;exact xV h hE [rZ] trivial
def Zcf.s {A0:Option Nat} {A1:Zal} {A2:Int} {st:LL} {r:Int×Int×Int×LL} (h:Zcf N A0 A1 A2 st=some r):Snd zC 45 [.one (zN A0),.agg A1.ls,oI A2] st (Zcf.rs r) r.2.2.2:=
 sO Zcf.B Tryz.func45 fun g0 w0 R hE=>by
  unfold Zcf at h;refine Zbd h (fun c1 h=>xV h hE [rZ,rZ,cT,rZ] c1) fun c1 h=>?_;obtain ⟨i1,rfl,h⟩:=Zab h;obtain ⟨x2,x3,c3,h⟩:=Zbs h;obtain ⟨⟨x4,x5,x6,st7⟩,c4,h⟩:=Zab h;let o1:List PS:=[rZ,rZ,cF,.d {ds:=[(3,{oc:=[zN x2,yI true 1 x3]}),(6,{rs:=[oI x4,oI x5,oI x6],st:=st7})],hv:=64,Hs:=[64]}]
  have t1 {Q:Prop} (q:Q):=aK c1 c3 (ZaM.s c4) q;refine Zbd h (fun c5 h=>?_) (fun c5 h=>?_)
  ·obtain ⟨x8,x9,c6,h⟩:=Zbs h;refine Zbd h (fun c7 h=>?_) (fun c7 h=>?_)
   ·obtain ⟨i10,rfl,h⟩:=Zab h;obtain ⟨x11,c9,h⟩:=Zbi h;obtain ⟨⟨x12,x13⟩,c10,h⟩:=Zab h;obtain ⟨x14,c11,h⟩:=Zab h;obtain ⟨x15,c12,h⟩:=Zab h;obtain ⟨c13,h⟩:=Zba h;let u6:=Zat.ls (Zat.mk x11 x9);exact aqd (o1++[.r [(7,{oc:=[zN (some i10),yI true 1 x9]})],cT,.r [(3,{oc:=[zN (some i10),yI true 1 x9]}),(5,{rs:=[.agg x12.ls,oB x13],m:=10,cv:=[.one (wE 87 x11.ls)]})],.d {ds:=[(4,{oc:=[zN (some i10),yI true 1 x9]}),(10,q1 [oI x14]),(11,{rs:=[oI x15],m:=10,cv:=[.one (wE 2 u6)]}),(13,{oe:=[zN (some i10),yI true 1 x9]}),(16,{oc:=[zN (some i10),L.gone],mv:=[60]})],hv:=79872,Hs:=[2048,6144,14336,79872]},.s 1]) (t1 (aO c5 c5 c5 c5 c5 c6 c5 (aO c5 c5 c7 c6 (bO 87 c9 (ZaG.bv x11)) (Zco.s c10) c6 (aO c6 c6 (ZeK.s c11) (bO 2 c6 ((bC 87 c9 (ZaG.bv x11) (bW bN)):BVs st7 [zN (some i10),yI true 1 x9] u6)) (ZaA.s c12) z0 (eN (zG x9)) (aN c6 z0 (eN (1)) c13 (Zaq c6 [zN (some i10),L.gone]) z0 (eN (zG (x9++[[zK .i64 x15]])))))))) (Zcf.k1 h hE)
   exact aqd (o1++[.r [(7,{oc:=[zN x8,yI true 1 x9]})],cF,.s 1]) (t1 (aO c5 c5 c5 c5 c5 c6 c5 (aJ c5 c5 c7))) (Zcf.k1 h hE)
  exact xVd h hE (o1++[.r [(3,wF),(4,wF),(5,wF),(6,wF),(7,wF),(8,wF),(9,wF),(10,yF)],cF,rZ]) (t1 (aO c5 c5 c5 c5 c5 c5 c5 (aI c5 eF)))
def ZdQ.B:Code:=Tryz.f20.body.getD .skip
def ZdQ.rs (r:Int×Int×Int×LL):List CV:=[oI r.1,oI r.2.1,oI r.2.2.1]
def ZdQ (N:Nat) (A0:Option Nat) (A1:Zal) (A2:Int) (st:LL):Option (Int×Int×Int×LL):= if (xX A0)=true then some ((-1),0,2,st) else Zbb A0 fun i1=> ZcO (st[i1]?) Zct fun x2 x3 x4 x5=> Zbb (Zcf N x2 A1 A2 st) fun (x6,x7,x8,st9)=> some (x6,x7,x8,st9)
def ZdQ.s {A0:Option Nat} {A1:Zal} {A2:Int} {st:LL} {r:Int×Int×Int×LL} (h:ZdQ N A0 A1 A2 st=some r):Snd zC 20 [.one (zN A0),.agg A1.ls,oI A2] st (ZdQ.rs r) r.2.2.2:=
 sO ZdQ.B Tryz.func20 fun g0 w0 R hE=>by
  unfold ZdQ at h;refine Zbd h (fun c1 h=>xV h hE [rZ,rZ,cT,rZ] c1) fun c1 h=>?_;obtain ⟨i1,rfl,h⟩:=Zab h;obtain ⟨x2,x3,x4,x5,c3,h⟩:=Zcj h;obtain ⟨⟨x6,x7,x8,st9⟩,c4,h⟩:=Zab h;exact xVd h hE [rZ,rZ,cF,.d {ds:=[(3,{oc:=(qla x2 x3 x4 x5)}),(6,{rs:=[oI x6,oI x7,oI x8],st:=st9})],hv:=64,Hs:=[64]}] (aJ c1 c3 (Zcf.s c4))
def Zby.B:Code:=Tryz.f46.body.getD .skip
def Zby.rs (r:Int):List CV:=[oI r]
def Zby.p1 (N:Nat) (A0:Zad) (A1_0:List Int) (c1_:Int->Option Int):Int->Option Int:=fun v1=> if (decide (v1<(len A0.Ids)))=true then chk (0<=v1)<| ZcO (A0.Ids[zD v1]?) ZhW fun x2=> if (x2==A1_0)=true then some v1 else c1_ (w64 (v1+1)) else some (-1)
def Zby (N:Nat) (A0:Zad) (A1_0:List Int):Option Int:= loopN (Zby.p1 N A0 A1_0) N 0
def Zby.S1 (A0:Zad) (v1:Int) (A1_0:List Int) (st:LL):S:=mkS 22 [(3,sA 3),(10,sV 32 A0.Ids),(11,sI (len A0.Ids)),(12,sI v1)] [(3,.cells [zL .u8 32 A1_0])] st
def Zby.k1 {A0 v1 A1_0 st r c1_ J1} (h:Zby.p1 N A0 A1_0 c1_ v1=some r) (hE:En Tryz.f46 g0 w0 (Zby.rs r) st R) (hc1 : ∀v1,c1_ v1=some r->At g0 w0 (Zby.S1 A0 v1 A1_0 st) J1):At g0 w0 (Zby.S1 A0 v1 A1_0 st) (XK zC R (cK Zby.B [1,0,1,0,0] :: .h J1 :: [.b 0,cK Zby.B [1,1]])):=by
 unfold Zby.p1 at h;refine Zbd h (fun c1 h=>?_) (fun c1 h=>?_)
 ·obtain ⟨c2,h⟩:=Zba h;obtain ⟨x2,c3,h⟩:=Zim h;let o1:List PS:=[rZ,cT,.r [(2,{oe:=[zL .u8 32 x2]})],rZ]
  exact Zbd h (fun c4 h=>xS h hE (o1++[cT,rZ]) (aL c1 c2 (oD c1) c3 c4)) fun c4 h=>an (o1++[cF,rZ]) (aL c1 c2 (oD c1) c3 c4) (hc1 (w64 (v1+1)) h)
 exact xS h hE [rZ,cF,rZ] c1
def Zby.s {A0:Zad} {A1_0:List Int} {r:Int} (h:Zby N A0 A1_0=some r):ZdW zC 46 [.one (wE 88 A0.ls),.agg [zL .u8 32 A1_0]] (Zby.rs r):=fun st=>
 sO Zby.B Tryz.func46 fun g0 w0 R hE=>by
  unfold Zby at h;exact aq [rZ,.r [(3,{oe:=A0.ls})]] (eO A0.ls) (At.loop N (At.loopN (fun y:Int=>Zby.S1 A0 y A1_0 st) (fun c J hc y h=>Zby.k1 h hE (fun v1=>hc v1)) N 0 h))
def ZaX.B:Code:=Tryz.f48.body.getD .skip
def ZaX.rs (r:LL):List CV:=[.row true 68 r]
def ZaX.p1 (N:Nat) (A0:Zad) (c1_:(LL×Int)->Option LL):(LL×Int)->Option LL:=fun (A4,A1)=> if (decide (A1>=0))=true then chk (0<=A1)<| chk (A1<(len A0.List_))<| ZcO (A0.List_[zD A1]?) ZeC fun x5=> chk (zG ([x5.ls]++A4)*96<=140737488355328)<| chk (A1<(len A0.Ahead))<| ZcO (A0.Ahead[zD A1]?) Zdv fun x6=> c1_ ([x5.ls]++A4,x6) else some A4
def ZaX (N:Nat) (A0:Zad) (at_1:Int):Option LL:= loopN (ZaX.p1 N A0) N ([],at_1)
def ZaX.S1 (A0:Zad) (A4:LL) (A1:Int) (st:LL):S:=mkS 28 [(0,.one (.l (wE 88 A0.ls))),(5,.one (.h (.row 5 0) 68 0 (zG A4))),(6,sI A1)] [(5,.row 0 true 68 A4)] st
def ZaX.k1 {A0 A4 A1 st r c1_ J1} (h:ZaX.p1 N A0 c1_ (A4,A1)=some r) (hE:En Tryz.f48 g0 w0 (ZaX.rs r) st R) (hc1 : ∀A4 A1,c1_ (A4,A1)=some r->At g0 w0 (ZaX.S1 A0 A4 A1 st) J1):At g0 w0 (ZaX.S1 A0 A4 A1 st) (XK zC R (cK ZaX.B [1,1,0,1,0,0] :: .h J1 :: [.b 0,cK ZaX.B [1,1,1]])):=by
 unfold ZaX.p1 at h;refine Zbd h (fun c8 h=>?_) (fun c8 h=>?_)
 ·obtain ⟨c9,c10,h⟩:=ck2 h;obtain ⟨x5,c11,h⟩:=ZeU h;obtain ⟨c12,c13,h⟩:=ck2 h;obtain ⟨x6,c14,h⟩:=Zcq h;exact an [rZ,cT,.r [(3,{oe:=A0.ls}),(6,{oe:=x5.ls}),(10,{m:=4})],.r [(3,{oe:=A0.ls}),(6,{oe:=[zK .i64 x6]})]] (aO c8 (eO A0.ls) c9 c10 c11 z0 (eN (1)) (aN z0 (eN (zG A4)) c12 (eO A0.ls) c9 c13 c14)) (hc1 ([x5.ls]++A4) x6 h)
 obtain rfl:=Zac h;exact af hE [rZ,cF,rZ] [] 0 [0] (aJ c8 z0 (eN (zG A4)))
def ZaX.s {A0:Zad} {at_1:Int} {r:LL} (h:ZaX N A0 at_1=some r):ZdW zC 48 [.one (wE 88 A0.ls),oI at_1] (ZaX.rs r):=fun st=>
 sO ZaX.B Tryz.func48 fun g0 w0 R hE=>by
  unfold ZaX at h;exact aq [.r [(0,{m:=2})],.r [(0,{m:=1})],rZ] trivial (At.loop N (At.loopN (fun y:LL×Int=>ZaX.S1 A0 y.1 y.2 st) (fun c J hc y h=>ZaX.k1 (A4:=y.1) (A1:=y.2) h hE (fun A4 A1=>hc (A4,A1))) N ([],at_1) h))
def Zax.B:Code:=Tryz.f164.body.getD .skip
def Zax.rs (r:(List Int)×Bool):List CV:=[.agg [zL .u64 4 r.1],oB r.2]
def Zax.p2 (N:Nat) (c1_:(Int×Int×(List Int))->Option ((List Int)×Bool)) (F1 F2 A1 A2 A12:Int) (A0_0 A11:List Int):Option ((List Int)×Bool):= chk (0<=A2)<| chk (A2<10)<| c1_ (w64 (zT (w64 ((w64 (A12*F1))+A1)) 4294967296),w64 (A2+1),zR A11 (zD A2) (yB (w64 ((w64 (A12*F1))+A1)) 4294967296))
def Zax.p4 (N:Nat) (A17:List Int) (c4_:(Int×(List Int))->Option ((List Int)×Bool)):(Int×(List Int))->Option ((List Int)×Bool):=fun (A18,A19)=> if (decide (A18<8))=true then chk (0<=(w64 (zT A18 2)))<| chk ((w64 (zT A18 2))<4)<| chk (0<=A18)<| chk (A18<10)<| chk (0<=(v64 (w64 (32*(yB A18 2)))))<| c4_ (w64 (A18+1),zR A19 (zD (w64 (zT A18 2))) (v64 ((zF A19 (zD (w64 (zT A18 2))) 0)+(ZbP .u64 (v64 (zF A17 (zD A18) 0)) (v64 (w64 (32*(yB A18 2)))))))) else if ((zF A17 8 0)==0)=true then some (A19,(zF A17 9 0)==0) else some (A19,false)
def Zax.p3 (N:Nat) (F2:Int) (A11:List Int) (c3_:(Int×Int×(List Int))->Option ((List Int)×Bool)):(Int×Int×(List Int))->Option ((List Int)×Bool):=fun (A13,A14,A17)=> if (decide (A14>=0))=true then chk (0<=A14)<| chk (A14<10)<| chk (F2≠0)<| c3_ (yB (w64 ((w64 (A13*4294967296))+(zF A11 (zD A14) 0))) F2,w64 (A14-1),zR A17 (zD A14) (w64 (zT (w64 ((w64 (A13*4294967296))+(zF A11 (zD A14) 0))) F2))) else loopN (Zax.p4 N A17) N (0,zB 4 0)
def Zax.p1 (N:Nat) (F1 F2:Int) (A0_0:List Int) (c1_:(Int×Int×(List Int))->Option ((List Int)×Bool)):(Int×Int×(List Int))->Option ((List Int)×Bool):=fun (A1,A2,A11)=> if (decide (A2<10))=true then if (decide (A2<8))=true then chk (0<=(w64 (zT A2 2)))<| chk ((w64 (zT A2 2))<4)<| chk (0<=(v64 (w64 (32*(yB A2 2)))))<| Zax.p2 N c1_ F1 F2 A1 A2 (w64 (yB (Zbx .u64 (zF A0_0 (zD (w64 (zT A2 2))) 0) (v64 (w64 (32*(yB A2 2))))) 4294967296)) A0_0 A11 else Zax.p2 N c1_ F1 F2 A1 A2 0 A0_0 A11 else loopN (Zax.p3 N F2 A11) N (0,9,zB 10 0)
def Zax (N:Nat) (A0_0:List Int) (F1 F2:Int):Option ((List Int)×Bool):= loopN (Zax.p1 N F1 F2 A0_0) N (0,0,zB 10 0)
def Zax.S2 (F1 F2 A1 A2 A12:Int) (A0_0 A11:List Int) (st:LL):S:=mkS 96 [(1,sI F1),(2,sI F2),(3,sA 3),(6,sA 6),(8,sA 8),(9,sI A1),(10,sI A2),(11,sI A12)] [(3,.cells [zL .u64 4 A0_0]),(6,.cells [zL .u64 4 (zB 4 0)]),(8,.cells [zL .i64 10 A11])] st
def Zax.S4 (A18:Int) (A17 A19:List Int) (st:LL):S:=mkS 96 [(6,sA 6),(14,sA 14),(17,sA 17),(18,sI A18)] [(6,.cells [zL .u64 4 (zB 4 0)]),(14,.cells [zL .i64 10 A17]),(17,.cells [zL .u64 4 A19])] st
def Zax.S3 (F2 A13 A14:Int) (A11 A17:List Int) (st:LL):S:=mkS 96 [(2,sI F2),(6,sA 6),(8,sA 8),(13,sI A13),(14,sA 14),(15,sI A14)] [(6,.cells [zL .u64 4 (zB 4 0)]),(8,.cells [zL .i64 10 A11]),(14,.cells [zL .i64 10 A17])] st
def Zax.S1 (F1 F2 A1 A2:Int) (A0_0 A11:List Int) (st:LL):S:=mkS 96 [(1,sI F1),(2,sI F2),(3,sA 3),(6,sA 6),(8,sA 8),(9,sI A1),(10,sI A2)] [(3,.cells [zL .u64 4 A0_0]),(6,.cells [zL .u64 4 (zB 4 0)]),(8,.cells [zL .i64 10 A11])] st
def Zax.k2 {F1 F2 A1 A2 A12 A0_0 A11 st r c1_ J1} (h:Zax.p2 N c1_ F1 F2 A1 A2 A12 A0_0 A11=some r) (hE:En Tryz.f164 g0 w0 (Zax.rs r) st R) (hc1 : ∀A1 A2 A11,c1_ (A1,A2,A11)=some r->At g0 w0 (Zax.S1 F1 F2 A1 A2 A0_0 A11 st) J1):At g0 w0 (Zax.S2 F1 F2 A1 A2 A12 A0_0 A11 st) (XK zC R [cK Zax.B [1,1,1,0,1,0,0,1,0,0,1,1],.b 1,cK Zax.B [1,1,1,0,1,0,0,1,1],.h J1,.b 0,cK Zax.B [1,1,1,1]]):=by
 unfold Zax.p2 at h;obtain ⟨c49,c50,h⟩:=ck2 h;let u6:=w64 ((w64 (A12*F1))+A1);exact an [rZ,rZ,rZ,rZ] (aK (neI 4294967296) c49 c50 (neI 4294967296)) (hc1 (w64 (zT u6 4294967296)) (w64 (A2+1)) (zR A11 (zD A2) (yB u6 4294967296)) h)
def Zax.k4 {A18 A17 A19 st r c4_ J4} (h:Zax.p4 N A17 c4_ (A18,A19)=some r) (hE:En Tryz.f164 g0 w0 (Zax.rs r) st R) (hc4 : ∀A18 A19,c4_ (A18,A19)=some r->At g0 w0 (Zax.S4 A18 A17 A19 st) J4):At g0 w0 (Zax.S4 A18 A17 A19 st) (XK zC R (cK Zax.B [1,1,1,1,1,1,1,1,0,1,0,0] :: .h J4 :: [.b 4,cK Zax.B [1,1,1,1,1,1,1,1,1]])):=by
 unfold Zax.p4 at h;refine Zbd h (fun c80 h=>?_) (fun c80 h=>?_)
 ·obtain ⟨c81,c82,c83,c84,c85,h⟩:=ck5 h;exact Zlu fol [rZ,cT,.d {ds:=[],hv:=131072,Hs:=[131072]},rZ] [6,14,17,18] [6,14,17] (aO c80 (neI 2) (neI 2) c81 c82 c83 c84 (aK (neI 2) c85 c81 c82)) (hc4 (w64 (A18+1)) (zR A19 (zD (w64 (zT A18 2))) (v64 ((zF A19 (zD (w64 (zT A18 2))) 0)+(ZbP .u64 (v64 (zF A17 (zD A18) 0)) (v64 (w64 (32*(yB A18 2)))))))) h)
 exact Zbd h (fun c86 h=>xSd h hE [rZ,cF,.d {ds:=[],hv:=512,Hs:=[512]}] (aI c80 (ix 8 10 (aI c86 (ix 9 10 (aI c86 (ix 9 10 (aM c86 c86 c86 c86 c86 c86)))))))) fun c86 h=>xSd h hE [rZ,cF,.d {ds:=[(5,wF),(6,wF),(7,wF),(8,yF)],hv:=512,Hs:=[512]}] (aI c80 (ix 8 10 (aO c86 c86 c86 c86 c86 c86 c86 c86)))
def Zax.k3 {F2 A13 A14 A11 A17 st r c3_ J3} (h:Zax.p3 N F2 A11 c3_ (A13,A14,A17)=some r) (hE:En Tryz.f164 g0 w0 (Zax.rs r) st R) (hc3 : ∀A13 A14 A17,c3_ (A13,A14,A17)=some r->At g0 w0 (Zax.S3 F2 A13 A14 A11 A17 st) J3):At g0 w0 (Zax.S3 F2 A13 A14 A11 A17 st) (XK zC R (cK Zax.B [1,1,1,1,1,1,0,1,0,0] :: .h J3 :: [.b 2,cK Zax.B [1,1,1,1,1,1,1]])):=by
 unfold Zax.p3 at h;refine Zbd h (fun c69 h=>?_) (fun c69 h=>?_)
 ·obtain ⟨c70,c71,c72,h⟩:=ck3 h;let u6:=w64 ((w64 (A13*4294967296))+(zF A11 (zD A14) 0));exact an [rZ,cT,rZ,rZ,rZ,rZ] (aN c69 c70 c71 c72 c70 c71 c72) (hc3 (yB u6 F2) (w64 (A14-1)) (zR A17 (zD A14) (w64 (zT u6 F2))) h)
 exact aq [rZ,cF,rZ,rZ] c69 (At.loop N (At.loopN (fun y:Int×(List Int)=>Zax.S4 y.1 A17 y.2 st) (fun c J hc y h=>Zax.k4 (A18:=y.1) (A19:=y.2) h hE (fun A18 A19=>hc (A18,A19))) N (0,zB 4 0) h))
def Zax.k1 {F1 F2 A1 A2 A0_0 A11 st r c1_ J1} (h:Zax.p1 N F1 F2 A0_0 c1_ (A1,A2,A11)=some r) (hE:En Tryz.f164 g0 w0 (Zax.rs r) st R) (hc1 : ∀A1 A2 A11,c1_ (A1,A2,A11)=some r->At g0 w0 (Zax.S1 F1 F2 A1 A2 A0_0 A11 st) J1):At g0 w0 (Zax.S1 F1 F2 A1 A2 A0_0 A11 st) (XK zC R (cK Zax.B [1,1,1,0,1,0,0] :: .h J1 :: [.b 0,cK Zax.B [1,1,1,1]])):=by
 unfold Zax.p1 at h;refine Zbd h (fun c44 h=>?_) (fun c44 h=>?_)
 ·refine Zbd h (fun c45 h=>?_) (fun c45 h=>?_)
  ·obtain ⟨c46,c47,c48,h⟩:=ck3 h;exact aq [rZ,cT,rZ,rZ,cT,rZ,.s 6] (aO c44 c45 (neI 2) c46 c47 (neI 2) c48 (neI 4294967296)) (Zax.k2 h hE hc1)
  exact aq [rZ,cT,rZ,rZ,cF,.s 6] (aI c44 c45) (Zax.k2 h hE hc1)
 exact aq [rZ,cF,rZ,rZ,rZ] c44 (At.loop N (At.loopN (fun y:Int×Int×(List Int)=>Zax.S3 F2 y.1 y.2.1 A11 y.2.2 st) (fun c J hc y h=>Zax.k3 (A13:=y.1) (A14:=y.2.1) (A17:=y.2.2) h hE (fun A13 A14 A17=>hc (A13,A14,A17))) N (0,9,zB 10 0) h))
def Zax.s {A0_0:List Int} {F1 F2:Int} {r:(List Int)×Bool} (h:Zax N A0_0 F1 F2=some r):ZdW zC 164 [.agg [zL .u64 4 A0_0],oI F1,oI F2] (Zax.rs r):=fun st=>
 sO Zax.B Tryz.func164 fun g0 w0 R hE=>by
  unfold Zax at h;exact aq [rZ,rZ,rZ,rZ] trivial (At.loop N (At.loopN (fun y:Int×Int×(List Int)=>Zax.S1 F1 F2 y.1 y.2.1 A0_0 y.2.2 st) (fun c J hc y h=>Zax.k1 (A1:=y.1) (A2:=y.2.1) (A11:=y.2.2) h hE (fun A1 A2 A11=>hc (A1,A2,A11))) N (0,0,zB 10 0) h))
def ZaB.B:Code:=Tryz.f165.body.getD .skip
def ZaB.rs (r:Int):List CV:=[oI r]
def ZaB.p2 (N:Nat) (c1_:(Int×Int)->Option Int) (A4 A2:Int) (A0_0:List Int):Option Int:= c1_ (A4,w64 (A2+1))
def ZaB.p4 (N:Nat) (A8 A9:Int):Option Int:= some (w64 ((w64 (A8*16777216))+A9))
def ZaB.p3 (N:Nat) (A1 A7:Int):Option Int:= if (decide (A7>=8388608))=true then ZaB.p4 N (w64 (A1+1)) (w64 (zT A7 256)) else ZaB.p4 N A1 A7
def ZaB.p1 (N:Nat) (A0_0:List Int) (c1_:(Int×Int)->Option Int):(Int×Int)->Option Int:=fun (A1,A2)=> if (decide (A2<32))=true then Zbb (Zap N A0_0 (w64 ((-8)*A2))) fun x3=> if (decide ((yB (zF x3 0 0) 256)>0))=true then ZaB.p2 N c1_ (w64 (A2+1)) A2 A0_0 else ZaB.p2 N c1_ A1 A2 A0_0 else Zbb (Zap N A0_0 (w64 (8*(w64 (3-A1))))) fun x5=> if (decide (A1>3))=true then Zbb (Zap N A0_0 (w64 ((-8)*(w64 (A1-3))))) fun x6=> ZaB.p3 N A1 (w64 (yB (zF x6 0 0) 16777216)) else ZaB.p3 N A1 (w64 (yB (zF x5 0 0) 16777216))
def ZaB (N:Nat) (A0_0:List Int):Option Int:= loopN (ZaB.p1 N A0_0) N (0,0)
def ZaB.S2 (A4 A2:Int) (A0_0:List Int) (st:LL):S:=mkS 49 [(1,sA 1),(3,sI A4),(4,sI A2)] [(1,.cells [zL .u64 4 A0_0])] st
def ZaB.S4 (A8 A9:Int) (st:LL):S:=mkS 49 [(3,sI A8),(6,sI A9)] [] st
def ZaB.S3 (A1 A7:Int) (st:LL):S:=mkS 49 [(3,sI A1),(6,sI A7)] [] st
def ZaB.S1 (A1 A2:Int) (A0_0:List Int) (st:LL):S:=mkS 49 [(1,sA 1),(3,sI A1),(4,sI A2)] [(1,.cells [zL .u64 4 A0_0])] st
def ZaB.k2 {A4 A2 A0_0 st r c1_ J1} (h:ZaB.p2 N c1_ A4 A2 A0_0=some r) (hE:En Tryz.f165 g0 w0 (ZaB.rs r) st R) (hc1 : ∀A1 A2,c1_ (A1,A2)=some r->At g0 w0 (ZaB.S1 A1 A2 A0_0 st) J1):At g0 w0 (ZaB.S2 A4 A2 A0_0 st) (XK zC R [cK ZaB.B [1,1,0,1,0,0,1,1],.h J1,.b 0,cK ZaB.B [1,1,1]]):=by
 unfold ZaB.p2 at h;exact an [rZ] trivial (hc1 A4 (w64 (A2+1)) h)
def ZaB.k4 {A8 A9 st r} (h:ZaB.p4 N A8 A9=some r) (hE:En Tryz.f165 g0 w0 (ZaB.rs r) st R):At g0 w0 (ZaB.S4 A8 A9 st) (XK zC R [cK ZaB.B [1,1,1,1,1,1]]):=by
 unfold ZaB.p4 at h;exact xS h hE [rZ] trivial
def ZaB.k3 {A1 A7 st r} (h:ZaB.p3 N A1 A7=some r) (hE:En Tryz.f165 g0 w0 (ZaB.rs r) st R):At g0 w0 (ZaB.S3 A1 A7 st) (XK zC R [cK ZaB.B [1,1,1,1,1]]):=by
 unfold ZaB.p3 at h;exact Zbd h (fun c7 h=>aq [rZ,cT,rZ,rZ,.s 1] (aI c7 (neI 256)) (ZaB.k4 h hE)) fun c7 h=>aq [rZ,cF,.s 1] c7 (ZaB.k4 h hE)
def ZaB.k1 {A1 A2 A0_0 st r c1_ J1} (h:ZaB.p1 N A0_0 c1_ (A1,A2)=some r) (hE:En Tryz.f165 g0 w0 (ZaB.rs r) st R) (hc1 : ∀A1 A2,c1_ (A1,A2)=some r->At g0 w0 (ZaB.S1 A1 A2 A0_0 st) J1):At g0 w0 (ZaB.S1 A1 A2 A0_0 st) (XK zC R (cK ZaB.B [1,1,0,1,0,0] :: .h J1 :: [.b 0,cK ZaB.B [1,1,1]])):=by
 unfold ZaB.p1 at h;refine Zbd h (fun c1 h=>?_) (fun c1 h=>?_)
 ·obtain ⟨x3,c2,h⟩:=Zab h;let o1:List PS:=[rZ,cT,.r [(3,q1 [.agg [zL .u64 4 x3]])],rZ]
  have t1 {Q:Prop} (q:Q):=aJ c1 (Zap.s c2) (ix 0 4 (aI (neI 256) q));exact Zbd h (fun c3 h=>aq (o1++[cT,rZ,.s 4]) (t1 c3) (ZaB.k2 h hE hc1)) fun c3 h=>aq (o1++[cF,.s 4]) (t1 c3) (ZaB.k2 h hE hc1)
 obtain ⟨x5,c4,h⟩:=Zab h;let o2:List PS:=[rZ,cF,.r [(4,q1 [.agg [zL .u64 4 x5]])],rZ]
 have t2 {Q:Prop} (q:Q):=aJ c1 (Zap.s c4) (ix 0 4 (aI (neI 16777216) q));refine Zbd h (fun c5 h=>?_) (fun c5 h=>?_)
 ·obtain ⟨x6,c6,h⟩:=Zab h;exact aq (o2++[cT,.r [(4,q1 [.agg [zL .u64 4 x6]])],.s 1]) (t2 (aJ c5 (Zap.s c6) (ix 0 4 (neI 16777216)))) (ZaB.k3 h hE)
 exact aq (o2++[cF,.s 1]) (t2 c5) (ZaB.k3 h hE)
def ZaB.s {A0_0:List Int} {r:Int} (h:ZaB N A0_0=some r):ZdW zC 165 [.agg [zL .u64 4 A0_0]] (ZaB.rs r):=fun st=>
 sO ZaB.B Tryz.func165 fun g0 w0 R hE=>by
  unfold ZaB at h;exact aq [rZ,rZ,rZ] trivial (At.loop N (At.loopN (fun y:Int×Int=>ZaB.S1 y.1 y.2 A0_0 st) (fun c J hc y h=>ZaB.k1 (A1:=y.1) (A2:=y.2) h hE (fun A1 A2=>hc (A1,A2))) N (0,0) h))
def ZaD.B:Code:=Tryz.f150.body.getD .skip
def ZaD.rs (r:Int):List CV:=[oI r]
def ZaD.p3 (N:Nat) (A11:List Int):Option Int:= Zbb (ZaB N A11) fun x12=> some x12
def ZaD.p2 (N:Nat) (A0:Zae) (A5:Int) (x1:List Int):Option Int:= Zbb (Zax N x1 A5 (w64 (A0.Interval*A0.Spacing))) fun (x6,x7)=> Zbb (ZcX N A0.Limit A0.Limit) fun (x8,x9)=> if (!x7)=true then some A0.Limit else Zbb (ZbG N x8 x6) fun x10=> if x10=true then some A0.Limit else if (x6==(zB 4 0))=true then ZaD.p3 N [1,0,0,0] else ZaD.p3 N x6
def ZaD.p1 (N:Nat) (A0:Zae) (A4:Int) (x1:List Int):Option Int:= if (decide (A4>(w64 ((w64 (A0.Interval*A0.Spacing))*4))))=true then ZaD.p2 N A0 (w64 ((w64 (A0.Interval*A0.Spacing))*4)) x1 else ZaD.p2 N A0 A4 x1
def ZaD (N:Nat) (A0:Zae) (A1 A2 A3:Int):Option Int:= Zbb (ZcX N A1 A0.Limit) fun (x1,x2)=> Zbb (Zej N A0) fun x3=> if (!x3)=true then some A0.Limit else if (!x2)=true then some A0.Limit else if (decide ((w64 (A3-A2))<(w64 (zT (w64 (A0.Interval*A0.Spacing)) 4))))=true then ZaD.p1 N A0 (w64 (zT (w64 (A0.Interval*A0.Spacing)) 4)) x1 else ZaD.p1 N A0 (w64 (A3-A2)) x1
def ZaD.S3 (A11:List Int) (st:LL):S:=mkS 83 [(13,sA 13)] [(13,.cells [zL .u64 4 A11])] st
def ZaD.S2 (A0:Zae) (A5:Int) (x1:List Int) (st:LL):S:=mkS 83 [(4,sA 4),(9,sA 9),(11,sI (w64 (A0.Interval*A0.Spacing))),(12,sI A5)] [(4,.cells A0.ls),(9,.cells [zL .u64 4 x1])] st
def ZaD.S1 (A0:Zae) (A4:Int) (x1:List Int) (st:LL):S:=mkS 83 [(4,sA 4),(9,sA 9),(11,sI (w64 (A0.Interval*A0.Spacing))),(12,sI A4)] [(4,.cells A0.ls),(9,.cells [zL .u64 4 x1])] st
def ZaD.k3 {A11 st r} (h:ZaD.p3 N A11=some r) (hE:En Tryz.f150 g0 w0 (ZaD.rs r) st R):At g0 w0 (ZaD.S3 A11 st) (XK zC R [cK ZaD.B [1,1,1,1,1,1,1,1,1,1,1]]):=by
 unfold ZaD.p3 at h;obtain ⟨x12,c13,h⟩:=Zab h;exact xS h hE [.r [(1,q1 [oI x12])]] (ZaB.s c13)
def ZaD.k2 {A0 A5 x1 st r} (h:ZaD.p2 N A0 A5 x1=some r) (hE:En Tryz.f150 g0 w0 (ZaD.rs r) st R):At g0 w0 (ZaD.S2 A0 A5 x1 st) (XK zC R [cK ZaD.B [1,1,1,1,1,1,1]]):=by
 unfold ZaD.p2 at h;obtain ⟨⟨x6,x7⟩,c7,h⟩:=Zab h;obtain ⟨⟨x8,x9⟩,c8,h⟩:=Zab h;let o1:List PS:=[.r [(3,q1 [.agg [zL .u64 4 x6],oB x7])],.r [(4,q1 [.agg [zL .u64 4 x8],oB x9])]]
 have t1 {Q:Prop} (q:Q):=aJ (Zax.s c7) (ZcX.s c8) q;refine Zbd h (fun c9 h=>xS h hE (o1++[.r [(3,wF),(4,wF),(5,wF)],cT,rZ]) (t1 (aL (not_false (Zcu c9)) (not_false (Zcu c9)) (not_false (Zcu c9)) (not_false (Zcu c9)) eT))) fun c9 h=>?_;obtain ⟨x10,c10,h⟩:=Zab h;let o2:List PS:=o1++[.r [(5,q1 [oB x10]),(6,yF)]]
 have t2 {Q:Prop} (q:Q):=t1 (aM (not_true (Zcv c9)) (not_true (Zcv c9)) (not_true (Zcv c9)) (ZbG.s c10) (not_true (Zcv c9)) q);exact Zbd h (fun c11 h=>xS h hE (o2++[cT,rZ]) (t2 c11)) fun c11 h=>Zbd h (fun c12 h=>aq (o2++[cF,rZ,cT,.r [(0,{m:=3})],.s 1]) (t2 (aI c11 c12)) (ZaD.k3 h hE)) fun c12 h=>aq (o2++[cF,rZ,cF,.s 1]) (t2 (aI c11 c12)) (ZaD.k3 h hE)
def ZaD.k1 {A0 A4 x1 st r} (h:ZaD.p1 N A0 A4 x1=some r) (hE:En Tryz.f150 g0 w0 (ZaD.rs r) st R):At g0 w0 (ZaD.S1 A0 A4 x1 st) (XK zC R [cK ZaD.B [1,1,1,1,1,1]]):=by
 unfold ZaD.p1 at h;exact Zbd h (fun c6 h=>aq [rZ,cT,rZ,.s 1] c6 (ZaD.k2 h hE)) fun c6 h=>aq [rZ,cF,.s 1] c6 (ZaD.k2 h hE)
def ZaD.s {A0:Zae} {A1 A2 A3:Int} {r:Int} (h:ZaD N A0 A1 A2 A3=some r):ZdW zC 150 [.agg A0.ls,oI A1,oI A2,oI A3] (ZaD.rs r):=fun st=>
 sO ZaD.B Tryz.func150 fun g0 w0 R hE=>by
  unfold ZaD at h;obtain ⟨⟨x1,x2⟩,c1,h⟩:=Zab h;obtain ⟨x3,c2,h⟩:=Zab h;let o3:List PS:=[rZ,.r [(3,q1 [.agg [zL .u64 4 x1],oB x2])]]
  have t3 {Q:Prop} (q:Q):=aJ (ZcX.s c1) (Zej.s c2) q;refine Zbd h (fun c3 h=>xS h hE (o3++[.r [(1,q1 [oB x3]),(4,wF),(5,wF)],cT,rZ]) (t3 (aK (not_false (Zcu c3)) (not_false (Zcu c3)) (not_false (Zcu c3)) eT))) fun c3 h=>?_;let o4:List PS:=o3++[.r [(1,q1 [oB x3]),(6,yF)]]
  have t4 {Q:Prop} (q:Q):=t3 (aK (not_true (Zcv c3)) (not_true (Zcv c3)) (not_true (Zcv c3)) q);exact Zbd h (fun c4 h=>xS h hE (o4++[cT,rZ]) (t4 c4)) fun c4 h=>Zbd h (fun c5 h=>aq (o4++[cF,rZ,rZ,rZ,cT,rZ,.s 1]) (t4 (aK c4 (neI 4) c5 (neI 4))) (ZaD.k1 h hE)) fun c5 h=>aq (o4++[cF,rZ,rZ,rZ,cF,.s 1]) (t4 (aJ c4 (neI 4) c5)) (ZaD.k1 h hE)
def ZcI.B:Code:=Tryz.f122.body.getD .skip
def ZcI.rs (r:Int):List CV:=[oI r]
def ZcI.p1 (N:Nat) (A2 A3 A5 A6:Int) (A0:Zae):Option Int:= if (!A0.Easy)=true then some A2 else if (decide ((w64 (A6-A3))>(w64 (2*A0.Spacing))))=true then some A0.Limit else some A5
def ZcI (N:Nat) (A0:Zae) (A1 A2 A3 A4 A5 A6:Int):Option Int:= if (decide (A1<=0))=true then some A0.Limit else if (decide (A0.Interval>0))=true then chk (A0.Interval≠0)<| if ((yB A1 A0.Interval)==0)=true then Zbb (ZaD N A0 A2 A4 A3) fun x1=> some x1 else ZcI.p1 N A2 A3 A5 A6 A0 else ZcI.p1 N A2 A3 A5 A6 A0
def ZcI.S1 (A2 A3 A5 A6:Int) (A0:Zae) (st:LL):S:=mkS 48 [(2,sI A2),(3,sI A3),(5,sI A5),(6,sI A6),(7,sA 7)] [(7,.cells A0.ls)] st
def ZcI.k1 {A2 A3 A5 A6 A0 st r} (h:ZcI.p1 N A2 A3 A5 A6 A0=some r) (hE:En Tryz.f122 g0 w0 (ZcI.rs r) st R):At g0 w0 (ZcI.S1 A2 A3 A5 A6 A0 st) (XK zC R [cK ZcI.B [1,1,1]]):=by
 unfold ZcI.p1 at h;exact Zbd h (fun c6 h=>xS h hE [rZ,cT,rZ] c6) fun c6 h=>Zbd h (fun c7 h=>xS h hE [rZ,cF,rZ,cT,rZ] (aI c6 c7)) fun c7 h=>xS h hE [rZ,cF,rZ,cF,rZ] (aI c6 c7)
def ZcI.s {A0:Zae} {A1 A2 A3 A4 A5 A6:Int} {r:Int} (h:ZcI N A0 A1 A2 A3 A4 A5 A6=some r):ZdW zC 122 [.agg A0.ls,oI A1,oI A2,oI A3,oI A4,oI A5,oI A6] (ZcI.rs r):=fun st=>
 sO ZcI.B Tryz.func122 fun g0 w0 R hE=>by
  unfold ZcI at h;refine Zbd h (fun c1 h=>xS h hE [rZ,rZ,cT,rZ] c1) fun c1 h=>?_;let o1:List PS:=[rZ,rZ,cF]
  refine Zbd h (fun c2 h=>?_) (fun c2 h=>?_)
  ·obtain ⟨c3,h⟩:=Zba h;refine Zbd h (fun c4 h=>?_) (fun c4 h=>?_)
   ·obtain ⟨x1,c5,h⟩:=Zab h;exact xS h hE (o1++[rZ,cT,.r [(4,q1 [oI x1])]]) (aO c1 c2 c2 c2 c2 c3 c2 (aJ c2 c4 (ZaD.s c5)))
   exact aq (o1++[rZ,cF,.s 1]) (aO c1 c2 c2 c2 c2 c3 c2 (aI c2 c4)) (ZcI.k1 h hE)
  exact aq (o1++[.r [(4,wF),(5,wF),(6,wF),(7,wF),(8,wF),(9,yF)],cF,.s 1]) (aO c1 c2 c2 c2 c2 c2 c2 eF) (ZcI.k1 h hE)
def ZaH.B:Code:=Tryz.f85.body.getD .skip
def ZaH.rs (r:Int):List CV:=[oI r]
def ZaH.p4 (N:Nat) (c1_:(Int×Int×Int)->Option Int) (A2:Int) (A1:LL) (A7 A8 v4:Int) (A0:Zae) (x1:Zal):Option Int:= c1_ (A7,A8,w64 (v4+1))
def ZaH.p3 (N:Nat) (c1_:(Int×Int×Int)->Option Int) (A2:Int) (A1:LL) (A7 A3:Int) (A6:Bool) (v4:Int) (A0:Zae) (x1 x5:Zal):Option Int:= if (!A0.Easy)=true then ZaH.p4 N c1_ A2 A1 A7 x5.Bits v4 A0 x1 else if (x5.Bits != A0.Limit)=true then ZaH.p4 N c1_ A2 A1 A7 x5.Bits v4 A0 x1 else if A6=true then ZaH.p4 N c1_ A2 A1 A7 x5.Bits v4 A0 x1 else ZaH.p4 N c1_ A2 A1 A7 A3 v4 A0 x1
def ZaH.p2 (N:Nat) (c1_:(Int×Int×Int)->Option Int) (A2:Int) (A1:LL) (F2 A3:Int) (A6:Bool) (v4:Int) (A0:Zae) (x1 x5:Zal):Option Int:= if A6=true then ZaH.p3 N c1_ A2 A1 x5.Time A3 A6 v4 A0 x1 x5 else ZaH.p3 N c1_ A2 A1 F2 A3 A6 v4 A0 x1 x5
def ZaH.p1 (N:Nat) (A2:Int) (A1:LL) (A0:Zae) (x1:Zal) (c1_:(Int×Int×Int)->Option Int):(Int×Int×Int)->Option Int:=fun (F2,A3,v4)=> if (decide (v4<(len A1)))=true then chk (0<=v4)<| ZcO (A1[zD v4]?) ZeC fun x5=> if (decide (A0.Interval>0))=true then chk (A0.Interval≠0)<| ZaH.p2 N c1_ A2 A1 F2 A3 ((yB v4 A0.Interval)==0) v4 A0 x1 x5 else ZaH.p2 N c1_ A2 A1 F2 A3 false v4 A0 x1 x5 else Zbb (ZcI N A0 (len A1) x1.Bits x1.Time F2 A3 A2) fun x9=> some x9
def ZaH (N:Nat) (A0:Zae) (A1:LL) (A2:Int):Option Int:= if ((len A1)==0)=true then some A0.Limit else chk (0<=(w64 ((len A1)-1)))<| chk ((w64 ((len A1)-1))<(len A1))<| ZcO (A1[zD (w64 ((len A1)-1))]?) ZeC fun x1=> loopN (ZaH.p1 N A2 A1 A0 x1) N (0,A0.Limit,0)
def ZaH.S4 (A2:Int) (A1:LL) (A7 A8 v4:Int) (A0:Zae) (x1:Zal) (st:LL):S:=mkS 73 [(2,sI A2),(3,sA 3),(7,sI (len A1)),(8,sA 8),(9,sI A7),(10,sI A8),(27,sV 68 A1),(28,sI (len A1)),(29,sI v4)] [(3,.cells A0.ls),(8,.cells x1.ls)] st
def ZaH.S3 (A2:Int) (A1:LL) (A7 A3:Int) (A6:Bool) (v4:Int) (A0:Zae) (x1 x5:Zal) (st:LL):S:=mkS 73 [(2,sI A2),(3,sA 3),(7,sI (len A1)),(8,sA 8),(9,sI A7),(10,sI A3),(12,sA 12),(13,.one (.l (wD A6))),(27,sV 68 A1),(28,sI (len A1)),(29,sI v4)] [(3,.cells A0.ls),(8,.cells x1.ls),(12,.cells x5.ls)] st
def ZaH.S2 (A2:Int) (A1:LL) (F2 A3:Int) (A6:Bool) (v4:Int) (A0:Zae) (x1 x5:Zal) (st:LL):S:=mkS 73 [(2,sI A2),(3,sA 3),(7,sI (len A1)),(8,sA 8),(9,sI F2),(10,sI A3),(12,sA 12),(13,.one (.l (wD A6))),(27,sV 68 A1),(28,sI (len A1)),(29,sI v4)] [(3,.cells A0.ls),(8,.cells x1.ls),(12,.cells x5.ls)] st
def ZaH.S1 (A2:Int) (A1:LL) (F2 A3 v4:Int) (A0:Zae) (x1:Zal) (st:LL):S:=mkS 73 [(2,sI A2),(3,sA 3),(7,sI (len A1)),(8,sA 8),(9,sI F2),(10,sI A3),(27,sV 68 A1),(28,sI (len A1)),(29,sI v4)] [(3,.cells A0.ls),(8,.cells x1.ls)] st
def ZaH.k4 {A2 A1 A7 A8 v4 A0 x1 st r c1_ J1} (h:ZaH.p4 N c1_ A2 A1 A7 A8 v4 A0 x1=some r) (hE:En Tryz.f85 g0 w0 (ZaH.rs r) st R) (hc1 : ∀F2 A3 v4,c1_ (F2,A3,v4)=some r->At g0 w0 (ZaH.S1 A2 A1 F2 A3 v4 A0 x1 st) J1):At g0 w0 (ZaH.S4 A2 A1 A7 A8 v4 A0 x1 st) (XK zC R [cK ZaH.B [1,1,1,1,1,1,0,1,0,0,1,1,1],.h J1,.b 0,cK ZaH.B [1,1,1,1,1,1,1]]):=by
 unfold ZaH.p4 at h;exact an [rZ] trivial (hc1 A7 A8 (w64 (v4+1)) h)
def ZaH.k3 {A2 A1 A7 A3 A6 v4 A0 x1 x5 st r c1_ J1} (h:ZaH.p3 N c1_ A2 A1 A7 A3 A6 v4 A0 x1 x5=some r) (hE:En Tryz.f85 g0 w0 (ZaH.rs r) st R) (hc1 : ∀F2 A3 v4,c1_ (F2,A3,v4)=some r->At g0 w0 (ZaH.S1 A2 A1 F2 A3 v4 A0 x1 st) J1):At g0 w0 (ZaH.S3 A2 A1 A7 A3 A6 v4 A0 x1 x5 st) (XK zC R [cK ZaH.B [1,1,1,1,1,1,0,1,0,0,1,1,0,0,1,1,1],.b 1,cK ZaH.B [1,1,1,1,1,1,0,1,0,0,1,1,1],.h J1,.b 0,cK ZaH.B [1,1,1,1,1,1,1]]):=by
 unfold ZaH.p3 at h;refine Zbd h (fun c11 h=>aq [.r [(4,wF),(5,wF),(6,wF),(7,wF),(8,wF),(11,wF)],cT,rZ,.s 4] (aO (not_false (Zcu c11)) (not_false (Zcu c11)) (not_false (Zcu c11)) (not_false (Zcu c11)) (not_false (Zcu c11)) (not_false (Zcu c11)) eT (aI eT eT)) (ZaH.k4 h hE hc1)) fun c11 h=>?_;have t1 {Q:Prop} (q:Q):=aN (not_true (Zcv c11)) (not_true (Zcv c11)) (not_true (Zcv c11)) (not_true (Zcv c11)) (not_true (Zcv c11)) (not_true (Zcv c11)) q;refine Zbd h (fun c12 h=>aq [.r [(9,yF),(11,wF)],cT,rZ,.s 4] (t1 (aJ c12 c12 eT)) (ZaH.k4 h hE hc1)) fun c12 h=>?_;let o1:List PS:=[.r [(9,yF),(12,yF)]]
 exact Zbd h (fun c13 h=>aq (o1++[cT,rZ,.s 4]) (t1 (aJ c12 c12 c13)) (ZaH.k4 h hE hc1)) fun c13 h=>aq (o1++[cF,.s 4]) (t1 (aJ c12 c12 c13)) (ZaH.k4 h hE hc1)
def ZaH.k2 {A2 A1 F2 A3 A6 v4 A0 x1 x5 st r c1_ J1} (h:ZaH.p2 N c1_ A2 A1 F2 A3 A6 v4 A0 x1 x5=some r) (hE:En Tryz.f85 g0 w0 (ZaH.rs r) st R) (hc1 : ∀F2 A3 v4,c1_ (F2,A3,v4)=some r->At g0 w0 (ZaH.S1 A2 A1 F2 A3 v4 A0 x1 st) J1):At g0 w0 (ZaH.S2 A2 A1 F2 A3 A6 v4 A0 x1 x5 st) (XK zC R [cK ZaH.B [1,1,1,1,1,1,0,1,0,0,1,1,0,0,1,1],.b 1,cK ZaH.B [1,1,1,1,1,1,0,1,0,0,1,1,1],.h J1,.b 0,cK ZaH.B [1,1,1,1,1,1,1]]):=by
 unfold ZaH.p2 at h;exact Zbd h (fun c10 h=>aq [rZ,cT,rZ,.s 6] c10 (ZaH.k3 h hE hc1)) fun c10 h=>aq [rZ,cF,.s 6] c10 (ZaH.k3 h hE hc1)
def ZaH.k1 {A2 A1 F2 A3 v4 A0 x1 st r c1_ J1} (h:ZaH.p1 N A2 A1 A0 x1 c1_ (F2,A3,v4)=some r) (hE:En Tryz.f85 g0 w0 (ZaH.rs r) st R) (hc1 : ∀F2 A3 v4,c1_ (F2,A3,v4)=some r->At g0 w0 (ZaH.S1 A2 A1 F2 A3 v4 A0 x1 st) J1):At g0 w0 (ZaH.S1 A2 A1 F2 A3 v4 A0 x1 st) (XK zC R (cK ZaH.B [1,1,1,1,1,1,0,1,0,0] :: .h J1 :: [.b 0,cK ZaH.B [1,1,1,1,1,1,1]])):=by
 unfold ZaH.p1 at h;refine Zbd h (fun c5 h=>?_) (fun c5 h=>?_)
 ·obtain ⟨c6,h⟩:=Zba h;obtain ⟨x5,c7,h⟩:=ZeU h;let o2:List PS:=[rZ,cT,.r [(2,{oe:=x5.ls})]]
  refine Zbd h (fun c8 h=>?_) (fun c8 h=>?_)
  ·obtain ⟨c9,h⟩:=Zba h;exact aq (o2++[rZ,.s 6]) (aO c5 c6 (oD c5) c7 c8 c8 c8 (aK c8 c9 c8 c8)) (ZaH.k2 h hE hc1)
  exact aq (o2++[.r [(4,wF),(5,wF),(6,wF),(7,wF),(8,wF),(9,yF)],.s 6]) (aO c5 c6 (oD c5) c7 c8 c8 c8 (aJ c8 c8 c8)) (ZaH.k2 h hE hc1)
 obtain ⟨x9,c14,h⟩:=Zab h;exact xS h hE [rZ,cF,.r [(9,q1 [oI x9])]] (aI c5 (ZcI.s c14))
def ZaH.s {A0:Zae} {A1:LL} {A2:Int} {r:Int} (h:ZaH N A0 A1 A2=some r):ZdW zC 85 [.agg A0.ls,.one (L.sl 68 A1),oI A2] (ZaH.rs r):=fun st=>
 sO ZaH.B Tryz.func85 fun g0 w0 R hE=>by
  unfold ZaH at h;refine Zbd h (fun c1 h=>xS h hE [rZ,rZ,rZ,cT,rZ] c1) fun c1 h=>?_;obtain ⟨c2,c3,h⟩:=ck2 h;obtain ⟨x1,c4,h⟩:=ZeU h;exact aq [rZ,rZ,rZ,cF,.r [(4,{oe:=x1.ls})],rZ,rZ,rZ] (aK c1 c2 c3 c4) (At.loop N (At.loopN (fun y:Int×Int×Int=>ZaH.S1 A2 A1 y.1 y.2.1 y.2.2 A0 x1 st) (fun c J hc y h=>ZaH.k1 (F2:=y.1) (A3:=y.2.1) (v4:=y.2.2) h hE (fun F2 A3 v4=>hc (F2,A3,v4))) N (0,A0.Limit,0) h))
def ZbW.B:Code:=Tryz.f123.body.getD .skip
def ZbW.rs (r:(List Int)):List CV:=[.agg [zL .u64 4 r]]
def ZbW.p1 (N:Nat) (A0_0:List Int) (c1_:(Int×(List Int))->Option (List Int)):(Int×(List Int))->Option (List Int):=fun (A1,A3)=> if (decide (A1>=0))=true then Zbb (Zap N A3 8) fun x4=> chk (0<=A1)<| chk (A1<32)<| c1_ (w64 (A1-1),zR x4 0 (v64 ((zF x4 0 0)+(v64 (zF A0_0 (zD A1) 0))))) else some A3
def ZbW (N:Nat) (A0_0:List Int):Option (List Int):= loopN (ZbW.p1 N A0_0) N (31,zB 4 0)
def ZbW.S1 (A1:Int) (A0_0 A3:List Int) (st:LL):S:=mkS 21 [(1,sA 1),(2,sA 2),(3,sA 3),(4,sI A1)] [(1,.cells [zL .u8 32 A0_0]),(2,.cells [zL .u64 4 (zB 4 0)]),(3,.cells [zL .u64 4 A3])] st
def ZbW.k1 {A1 A0_0 A3 st r c1_ J1} (h:ZbW.p1 N A0_0 c1_ (A1,A3)=some r) (hE:En Tryz.f123 g0 w0 (ZbW.rs r) st R) (hc1 : ∀A1 A3,c1_ (A1,A3)=some r->At g0 w0 (ZbW.S1 A1 A0_0 A3 st) J1):At g0 w0 (ZbW.S1 A1 A0_0 A3 st) (XK zC R (cK ZbW.B [1,1,0,1,0,0] :: .h J1 :: [.b 0,cK ZbW.B [1,1,1]])):=by
 unfold ZbW.p1 at h;refine Zbd h (fun c5 h=>?_) (fun c5 h=>?_)
 ·obtain ⟨x4,c6,h⟩:=Zab h;obtain ⟨c7,c8,h⟩:=ck2 h;exact Zlu fol [rZ,cT,.r [(1,q1 [.agg [zL .u64 4 x4]])],.d {ds:=[],hv:=256,Hs:=[256]},rZ] [1,2,3,4] [1,2,3] (aJ c5 (Zap.s c6) (ix 0 4 (aK c7 c8 (leI 0 0) (ltI 0 4)))) (hc1 (w64 (A1-1)) (zR x4 0 (v64 ((zF x4 0 0)+(v64 (zF A0_0 (zD A1) 0))))) h)
 exact xS h hE [rZ,cF,rZ] c5
def ZbW.s {A0_0:List Int} {r:(List Int)} (h:ZbW N A0_0=some r):ZdW zC 123 [.agg [zL .u8 32 A0_0]] (ZbW.rs r):=fun st=>
 sO ZbW.B Tryz.func123 fun g0 w0 R hE=>by
  unfold ZbW at h;exact aq [rZ,rZ,rZ] trivial (At.loop N (At.loopN (fun y:Int×(List Int)=>ZbW.S1 y.1 A0_0 y.2 st) (fun c J hc y h=>ZbW.k1 (A1:=y.1) (A3:=y.2) h hE (fun A1 A3=>hc (A1,A3))) N (31,zB 4 0) h))
def Zey.B:Code:=Tryz.f86.body.getD .skip
def Zey.rs (r:Bool):List CV:=[oB r]
def Zey (N:Nat) (A0:Zae) (A1:Zal):Option Bool:= Zbb (ZcX N A1.Bits A0.Limit) fun (x1,x2)=> if x2=true then Zbb (ZdF N A1) fun x3=> Zbb (ZbW N x3) fun x4=> Zbb (ZbG N x1 x4) fun x5=> some (!x5) else some false
def Zey.s {A0:Zae} {A1:Zal} {r:Bool} (h:Zey N A0 A1=some r):ZdW zC 86 [.agg A0.ls,.agg A1.ls] (Zey.rs r):=fun st=>
 sO Zey.B Tryz.func86 fun g0 w0 R hE=>by
  unfold Zey at h;obtain ⟨⟨x1,x2⟩,c1,h⟩:=Zab h;let o1:List PS:=[rZ,.r [(4,q1 [.agg [zL .u64 4 x1],oB x2])]]
  refine Zbd h (fun c2 h=>?_) (fun c2 h=>?_)
  ·obtain ⟨x3,c3,h⟩:=Zab h;obtain ⟨x4,c4,h⟩:=Zab h;obtain ⟨x5,c5,h⟩:=Zab h;exact xSd h hE (o1++[.d {ds:=[(4,q1 [.agg [zL .u8 32 x3]]),(5,q1 [.agg [zL .u64 4 x4]]),(6,q1 [oB x5])],hv:=0,Hs:=[]}]) (aO (ZcX.s c1) c2 c2 c2 (ZdF.s c3) c2 (ZbW.s c4) (aK c2 (ZbG.s c5) c2 c2))
  exact xSd h hE (o1++[.d {ds:=[(2,wF),(3,wF),(4,wF),(5,wF),(6,wF),(7,wF),(8,yF)],hv:=0,Hs:=[]}]) (aO (ZcX.s c1) c2 c2 c2 c2 c2 c2 c2)
def ZcJ.B:Code:=Tryz.f88.body.getD .skip
def ZcJ.rs (r:LL):List CV:=[.row true 1 r]
def ZcJ.p1 (N:Nat) (A0:LL) (c1_:(LL×Int)->Option LL):(LL×Int)->Option LL:=fun (A3,A1)=> if (decide (A1>=0))=true then if (decide ((len A3)<11))=true then chk (0<=A1)<| chk (A1<(len A0))<| ZcO (A0[zD A1]?) Zdv fun x4=> chk (zG (A3++[[zK .i64 x4]])*8<=140737488355328)<| c1_ (A3++[[zK .i64 x4]],w64 (A1-1)) else some A3 else some A3
def ZcJ (N:Nat) (A0:LL):Option LL:= loopN (ZcJ.p1 N A0) N ([],w64 ((len A0)-1))
def ZcJ.S1 (A0 A3:LL) (A1:Int) (st:LL):S:=mkS 25 [(0,sV 1 A0),(3,.one (.h (.row 3 0) 1 0 (zG A3))),(4,sI A1)] [(3,.row 0 true 1 A3)] st
def ZcJ.k1 {A0 A3 A1 st r c1_ J1} (h:ZcJ.p1 N A0 c1_ (A3,A1)=some r) (hE:En Tryz.f88 g0 w0 (ZcJ.rs r) st R) (hc1 : ∀A3 A1,c1_ (A3,A1)=some r->At g0 w0 (ZcJ.S1 A0 A3 A1 st) J1):At g0 w0 (ZcJ.S1 A0 A3 A1 st) (XK zC R (cK ZcJ.B [1,1,0,1,0,0] :: .h J1 :: [.b 0,cK ZcJ.B [1,1,1]])):=by
 unfold ZcJ.p1 at h;refine Zbd h (fun c6 h=>?_) (fun c6 h=>?_)
 ·refine Zbd h (fun c7 h=>?_) (fun c7 h=>?_)
  ·obtain ⟨c8,c9,h⟩:=ck2 h;obtain ⟨x4,c10,h⟩:=Zcq h;obtain ⟨c11,h⟩:=Zba h;exact an [rZ,cT,.r [(4,{oe:=[zK .i64 x4]})],rZ] (aO c6 c6 c6 c6 c7 c8 c9 (aM c10 z0 (eN (zG A3)) z0 (eN (1)) c11)) (hc1 (A3++[[zK .i64 x4]]) (w64 (A1-1)) h)
  obtain rfl:=Zac h;exact af hE [rZ,cF,rZ] [] 0 [0] (aN c6 c6 c6 c6 c7 z0 (eN (zG A3)))
 obtain rfl:=Zac h;exact af hE [.r [(3,wF),(4,wF),(5,wF),(6,yF)],cF,rZ] [] 0 [0] (aN c6 c6 c6 c6 eF z0 (eN (zG A3)))
def ZcJ.s {A0:LL} {r:LL} (h:ZcJ N A0=some r):ZdW zC 88 [.one (L.sl 1 A0)] (ZcJ.rs r):=fun st=>
 sO ZcJ.B Tryz.func88 fun g0 w0 R hE=>by
  unfold ZcJ at h;exact aq [.r [(0,{m:=2})],.r [(0,{m:=1})],rZ] trivial (At.loop N (At.loopN (fun y:LL×Int=>ZcJ.S1 A0 y.1 y.2 st) (fun c J hc y h=>ZcJ.k1 (A3:=y.1) (A1:=y.2) h hE (fun A3 A1=>hc (A3,A1))) N ([],w64 ((len A0)-1)) h))
def ZaQ.B:Code:=Tryz.f87.body.getD .skip
def ZaQ.rs (r:Int):List CV:=[oI r]
def ZaQ.p4 (N:Nat) (c2_:(Int×Int×Int)->Option Int) (c1_:Int->Option Int) (A0:LL) (A1 A7 A10 A4:Int):Option Int:= c2_ (A7,A10,w64 (A4+1))
def ZaQ.p3 (N:Nat) (c2_:(Int×Int×Int)->Option Int) (c1_:Int->Option Int) (A0:LL) (A1 A7 A3 A4:Int):Option Int:= chk (0<=A4)<| chk (A4<(len A0))<| ZcO (A0[zD A4]?) Zdv fun x8=> chk (0<=A1)<| chk (A1<(len A0))<| ZcO (A0[zD A1]?) Zdv fun x9=> if (x8==x9)=true then ZaQ.p4 N c2_ c1_ A0 A1 A7 (w64 (A3+1)) A4 else ZaQ.p4 N c2_ c1_ A0 A1 A7 A3 A4
def ZaQ.p2 (N:Nat) (c1_:Int->Option Int) (A0:LL) (A1:Int) (c2_:(Int×Int×Int)->Option Int):(Int×Int×Int)->Option Int:=fun (A2,A3,A4)=> if (decide (A4<(if (11:Int)<(len A0) then 11 else (len A0))))=true then chk (0<=A4)<| chk (A4<(len A0))<| ZcO (A0[zD A4]?) Zdv fun x5=> chk (0<=A1)<| chk (A1<(len A0))<| ZcO (A0[zD A1]?) Zdv fun x6=> if (decide (x5<x6))=true then ZaQ.p3 N c2_ c1_ A0 A1 (w64 (A2+1)) A3 A4 else ZaQ.p3 N c2_ c1_ A0 A1 A2 A3 A4 else if (decide (A2<=(w64 (zT (if (11:Int)<(len A0) then 11 else (len A0)) 2))))=true then if (decide ((w64 (zT (if (11:Int)<(len A0) then 11 else (len A0)) 2))<(w64 (A2+A3))))=true then chk (0<=A1)<| chk (A1<(len A0))<| ZcO (A0[zD A1]?) Zdv fun x11=> some x11 else c1_ (w64 (A1+1)) else c1_ (w64 (A1+1))
def ZaQ.p1 (N:Nat) (A0:LL) (c1_:Int->Option Int):Int->Option Int:=fun A1=> if (decide (A1<(if (11:Int)<(len A0) then 11 else (len A0))))=true then loopN (ZaQ.p2 N c1_ A0 A1) N (0,0,0) else some 0
def ZaQ (N:Nat) (A0:LL):Option Int:= loopN (ZaQ.p1 N A0) N 0
def ZaQ.S4 (A0:LL) (A1 A7 A10 A4:Int) (st:LL):S:=mkS 59 [(0,sV 1 A0),(3,sI (if (11:Int)<(len A0) then 11 else (len A0))),(4,sI A1),(5,sI A7),(6,sI A10),(7,sI A4)] [] st
def ZaQ.S3 (A0:LL) (A1 A7 A3 A4:Int) (st:LL):S:=mkS 59 [(0,sV 1 A0),(3,sI (if (11:Int)<(len A0) then 11 else (len A0))),(4,sI A1),(5,sI A7),(6,sI A3),(7,sI A4)] [] st
def ZaQ.S2 (A0:LL) (A1 A2 A3 A4:Int) (st:LL):S:=mkS 59 [(0,sV 1 A0),(3,sI (if (11:Int)<(len A0) then 11 else (len A0))),(4,sI A1),(5,sI A2),(6,sI A3),(7,sI A4)] [] st
def ZaQ.S1 (A0:LL) (A1:Int) (st:LL):S:=mkS 59 [(0,sV 1 A0),(3,sI (if (11:Int)<(len A0) then 11 else (len A0))),(4,sI A1)] [] st
def ZaQ.k4 {A0 A1 A7 A10 A4 st r c2_ c1_ J2 J1} (h:ZaQ.p4 N c2_ c1_ A0 A1 A7 A10 A4=some r) (hE:En Tryz.f87 g0 w0 (ZaQ.rs r) st R) (hc2 : ∀A2 A3 A4,c2_ (A2,A3,A4)=some r->At g0 w0 (ZaQ.S2 A0 A1 A2 A3 A4 st) J2) (hc1 : ∀A1,c1_ A1=some r->At g0 w0 (ZaQ.S1 A0 A1 st) J1):At g0 w0 (ZaQ.S4 A0 A1 A7 A10 A4 st) (XK zC R [cK ZaQ.B [1,1,0,1,0,0,1,0,0,1,1,0,1,0,0,1,1],.h J2,.b 2,cK ZaQ.B [1,1,0,1,0,0,1,0,0,1,1,1],.b 1,cK ZaQ.B [1,1,0,1,0,0,1,1],.h J1,.b 0,cK ZaQ.B [1,1,1]]):=by
 unfold ZaQ.p4 at h;exact an [rZ] trivial (hc2 A7 A10 (w64 (A4+1)) h)
def ZaQ.k3 {A0 A1 A7 A3 A4 st r c2_ c1_ J2 J1} (h:ZaQ.p3 N c2_ c1_ A0 A1 A7 A3 A4=some r) (hE:En Tryz.f87 g0 w0 (ZaQ.rs r) st R) (hc2 : ∀A2 A3 A4,c2_ (A2,A3,A4)=some r->At g0 w0 (ZaQ.S2 A0 A1 A2 A3 A4 st) J2) (hc1 : ∀A1,c1_ A1=some r->At g0 w0 (ZaQ.S1 A0 A1 st) J1):At g0 w0 (ZaQ.S3 A0 A1 A7 A3 A4 st) (XK zC R [cK ZaQ.B [1,1,0,1,0,0,1,0,0,1,1,0,1,0,0,1,0,0,1],.b 3,cK ZaQ.B [1,1,0,1,0,0,1,0,0,1,1,0,1,0,0,1,1],.h J2,.b 2,cK ZaQ.B [1,1,0,1,0,0,1,0,0,1,1,1],.b 1,cK ZaQ.B [1,1,0,1,0,0,1,1],.h J1,.b 0,cK ZaQ.B [1,1,1]]):=by
 unfold ZaQ.p3 at h;obtain ⟨c10,c11,h⟩:=ck2 h;obtain ⟨x8,c12,h⟩:=Zcq h;obtain ⟨c13,c14,h⟩:=ck2 h;obtain ⟨x9,c15,h⟩:=Zcq h;let o1:List PS:=[.d {ds:=[(3,{oe:=[zK .i64 x8]}),(7,{oe:=[zK .i64 x9]})],hv:=0,Hs:=[]}]
 exact Zbd h (fun c16 h=>aqd (o1++[cT,rZ,.s 9]) (aN c10 c11 c12 c13 c14 c15 c16) (ZaQ.k4 h hE hc2 hc1)) fun c16 h=>aqd (o1++[cF,.s 9]) (aN c10 c11 c12 c13 c14 c15 c16) (ZaQ.k4 h hE hc2 hc1)
def ZaQ.k2 {A0 A1 A2 A3 A4 st r c1_ c2_ J1 J2} (h:ZaQ.p2 N c1_ A0 A1 c2_ (A2,A3,A4)=some r) (hE:En Tryz.f87 g0 w0 (ZaQ.rs r) st R) (hc1 : ∀A1,c1_ A1=some r->At g0 w0 (ZaQ.S1 A0 A1 st) J1) (hc2 : ∀A2 A3 A4,c2_ (A2,A3,A4)=some r->At g0 w0 (ZaQ.S2 A0 A1 A2 A3 A4 st) J2):At g0 w0 (ZaQ.S2 A0 A1 A2 A3 A4 st) (XK zC R (cK ZaQ.B [1,1,0,1,0,0,1,0,0,1,1,0,1,0,0] :: .h J2 :: [.b 2,cK ZaQ.B [1,1,0,1,0,0,1,0,0,1,1,1],.b 1,cK ZaQ.B [1,1,0,1,0,0,1,1],.h J1,.b 0,cK ZaQ.B [1,1,1]])):=by
 unfold ZaQ.p2 at h;refine Zbd h (fun c2 h=>?_) (fun c2 h=>?_)
 ·obtain ⟨c3,c4,h⟩:=ck2 h;obtain ⟨x5,c5,h⟩:=Zcq h;obtain ⟨c6,c7,h⟩:=ck2 h;obtain ⟨x6,c8,h⟩:=Zcq h;let o2:List PS:=[rZ,cT,.d {ds:=[(3,{oe:=[zK .i64 x5]}),(7,{oe:=[zK .i64 x6]})],hv:=0,Hs:=[]}]
  exact Zbd h (fun c9 h=>aqd (o2++[cT,rZ,.s 11]) (aO c2 c3 c4 c5 c6 c7 c8 c9) (ZaQ.k3 h hE hc2 hc1)) fun c9 h=>aqd (o2++[cF,.s 11]) (aO c2 c3 c4 c5 c6 c7 c8 c9) (ZaQ.k3 h hE hc2 hc1)
 refine Zbd h (fun c17 h=>?_) (fun c17 h=>?_)
 ·have t1 {Q:Prop} (q:Q):=aO c2 (neI 2) c17 c17 (neI 2) c17 c17 (aK c17 c17 c17 q);refine Zbd h (fun c18 h=>?_) (fun c18 h=>?_)
  ·obtain ⟨c19,c20,h⟩:=ck2 h;obtain ⟨x11,c21,h⟩:=Zcq h;exact xS h hE [rZ,cF,rZ,cT,.r [(3,{oe:=[zK .i64 x11]})]] (t1 (aK c18 c19 c20 c21))
  exact an [rZ,cF,rZ,cF,rZ] (t1 c18) (hc1 (w64 (A1+1)) h)
 exact an [rZ,cF,.r [(5,wF),(6,wF),(7,wF),(8,wF),(9,wF),(10,wF),(11,yF)],cF,rZ] (aO c2 (neI 2) c17 c17 c17 c17 c17 (aJ c17 c17 eF)) (hc1 (w64 (A1+1)) h)
def ZaQ.k1 {A0 A1 st r c1_ J1} (h:ZaQ.p1 N A0 c1_ A1=some r) (hE:En Tryz.f87 g0 w0 (ZaQ.rs r) st R) (hc1 : ∀A1,c1_ A1=some r->At g0 w0 (ZaQ.S1 A0 A1 st) J1):At g0 w0 (ZaQ.S1 A0 A1 st) (XK zC R (cK ZaQ.B [1,1,0,1,0,0] :: .h J1 :: [.b 0,cK ZaQ.B [1,1,1]])):=by
 unfold ZaQ.p1 at h;exact Zbd h (fun c1 h=>aq [rZ,cT,rZ,rZ,rZ] c1 (At.loop N (At.loopN (fun y:Int×Int×Int=>ZaQ.S2 A0 A1 y.1 y.2.1 y.2.2 st) (fun c J hc y h=>ZaQ.k2 (A2:=y.1) (A3:=y.2.1) (A4:=y.2.2) h hE hc1 (fun A2 A3 A4=>hc (A2,A3,A4))) N (0,0,0) h))) fun c1 h=>xS h hE [rZ,cF,rZ] c1
def ZaQ.s {A0:LL} {r:Int} (h:ZaQ N A0=some r):ZdW zC 87 [.one (L.sl 1 A0)] (ZaQ.rs r):=fun st=>
 sO ZaQ.B Tryz.func87 fun g0 w0 R hE=>by
  unfold ZaQ at h;exact aq [rZ,rZ,rZ] trivial (At.loop N (At.loopN (fun y:Int=>ZaQ.S1 A0 y st) (fun c J hc y h=>ZaQ.k1 h hE (fun A1=>hc A1)) N 0 h))
def Zav.B:Code:=Tryz.f47.body.getD .skip
def Zav.rs (r:Int):List CV:=[oI r]
def Zav.p6 (N:Nat) (A1:LL) (A0:Zae) (h_2:Zal) (c6_:Int->Option Int):Int->Option Int:=fun v21=> if (decide (v21<(len A0.Checks)))=true then chk (0<=v21)<| ZcO (A0.Checks[zD v21]?) ZeV fun x22=> if (x22.Height==(len A1))=true then Zbb (ZdF N h_2) fun x23=> if (!(x22.Id==x23))=true then some 8 else c6_ (w64 (v21+1)) else c6_ (w64 (v21+1)) else some 0
def Zav.p5 (N:Nat) (A1:LL) (A0:Zae) (h_2:Zal) (c5_:Int->Option Int):Int->Option Int:=fun v19=> if (decide (v19<(len A0.Gates)))=true then chk (0<=v19)<| ZcO (A0.Gates[zD v19]?) Zfi fun x20=> if (decide (x20.Height<=(len A1)))=true then if (decide (h_2.Version<x20.Version))=true then some 7 else c5_ (w64 (v19+1)) else c5_ (w64 (v19+1)) else loopN (Zav.p6 N A1 A0 h_2) N 0
def Zav.p4 (N:Nat) (A1:LL) (A0:Zae) (h_2:Zal):Option Int:= loopN (Zav.p5 N A1 A0 h_2) N 0
def Zav.p3 (N:Nat) (A3:Int) (A1:LL) (A0:Zae) (h_2:Zal):Option Int:= if (decide (A0.Future<0))=true then some 6 else if (decide (h_2.Time>A3))=true then if (decide ((w64 (h_2.Time-A3))>A0.Future))=true then some 6 else Zav.p4 N A1 A0 h_2 else Zav.p4 N A1 A0 h_2
def Zav.p2 (N:Nat) (A3:Int) (A1:LL) (A0:Zae) (h_2:Zal) (c2_:(LL×Int)->Option Int):(LL×Int)->Option Int:=fun (A15,v6)=> if (decide (v6<(len A1)))=true then chk (0<=v6)<| ZcO (A1[zD v6]?) ZeC fun x16=> chk (zG (A15++[[zK .i64 x16.Time]])*8<=140737488355328)<| c2_ (A15++[[zK .i64 x16.Time]],w64 (v6+1)) else if (decide ((len A1)>0))=true then Zbb (ZcJ N A15) fun x17=> chk (Zes x17=true)<| Zbb (ZaQ N x17) fun x18=> if (decide (h_2.Time<=x18))=true then some 5 else Zav.p3 N A3 A1 A0 h_2 else Zav.p3 N A3 A1 A0 h_2
def Zav.p1 (N:Nat) (A1:LL) (A3:Int) (A0:Zae) (h_2:Zal):Option Int:= Zbb (ZaH N A0 A1 h_2.Time) fun x4=> if (h_2.Bits != x4)=true then some 3 else Zbb (Zey N A0 h_2) fun x5=> if (!x5)=true then some 4 else loopN (Zav.p2 N A3 A1 A0 h_2) N ([],0)
def Zav (N:Nat) (A0:Zae) (A1:LL) (h_2:Zal) (A3:Int):Option Int:= Zbb (Zdw N h_2) fun x1=> if (!x1)=true then some 1 else if (decide ((len A1)>0))=true then chk (0<=(w64 ((len A1)-1)))<| chk ((w64 ((len A1)-1))<(len A1))<| ZcO (A1[zD (w64 ((len A1)-1))]?) ZeC fun x2=> Zbb (ZdF N x2) fun x3=> if (!(h_2.Prev==x3))=true then some 2 else Zav.p1 N A1 A3 A0 h_2 else Zav.p1 N A1 A3 A0 h_2
def Zav.S6 (A1:LL) (A0:Zae) (v21:Int) (h_2:Zal) (st:LL):S:=mkS 125 [(6,sA 6),(9,sI (len A1)),(107,sV 33 A0.Checks),(108,sI (len A0.Checks)),(109,sI v21)] [(6,.cells h_2.ls)] st
def Zav.S5 (A1:LL) (A0:Zae) (v19:Int) (h_2:Zal) (st:LL):S:=mkS 125 [(4,sA 4),(6,sA 6),(9,sI (len A1)),(88,sV 2 A0.Gates),(89,sI (len A0.Gates)),(90,sI v19)] [(4,.cells A0.ls),(6,.cells h_2.ls)] st
def Zav.S4 (A1:LL) (A0:Zae) (h_2:Zal) (st:LL):S:=mkS 125 [(4,sA 4),(6,sA 6),(9,sI (len A1))] [(4,.cells A0.ls),(6,.cells h_2.ls)] st
def Zav.S3 (A3:Int) (A1:LL) (A0:Zae) (h_2:Zal) (st:LL):S:=mkS 125 [(3,sI A3),(4,sA 4),(6,sA 6),(9,sI (len A1))] [(4,.cells A0.ls),(6,.cells h_2.ls)] st
def Zav.S2 (A3:Int) (A1 A15:LL) (v6:Int) (A0:Zae) (h_2:Zal) (st:LL):S:=mkS 125 [(3,sI A3),(4,sA 4),(6,sA 6),(9,sI (len A1)),(10,.one (.h (.row 10 0) 1 0 (zG A15))),(47,sV 68 A1),(48,sI (len A1)),(49,sI v6)] [(4,.cells A0.ls),(6,.cells h_2.ls),(10,.row 0 true 1 A15)] st
def Zav.S1 (A1:LL) (A3:Int) (A0:Zae) (h_2:Zal) (st:LL):S:=mkS 125 [(1,sV 68 A1),(3,sI A3),(4,sA 4),(6,sA 6),(9,sI (len A1))] [(4,.cells A0.ls),(6,.cells h_2.ls)] st
def Zav.k6 {A1 A0 v21 h_2 st r c6_ J6} (h:Zav.p6 N A1 A0 h_2 c6_ v21=some r) (hE:En Tryz.f47 g0 w0 (Zav.rs r) st R) (hc6 : ∀v21,c6_ v21=some r->At g0 w0 (Zav.S6 A1 A0 v21 h_2 st) J6):At g0 w0 (Zav.S6 A1 A0 v21 h_2 st) (XK zC R (cK Zav.B [1,1,1,1,1,1,1,1,1,1,1,0,1,0,0] :: .h J6 :: [.b 4,cK Zav.B [1,1,1,1,1,1,1,1,1,1,1,1]])):=by
 unfold Zav.p6 at h;refine Zbd h (fun c53 h=>?_) (fun c53 h=>?_)
 ·obtain ⟨c54,h⟩:=Zba h;obtain ⟨x22,c55,h⟩:=Zfd h;let o1:List PS:=[rZ,cT,.r [(1,{oe:=x22.ls})]]
  have t1 {Q:Prop} (q:Q):=aL c53 c54 (oD c53) c55 q;refine Zbd h (fun c56 h=>?_) (fun c56 h=>?_)
  ·obtain ⟨x23,c57,h⟩:=Zab h;let o2:List PS:=o1++[.d {ds:=[(8,q1 [.agg [zL .u8 32 x23]])],hv:=0,Hs:=[]}]
   have t2 {Q:Prop} (q:Q):=t1 (aO c56 c56 c56 c56 (ZdF.s c57) c56 c56 q);exact Zbd h (fun c58 h=>xSd h hE (o2++[cT,rZ]) (t2 c58)) fun c58 h=>Zlu fol (o2++[cF,rZ]) [6,9,107,108,109] [6] (t2 c58) (hc6 (w64 (v21+1)) h)
  exact Zlu fol (o1++[.d {ds:=[(5,wF),(6,wF),(7,wF),(8,wF),(9,wF),(10,yF)],hv:=0,Hs:=[]},cF,rZ]) [6,9,107,108,109] [6] (t1 (aN c56 c56 c56 c56 c56 c56 eF)) (hc6 (w64 (v21+1)) h)
 exact xS h hE [rZ,cF,rZ] c53
def Zav.k5 {A1 A0 v19 h_2 st r c5_ J5} (h:Zav.p5 N A1 A0 h_2 c5_ v19=some r) (hE:En Tryz.f47 g0 w0 (Zav.rs r) st R) (hc5 : ∀v19,c5_ v19=some r->At g0 w0 (Zav.S5 A1 A0 v19 h_2 st) J5):At g0 w0 (Zav.S5 A1 A0 v19 h_2 st) (XK zC R (cK Zav.B [1,1,1,1,1,1,1,1,1,1,0,1,0,0] :: .h J5 :: [.b 2,cK Zav.B [1,1,1,1,1,1,1,1,1,1,1]])):=by
 unfold Zav.p5 at h;refine Zbd h (fun c48 h=>?_) (fun c48 h=>?_)
 ·obtain ⟨c49,h⟩:=Zba h;obtain ⟨x20,c50,h⟩:=Zfn h;let o3:List PS:=[rZ,cT,.r [(1,{oe:=x20.ls})]]
  have t3 {Q:Prop} (q:Q):=aL c48 c49 (oD c48) c50 q;exact Zbd h (fun c51 h=>Zbd h (fun c52 h=>xS h hE (o3++[rZ,cT,rZ]) (t3 (aN c51 c51 c51 c51 c51 c51 c52))) fun c52 h=>an (o3++[rZ,cF,rZ]) (t3 (aN c51 c51 c51 c51 c51 c51 c52)) (hc5 (w64 (v19+1)) h)) fun c51 h=>an (o3++[.r [(5,wF),(6,wF),(7,wF),(8,wF),(9,wF),(10,yF)],cF,rZ]) (t3 (aN c51 c51 c51 c51 c51 c51 eF)) (hc5 (w64 (v19+1)) h)
 exact aq [rZ,cF,rZ] c48 (At.loop N (At.loopN (fun y:Int=>Zav.S6 A1 A0 y h_2 st) (fun c J hc y h=>Zav.k6 h hE (fun v21=>hc v21)) N 0 h))
def Zav.k4 {A1 A0 h_2 st r} (h:Zav.p4 N A1 A0 h_2=some r) (hE:En Tryz.f47 g0 w0 (Zav.rs r) st R):At g0 w0 (Zav.S4 A1 A0 h_2 st) (XK zC R [cK Zav.B [1,1,1,1,1,1,1,1,1,1]]):=by
 unfold Zav.p4 at h;exact aq [rZ] trivial (At.loop N (At.loopN (fun y:Int=>Zav.S5 A1 A0 y h_2 st) (fun c J hc y h=>Zav.k5 h hE (fun v19=>hc v19)) N 0 h))
def Zav.k3 {A3 A1 A0 h_2 st r} (h:Zav.p3 N A3 A1 A0 h_2=some r) (hE:En Tryz.f47 g0 w0 (Zav.rs r) st R):At g0 w0 (Zav.S3 A3 A1 A0 h_2 st) (XK zC R [cK Zav.B [1,1,1,1,1,1,1,1,1]]):=by
 unfold Zav.p3 at h;refine Zbd h (fun c45 h=>xS h hE [.r [(4,wF),(5,wF),(6,wF),(7,wF),(8,wF),(16,wF)],cT,rZ] (aO c45 c45 c45 c45 c45 c45 c45 eT)) fun c45 h=>?_;have t4 {Q:Prop} (q:Q):=aM c45 c45 c45 c45 c45 q;refine Zbd h (fun c46 h=>?_) (fun c46 h=>?_)
 ·have t5 {Q:Prop} (q:Q):=t4 (aO c46 c46 c46 c46 c46 c46 c46 (aK c45 c46 c45 q));exact Zbd h (fun c47 h=>xS h hE [.r [(17,yF)],cT,rZ] (t5 c47)) fun c47 h=>aq [.r [(17,yF)],cF,.s 1] (t5 c47) (Zav.k4 h hE)
 exact aq [.r [(9,wF),(10,wF),(11,wF),(12,wF),(13,wF),(14,wF),(15,wF),(16,yF),(17,yF)],cF,.s 1] (t4 (aO c46 c46 c46 c46 c46 c46 c46 (aK c45 c46 c45 eF))) (Zav.k4 h hE)
def Zav.k2 {A3 A1 A15 v6 A0 h_2 st r c2_ J2} (h:Zav.p2 N A3 A1 A0 h_2 c2_ (A15,v6)=some r) (hE:En Tryz.f47 g0 w0 (Zav.rs r) st R) (hc2 : ∀A15 v6,c2_ (A15,v6)=some r->At g0 w0 (Zav.S2 A3 A1 A15 v6 A0 h_2 st) J2):At g0 w0 (Zav.S2 A3 A1 A15 v6 A0 h_2 st) (XK zC R (cK Zav.B [1,1,1,1,1,1,1,0,1,0,0] :: .h J2 :: [.b 0,cK Zav.B [1,1,1,1,1,1,1,1]])):=by
 unfold Zav.p2 at h;refine Zbd h (fun c36 h=>?_) (fun c36 h=>?_)
 ·obtain ⟨c37,h⟩:=Zba h;obtain ⟨x16,c38,h⟩:=ZeU h;obtain ⟨c39,h⟩:=Zba h;exact an [rZ,cT,.r [(1,{oe:=x16.ls})],rZ,rZ] (aO c36 c37 (oD c36) c38 z0 (eN (zG A15)) z0 (aI (eN (1)) c39)) (hc2 (A15++[[zK .i64 x16.Time]]) (w64 (v6+1)) h)
 refine Zbd h (fun c40 h=>?_) (fun c40 h=>?_)
 ·obtain ⟨x17,c41,h⟩:=Zab h;obtain ⟨c42,h⟩:=Zba h;obtain ⟨x18,c43,h⟩:=Zab h;let o4:List PS:=[rZ,cF,.d {ds:=[(6,{rs:=[.row true 1 x17],ns:=[65],m:=2}),(7,{rs:=[oI x18],m:=2})],hv:=64,Hs:=[64]}]
  have t6 {Q:Prop} (q:Q):=aO c36 c40 c40 c40 c40 c40 c40 (aO z0 (eN (zG A15)) c42 (ZcJ.s c41) c40 z0 (eN (zG x17)) (aK (ZaQ.s c43) c40 c40 q));exact Zbd h (fun c44 h=>xSd h hE (o4++[cT,rZ]) (t6 c44)) fun c44 h=>aqd (o4++[cF,.s 1]) (t6 c44) (Zav.k3 h hE)
 exact aqd [rZ,cF,.d {ds:=[(3,wF),(4,wF),(5,wF),(6,wF),(7,wF),(8,wF),(9,yF)],hv:=0,Hs:=[]},cF,.s 1] (aO c36 c40 c40 c40 c40 c40 c40 (aI c40 eF)) (Zav.k3 h hE)
def Zav.k1 {A1 A3 A0 h_2 st r} (h:Zav.p1 N A1 A3 A0 h_2=some r) (hE:En Tryz.f47 g0 w0 (Zav.rs r) st R):At g0 w0 (Zav.S1 A1 A3 A0 h_2 st) (XK zC R [cK Zav.B [1,1,1,1]]):=by
 unfold Zav.p1 at h;obtain ⟨x4,c9,h⟩:=Zab h;let o5:List PS:=[.d {ds:=[(6,q1 [oI x4])],hv:=0,Hs:=[]}]
 have t7 {Q:Prop} (q:Q):=aI (ZaH.s c9) q;refine Zbd h (fun c10 h=>xSd h hE (o5++[cT,rZ]) (t7 c10)) fun c10 h=>?_;obtain ⟨x5,c11,h⟩:=Zab h;let o6:List PS:=o5++[cF,.r [(2,q1 [oB x5])]]
 exact Zbd h (fun c12 h=>xSd h hE (o6++[cT,rZ]) (t7 (aJ c10 (Zey.s c11) c12))) fun c12 h=>aqd (o6++[cF,.r [(0,{m:=1})],rZ]) (t7 (aJ c10 (Zey.s c11) c12)) (At.loop N (At.loopN (fun y:LL×Int=>Zav.S2 A3 A1 y.1 y.2 A0 h_2 st) (fun c J hc y h=>Zav.k2 (A15:=y.1) (v6:=y.2) h hE (fun A15 v6=>hc (A15,v6))) N ([],0) h))
def Zav.s {A0:Zae} {A1:LL} {h_2:Zal} {A3:Int} {r:Int} (h:Zav N A0 A1 h_2 A3=some r):ZdW zC 47 [.agg A0.ls,.one (L.sl 68 A1),.agg h_2.ls,oI A3] (Zav.rs r):=fun st=>
 sO Zav.B Tryz.func47 fun g0 w0 R hE=>by
  unfold Zav at h;obtain ⟨x1,c1,h⟩:=Zab h;let o7:List PS:=[rZ,rZ,.r [(1,q1 [oB x1])]]
  have t8 {Q:Prop} (q:Q):=aI (Zdw.s c1) q;refine Zbd h (fun c2 h=>xS h hE (o7++[cT,rZ]) (t8 c2)) fun c2 h=>?_;refine Zbd h (fun c3 h=>?_) (fun c3 h=>?_)
  ·obtain ⟨c4,c5,h⟩:=ck2 h;obtain ⟨x2,c6,h⟩:=ZeU h;obtain ⟨x3,c7,h⟩:=Zab h;let o8:List PS:=o7++[cF,.d {ds:=[(9,{oe:=x2.ls}),(10,q1 [.agg [zL .u8 32 x3]])],hv:=0,Hs:=[]}]
   have t9 {Q:Prop} (q:Q):=t8 (aO c2 c3 c3 c3 c3 c3 c3 (aO c4 c5 c3 c6 c3 (ZdF.s c7) c3 (aI c3 q)));exact Zbd h (fun c8 h=>xSd h hE (o8++[cT,rZ]) (t9 c8)) fun c8 h=>aqd (o8++[cF,.s 1]) (t9 c8) (Zav.k1 h hE)
  exact aqd (o7++[cF,.d {ds:=[(3,wF),(4,wF),(5,wF),(6,wF),(7,wF),(8,wF),(9,wF),(10,wF),(11,wF),(12,yF)],hv:=0,Hs:=[]},cF,.s 1]) (t8 (aO c2 c3 c3 c3 c3 c3 c3 (aL c3 c3 c3 c3 eF))) (Zav.k1 h hE)
def Zbj.B:Code:=Tryz.f46.body.getD .skip
def Zbj.rs (r:Int×LL):List CV:=[oI r.1]
def Zbj.p1 (N:Nat) (i1:Nat) (x2:Zad) (A1_0:List Int) (st:LL) (c1_:Int->Option (Int×LL)):Int->Option (Int×LL):=fun v3=> if (decide (v3<(len x2.Ids)))=true then chk (0<=v3)<| ZcO (st[i1]?) ZbS fun x4=> ZcO (x4.Ids[0+(zD v3)]?) ZhW fun x5=> if (x5==A1_0)=true then some (v3,st) else c1_ (w64 (v3+1)) else some ((-1),st)
def Zbj (N:Nat) (A0:Option Nat) (A1_0:List Int) (st:LL):Option (Int×LL):= Zbb A0 fun i1=> ZcO (st[i1]?) ZbS fun x2=> loopN (Zbj.p1 N i1 x2 A1_0 st) N 0
def Zbj.S1 (i1:Nat) (x2:Zad) (v3:Int) (A1_0:List Int) (st:LL):S:=mkS 22 [(3,sA 3),(10,.one (.h (.mem (.obj i1) 84 0) 32 0 (zG x2.Ids))),(11,sI (len x2.Ids)),(12,sI v3)] [(3,.cells [zL .u8 32 A1_0])] st
def Zbj.k1 {i1 x2 v3 A1_0 st r c1_ J1} (h:Zbj.p1 N i1 x2 A1_0 st c1_ v3=some r) (hE:En Tryz.f46 g0 w0 (Zbj.rs r) r.2 R) (hc1 : ∀v3,c1_ v3=some r->At g0 w0 (Zbj.S1 i1 x2 v3 A1_0 st) J1):At g0 w0 (Zbj.S1 i1 x2 v3 A1_0 st) (XK zC R (cK Zbj.B [1,0,1,0,0] :: .h J1 :: [.b 0,cK Zbj.B [1,1]])):=by
 unfold Zbj.p1 at h;refine Zbd h (fun c3 h=>?_) (fun c3 h=>?_)
 ·obtain ⟨c4,h⟩:=Zba h;obtain ⟨x4,c5,h⟩:=Zcg h;obtain ⟨x5,c6,h⟩:=Zim h;let o1:List PS:=[rZ,cT,.r [(2,{oc:=x4.lo,oe:=[zL .u8 32 x5]})],rZ]
  exact Zbd h (fun c7 h=>xT h hE (o1++[cT,rZ]) (aM c3 c4 (oD c3) c6 c5 c7)) fun c7 h=>an (o1++[cF,rZ]) (aM c3 c4 (oD c3) c6 c5 c7) (hc1 (w64 (v3+1)) h)
 exact xT h hE [rZ,cF,rZ] c3
def Zbj.s {A0:Option Nat} {A1_0:List Int} {st:LL} {r:Int×LL} (h:Zbj N A0 A1_0 st=some r):Snd zC 46 [.one (zN A0),.agg [zL .u8 32 A1_0]] st (Zbj.rs r) r.2:=
 sO Zbj.B Tryz.func46 fun g0 w0 R hE=>by
  unfold Zbj at h;obtain ⟨i1,rfl,h⟩:=Zab h;obtain ⟨x2,c2,h⟩:=Zcg h;exact aq [rZ,.r [(3,{oc:=x2.lo})]] c2 (At.loop N (At.loopN (fun y:Int=>Zbj.S1 i1 x2 y A1_0 st) (fun c J hc y h=>Zbj.k1 h hE (fun v3=>hc v3)) N 0 h))
def Zfh.B:Code:=Tryz.f49.body.getD .skip
def Zfh.rs (r:(List Int)):List CV:=[.agg [zL .u64 4 r]]
def Zfh (N:Nat) (A0_0 A1_0:List Int):Option (List Int):= Zbb (Zbm N A0_0 A1_0) fun (x1,x2)=> if x2=true then Zbb (ZdG N ) fun x3=> some x3 else some x1
def Zfh.s {A0_0 A1_0:List Int} {r:(List Int)} (h:Zfh N A0_0 A1_0=some r):ZdW zC 49 [.agg [zL .u64 4 A0_0],.agg [zL .u64 4 A1_0]] (Zfh.rs r):=fun st=>
 sO Zfh.B Tryz.func49 fun g0 w0 R hE=>by
  unfold Zfh at h;obtain ⟨⟨x1,x2⟩,c1,h⟩:=Zab h;let o1:List PS:=[rZ,.r [(2,q1 [.agg [zL .u64 4 x1],oB x2])],rZ]
  refine Zbd h (fun c2 h=>?_) (fun c2 h=>?_)
  ·obtain ⟨x3,c3,h⟩:=Zab h;exact xS h hE (o1++[cT,.r [(0,q1 [.agg [zL .u64 4 x3]])]]) (aJ (Zbm.s c1) c2 (ZdG.s c3))
  exact xS h hE (o1++[cF,rZ]) (aI (Zbm.s c1) c2)
def Zdt.B:Code:=Tryz.f21.body.getD .skip
def Zdt.rs (r:Int×Int×Int×LL):List CV:=[oI r.1,oI r.2.1,oI r.2.2.1]
def Zdt (N:Nat) (A0:Option Nat) (A1:Zal) (A2:Int) (st:LL):Option (Int×Int×Int×LL):= Zbb (Zdw N A1) fun x1=> if (!x1)=true then some ((-1),1,8,st) else Zbb (ZdF N A1) fun x2=> Zbb (Zbj N A0 x2 st) fun (x3,st4)=> if (decide (x3>=0))=true then some (x3,0,0,st4) else Zbb (Zbj N A0 A1.Prev st4) fun (x5,st6)=> if (decide (x5<0))=true then some ((-1),2,5,st6) else Zbb A0 fun i7=> ZcO (st6[i7]?) ZbS fun x8=> Zbb (ZaX N x8 x5) fun x9=> chk (Zes x9=true)<| Zbb (Zav N x8.Rules x9 A1 A2) fun x10=> if (decide (x10>0))=true then some ((-1),x10,8,st6) else if (decide ((len x8.List_)>=x8.Room))=true then some ((-1),0,6,st6) else chk (zG (x8.List_++[A1.ls])*96<=140737488355328)<| chk (zG (x8.Ids++[[zL .u8 32 x2]])*32<=140737488355328)<| chk (0<=x5)<| chk (x5<(len x8.Works))<| ZcO (x8.Works[0+(zD x5)]?) ZgN fun x11=> Zbb (ZcG N A1.Bits) fun x12=> Zbb (Zfh N x11 x12) fun x13=> chk (zG (x8.Works++[[zL .u64 4 x13]])*32<=140737488355328)<| chk (zG (x8.Ahead++[[zK .i64 x5]])*8<=140737488355328)<| some (w64 ((len (x8.List_++[A1.ls]))-1),0,0,zR (zR (zR (zR (zR (zR (zR (zR st6 i7 (gs x8.lo 15)) i7 (Zad.lo {x8 with List_:=x8.List_++[A1.ls]})) i7 (gs (Zad.lo {x8 with List_:=x8.List_++[A1.ls]}) 16)) i7 (Zad.lo {x8 with List_:=x8.List_++[A1.ls],Ids:=x8.Ids++[[zL .u8 32 x2]]})) i7 (gs (Zad.lo {x8 with List_:=x8.List_++[A1.ls],Ids:=x8.Ids++[[zL .u8 32 x2]]}) 18)) i7 (Zad.lo {x8 with List_:=x8.List_++[A1.ls],Ids:=x8.Ids++[[zL .u8 32 x2]],Works:=x8.Works++[[zL .u64 4 x13]]})) i7 (gs (Zad.lo {x8 with List_:=x8.List_++[A1.ls],Ids:=x8.Ids++[[zL .u8 32 x2]],Works:=x8.Works++[[zL .u64 4 x13]]}) 17)) i7 (Zad.lo (Zad.mk x8.Rules (x8.List_++[A1.ls]) (x8.Ids++[[zL .u8 32 x2]]) (x8.Ahead++[[zK .i64 x5]]) (x8.Works++[[zL .u64 4 x13]]) x8.Room)))
def Zdt.s {A0:Option Nat} {A1:Zal} {A2:Int} {st:LL} {r:Int×Int×Int×LL} (h:Zdt N A0 A1 A2 st=some r):Snd zC 21 [.one (zN A0),.agg A1.ls,oI A2] st (Zdt.rs r) r.2.2.2:=
 sO Zdt.B Tryz.func21 fun g0 w0 R hE=>by
  unfold Zdt at h;obtain ⟨x1,c1,h⟩:=Zab h;let o1:List PS:=[rZ,.r [(1,q1 [oB x1])]]
  have t1 {Q:Prop} (q:Q):=aI (Zdw.s c1) q;refine Zbd h (fun c2 h=>xV h hE (o1++[cT,rZ]) (t1 c2)) fun c2 h=>?_;obtain ⟨x2,c3,h⟩:=Zab h;obtain ⟨⟨x3,st4⟩,c4,h⟩:=Zab h;let o2:List PS:=o1++[cF,.r [(2,q1 [.agg [zL .u8 32 x2]]),(3,{rs:=[oI x3],st:=st4})],rZ]
  have t2 {Q:Prop} (q:Q):=t1 (aK c2 (ZdF.s c3) (Zbj.s c4) q);refine Zbd h (fun c5 h=>xV h hE (o2++[cT,rZ]) (t2 c5)) fun c5 h=>?_;obtain ⟨⟨x5,st6⟩,c6,h⟩:=Zab h;let o3:List PS:=o2++[cF,.r [(3,{rs:=[oI x5],st:=st6})],rZ]
  have t3 {Q:Prop} (q:Q):=t2 (aJ c5 (Zbj.s c6) q);refine Zbd h (fun c7 h=>xV h hE (o3++[cT,rZ]) (t3 c7)) fun c7 h=>?_;obtain ⟨i7,rfl,h⟩:=Zab h;obtain ⟨x8,c9,h⟩:=Zcg h;obtain ⟨x9,c10,h⟩:=Zab h;obtain ⟨c11,h⟩:=Zba h;obtain ⟨x10,c12,h⟩:=Zab h;let o4:List PS:=o3++[cF,.d {ds:=[(3,{oc:=x8.lo}),(6,{rs:=[.row true 68 x9],ns:=[34],m:=10,cv:=[.one (wE 88 x8.ls)]}),(9,{rs:=[oI x10],m:=2})],hv:=64,Hs:=[64]},rZ]
  have t4 {Q:Prop} (q:Q):=t3 (aO c7 c9 c9 (bO 88 c9 (Zad.bv x8)) c11 (ZaX.s c10) z0 (aJ (eN (zG x9)) (Zav.s c12) q));refine Zbd h (fun c13 h=>xVd h hE (o4++[cT,rZ]) (t4 c13)) fun c13 h=>?_;let o5:List PS:=o4++[cF,.d {ds:=[(3,{oc:=x8.lo}),(8,{oc:=x8.lo})],hv:=0,Hs:=[]}]
  refine Zbd h (fun c14 h=>xVd h hE (o5++[cT,rZ]) (t4 (aK c13 c9 c9 c14))) fun c14 h=>?_;obtain ⟨c15,c16,c17,c18,h⟩:=ck4 h;obtain ⟨x11,c19,h⟩:=Zin h;obtain ⟨x12,c20,h⟩:=Zab h;obtain ⟨x13,c21,h⟩:=Zab h;obtain ⟨c22,c23,h⟩:=ck2 h;let u7:=Zad.lo {x8 with List_:=x8.List_++[A1.ls],Ids:=x8.Ids++[[zL .u8 32 x2]],Works:=x8.Works++[[zL .u64 4 x13]]};let u9:=Zad.lo {x8 with List_:=x8.List_++[A1.ls],Ids:=x8.Ids++[[zL .u8 32 x2]]};let u11:=Zad.mk x8.Rules (x8.List_++[A1.ls]) (x8.Ids++[[zL .u8 32 x2]]) (x8.Ahead++[[zK .i64 x5]]) (x8.Works++[[zL .u64 4 x13]]) x8.Room;let u13:=Zad.lo {x8 with List_:=x8.List_++[A1.ls]};let u10:=Zaq (Zaq c9 (gs x8.lo 15)) u13;let u6:=Zaq (Zaq u10 (gs u13 16)) u9;let u12:=Zaq (Zaq u6 (gs u9 18)) u7;exact xVd h hE (o5++[cF,.d {ds:=[(4,{oc:=x8.lo}),(7,{oe:=x8.lo}),(10,{oc:=gs x8.lo 15,mv:=[58]})],hv:=1216,Hs:=[64,192,1216]},.d {ds:=[(4,{oc:=Zad.lo {x8 with List_:=x8.List_++[A1.ls]}}),(6,q1 [.agg [zL .u8 32 x2]]),(8,{oe:=Zad.lo {x8 with List_:=x8.List_++[A1.ls]}}),(11,{oc:=gs u13 16,mv:=[69]})],hv:=2432,Hs:=[128,384,2432]},.d {ds:=[(4,{oc:=Zad.lo {x8 with List_:=x8.List_++[A1.ls],Ids:=x8.Ids++[[zL .u8 32 x2]]}}),(8,{oc:=Zad.lo {x8 with List_:=x8.List_++[A1.ls],Ids:=x8.Ids++[[zL .u8 32 x2]]}}),(11,{oc:=Zad.lo {x8 with List_:=x8.List_++[A1.ls],Ids:=x8.Ids++[[zL .u8 32 x2]]},oe:=[zL .u64 4 x11]}),(14,q1 [.agg [zL .u64 4 x12]]),(15,q1 [.agg [zL .u64 4 x13]]),(17,{oe:=Zad.lo {x8 with List_:=x8.List_++[A1.ls],Ids:=x8.Ids++[[zL .u8 32 x2]]}}),(20,{oc:=gs u9 18,mv:=[89]})],hv:=1245184,Hs:=[65536,196608,1245184]},.r [(4,{oc:=Zad.lo {x8 with List_:=x8.List_++[A1.ls],Ids:=x8.Ids++[[zL .u8 32 x2]],Works:=x8.Works++[[zL .u64 4 x13]]}}),(7,{oe:=Zad.lo {x8 with List_:=x8.List_++[A1.ls],Ids:=x8.Ids++[[zL .u8 32 x2]],Works:=x8.Works++[[zL .u64 4 x13]]}}),(10,{oc:=gs u7 17,mv:=[99]})],.r [(3,{oc:=Zad.lo u11})]]) (t4 (aO c13 c9 c9 c14 c9 c9 z0 (aO (eN (zG x8.List_)) c9 z0 (eN (1)) c15 (Zaq c9 (gs x8.lo 15)) z0 (aO (eN (zG (x8.List_++[A1.ls]))) u10 u10 (ZdF.s c3) z0 (eN (zG x8.Ids)) u10 (aO z0 (eN (1)) c16 (Zaq u10 (gs u13 16)) z0 (eN (zG (x8.Ids++[[zL .u8 32 x2]]))) u6 (aO u6 u6 c17 c18 c19 u6 (ZcG.s c20) (aO (Zfh.s c21) z0 (eN (zG x8.Works)) u6 z0 (eN (1)) c22 (aO (Zaq u6 (gs u9 18)) z0 (eN (zG (x8.Works++[[zL .u64 4 x13]]))) u12 z0 (eN (zG x8.Ahead)) u12 (aN z0 (eN (1)) c23 (Zaq u12 (gs u7 17)) z0 (eN (zG (x8.Ahead++[[zK .i64 x5]]))) (Zaq (Zaq u12 (gs u7 17)) (Zad.lo u11)))))))))))
def ZaP.B:Code:=Tryz.f58.body.getD .skip
def ZaP.rs (r:LL):List CV:=[.row true 1 r]
def ZaP.p1 (N:Nat) (A0:Zad) (c1_:(LL×Int)->Option LL):(LL×Int)->Option LL:=fun (A3,A1)=> if (decide (A1>=0))=true then chk (zG ([[zK .i64 A1]]++A3)*8<=140737488355328)<| chk (0<=A1)<| chk (A1<(len A0.Ahead))<| ZcO (A0.Ahead[zD A1]?) Zdv fun x4=> c1_ ([[zK .i64 A1]]++A3,x4) else some A3
def ZaP (N:Nat) (A0:Zad) (at_1:Int):Option LL:= loopN (ZaP.p1 N A0) N ([],at_1)
def ZaP.S1 (A0:Zad) (A3:LL) (A1:Int) (st:LL):S:=mkS 22 [(0,.one (.l (wE 88 A0.ls))),(5,.one (.h (.row 5 0) 1 0 (zG A3))),(6,sI A1)] [(5,.row 0 true 1 A3)] st
def ZaP.k1 {A0 A3 A1 st r c1_ J1} (h:ZaP.p1 N A0 c1_ (A3,A1)=some r) (hE:En Tryz.f58 g0 w0 (ZaP.rs r) st R) (hc1 : ∀A3 A1,c1_ (A3,A1)=some r->At g0 w0 (ZaP.S1 A0 A3 A1 st) J1):At g0 w0 (ZaP.S1 A0 A3 A1 st) (XK zC R (cK ZaP.B [1,1,0,1,0,0] :: .h J1 :: [.b 0,cK ZaP.B [1,1,1]])):=by
 unfold ZaP.p1 at h;refine Zbd h (fun c6 h=>?_) (fun c6 h=>?_)
 ·obtain ⟨c7,c8,c9,h⟩:=ck3 h;obtain ⟨x4,c10,h⟩:=Zcq h;exact an [rZ,cT,.r [(4,{m:=4})],.r [(3,{oe:=A0.ls}),(6,{oe:=[zK .i64 x4]})]] (aO c6 z0 (eN (1)) z0 (eN (zG A3)) c7 (eO A0.ls) (aJ c8 c9 c10)) (hc1 ([[zK .i64 A1]]++A3) x4 h)
 obtain rfl:=Zac h;exact af hE [rZ,cF,rZ] [] 0 [0] (aJ c6 z0 (eN (zG A3)))
def ZaP.s {A0:Zad} {at_1:Int} {r:LL} (h:ZaP N A0 at_1=some r):ZdW zC 58 [.one (wE 88 A0.ls),oI at_1] (ZaP.rs r):=fun st=>
 sO ZaP.B Tryz.func58 fun g0 w0 R hE=>by
  unfold ZaP at h;exact aq [.r [(0,{m:=2})],.r [(0,{m:=1})],rZ] trivial (At.loop N (At.loopN (fun y:LL×Int=>ZaP.S1 A0 y.1 y.2 st) (fun c J hc y h=>ZaP.k1 (A3:=y.1) (A1:=y.2) h hE (fun A3 A1=>hc (A3,A1))) N ([],at_1) h))
def Zbk.B:Code:=Tryz.f95.body.getD .skip
def Zbk.rs (r:Bool×LL):List CV:=[oB r.1]
def Zbk.p1 (N:Nat) (x3 st:LL) (c1_:((Option Nat)×Int)->Option (Bool×LL)):((Option Nat)×Int)->Option (Bool×LL):=fun (A8,v4)=> if (decide (v4<(len x3)))=true then chk (0<=v4)<| ZcO (x3[0+(zD v4)]?) Zdv fun x9=> Zbb A8 fun i10=> chk (0<=x9)<| chk (x9<600)<| ZcO (st[i10]?) Zdz fun x11=> if ((zF x11.Said (zD x9) 0) != 1)=true then some (false,st) else if (zF x11.Out (zD x9) false)=true then some (false,st) else c1_ ((some i10),w64 (v4+1)) else some (true,st)
def Zbk (N:Nat) (m_0 A1:Option Nat) (A2:Int) (st:LL):Option (Bool×LL):= if (decide (A2<0))=true then some (false,st) else Zbb A1 fun i1=> ZcO (st[i1]?) ZbS fun x2=> if (decide (A2>=(len x2.List_)))=true then some (false,st) else Zbb (ZaP N x2 A2) fun x3=> chk (Zes x3=true)<| loopN (Zbk.p1 N x3 st) N (m_0,0)
def Zbk.S1 (A8:Option Nat) (x3:LL) (v4:Int) (st:LL):S:=mkS 44 [(0,sP A8),(22,.one (.h (.row 22 0) 1 0 (zG x3))),(23,sI (len x3)),(24,sI v4)] [(22,.row 0 true 1 x3)] st
def Zbk.k1 {A8 x3 v4 st r c1_ J1} (h:Zbk.p1 N x3 st c1_ (A8,v4)=some r) (hE:En Tryz.f95 g0 w0 (Zbk.rs r) r.2 R) (hc1 : ∀A8 v4,c1_ (A8,v4)=some r->At g0 w0 (Zbk.S1 A8 x3 v4 st) J1):At g0 w0 (Zbk.S1 A8 x3 v4 st) (XK zC R (cK Zbk.B [1,1,0,1,0,0] :: .h J1 :: [.b 0,cK Zbk.B [1,1,1]])):=by
 unfold Zbk.p1 at h;refine Zbd h (fun c16 h=>?_) (fun c16 h=>?_)
 ·obtain ⟨c17,h⟩:=Zba h;obtain ⟨x9,c18,h⟩:=Zcq h;obtain ⟨i10,rfl,h⟩:=Zab h;obtain ⟨c20,c21,h⟩:=ck2 h;obtain ⟨x11,c22,h⟩:=ZfB h;let o1:List PS:=[rZ,cT,.r [(1,{oe:=[zK .i64 x9]})]]
  have t1 {Q:Prop} (q:Q):=aO c16 c17 (oD c16) c18 c20 c21 c22 q;refine Zbd h (fun c23 h=>xT h hE (o1++[.r [(5,{oc:=x11.ls}),(8,wF),(9,wF),(10,wF),(11,wF),(12,wF),(13,wF)],cT,rZ]) (t1 (aO c23 c23 c23 c23 c23 c23 c23 eT))) fun c23 h=>?_;let o2:List PS:=o1++[.r [(5,{oc:=x11.ls}),(13,{oc:=x11.ls}),(14,yF)]]
  have t2 {Q:Prop} (q:Q):=t1 (aO c23 c23 c23 c23 c23 c20 c21 (aK c23 c22 c23 q));exact Zbd h (fun c24 h=>xT h hE (o2++[cT,rZ]) (t2 c24)) fun c24 h=>an (o2++[cF,rZ]) (t2 c24) (hc1 (some i10) (w64 (v4+1)) h)
 exact xT h hE [rZ,cF,rZ] c16
def Zbk.s {m_0 A1:Option Nat} {A2:Int} {st:LL} {r:Bool×LL} (h:Zbk N m_0 A1 A2 st=some r):Snd zC 95 [.one (zN m_0),.one (zN A1),oI A2] st (Zbk.rs r) r.2:=
 sO Zbk.B Tryz.func95 fun g0 w0 R hE=>by
  unfold Zbk at h;refine Zbd h (fun c1 h=>xT h hE [rZ,.r [(3,wF),(4,wF),(5,wF),(6,wF),(7,wF),(8,wF),(9,wF)],cT,rZ] (aO c1 c1 c1 c1 c1 c1 c1 (aI c1 eT))) fun c1 h=>?_;obtain ⟨i1,rfl,h⟩:=Zab h;obtain ⟨x2,c3,h⟩:=Zcg h;let o3:List PS:=[rZ,.r [(7,{oc:=x2.lo}),(10,yF)]]
  refine Zbd h (fun c4 h=>xT h hE (o3++[cT,rZ]) (aO c1 c1 c1 c1 c1 c3 c1 (aJ c1 c1 c4))) fun c4 h=>?_;obtain ⟨x3,c5,h⟩:=Zab h;obtain ⟨c6,h⟩:=Zba h;exact aq (o3++[cF,.r [(2,{rs:=[.row true 1 x3],ns:=[22],m:=10,cv:=[.one (wE 88 x2.ls)]})]]) (aO c1 c1 c1 c1 c1 c3 c1 (aM c1 c1 c4 (bO 88 c3 (Zad.bv x2)) c6 (ZaP.s c5))) (At.loop N (At.loopN (fun y:(Option Nat)×Int=>Zbk.S1 y.1 x3 y.2 st) (fun c J hc y h=>Zbk.k1 (A8:=y.1) (v4:=y.2) h hE (fun A8 v4=>hc (A8,v4))) N (m_0,0) h))
def ZcH.B:Code:=Tryz.f127.body.getD .skip
def ZcH.rs (r:(List Int)):List CV:=[.agg [zL .u64 4 r]]
def ZcH (N:Nat) (A0:Zad) (at_1:Int):Option (List Int):= chk (0<=at_1)<| chk (at_1<(len A0.Works))<| ZcO (A0.Works[zD at_1]?) ZgN fun x1=> some x1
def ZcH.s {A0:Zad} {at_1:Int} {r:(List Int)} (h:ZcH N A0 at_1=some r):ZdW zC 127 [.one (wE 88 A0.ls),oI at_1] (ZcH.rs r):=fun st=>
 sO ZcH.B Tryz.func127 fun g0 w0 R hE=>by
  unfold ZcH at h;obtain ⟨c1,c2,h⟩:=ck2 h;obtain ⟨x1,c3,h⟩:=Zin h;exact xS h hE [rZ,.r [(3,{oe:=A0.ls}),(6,{oe:=[zL .u64 4 x1]})]] (aK (eO A0.ls) c1 c2 c3)
def Zds.B:Code:=Tryz.f96.body.getD .skip
def Zds.rs (r:Bool):List CV:=[oB r]
def Zds (N:Nat) (A0:Zad) (A1 A2:Int):Option Bool:= Zbb (ZcH N A0 A1) fun x1=> Zbb (ZcH N A0 A2) fun x2=> Zbb (ZbG N x2 x1) fun x3=> if x3=true then some true else if (x1==x2)=true then some (decide (A1<A2)) else some false
def Zds.s {A0:Zad} {A1 A2:Int} {r:Bool} (h:Zds N A0 A1 A2=some r):ZdW zC 96 [.one (wE 88 A0.ls),oI A1,oI A2] (Zds.rs r):=fun st=>
 sO Zds.B Tryz.func96 fun g0 w0 R hE=>by
  unfold Zds at h;obtain ⟨x1,c1,h⟩:=Zab h;obtain ⟨x2,c2,h⟩:=Zab h;obtain ⟨x3,c3,h⟩:=Zab h;let o1:List PS:=[rZ,.r [(2,q0 [.agg [zL .u64 4 x1]])],.r [(2,q0 [.agg [zL .u64 4 x2]])]]
  have t1 {Q:Prop} (q:Q):=aK (ZcH.s c1) (ZcH.s c2) (ZbG.s c3) q;exact Zbd h (fun c4 h=>xS h hE (o1++[.r [(2,q1 [oB x3]),(4,wF),(5,wF),(6,wF),(7,wF),(11,wF)]]) (t1 (aM c4 c4 c4 c4 c4 c4))) fun c4 h=>Zbd h (fun c5 h=>xS h hE (o1++[.r [(2,q1 [oB x3]),(12,yF)]]) (t1 (aO c4 c4 c4 c4 c5 c5 c5 (aJ c4 c5 c4)))) fun c5 h=>xS h hE (o1++[.r [(2,q1 [oB x3]),(8,wF),(9,wF),(10,wF),(11,yF),(12,yF)]]) (t1 (aO c4 c4 c4 c4 c5 c5 c5 (aJ c4 c5 c4)))
def ZaJ.B:Code:=Tryz.f59.body.getD .skip
def ZaJ.rs (r:Int×LL):List CV:=[oI r.1]
def ZaJ.p2 (N:Nat) (c1_:(Int×Int×LL)->Option (Int×LL)) (m_0:Option Nat) (i1:Nat) (A15:Int) (x2:Zad) (v4:Int) (st12:LL):Option (Int×LL):= c1_ (A15,w64 (v4+1),st12)
def ZaJ.p1 (N:Nat) (m_0:Option Nat) (i1:Nat) (x2:Zad) (c1_:(Int×Int×LL)->Option (Int×LL)):(Int×Int×LL)->Option (Int×LL):=fun (A3,v4,st10)=> if (decide (v4<(len x2.List_)))=true then Zbb (Zbk N m_0 (some i1) v4 st10) fun (x11,st12)=> if x11=true then ZcO (st12[i1]?) ZbS fun x13=> Zbb (Zds N x13 v4 A3) fun x14=> if x14=true then ZaJ.p2 N c1_ m_0 i1 v4 x2 v4 st12 else ZaJ.p2 N c1_ m_0 i1 A3 x2 v4 st12 else ZaJ.p2 N c1_ m_0 i1 A3 x2 v4 st12 else some (A3,st10)
def ZaJ (N:Nat) (m_0 A1:Option Nat) (st:LL):Option (Int×LL):= Zbb A1 fun i1=> ZcO (st[i1]?) ZbS fun x2=> loopN (ZaJ.p1 N m_0 i1 x2) N (0,0,st)
def ZaJ.S2 (m_0:Option Nat) (i1:Nat) (A15:Int) (x2:Zad) (v4:Int) (st12:LL):S:=mkS 28 [(0,sP m_0),(1,sP (some i1)),(5,sI A15),(11,sI (len x2.List_)),(12,sI v4)] [] st12
def ZaJ.S1 (m_0:Option Nat) (i1:Nat) (A3:Int) (x2:Zad) (v4:Int) (st10:LL):S:=mkS 28 [(0,sP m_0),(1,sP (some i1)),(5,sI A3),(11,sI (len x2.List_)),(12,sI v4)] [] st10
def ZaJ.k2 {m_0 i1 A15 x2 v4 st12 r c1_ J1} (h:ZaJ.p2 N c1_ m_0 i1 A15 x2 v4 st12=some r) (hE:En Tryz.f59 g0 w0 (ZaJ.rs r) r.2 R) (hc1 : ∀A3 v4 st10,c1_ (A3,v4,st10)=some r->At g0 w0 (ZaJ.S1 m_0 i1 A3 x2 v4 st10) J1):At g0 w0 (ZaJ.S2 m_0 i1 A15 x2 v4 st12) (XK zC R [cK ZaJ.B [1,1,0,1,0,0,1,1,1],.h J1,.b 0,cK ZaJ.B [1,1,1]]):=by
 unfold ZaJ.p2 at h;exact an [rZ] trivial (hc1 A15 (w64 (v4+1)) st12 h)
def ZaJ.k1 {m_0 i1 A3 x2 v4 st10 r c1_ J1} (h:ZaJ.p1 N m_0 i1 x2 c1_ (A3,v4,st10)=some r) (hE:En Tryz.f59 g0 w0 (ZaJ.rs r) r.2 R) (hc1 : ∀A3 v4 st10,c1_ (A3,v4,st10)=some r->At g0 w0 (ZaJ.S1 m_0 i1 A3 x2 v4 st10) J1):At g0 w0 (ZaJ.S1 m_0 i1 A3 x2 v4 st10) (XK zC R (cK ZaJ.B [1,1,0,1,0,0] :: .h J1 :: [.b 0,cK ZaJ.B [1,1,1]])):=by
 unfold ZaJ.p1 at h;refine Zbd h (fun c9 h=>?_) (fun c9 h=>?_)
 ·obtain ⟨⟨x11,st12⟩,c10,h⟩:=Zab h;let o1:List PS:=[rZ,cT,rZ]
  have t1 {Q:Prop} (q:Q):=aJ c9 (Zbk.s c10) q;refine Zbd h (fun c11 h=>?_) (fun c11 h=>?_)
  ·obtain ⟨x13,c12,h⟩:=Zcg h;obtain ⟨x14,c13,h⟩:=Zab h;let o2:List PS:=o1++[.r [(3,{rs:=[oB x11],st:=st12}),(8,{rs:=[oB x14],m:=10,cv:=[.one (wE 88 x13.ls)]})]]
   have t2 {Q:Prop} (q:Q):=t1 (aO c11 c11 c11 c11 (bO 88 c12 (Zad.bv x13)) (Zds.s c13) c11 q);exact Zbd h (fun c14 h=>aq (o2++[cT,rZ,.s 4]) (t2 c14) (ZaJ.k2 h hE hc1)) fun c14 h=>aq (o2++[cF,.s 4]) (t2 c14) (ZaJ.k2 h hE hc1)
  exact aq (o1++[.r [(3,{rs:=[oB x11],st:=st12}),(5,wF),(6,wF),(7,wF),(8,wF),(9,yF)],cF,.s 4]) (t1 (aM c11 c11 c11 c11 c11 eF)) (ZaJ.k2 h hE hc1)
 exact xT h hE [rZ,cF,rZ] c9
def ZaJ.s {m_0 A1:Option Nat} {st:LL} {r:Int×LL} (h:ZaJ N m_0 A1 st=some r):Snd zC 59 [.one (zN m_0),.one (zN A1)] st (ZaJ.rs r) r.2:=
 sO ZaJ.B Tryz.func59 fun g0 w0 R hE=>by
  unfold ZaJ at h;obtain ⟨i1,rfl,h⟩:=Zab h;obtain ⟨x2,c2,h⟩:=Zcg h;exact aq [rZ,rZ,.r [(3,{oc:=x2.lo})]] c2 (At.loop N (At.loopN (fun y:Int×Int×LL=>ZaJ.S1 m_0 i1 y.1 x2 y.2.1 y.2.2) (fun c J hc y h=>ZaJ.k1 (A3:=y.1) (v4:=y.2.1) (st10:=y.2.2) h hE (fun A3 v4 st10=>hc (A3,v4,st10))) N (0,0,st) h))
def Zdn.B:Code:=Tryz.f60.body.getD .skip
def Zdn.rs (r:Int):List CV:=[oI r]
def Zdn (N:Nat) (A0:ZcC):Option Int:= chk (0<=(w64 ((len A0.Active)-1)))<| chk ((w64 ((len A0.Active)-1))<(len A0.Active))<| ZcO (A0.Active[zD (w64 ((len A0.Active)-1))]?) Zdv fun x1=> some x1
def Zdn.s {A0:ZcC} {r:Int} (h:Zdn N A0=some r):ZdW zC 60 [.one (wE 3 A0.ls)] (Zdn.rs r):=fun st=>
 sO Zdn.B Tryz.func60 fun g0 w0 R hE=>by
  unfold Zdn at h;obtain ⟨c1,c2,h⟩:=ck2 h;obtain ⟨x1,c3,h⟩:=Zcq h;exact xSd h hE [rZ,.d {ds:=[(3,{oe:=A0.ls}),(7,{oe:=A0.ls}),(11,{oe:=[zK .i64 x1]})],hv:=0,Hs:=[]}] (aL (eO A0.ls) (eO A0.ls) c1 c2 c3)
def Zex.B:Code:=Tryz.f60.body.getD .skip
def Zex.rs (r:Int×LL):List CV:=[oI r.1]
def Zex (N:Nat) (A0:Option Nat) (st:LL):Option (Int×LL):= Zbb A0 fun i1=> ZcO (st[i1]?) Zcs fun x2 x3 x4=> chk (0<=(w64 ((len x4)-1)))<| chk ((w64 ((len x4)-1))<(len x4))<| ZcO (x4[0+(zD (w64 ((len x4)-1)))]?) Zdv fun x5=> some (x5,st)
def Zex.s {A0:Option Nat} {st:LL} {r:Int×LL} (h:Zex N A0 st=some r):Snd zC 60 [.one (zN A0)] st (Zex.rs r) r.2:=
 sO Zex.B Tryz.func60 fun g0 w0 R hE=>by
  unfold Zex at h;obtain ⟨i1,rfl,h⟩:=Zab h;obtain ⟨x2,x3,x4,c2,h⟩:=Zde h;obtain ⟨c3,c4,h⟩:=ck2 h;obtain ⟨x5,c5,h⟩:=Zcq h;exact xTd h hE [rZ,.d {ds:=[(3,{oc:=[zN x2,zN x3,yI true 1 x4]}),(7,{oc:=[zN x2,zN x3,yI true 1 x4]}),(11,{oc:=[zN x2,zN x3,yI true 1 x4],oe:=[zK .i64 x5]})],hv:=0,Hs:=[]}] (aM c2 c2 c3 c4 c5 c2)
def Zay.B:Code:=Tryz.f29.body.getD .skip
def Zay.rs (r:Bool×LL):List CV:=[oB r.1]
def Zay.p3 (N:Nat) (st22:LL):Option (Bool×LL):= some (true,st22)
def Zay.p2 (N:Nat) (i1:Nat) (x4 x9:LL) (A14:Bool) (st6:LL):Option (Bool×LL):= if A14=true then ZcO (st6[i1]?) Zcs fun x15 x16 x17=> chk (zG ([]++x17)*8<=140737488355328)<| chk ((len x4)<(len x9))<| ZcO (x9[0+(zD (len x4))]?) Zdv fun x18=> chk (zG (([]++x17)++[[zK .i64 x18]])*8<=140737488355328)<| Zay.p3 N (zR st6 i1 [zN x15,zN x16,yI true 1 (([]++x17)++[[zK .i64 x18]])]) else ZcO (st6[i1]?) Zcs fun x19 x20 x21=> chk (0<=(w64 ((len x4)-1)))<| chk ((zD (w64 ((len x4)-1)))<=(zG x21))<| Zay.p3 N (zR st6 i1 [zN x19,zN x20,yI true 1 (List.take (zD (w64 ((len x4)-1))) x21)])
def Zay.p1 (N:Nat) (i1:Nat) (x4 x9:LL) (A14:Bool) (st6:LL):Option (Bool×LL):= if A14=true then if ((len x4)==(len x9))=true then some (false,st6) else Zay.p2 N i1 x4 x9 A14 st6 else Zay.p2 N i1 x4 x9 A14 st6
def Zay (N:Nat) (A0:Option Nat) (st:LL):Option (Bool×LL):= Zbb A0 fun i1=> ZcO (st[i1]?) Zcs fun x2 x3 x4=> Zbb (ZaJ N x3 x2 st) fun (x5,st6)=> Zbb x2 fun i7=> ZcO (st6[i7]?) ZbS fun x8=> Zbb (ZaP N x8 x5) fun x9=> chk (Zes x9=true)<| chk (eqO (st6[i1]?) (some [zN (some i7),zN x3,yI true 1 x4])=true)<| if (decide ((len x4)<=(len x9)))=true then chk (0<=(w64 ((len x4)-1)))<| chk ((w64 ((len x4)-1))<(len x9))<| ZcO (x9[0+(zD (w64 ((len x4)-1)))]?) Zdv fun x10=> Zbb x3 fun i11=> ZcO (st6[i11]?) Zdz fun x12=> Zbb (Zdn N (ZcC.mk x8 x12 x4)) fun x13=> Zay.p1 N i1 x4 x9 (x10==x13) st6 else Zay.p1 N i1 x4 x9 false st6
def Zay.S3 (st22:LL):S:=mkS 72 [] [] st22
def Zay.S2 (i1:Nat) (x4 x9:LL) (A14:Bool) (st6:LL):S:=mkS 72 [(0,sP (some i1)),(3,sI (len x4)),(4,.one (.h (.row 24 0) 1 0 (zG x9))),(5,.one (.l (wD A14)))] [(24,.row 0 true 1 x9)] st6
def Zay.S1 (i1:Nat) (x4 x9:LL) (A14:Bool) (st6:LL):S:=mkS 72 [(0,sP (some i1)),(3,sI (len x4)),(4,.one (.h (.row 24 0) 1 0 (zG x9))),(5,.one (.l (wD A14)))] [(24,.row 0 true 1 x9)] st6
def Zay.k3 {st22 r} (h:Zay.p3 N st22=some r) (hE:En Tryz.f29 g0 w0 (Zay.rs r) r.2 R):At g0 w0 (Zay.S3 st22) (XK zC R [cK Zay.B [1,1,1,1,1,1]]):=by
 unfold Zay.p3 at h;exact xT h hE [rZ] trivial
def Zay.k2 {i1 x4 x9 A14 st6 r} (h:Zay.p2 N i1 x4 x9 A14 st6=some r) (hE:En Tryz.f29 g0 w0 (Zay.rs r) r.2 R):At g0 w0 (Zay.S2 i1 x4 x9 A14 st6) (XK zC R [cK Zay.B [1,1,1,1,1]]):=by
 unfold Zay.p2 at h;refine Zbd h (fun c18 h=>?_) (fun c18 h=>?_)
 ·obtain ⟨x15,x16,x17,c19,h⟩:=Zde h;obtain ⟨c20,c21,h⟩:=ck2 h;obtain ⟨x18,c22,h⟩:=Zcq h;obtain ⟨c23,h⟩:=Zba h;exact aqd [rZ,cT,.d {ds:=[(5,{oc:=[zN x15,zN x16,yI true 1 x17]}),(6,{oc:=[zN x15,zN x16,yI true 1 x17]}),(10,{oe:=[zK .i64 x18]}),(15,{oc:=[zN x15,zN x16,yI true 1 x17],mv:=[48]})],hv:=38978,Hs:=[2,66,2048,2050,2114,6210,38978]},.s 1] (aO c18 c19 c19 c19 c19 z0 (eN (0)) (aO z0 (eN (zG x17)) c19 c20 z0 (eN (0)) z0 (aO (eN (zG x17)) c19 c20 (vP (zG x4)) c21 (vP (zG x4)) c21 (aO (vP (zG x4)) c21 c22 c22 c22 z0 (eN (zG ([]++x17))) (aM z0 (eN (1)) c23 c19 z0 (eN (zG (([]++x17)++[[zK .i64 x18]])))))))) (Zay.k3 h hE)
 obtain ⟨x19,x20,x21,c24,h⟩:=Zde h;obtain ⟨c25,c26,h⟩:=ck2 h;exact aq [rZ,cF,.r [(4,{oc:=[zN x19,zN x20,yI true 1 x21]}),(7,{oc:=[zN x19,zN x20,yI true 1 x21]}),(10,{oc:=[zN x19,zN x20,yI true 1 x21],m:=8,wm:=2})],.s 1] (aO c18 c24 c25 (Nat.zero_le (zD (w64 ((len x4)-1)))) c26 c24 (rfl:Root.obj i1=Root.obj i1) (aJ c24 z0 c26)) (Zay.k3 h hE)
def Zay.k1 {i1 x4 x9 A14 st6 r} (h:Zay.p1 N i1 x4 x9 A14 st6=some r) (hE:En Tryz.f29 g0 w0 (Zay.rs r) r.2 R):At g0 w0 (Zay.S1 i1 x4 x9 A14 st6) (XK zC R [cK Zay.B [1,1,1,1]]):=by
 unfold Zay.p1 at h;exact Zbd h (fun c16 h=>Zbd h (fun c17 h=>xT h hE [rZ,cT,rZ] (aM c16 c16 c16 c16 c16 c17)) fun c17 h=>aq [rZ,cF,.s 1] (aM c16 c16 c16 c16 c16 c17) (Zay.k2 h hE)) fun c16 h=>aq [.r [(2,wF),(3,wF),(4,wF),(5,wF),(6,yF)],cF,.s 1] (aM c16 c16 c16 c16 c16 eF) (Zay.k2 h hE)
def Zay.s {A0:Option Nat} {st:LL} {r:Bool×LL} (h:Zay N A0 st=some r):Snd zC 29 [.one (zN A0)] st (Zay.rs r) r.2:=
 sO Zay.B Tryz.func29 fun g0 w0 R hE=>by
  unfold Zay at h;obtain ⟨i1,rfl,h⟩:=Zab h;obtain ⟨x2,x3,x4,c2,h⟩:=Zde h;obtain ⟨⟨x5,st6⟩,c3,h⟩:=Zab h;obtain ⟨i7,rfl,h⟩:=Zab h;obtain ⟨x8,c5,h⟩:=Zcg h;obtain ⟨x9,c6,h⟩:=Zab h;obtain ⟨c7,c8,h⟩:=ck2 h;have t1 {Q:Prop} (q:Q):=aO c2 c2 (ZoQ c8) c2 c2 (ZaJ.s c3) (bO 88 c5 (Zad.bv x8)) (aJ c7 (ZaP.s c6) q);refine Zbd h (fun c9 h=>?_) (fun c9 h=>?_)
  ·obtain ⟨c10,c11,h⟩:=ck2 h;obtain ⟨x10,c12,h⟩:=Zcq h;obtain ⟨i11,rfl,h⟩:=Zab h;obtain ⟨x12,c14,h⟩:=ZfB h;obtain ⟨x13,c15,h⟩:=Zab h;let u6:=ZcC.ls (ZcC.mk x8 x12 x4);exact aqd [rZ,.r [(3,{oc:=[zN (some i7),zN (some i11),yI true 1 x4]})],.d {ds:=[(3,{oc:=[zN (some i7),zN (some i11),yI true 1 x4]}),(7,{oc:=[zN (some i7),zN (some i11),yI true 1 x4]}),(11,{oc:=[zN (some i7),zN (some i11),yI true 1 x4]}),(12,{rs:=[oI x5],st:=st6}),(13,{rs:=[.row true 1 x9],ns:=[24],m:=10,cv:=[.one (wE 88 x8.ls)]})],hv:=12288,Hs:=[4096,12288]},.d {ds:=[(9,{oe:=[zK .i64 x10]}),(11,{rs:=[oI x13],m:=10,cv:=[.one (wE 3 u6)]})],hv:=2048,Hs:=[2048]},.s 1] (t1 (aO c9 c9 c9 c9 c9 c9 c9 (aO c10 c11 c9 c10 c11 c9 c12 (aO c9 c12 c9 c9 (bO 3 (ZoQ c8) ((bC 88 c5 (Zad.bv x8) (bC 1200 c14 (ZbD.bv x12) (bW bN))):BVs st6 [zN (some i7),zN (some i11),yI true 1 x4] u6)) (Zdn.s c15) c9 c9)))) (Zay.k1 h hE)
  exact aqd [rZ,.r [(3,{oc:=[zN (some i7),zN x3,yI true 1 x4]})],.d {ds:=[(3,{oc:=[zN (some i7),zN x3,yI true 1 x4]}),(7,{oc:=[zN (some i7),zN x3,yI true 1 x4]}),(11,{oc:=[zN (some i7),zN x3,yI true 1 x4]}),(12,{rs:=[oI x5],st:=st6}),(13,{rs:=[.row true 1 x9],ns:=[24],m:=10,cv:=[.one (wE 88 x8.ls)]})],hv:=12288,Hs:=[4096,12288]},.d {ds:=[(5,wF),(6,wF),(7,wF),(8,wF),(9,wF),(10,wF),(11,wF),(12,wF),(13,yF)],hv:=0,Hs:=[]},.s 1] (t1 (aO c9 c9 c9 c9 c9 c9 c9 (aI c9 c9))) (Zay.k1 h hE)
def Zbe.B:Code:=Tryz.f30.body.getD .skip
def Zbe.rs (r:Int×LL):List CV:=[oI r.1]
def Zbe.p1 (N:Nat) (A0:Option Nat) (c1_:(Int×LL)->Option (Int×LL)):(Int×LL)->Option (Int×LL):=fun (F1,st4)=> Zbb (Zay N A0 st4) fun (x5,st6)=> if x5=true then c1_ (w64 (F1+1),st6) else some (F1,st6)
def Zbe (N:Nat) (A0:Option Nat) (st:LL):Option (Int×LL):= loopN (Zbe.p1 N A0) N (0,st)
def Zbe.S1 (A0:Option Nat) (F1:Int) (st4:LL):S:=mkS 9 [(0,sP A0),(3,sI F1)] [] st4
def Zbe.k1 {A0 F1 st4 r c1_ J1} (h:Zbe.p1 N A0 c1_ (F1,st4)=some r) (hE:En Tryz.f30 g0 w0 (Zbe.rs r) r.2 R) (hc1 : ∀F1 st4,c1_ (F1,st4)=some r->At g0 w0 (Zbe.S1 A0 F1 st4) J1):At g0 w0 (Zbe.S1 A0 F1 st4) (XK zC R (cK Zbe.B [1,1,0,0,0] :: .h J1 :: [.b 0,cK Zbe.B [1,1,1]])):=by
 unfold Zbe.p1 at h;obtain ⟨⟨x5,st6⟩,c3,h⟩:=Zab h;let o1:List PS:=[.r [(1,{rs:=[oB x5],st:=st6})]]
 exact Zbd h (fun c4 h=>an (o1++[cT,rZ]) (aI (Zay.s c3) c4) (hc1 (w64 (F1+1)) st6 h)) fun c4 h=>xT h hE (o1++[cF,rZ]) (aI (Zay.s c3) c4)
def Zbe.s {A0:Option Nat} {st:LL} {r:Int×LL} (h:Zbe N A0 st=some r):Snd zC 30 [.one (zN A0)] st (Zbe.rs r) r.2:=
 sO Zbe.B Tryz.func30 fun g0 w0 R hE=>by
  unfold Zbe at h;exact aq [rZ,rZ] trivial (At.loop N (At.loopN (fun y:Int×LL=>Zbe.S1 A0 y.1 y.2) (fun c J hc y h=>Zbe.k1 (F1:=y.1) (st4:=y.2) h hE (fun F1 st4=>hc (F1,st4))) N (0,st) h))
def Zdb.B:Code:=Tryz.f7.body.getD .skip
def Zdb.rs (r:Bool×LL):List CV:=[oB r.1]
def Zdb (N:Nat) (A0:Option Nat) (A1:ZbH) (st:LL):Option (Bool×LL):= if (A1.Kind==0)=true then Zbb A0 fun i1=> ZcO (st[i1]?) Zbh fun x2 x3=> Zbb (ZdQ N x2 A1.Header A1.Now st) fun (x4,x5,x6,st7)=> ZcO (st7[i1]?) Zbh fun x8 x9=> Zbb x9 fun i10=> ZcO (st7[i10]?) Zcs fun x11 x12 x13=> Zbb (Zdt N x11 A1.Header A1.Now st7) fun (x14,x15,x16,st17)=> if (x4==x14)=true then if (x5==x15)=true then some (x6==x16,st17) else some (false,st17) else some (false,st17) else if (A1.Kind==1)=true then Zbb A0 fun i18=> ZcO (st[i18]?) Zbh fun x19 x20=> none else if (A1.Kind==2)=true then Zbb A0 fun i21=> ZcO (st[i21]?) Zbh fun x22 x23=> none else if (A1.Kind==3)=true then Zbb A0 fun i24=> ZcO (st[i24]?) Zbh fun x25 x26=> none else if (A1.Kind==4)=true then Zbb A0 fun i27=> ZcO (st[i27]?) Zbh fun x28 x29=> Zbb (Zda N x28 st) fun (x30,st31)=> chk (eqO (st31[i27]?) (some [zN x28,zN x29])=true)<| Zbb (Zay N x29 st31) fun (x32,st33)=> some (x30==x32,st33) else if (A1.Kind==5)=true then Zbb A0 fun i34=> ZcO (st[i34]?) Zbh fun x35 x36=> Zbb (ZaF N x35 st) fun (x37,st38)=> chk (eqO (st38[i34]?) (some [zN x35,zN x36])=true)<| Zbb (Zbe N x36 st38) fun (x39,st40)=> some (x37==x39,st40) else some (true,st)
def Zdb.s {A0:Option Nat} {A1:ZbH} {st:LL} {r:Bool×LL} (h:Zdb N A0 A1 st=some r):Snd zC 7 [.one (zN A0),.agg A1.ls] st (Zdb.rs r) r.2:=
 sO Zdb.B Tryz.func7 fun g0 w0 R hE=>by
  unfold Zdb at h;let o1:List PS:=[rZ,rZ,rZ]
  refine Zbd h (fun c1 h=>?_) (fun c1 h=>?_)
  ·obtain ⟨i1,rfl,h⟩:=Zab h;obtain ⟨x2,x3,c3,h⟩:=Zbl h;obtain ⟨⟨x4,x5,x6,st7⟩,c4,h⟩:=Zab h;obtain ⟨x8,x9,c5,h⟩:=Zbl h;obtain ⟨i10,rfl,h⟩:=Zab h;obtain ⟨x11,x12,x13,c7,h⟩:=Zde h;obtain ⟨⟨x14,x15,x16,st17⟩,c8,h⟩:=Zab h;let o2:List PS:=o1++[cT,.d {ds:=[(3,{oc:=[zN x2,zN x3]}),(8,{rs:=[oI x4,oI x5,oI x6],st:=st7})],hv:=256,Hs:=[256]},.d {ds:=[(3,{oc:=[zN x8,zN (some i10)]}),(6,{oc:=[zN x11,zN x12,yI true 1 x13]}),(11,{rs:=[oI x14,oI x15,oI x16],st:=st17})],hv:=2048,Hs:=[2048]}]
   have t1 {Q:Prop} (q:Q):=aN c1 c3 (ZdQ.s c4) c5 c7 (Zdt.s c8) q;exact Zbd h (fun c9 h=>Zbd h (fun c10 h=>xTd h hE (o2++[rZ]) (t1 (aO c9 c9 c9 c9 c10 c10 c10 c10))) fun c10 h=>xTd h hE (o2++[.r [(9,wF),(10,wF),(11,wF),(12,yF)]]) (t1 (aO c9 c9 c9 c9 c10 c10 c10 c10))) fun c9 h=>xTd h hE (o2++[.r [(4,wF),(5,wF),(6,wF),(7,yF),(9,wF),(10,wF),(11,wF),(12,yF)]]) (t1 (aO c9 c9 c9 c9 eF eF eF eF))
  let o3:List PS:=o1++[cF,rZ,cF,rZ,cF,rZ,cF,rZ]
  refine Zbd h (fun c11 h=>?_) (fun c11 h=>?_)
  ·obtain ⟨i18,rfl,h⟩:=Zab h;obtain ⟨x19,x20,c13,h⟩:=Zbl h;cases h
  refine Zbd h (fun c14 h=>?_) (fun c14 h=>?_)
  ·obtain ⟨i21,rfl,h⟩:=Zab h;obtain ⟨x22,x23,c16,h⟩:=Zbl h;cases h
  refine Zbd h (fun c17 h=>?_) (fun c17 h=>?_)
  ·obtain ⟨i24,rfl,h⟩:=Zab h;obtain ⟨x25,x26,c19,h⟩:=Zbl h;cases h
  refine Zbd h (fun c20 h=>?_) (fun c20 h=>?_)
  ·obtain ⟨i27,rfl,h⟩:=Zab h;obtain ⟨x28,x29,c22,h⟩:=Zbl h;obtain ⟨⟨x30,st31⟩,c23,h⟩:=Zab h;obtain ⟨c24,h⟩:=Zba h;obtain ⟨⟨x32,st33⟩,c25,h⟩:=Zab h;exact xTd h hE (o3++[cT,.d {ds:=[(3,{oc:=[zN x28,zN x29]}),(4,{rs:=[oB x30],st:=st31}),(8,{oc:=[zN x28,zN x29]}),(9,{rs:=[oB x32],st:=st33})],hv:=528,Hs:=[16,528]}]) (aO c1 c11 c14 c17 c20 c22 (Zda.s c23) (aJ c22 (ZoQ c24) (Zay.s c25)))
  refine Zbd h (fun c26 h=>?_) (fun c26 h=>?_)
  ·obtain ⟨i34,rfl,h⟩:=Zab h;obtain ⟨x35,x36,c28,h⟩:=Zbl h;obtain ⟨⟨x37,st38⟩,c29,h⟩:=Zab h;obtain ⟨c30,h⟩:=Zba h;obtain ⟨⟨x39,st40⟩,c31,h⟩:=Zab h;exact xTd h hE (o3++[cF,rZ,cT,.d {ds:=[(3,{oc:=[zN x35,zN x36]}),(4,{rs:=[oI x37],st:=st38}),(8,{oc:=[zN x35,zN x36]}),(9,{rs:=[oI x39],st:=st40})],hv:=528,Hs:=[16,528]}]) (aO c1 c11 c14 c17 c20 c26 c28 (aK (ZaF.s c29) c28 (ZoQ c30) (Zbe.s c31)))
  exact xT h hE (o3++[cF,rZ,cF,rZ]) (aM c1 c11 c14 c17 c20 c26)
def Zdk.B:Code:=Tryz.f62.body.getD .skip
def Zdk.rs (r:Bool×LL):List CV:=[oB r.1]
def Zdk (N:Nat) (A0:Int) (A1_0:Option Nat) (st:LL):Option (Bool×LL):= Zbb (ZcT N A1_0 A0 st) fun (x1,st2)=> some (!x1,st2)
def Zdk.s {A0:Int} {A1_0:Option Nat} {st:LL} {r:Bool×LL} (h:Zdk N A0 A1_0 st=some r):Snd zC 62 [oI A0,.one (wE 1 [zN A1_0])] st (Zdk.rs r) r.2:=
 sO Zdk.B Tryz.func62 fun g0 w0 R hE=>by
  unfold Zdk at h;obtain ⟨⟨x1,st2⟩,c1,h⟩:=Zab h;exact xT h hE [rZ,.r [(0,{m:=2}),(2,{rs:=[oB x1],st:=st2})]] (ZcT.s c1)
end Go.Dn.F
end
