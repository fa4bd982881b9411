import Derived.Test.YtbijmojagnjgcaaGreatDoorFba
set_option linter.all false
open Go.Dn.L renaming int→zJ,arr→zH,bool→xK,ptr→zQ,bx→vV,own→yB
open Go.Proofs.Tryz renaming prog→zC
open Int renaming toNat→zE,tdiv→zR,tmod→zW
open List renaming getD→zF,set→zM,replicate→zB,length→zK
noncomputable section
set_option maxRecDepth 100000
namespace Go.Dn.F
open Go.Proofs
variable {N:Nat} {g0:G} {w0:World} {R:Exit→Act→World→Prop}
def ZcU.B:Code:=Tryz.f162.body.getD .skip
def ZcU.rs (r:Int×Int):List CV:=[.one (zJ .u64 r.1),.one (zJ .u64 r.2)]
def ZcU (N:Nat) (A0 A1:Int):Option (Int×Int):= some (v64 ((v64 ((v64 ((Zbs .u64 A0 32)*(Zbs .u64 A1 32)))+(Zbs .u64 (v64 ((v64 ((Zbs .u64 A0 32)*(ZaE .and .u64 A1 4294967295)))+(Zbs .u64 (v64 ((ZaE .and .u64 A0 4294967295)*(ZaE .and .u64 A1 4294967295))) 32))) 32)))+(Zbs .u64 (v64 ((ZaE .and .u64 (v64 ((v64 ((Zbs .u64 A0 32)*(ZaE .and .u64 A1 4294967295)))+(Zbs .u64 (v64 ((ZaE .and .u64 A0 4294967295)*(ZaE .and .u64 A1 4294967295))) 32))) 4294967295)+(v64 ((ZaE .and .u64 A0 4294967295)*(Zbs .u64 A1 32))))) 32)),v64 (A0*A1))
theorem ZcU.snd {A0 A1:Int} {r:Int×Int} (h:ZcU N A0 A1=some r):ZdD zC 162 [.one (zJ .u64 A0),.one (zJ .u64 A1)] (ZcU.rs r):=fun st=>
 sO ZcU.B Tryz.func162 fun g0 w0 R hE=>by
  unfold ZcU at h;exact xS fol h hE [rZ,rZ,rZ,rZ,rZ,rZ,rZ,rZ,rZ,rZ,rZ,rZ] (aL (leI 0 32) (leI 0 32) (leI 0 32) (leI 0 32) (leI 0 32))
def Zcj.B:Code:=Tryz.f151.body.getD .skip
def Zcj.rs (r:(List Int)×Bool):List CV:=[.agg [zH .u64 4 r.1],oB r.2]
def Zcj.p1 (N:Nat) (F1:Int) (c1_:(Int×Int×(List Int))→Option ((List Int)×Bool)):(Int×Int×(List Int))→Option ((List Int)×Bool):=fun (A1,v2,A7)=> if (decide (v2<4))=true then chk (0≤v2)<| Zbj (ZcU N (zF A7 (zE v2) 0) F1) fun (x8,x9)=> Zbj (Zeg N x9 A1 0) fun (x10,x11)=> c1_ (v64 (x8+x11),w64 (v2+1),zM A7 (zE v2) x10) else some (A7,A1 != 0)
def Zcj (N:Nat) (A0_0:List Int) (F1:Int):Option ((List Int)×Bool):= loopN (Zcj.p1 N F1) N (0,0,A0_0)
def Zcj.p1.S (F1 A1 v2:Int) (A7:List Int) (st:LL):S:=mkS 37 [(1,.one (.l (zJ .u64 F1))),(2,sA 2),(4,sA 4),(6,.one (.l (zJ .u64 A1))),(11,sI v2)] [(2,.cells [zH .u64 4 A7]),(4,.cells [zH .u64 4 (zB 4 0)])] st
theorem Zcj.p1_ok {F1 A1 v2 A7 st r c1_ J1} (h:Zcj.p1 N F1 c1_ (A1,v2,A7)=some r) (hE:En Tryz.f151 g0 w0 (Zcj.rs r) st R) (hc1 : ∀A1 v2 A7,c1_ (A1,v2,A7)=some r→At g0 w0 (Zcj.p1.S F1 A1 v2 A7 st) J1):At g0 w0 (Zcj.p1.S F1 A1 v2 A7 st) (XK zC R (cK Zcj.B [1,1,0,1,0,0] :: .h J1 :: [.b 0,cK Zcj.B [1,1,1]])):=by
 unfold Zcj.p1 at h;refine Zbe h (fun c5 h1=>?_) (fun c5 h2=>?_)
 ·obtain ⟨c6,h3⟩:=Zbd h1;obtain ⟨⟨x8,x9⟩,c7,h4⟩:=Zac h3;obtain ⟨⟨x10,x11⟩,c8,h5⟩:=Zac h4;exact an fol [rZ,cT,rZ,.r [(4,q1 [.one (zJ .u64 x8),.one (zJ .u64 x9)])],rZ,.r [(3,{rs:=[.one (zJ .u64 x10),.one (zJ .u64 x11)],m:=4})],rZ,rZ] [1,2,4,6,11] [2,4] (aN c5 c6 (oD c5) (ZcU.snd c7) (Zeg.snd c8) c6 (oD c5)) (hc1 (v64 (x8+x11)) (w64 (v2+1)) (zM A7 (zE v2) x10) h5)
 exact xS fol h2 hE [rZ,cF,rZ] c5
theorem Zcj.snd {A0_0:List Int} {F1:Int} {r:(List Int)×Bool} (h:Zcj N A0_0 F1=some r):ZdD zC 151 [.agg [zH .u64 4 A0_0],.one (zJ .u64 F1)] (Zcj.rs r):=fun st=>
 sO Zcj.B Tryz.func151 fun g0 w0 R hE=>by
  unfold Zcj at h;exact aq fol [rZ,rZ,rZ] [1,2,4,6,11] [2,4] trivial (At.loop N (At.loopN (fun y:Int×Int×(List Int)=>Zcj.p1.S F1 y.1 y.2.1 y.2.2 st) (fun c J hc y h=>Zcj.p1_ok (A1:=y.1) (v2:=y.2.1) (A7:=y.2.2) h hE (fun A1 v2 A7=>hc (A1,v2,A7))) N (0,0,A0_0) h))
def ZaX.B:Code:=Tryz.f152.body.getD .skip
def ZaX.rs (r:Int):List CV:=[oI r]
def ZaX.p2 (N:Nat) (A5 A6:Int):Option Int:= some (ZaE .or .i64 (ZbA .i64 A5 24) A6)
def ZaX.p1 (N:Nat) (x1 A4:Int):Option Int:= if ((ZaE .and .i64 A4 8388608) != 0)=true then ZaX.p2 N (w64 ((w64 (zR (w64 (x1+7)) 8))+1)) (Zbs .i64 A4 8) else ZaX.p2 N (w64 (zR (w64 (x1+7)) 8)) A4
def ZaX (N:Nat) (A0_0:List Int):Option Int:= Zbj (ZcL N A0_0) fun x1=> if (decide ((w64 (zR (w64 (x1+7)) 8))≤3))=true then Zbj (ZbP N A0_0 (w64 (8*(w64 (3-(w64 (zR (w64 (x1+7)) 8))))))) fun x2=> ZaX.p1 N x1 (w64 (zF x2 0 0)) else Zbj (Zbm N A0_0 (w64 (8*(w64 ((w64 (zR (w64 (x1+7)) 8))-3))))) fun x3=> ZaX.p1 N x1 (w64 (zF x3 0 0))
def ZaX.p2.S (A5 A6:Int) (st:LL):S:=mkS 36 [(3,sI A5),(4,sI A6)] [] st
def ZaX.p1.S (x1 A4:Int) (st:LL):S:=mkS 36 [(3,sI (w64 (zR (w64 (x1+7)) 8))),(4,sI A4)] [] st
theorem ZaX.p2_ok {A5 A6 st r} (h:ZaX.p2 N A5 A6=some r) (hE:En Tryz.f152 g0 w0 (ZaX.rs r) st R):At g0 w0 (ZaX.p2.S A5 A6 st) (XK zC R [cK ZaX.B [1,1,1,1,1]]):=by
 unfold ZaX.p2 at h;exact xS fol h hE [rZ] (leI 0 24)
theorem ZaX.p1_ok {x1 A4 st r} (h:ZaX.p1 N x1 A4=some r) (hE:En Tryz.f152 g0 w0 (ZaX.rs r) st R):At g0 w0 (ZaX.p1.S x1 A4 st) (XK zC R [cK ZaX.B [1,1,1,1]]):=by
 unfold ZaX.p1 at h;refine Zbe h (fun c5 h1=>?_) (fun c5 h2=>?_)
 ·exact aq fol [rZ,cT,rZ,rZ,.s 1] [3,4] [] (aI c5 (leI 0 8)) (ZaX.p2_ok h1 hE)
 exact aq fol [rZ,cF,.s 1] [3,4] [] c5 (ZaX.p2_ok h2 hE)
theorem ZaX.snd {A0_0:List Int} {r:Int} (h:ZaX N A0_0=some r):ZdD zC 152 [.agg [zH .u64 4 A0_0]] (ZaX.rs r):=fun st=>
 sO ZaX.B Tryz.func152 fun g0 w0 R hE=>by
  unfold ZaX at h;obtain ⟨x1,c1,h3⟩:=Zac h;let o1:List PS:=[rZ,.r [(1,q1 [oI x1])],rZ,rZ]
  refine Zbe h3 (fun c2 h4=>?_) (fun c2 h5=>?_)
  ·obtain ⟨x2,c3,h6⟩:=Zac h4;exact aq fol (o1++[cT,.r [(4,q1 [.agg [zH .u64 4 x2]])],.s 1]) [3,4] [] (aM (ZcL.snd c1) (neI 8) c2 (ZbP.snd c3) (leI 0 0) (ltI 0 4)) (ZaX.p1_ok h6 hE)
  obtain ⟨x3,c4,h7⟩:=Zac h5;exact aq fol (o1++[cF,.r [(4,q1 [.agg [zH .u64 4 x3]])],.s 1]) [3,4] [] (aM (ZcL.snd c1) (neI 8) c2 (Zbm.snd c4) (leI 0 0) (ltI 0 4)) (ZaX.p1_ok h7 hE)
def ZbL.B:Code:=Tryz.f132.body.getD .skip
def ZbL.rs (r:Int):List CV:=[oI r]
def ZbL.p1 (N:Nat) (A17:List Int):Option Int:= Zbj (ZaX N A17) fun x18=> some x18
def ZbL (N:Nat) (A0:Zae) (A1 A2 A3:Int):Option Int:= Zbj (ZcG N A1 A0.Limit) fun (x1,x2)=> Zbj (ZeA N A0) fun x3=> if (!x3)=true then some A0.Limit else if (!x2)=true then some A0.Limit else Zbj (Zfc N A0 A2 A3) fun x4=> Zbj (ZcE N x1 (v64 (w64 (A0.Interval*A0.Spacing)))) fun (x5,x6)=> Zbj (Zcj N x5 (v64 (x4))) fun (x7,x8)=> chk ((v64 (w64 (A0.Interval*A0.Spacing)))≠0)<| Zbj (Zdz N (v64 (zR (v64 (x6*(v64 (x4)))) (v64 (w64 (A0.Interval*A0.Spacing)))))) fun x9=> Zbj (Zcc N x7 x9) fun (x10,x11)=> Zbj (ZcG N A0.Limit A0.Limit) fun (x12,x13)=> if x8=true then some A0.Limit else if x11=true then some A0.Limit else Zbj (Zdq N x12 x10) fun x14=> if x14=true then some A0.Limit else Zbj (Zde N x10) fun x15=> if x15=true then Zbj (Zdz N 1) fun x16=> ZbL.p1 N x16 else ZbL.p1 N x10
def ZbL.p1.S (A17:List Int) (st:LL):S:=mkS 94 [(15,sA 15)] [(15,.cells [zH .u64 4 A17])] st
theorem ZbL.p1_ok {A17 st r} (h:ZbL.p1 N A17=some r) (hE:En Tryz.f132 g0 w0 (ZbL.rs r) st R):At g0 w0 (ZbL.p1.S A17 st) (XK zC R [cK ZbL.B [1,1,1,1,1,1,1,1,1,1,1]]):=by
 unfold ZbL.p1 at h;obtain ⟨x18,c19,h1⟩:=Zac h;exact xS fol h1 hE [.r [(1,q1 [oI x18])]] (ZaX.snd c19)
theorem ZbL.snd {A0:Zae} {A1 A2 A3:Int} {r:Int} (h:ZbL N A0 A1 A2 A3=some r):ZdD zC 132 [.agg A0.ls,oI A1,oI A2,oI A3] (ZbL.rs r):=fun st=>
 sO ZbL.B Tryz.func132 fun g0 w0 R hE=>by
  unfold ZbL at h;obtain ⟨⟨x1,x2⟩,c1,h2⟩:=Zac h;obtain ⟨x3,c2,h3⟩:=Zac h2;let o1:List PS:=[rZ,.r [(3,q1 [.agg [zH .u64 4 x1],oB x2])]]
  have t1 {Q:Prop} (q:Q):=aJ (ZcG.snd c1) (ZeA.snd c2) q;refine Zbe h3 (fun c3 h4=>?_) (fun c3 h5=>?_)
  ·exact xS fol h4 hE (o1++[.r [(1,q1 [oB x3]),(4,wF),(5,wF)],cT,rZ]) (t1 (aK (not_false (Zcm c3)) (not_false (Zcm c3)) (not_false (Zcm c3)) eT))
  let o2:List PS:=o1++[.r [(1,q1 [oB x3]),(6,yF)]]
  have t2 {Q:Prop} (q:Q):=t1 (aK (not_true (Zcn c3)) (not_true (Zcn c3)) (not_true (Zcn c3)) q);refine Zbe h5 (fun c4 h6=>?_) (fun c4 h7=>?_)
  ·exact xS fol h6 hE (o2++[cT,rZ]) (t2 c4)
  obtain ⟨x4,c5,h8⟩:=Zac h7;obtain ⟨⟨x5,x6⟩,c6,h9⟩:=Zac h8;obtain ⟨⟨x7,x8⟩,c7,h10⟩:=Zac h9;obtain ⟨c8,h11⟩:=Zbd h10;obtain ⟨x9,c9,h12⟩:=Zac h11;obtain ⟨⟨x10,x11⟩,c10,h13⟩:=Zac h12;obtain ⟨⟨x12,x13⟩,c11,h14⟩:=Zac h13;let o3:List PS:=o2++[cF,rZ,.r [(3,q1 [oI x4])],.r [(2,q1 [.agg [zH .u64 4 x5],.one (zJ .u64 x6)])],.r [(2,q1 [.agg [zH .u64 4 x7],oB x8])],.d {ds:=[(6,q1 [.agg [zH .u64 4 x9]]),(7,q1 [.agg [zH .u64 4 x10],oB x11])],hv:=2048,Hs:=[2048]},.r [(4,q1 [.agg [zH .u64 4 x12],oB x13])]]
  have t3 {Q:Prop} (q:Q):=t2 (aO c4 (Zfc.snd c5) (ZcE.snd c6) (Zcj.snd c7) c8 (Zdz.snd c9) (Zcc.snd c10) (aI (ZcG.snd c11) q));refine Zbe h14 (fun c12 h15=>?_) (fun c12 h16=>?_)
  ·exact xSd fol h15 hE (o3++[.r [(2,wF),(5,wF),(6,wF),(7,wF)],cT,rZ]) (t3 (aN c12 c12 eT eT eT eT eT))
  refine Zbe h16 (fun c13 h17=>?_) (fun c13 h18=>?_)
  ·exact xSd fol h17 hE (o3++[.r [(3,yF),(5,wF),(6,wF),(7,wF)],cT,rZ]) (t3 (aN c12 c12 c13 c13 c13 c13 eT))
  obtain ⟨x14,c14,h19⟩:=Zac h18;let o4:List PS:=o3++[.r [(3,yF),(7,q1 [oB x14]),(8,yF)]]
  have t4 {Q:Prop} (q:Q):=t3 (aO c12 c12 c13 c13 c13 (Zdq.snd c14) c13 q);refine Zbe h19 (fun c15 h20=>?_) (fun c15 h21=>?_)
  ·exact xSd fol h20 hE (o4++[cT,rZ]) (t4 c15)
  obtain ⟨x15,c16,h22⟩:=Zac h21;let o5:List PS:=o4++[cF,.r [(1,q1 [oB x15])]]
  refine Zbe h22 (fun c17 h23=>?_) (fun c17 h24=>?_)
  ·obtain ⟨x16,c18,h25⟩:=Zac h23;exact aqd fol (o5++[cT,.r [(0,q1 [.agg [zH .u64 4 x16]])],.s 1]) [15] [15] (t4 (aK c15 (Zde.snd c16) c17 (Zdz.snd c18))) (ZbL.p1_ok h25 hE)
  exact aqd fol (o5++[cF,.s 1]) [15] [15] (t4 (aJ c15 (Zde.snd c16) c17)) (ZbL.p1_ok h24 hE)
def Zfd.B:Code:=Tryz.f105.body.getD .skip
def Zfd.rs (r:Int):List CV:=[oI r]
def Zfd (N:Nat) (A0:Zae) (at_1:ZdJ) (A2:Int):Option Int:= if (decide (at_1.Height≤0))=true then some A0.Limit else Zbj (Zdt N A0 at_1.Height) fun x1=> if x1=true then Zbj (ZbL N A0 at_1.Bits at_1.First at_1.Time) fun x2=> some x2 else if (!A0.Easy)=true then some at_1.Bits else if (decide ((w64 (A2-at_1.Time))>(w64 (2*A0.Spacing))))=true then some A0.Limit else some at_1.Hard
theorem Zfd.snd {A0:Zae} {at_1:ZdJ} {A2:Int} {r:Int} (h:Zfd N A0 at_1 A2=some r):ZdD zC 105 [.agg A0.ls,.agg at_1.ls,oI A2] (Zfd.rs r):=fun st=>
 sO Zfd.B Tryz.func105 fun g0 w0 R hE=>by
  unfold Zfd at h;refine Zbe h (fun c1 h1=>?_) (fun c1 h2=>?_)
  ·exact xS fol h1 hE [rZ,rZ,cT,rZ] c1
  obtain ⟨x1,c2,h3⟩:=Zac h2;let o1:List PS:=[rZ,rZ,cF,.r [(3,q1 [oB x1])]]
  have t1 {Q:Prop} (q:Q):=aJ c1 (Zdt.snd c2) q;refine Zbe h3 (fun c3 h4=>?_) (fun c3 h5=>?_)
  ·obtain ⟨x2,c4,h6⟩:=Zac h4;exact xS fol h6 hE (o1++[cT,.r [(7,q1 [oI x2])]]) (t1 (aI c3 (ZbL.snd c4)))
  refine Zbe h5 (fun c5 h7=>?_) (fun c5 h8=>?_)
  ·exact xS fol h7 hE (o1++[cF,rZ,cT,rZ]) (t1 (aI c3 c5))
  refine Zbe h8 (fun c6 h9=>?_) (fun c6 h10=>?_)
  ·exact xS fol h9 hE (o1++[cF,rZ,cF,rZ,cT,rZ]) (t1 (aJ c3 c5 c6))
  exact xS fol h10 hE (o1++[cF,rZ,cF,rZ,cF,rZ]) (t1 (aJ c3 c5 c6))
def ZbD.B:Code:=Tryz.f153.body.getD .skip
def ZbD.rs (r:(List Int)):List CV:=[.agg [zH .u64 4 r]]
def ZbD.p1 (N:Nat) (A0_0:List Int) (c1_:(Int×(List Int))→Option (List Int)):(Int×(List Int))→Option (List Int):=fun (v1,A2)=> if (decide (v1<32))=true then chk (0≤v1)<| chk (0≤(w64 (zR v1 8)))<| chk ((w64 (zR v1 8))<4)<| chk (0≤(w64 (8*(zW v1 8))))<| c1_ (w64 (v1+1),zM A2 (zE (w64 (zR v1 8))) (ZaE .or .u64 (zF A2 (zE (w64 (zR v1 8))) 0) (ZbA .u64 (v64 (zF A0_0 (zE v1) 0)) (w64 (8*(zW v1 8)))))) else some A2
def ZbD (N:Nat) (A0_0:List Int):Option (List Int):= loopN (ZbD.p1 N A0_0) N (0,zB 4 0)
def ZbD.p1.S (A0_0:List Int) (v1:Int) (A2:List Int) (st:LL):S:=mkS 25 [(2,sA 2),(3,sA 3),(6,.agg [.l (zH .u8 32 A0_0)]),(7,sI v1)] [(2,.cells [zH .u64 4 (zB 4 0)]),(3,.cells [zH .u64 4 A2])] st
theorem ZbD.p1_ok {A0_0 v1 A2 st r c1_ J1} (h:ZbD.p1 N A0_0 c1_ (v1,A2)=some r) (hE:En Tryz.f153 g0 w0 (ZbD.rs r) st R) (hc1 : ∀v1 A2,c1_ (v1,A2)=some r→At g0 w0 (ZbD.p1.S A0_0 v1 A2 st) J1):At g0 w0 (ZbD.p1.S A0_0 v1 A2 st) (XK zC R (cK ZbD.B [1,1,0,1,0,0] :: .h J1 :: [.b 0,cK ZbD.B [1,1,1]])):=by
 unfold ZbD.p1 at h;refine Zbe h (fun c6 h1=>?_) (fun c6 h2=>?_)
 ·obtain ⟨c7,c8,c9,c10,h3⟩:=ck4 h1;exact ZjD fol [rZ,cT,rZ,.d {ds:=[],hv:=4096,Hs:=[4096]},rZ] [2,3,6,7] [2,3] (aO c6 c7 (oD c6) (neI 8) c8 c9 (neI 8) (aJ c10 c8 c9)) (hc1 (w64 (v1+1)) (zM A2 (zE (w64 (zR v1 8))) (ZaE .or .u64 (zF A2 (zE (w64 (zR v1 8))) 0) (ZbA .u64 (v64 (zF A0_0 (zE v1) 0)) (w64 (8*(zW v1 8)))))) h3)
 exact xS fol h2 hE [rZ,cF,rZ] c6
theorem ZbD.snd {A0_0:List Int} {r:(List Int)} (h:ZbD N A0_0=some r):ZdD zC 153 [.agg [zH .u8 32 A0_0]] (ZbD.rs r):=fun st=>
 sO ZbD.B Tryz.func153 fun g0 w0 R hE=>by
  unfold ZbD at h;exact aq fol [rZ,rZ,rZ] [2,3,6,7] [2,3] trivial (At.loop N (At.loopN (fun y:Int×(List Int)=>ZbD.p1.S A0_0 y.1 y.2 st) (fun c J hc y h=>ZbD.p1_ok (v1:=y.1) (A2:=y.2) h hE (fun v1 A2=>hc (v1,A2))) N (0,zB 4 0) h))
def ZdC.B:Code:=Tryz.f133.body.getD .skip
def ZdC.rs (r:Bool):List CV:=[oB r]
def ZdC (N:Nat) (A0_0 A1_0:List Int):Option Bool:= Zbj (ZbD N A0_0) fun x1=> Zbj (Zdq N A1_0 x1) fun x2=> some (!x2)
theorem ZdC.snd {A0_0 A1_0:List Int} {r:Bool} (h:ZdC N A0_0 A1_0=some r):ZdD zC 133 [.agg [zH .u8 32 A0_0],.agg [zH .u64 4 A1_0]] (ZdC.rs r):=fun st=>
 sO ZdC.B Tryz.func133 fun g0 w0 R hE=>by
  unfold ZdC at h;obtain ⟨x1,c1,h1⟩:=Zac h;obtain ⟨x2,c2,h2⟩:=Zac h1;exact xSd fol h2 hE [rZ,.d {ds:=[(2,q1 [.agg [zH .u64 4 x1]]),(3,q1 [oB x2])],hv:=0,Hs:=[]}] (aI (ZbD.snd c1) (Zdq.snd c2))
def Zek.B:Code:=Tryz.f106.body.getD .skip
def Zek.rs (r:Int):List CV:=[oI r]
def Zek (N:Nat) (A0:Zae) (A1:Zaj):Option Int:= Zbj (ZcM N A1) fun x1=> if (!x1)=true then some 1 else Zbj (ZcG N A1.Bits A0.Limit) fun (x2,x3)=> if (!x3)=true then some 4 else Zbj (Zef N A1) fun x4=> Zbj (ZdC N x4 x2) fun x5=> if (!x5)=true then some 4 else some 0
theorem Zek.snd {A0:Zae} {A1:Zaj} {r:Int} (h:Zek N A0 A1=some r):ZdD zC 106 [.agg A0.ls,.agg A1.ls] (Zek.rs r):=fun st=>
 sO Zek.B Tryz.func106 fun g0 w0 R hE=>by
  unfold Zek at h;obtain ⟨x1,c1,h1⟩:=Zac h;let o1:List PS:=[rZ,.r [(1,q1 [oB x1])]]
  have t1 {Q:Prop} (q:Q):=aI (ZcM.snd c1) q;refine Zbe h1 (fun c2 h2=>?_) (fun c2 h3=>?_)
  ·exact xS fol h2 hE (o1++[cT,rZ]) (t1 c2)
  obtain ⟨⟨x2,x3⟩,c3,h4⟩:=Zac h3;let o2:List PS:=o1++[cF,.r [(4,q1 [.agg [zH .u64 4 x2],oB x3])]]
  have t2 {Q:Prop} (q:Q):=t1 (aJ c2 (ZcG.snd c3) q);refine Zbe h4 (fun c4 h5=>?_) (fun c4 h6=>?_)
  ·exact xSd fol h5 hE (o2++[.d {ds:=[(3,wF),(4,wF),(5,wF),(6,wF),(7,wF)],hv:=0,Hs:=[]},cT,rZ]) (t2 (aN (not_false (Zcm c4)) (not_false (Zcm c4)) (not_false (Zcm c4)) (not_false (Zcm c4)) (not_false (Zcm c4)) (not_false (Zcm c4)) eT))
  obtain ⟨x4,c5,h7⟩:=Zac h6;obtain ⟨x5,c6,h8⟩:=Zac h7;let o3:List PS:=o2++[.d {ds:=[(4,q1 [.agg [zH .u8 32 x4]]),(6,q1 [oB x5]),(8,yF)],hv:=0,Hs:=[]}]
  have t3 {Q:Prop} (q:Q):=t2 (aO (not_true (Zcn c4)) (not_true (Zcn c4)) (Zef.snd c5) (not_true (Zcn c4)) (not_true (Zcn c4)) (ZdC.snd c6) (not_true (Zcn c4)) (aI (not_true (Zcn c4)) q));refine Zbe h8 (fun c7 h9=>?_) (fun c7 h10=>?_)
  ·exact xSd fol h9 hE (o3++[cT,rZ]) (t3 c7)
  exact xSd fol h10 hE (o3++[cF,rZ]) (t3 c7)
def Zff.B:Code:=Tryz.f134.body.getD .skip
def Zff.rs (r:Int):List CV:=[oI r]
def Zff (N:Nat) (A0:LL):Option Int:= chk (0≤(if (11:Int)<(len A0) then 11 else (len A0)))<| chk ((zE (if (11:Int)<(len A0) then 11 else (len A0)))≤(zK A0))<| Zbj (ZbK N (List.take (zE (if (11:Int)<(len A0) then 11 else (len A0))) (List.drop 0 A0))) fun x1=> if ((len x1)==0)=true then some 0 else chk (isI x1=true)<| chk (zK x1<4611686018427387904)<| chk (0≤(w64 (zR (len x1) 2)))<| chk ((w64 (zR (len x1) 2))<(len x1))<| ZcX ((ZkV x1)[0+(zE (w64 (zR (len x1) 2)))]?) ZdP fun x2=> some x2
theorem Zff.snd {A0:LL} {r:Int} (h:Zff N A0=some r):ZdD zC 134 [.one (L.sl 1 A0)] (Zff.rs r):=fun st=>
 sO Zff.B Tryz.func134 fun g0 w0 R hE=>by
  unfold Zff at h;obtain ⟨c1,c2,h1⟩:=ck2 h;obtain ⟨x1,c3,h2⟩:=Zac h1;let o1:List PS:=[rZ,.r [(5,{rs:=[.row true 1 x1],ns:=[9],m:=1})],rZ]
  have t1 {Q:Prop} (q:Q):=aL c1 (Nat.zero_le (zE (if (11:Int)<(len A0) then 11 else (len A0)))) c2 (ZbK.snd c3) q;refine Zbe h2 (fun c4 h3=>?_) (fun c4 h4=>?_)
  ·exact xS fol h3 hE (o1++[cT,rZ]) (t1 c4)
  obtain ⟨c5,c6,c7,c8,h5⟩:=ck4 h4;obtain ⟨x2,c9,h6⟩:=Zdh h5;exact xS fol h6 hE (o1++[cF,.r [(1,{m:=7})],.r [(5,{oe:=[zJ .i64 x2]})]]) (t1 (aO c4 z0 (@rfl _ (zK x1):(zK x1)=(zK x1)) c5 c6 slices_Sort_int.snd (neI 2) (aJ c7 c8 c9)))
def ZdK.B:Code:=Tryz.f107.body.getD .skip
def ZdK.rs (r:Bool):List CV:=[oB r]
def ZdK (N:Nat) (A0:Int) (A1:LL):Option Bool:= if ((len A1)==0)=true then some true else Zbj (Zff N A1) fun x1=> some (decide (A0>x1))
theorem ZdK.snd {A0:Int} {A1:LL} {r:Bool} (h:ZdK N A0 A1=some r):ZdD zC 107 [oI A0,.one (L.sl 1 A1)] (ZdK.rs r):=fun st=>
 sO ZdK.B Tryz.func107 fun g0 w0 R hE=>by
  unfold ZdK at h;refine Zbe h (fun c1 h1=>?_) (fun c1 h2=>?_)
  ·exact xS fol h1 hE [rZ,.r [(4,wF),(5,wF),(6,wF),(7,wF)]] (aL c1 c1 c1 c1 c1)
  obtain ⟨x1,c2,h3⟩:=Zac h2;exact xS fol h3 hE [rZ,.r [(6,q1 [oI x1]),(8,yF)]] (aM c1 c1 c1 (Zff.snd c2) c1 c1)
def Zel.B:Code:=Tryz.f108.body.getD .skip
def Zel.rs (r:Bool):List CV:=[oB r]
def Zel (N:Nat) (A0 A1 A2:Int):Option Bool:= if (decide (A2≥0))=true then if (decide (A0≤A1))=true then some true else some (decide ((w64 (A0-A1))≤A2)) else some false
theorem Zel.snd {A0 A1 A2:Int} {r:Bool} (h:Zel N A0 A1 A2=some r):ZdD zC 108 [oI A0,oI A1,oI A2] (Zel.rs r):=fun st=>
 sO Zel.B Tryz.func108 fun g0 w0 R hE=>by
  unfold Zel at h;refine Zbe h (fun c1 h1=>?_) (fun c1 h2=>?_)
  ·refine Zbe h1 (fun c2 h3=>?_) (fun c2 h4=>?_)
   ·exact xS fol h3 hE [rZ,.r [(7,wF),(8,wF),(9,wF),(10,wF),(11,wF)]] (aO c1 c1 c1 c1 c2 c2 c2 (aL c2 c2 c1 c2 c1))
   exact xS fol h4 hE [rZ,.r [(12,yF)]] (aO c1 c1 c1 c1 c2 c2 c2 (aL c2 c2 c1 c2 c1))
  exact xS fol h2 hE [rZ,.r [(3,wF),(4,wF),(5,wF),(6,wF),(12,wF),(13,yF)]] (aM c1 c1 c1 c1 c1 c1)
def Zbh.B:Code:=Tryz.f109.body.getD .skip
def Zbh.rs (r:Int):List CV:=[oI r]
def Zbh.p2 (N:Nat) (c1_:(Int×Int)→Option Int) (A0 A4:Int) (A1:LL) (v2:Int):Option Int:= c1_ (A4,w64 (v2+1))
def Zbh.p1 (N:Nat) (A0:Int) (A1:LL) (c1_:(Int×Int)→Option Int):(Int×Int)→Option Int:=fun (F1,v2)=> if (decide (v2<(len A1)))=true then chk (0≤v2)<| ZcX (A1[zE v2]?) ZeI fun x3=> if (decide (A0≥x3.Height))=true then Zbh.p2 N c1_ A0 (if x3.Version>F1 then x3.Version else F1) A1 v2 else Zbh.p2 N c1_ A0 F1 A1 v2 else some F1
def Zbh (N:Nat) (A0:Int) (A1:LL):Option Int:= loopN (Zbh.p1 N A0 A1) N ((-2147483648),0)
def Zbh.p2.S (A0 A4:Int) (A1:LL) (v2:Int) (st:LL):S:=mkS 24 [(0,sI A0),(5,sI A4),(8,sV 2 A1),(9,sI (len A1)),(10,sI v2)] [] st
def Zbh.p1.S (A0 F1:Int) (A1:LL) (v2:Int) (st:LL):S:=mkS 24 [(0,sI A0),(5,sI F1),(8,sV 2 A1),(9,sI (len A1)),(10,sI v2)] [] st
theorem Zbh.p2_ok {A0 A4 A1 v2 st r c1_ J1} (h:Zbh.p2 N c1_ A0 A4 A1 v2=some r) (hE:En Tryz.f109 g0 w0 (Zbh.rs r) st R) (hc1 : ∀F1 v2,c1_ (F1,v2)=some r→At g0 w0 (Zbh.p1.S A0 F1 A1 v2 st) J1):At g0 w0 (Zbh.p2.S A0 A4 A1 v2 st) (XK zC R [cK Zbh.B [1,1,0,1,0,0,1,1,1],.h J1,.b 0,cK Zbh.B [1,1,1]]):=by
 unfold Zbh.p2 at h;exact an fol [rZ] [0,5,8,9,10] [] trivial (hc1 A4 (w64 (v2+1)) h)
theorem Zbh.p1_ok {A0 F1 A1 v2 st r c1_ J1} (h:Zbh.p1 N A0 A1 c1_ (F1,v2)=some r) (hE:En Tryz.f109 g0 w0 (Zbh.rs r) st R) (hc1 : ∀F1 v2,c1_ (F1,v2)=some r→At g0 w0 (Zbh.p1.S A0 F1 A1 v2 st) J1):At g0 w0 (Zbh.p1.S A0 F1 A1 v2 st) (XK zC R (cK Zbh.B [1,1,0,1,0,0] :: .h J1 :: [.b 0,cK Zbh.B [1,1,1]])):=by
 unfold Zbh.p1 at h;refine Zbe h (fun c1 h1=>?_) (fun c1 h2=>?_)
 ·obtain ⟨c2,h3⟩:=Zbd h1;obtain ⟨x3,c3,h4⟩:=ZeN h3;let o1:List PS:=[rZ,cT,.r [(1,{oe:=x3.ls})],rZ]
  refine Zbe h4 (fun c4 h5=>?_) (fun c4 h6=>?_)
  ·exact aq fol (o1++[cT,rZ,.s 4]) [0,5,8,9,10] [] (aL c1 c2 (oD c1) c3 c4) (Zbh.p2_ok h5 hE hc1)
  exact aq fol (o1++[cF,.s 4]) [0,5,8,9,10] [] (aL c1 c2 (oD c1) c3 c4) (Zbh.p2_ok h6 hE hc1)
 exact xS fol h2 hE [rZ,cF,rZ] c1
theorem Zbh.snd {A0:Int} {A1:LL} {r:Int} (h:Zbh N A0 A1=some r):ZdD zC 109 [oI A0,.one (L.sl 2 A1)] (Zbh.rs r):=fun st=>
 sO Zbh.B Tryz.func109 fun g0 w0 R hE=>by
  unfold Zbh at h;exact aq fol [rZ,rZ,rZ] [0,5,8,9,10] [] trivial (At.loop N (At.loopN (fun y:Int×Int=>Zbh.p1.S A0 y.1 A1 y.2 st) (fun c J hc y h=>Zbh.p1_ok (F1:=y.1) (v2:=y.2) h hE (fun F1 v2=>hc (F1,v2))) N ((-2147483648),0) h))
def Zcg.B:Code:=Tryz.f110.body.getD .skip
def Zcg.rs (r:Bool):List CV:=[oB r]
def Zcg.p1 (N:Nat) (A0:Int) (A2:LL) (A1_0:List Int) (c1_:Int→Option Bool):Int→Option Bool:=fun v1=> if (decide (v1<(len A2)))=true then chk (0≤v1)<| ZcX (A2[zE v1]?) Zew fun x2=> if (x2.Height==A0)=true then if (!(x2.Id==A1_0))=true then some false else c1_ (w64 (v1+1)) else c1_ (w64 (v1+1)) else some true
def Zcg (N:Nat) (A0:Int) (A1_0:List Int) (A2:LL):Option Bool:= loopN (Zcg.p1 N A0 A2 A1_0) N 0
def Zcg.p1.S (A0:Int) (A2:LL) (v1:Int) (A1_0:List Int) (st:LL):S:=mkS 26 [(0,sI A0),(4,sA 4),(9,sV 33 A2),(10,sI (len A2)),(11,sI v1)] [(4,.cells [zH .u8 32 A1_0])] st
theorem Zcg.p1_ok {A0 A2 v1 A1_0 st r c1_ J1} (h:Zcg.p1 N A0 A2 A1_0 c1_ v1=some r) (hE:En Tryz.f110 g0 w0 (Zcg.rs r) st R) (hc1 : ∀v1,c1_ v1=some r→At g0 w0 (Zcg.p1.S A0 A2 v1 A1_0 st) J1):At g0 w0 (Zcg.p1.S A0 A2 v1 A1_0 st) (XK zC R (cK Zcg.B [1,0,1,0,0] :: .h J1 :: [.b 0,cK Zcg.B [1,1]])):=by
 unfold Zcg.p1 at h;refine Zbe h (fun c1 h1=>?_) (fun c1 h2=>?_)
 ·obtain ⟨c2,h3⟩:=Zbd h1;obtain ⟨x2,c3,h4⟩:=ZeE h3;let o1:List PS:=[rZ,cT,.r [(1,{oe:=x2.ls})]]
  refine Zbe h4 (fun c4 h5=>?_) (fun c4 h6=>?_)
  ·have t1 {Q:Prop} (q:Q):=aO c1 c2 (oD c1) c3 c4 c4 c4 (aJ c4 c4 q);refine Zbe h5 (fun c5 h7=>?_) (fun c5 h8=>?_)
   ·exact xS fol h7 hE (o1++[rZ,cT,rZ]) (t1 c5)
   exact an fol (o1++[rZ,cF,rZ]) [0,4,9,10,11] [4] (t1 c5) (hc1 (w64 (v1+1)) h8)
  exact an fol (o1++[.r [(5,wF),(6,wF),(7,wF),(8,wF),(9,yF)],cF,rZ]) [0,4,9,10,11] [4] (aO c1 c2 (oD c1) c3 c4 c4 c4 (aJ c4 c4 eF)) (hc1 (w64 (v1+1)) h6)
 exact xS fol h2 hE [rZ,cF,rZ] c1
theorem Zcg.snd {A0:Int} {A1_0:List Int} {A2:LL} {r:Bool} (h:Zcg N A0 A1_0 A2=some r):ZdD zC 110 [oI A0,.agg [zH .u8 32 A1_0],.one (L.sl 33 A2)] (Zcg.rs r):=fun st=>
 sO Zcg.B Tryz.func110 fun g0 w0 R hE=>by
  unfold Zcg at h;exact aq fol [rZ,rZ] [0,4,9,10,11] [4] trivial (At.loop N (At.loopN (fun y:Int=>Zcg.p1.S A0 A2 y A1_0 st) (fun c J hc y h=>Zcg.p1_ok h hE (fun v1=>hc v1)) N 0 h))
def Zey.B:Code:=Tryz.f82.body.getD .skip
def Zey.rs (r:Int):List CV:=[oI r]
def Zey (N:Nat) (A0:Zae) (at_1:ZaU) (h_2:Zaj) (A3:Int):Option Int:= Zbj (ZcM N h_2) fun x1=> if (!x1)=true then some 1 else if (!(h_2.Prev==at_1.Prev))=true then some 2 else Zbj (Zfd N A0 at_1.Point h_2.Time) fun x2=> if (h_2.Bits != x2)=true then some 3 else Zbj (Zek N A0 h_2) fun x3=> if (x3 != 0)=true then some 4 else Zbj (ZdK N h_2.Time at_1.Times) fun x4=> if (!x4)=true then some 5 else Zbj (Zel N h_2.Time A3 A0.Future) fun x5=> if (!x5)=true then some 6 else Zbj (Zbh N at_1.Point.Height A0.Gates) fun x6=> if (decide (h_2.Version<x6))=true then some 7 else Zbj (Zef N h_2) fun x7=> Zbj (Zcg N at_1.Point.Height x7 A0.Checks) fun x8=> if (!x8)=true then some 8 else some 0
theorem Zey.snd {A0:Zae} {at_1:ZaU} {h_2:Zaj} {A3:Int} {r:Int} (h:Zey N A0 at_1 h_2 A3=some r):ZdD zC 82 [.agg A0.ls,.agg at_1.ls,.agg h_2.ls,oI A3] (Zey.rs r):=fun st=>
 sO Zey.B Tryz.func82 fun g0 w0 R hE=>by
  unfold Zey at h;obtain ⟨x1,c1,h1⟩:=Zac h;let o1:List PS:=[rZ,.r [(1,q1 [oB x1])]]
  have t1 {Q:Prop} (q:Q):=aI (ZcM.snd c1) q;refine Zbe h1 (fun c2 h2=>?_) (fun c2 h3=>?_)
  ·exact xS fol h2 hE (o1++[cT,rZ]) (t1 c2)
  let o2:List PS:=o1++[cF,rZ]
  refine Zbe h3 (fun c3 h4=>?_) (fun c3 h5=>?_)
  ·exact xS fol h4 hE (o2++[cT,rZ]) (t1 (aI c2 c3))
  obtain ⟨x2,c4,h6⟩:=Zac h5;let o3:List PS:=o2++[cF,.d {ds:=[(7,q1 [oI x2])],hv:=0,Hs:=[]}]
  have t2 {Q:Prop} (q:Q):=t1 (aK c2 c3 (Zfd.snd c4) q);refine Zbe h6 (fun c5 h7=>?_) (fun c5 h8=>?_)
  ·exact xSd fol h7 hE (o3++[cT,rZ]) (t2 c5)
  obtain ⟨x3,c6,h9⟩:=Zac h8;let o4:List PS:=o3++[cF,.r [(2,q1 [oI x3])]]
  have t3 {Q:Prop} (q:Q):=t2 (aJ c5 (Zek.snd c6) q);refine Zbe h9 (fun c7 h10=>?_) (fun c7 h11=>?_)
  ·exact xSd fol h10 hE (o4++[cT,rZ]) (t3 c7)
  obtain ⟨x4,c8,h12⟩:=Zac h11;let o5:List PS:=o4++[cF,.r [(4,q1 [oB x4])]]
  have t4 {Q:Prop} (q:Q):=t3 (aJ c7 (ZdK.snd c8) q);refine Zbe h12 (fun c9 h13=>?_) (fun c9 h14=>?_)
  ·exact xSd fol h13 hE (o5++[cT,rZ]) (t4 c9)
  obtain ⟨x5,c10,h15⟩:=Zac h14;let o6:List PS:=o5++[cF,.r [(5,q1 [oB x5])]]
  have t5 {Q:Prop} (q:Q):=t4 (aJ c9 (Zel.snd c10) q);refine Zbe h15 (fun c11 h16=>?_) (fun c11 h17=>?_)
  ·exact xSd fol h16 hE (o6++[cT,rZ]) (t5 c11)
  obtain ⟨x6,c12,h18⟩:=Zac h17;let o7:List PS:=o6++[cF,.d {ds:=[(7,q1 [oI x6])],hv:=0,Hs:=[]}]
  have t6 {Q:Prop} (q:Q):=t5 (aJ c11 (Zbh.snd c12) q);refine Zbe h18 (fun c13 h19=>?_) (fun c13 h20=>?_)
  ·exact xSd fol h19 hE (o7++[cT,rZ]) (t6 c13)
  obtain ⟨x7,c14,h21⟩:=Zac h20;obtain ⟨x8,c15,h22⟩:=Zac h21;let o8:List PS:=o7++[cF,.d {ds:=[(4,q1 [.agg [zH .u8 32 x7]]),(7,q1 [oB x8])],hv:=0,Hs:=[]}]
  have t7 {Q:Prop} (q:Q):=t6 (aK c13 (Zef.snd c14) (Zcg.snd c15) q);refine Zbe h22 (fun c16 h23=>?_) (fun c16 h24=>?_)
  ·exact xSd fol h23 hE (o8++[cT,rZ]) (t7 c16)
  exact xSd fol h24 hE (o8++[cF,rZ]) (t7 c16)
def ZaK.B:Code:=Tryz.f56.body.getD .skip
def ZaK.rs (r:Int×Int×Int×LL):List CV:=[oI r.1,oI r.2.1,oI r.2.2.1]
def ZaK.p2 (N:Nat) (i2:Nat) (A2 A12:Int) (A13:Bool) (A1:Zaj) (st:LL):Option (Int×Int×Int×LL):= if (!A13)=true then some ((-1),2,5,st) else ZcX (st[i2]?) ZbJ fun x14=> chk (0≤A12)<| chk (A12<(len x14.spots))<| ZcX (x14.spots[0+(zE A12)]?) Zgl fun x15=> Zbj (Zey N x14.rules x15 A1 A2) fun x16=> if (x16 != 0)=true then some ((-1),x16,8,st) else if (decide ((len x14.list)≥x14.room))=true then some ((-1),0,6,st) else Zbj (ZdO N x14.rules x15 A1) fun x17=> Zbj (Zbc N (some i2) A1 A12 x17 st) fun (x18,st19)=> some (x18,0,0,st19)
def ZaK.p1 (N:Nat) (i2:Nat) (A2 A7:Int) (A8:Bool) (A1:Zaj) (st:LL):Option (Int×Int×Int×LL):= if A8=true then some (A7,0,0,st) else ZcX (st[i2]?) ZbJ fun x9=> optM (ZhZ x9.places (zH .u8 32 A1.Prev)) (fun j10 e=>ZdP [e] fun x11=> ZaK.p2 N i2 A2 x11 true A1 st) ( ZaK.p2 N i2 A2 0 false A1 st)
def ZaK (N:Nat) (A0:Option Nat) (A1:Zaj) (A2:Int) (st:LL):Option (Int×Int×Int×LL):= if (Option.isNone A0)=true then some ((-1),0,2,st) else Zbj (ZcM N A1) fun x1=> if (!x1)=true then some ((-1),1,8,st) else Zbj A0 fun i2=> ZcX (st[i2]?) ZbJ fun x3=> Zbj (Zef N A1) fun x4=> optM (ZhZ x3.places (zH .u8 32 x4)) (fun j5 e=>ZdP [e] fun x6=> ZaK.p1 N i2 A2 x6 true A1 st) ( ZaK.p1 N i2 A2 0 false A1 st)
def ZaK.p2.S (i2:Nat) (A2 A12:Int) (A13:Bool) (A1:Zaj) (st:LL):S:=mkS 87 [(0,sP (some i2)),(2,sI A2),(4,sA 4),(11,sI A12),(12,.one (.l (xK A13)))] [(4,.cells A1.ls)] st
def ZaK.p1.S (i2:Nat) (A2 A7:Int) (A8:Bool) (A1:Zaj) (st:LL):S:=mkS 87 [(0,sP (some i2)),(2,sI A2),(4,sA 4),(9,sI A7),(10,.one (.l (xK A8)))] [(4,.cells A1.ls)] st
theorem ZaK.p2_ok {i2 A2 A12 A13 A1 st r} (h:ZaK.p2 N i2 A2 A12 A13 A1 st=some r) (hE:En Tryz.f56 g0 w0 (ZaK.rs r) r.2.2.2 R):At g0 w0 (ZaK.p2.S i2 A2 A12 A13 A1 st) (XK zC R [cK ZaK.B [1,1,1,1,1]]):=by
 unfold ZaK.p2 at h;refine Zbe h (fun c11 h1=>?_) (fun c11 h2=>?_)
 ·exact xV fol h1 hE [rZ,cT,rZ] c11
 obtain ⟨x14,c12,h3⟩:=ZbC h2;obtain ⟨c13,c14,h4⟩:=ck2 h3;obtain ⟨x15,c15,h5⟩:=ZjW h4;obtain ⟨x16,c16,h6⟩:=Zac h5;let o1:List PS:=[rZ,cF,.d {ds:=[(3,{oc:=x14.lo}),(7,{oc:=x14.lo}),(10,{oc:=x14.lo,oe:=x15.ls}),(13,q1 [oI x16])],hv:=0,Hs:=[]},rZ]
 have t1 {Q:Prop} (q:Q):=aO c11 c12 c12 c13 c14 c15 c12 (aI (Zey.snd c16) q);refine Zbe h6 (fun c17 h7=>?_) (fun c17 h8=>?_)
 ·exact xVd fol h7 hE (o1++[cT,rZ]) (t1 c17)
 let o2:List PS:=o1++[cF,.d {ds:=[(3,{oc:=x14.lo}),(8,{oc:=x14.lo})],hv:=0,Hs:=[]}]
 refine Zbe h8 (fun c18 h9=>?_) (fun c18 h10=>?_)
 ·exact xVd fol h9 hE (o2++[cT,rZ]) (t1 (aK c17 c12 c12 c18))
 obtain ⟨x17,c19,h11⟩:=Zac h10;obtain ⟨⟨x18,st19⟩,c20,h12⟩:=Zac h11;exact xVd fol h12 hE (o2++[cF,.d {ds:=[(6,{oc:=x14.lo}),(10,{oc:=x14.lo}),(13,{oc:=x14.lo,oe:=x15.ls}),(15,q1 [.agg x17.ls]),(16,{rs:=[oI x18],st:=st19})],hv:=65536,Hs:=[65536]}]) (t1 (aO c17 c12 c12 c18 c12 c12 c13 (aL c14 c15 c12 (ZdO.snd c19) (Zbc.snd c20))))
theorem ZaK.p1_ok {i2 A2 A7 A8 A1 st r} (h:ZaK.p1 N i2 A2 A7 A8 A1 st=some r) (hE:En Tryz.f56 g0 w0 (ZaK.rs r) r.2.2.2 R):At g0 w0 (ZaK.p1.S i2 A2 A7 A8 A1 st) (XK zC R [cK ZaK.B [1,1,1,0,1],cK ZaK.B [1,1,1,1]]):=by
 unfold ZaK.p1 at h;refine Zbe h (fun c8 h13=>?_) (fun c8 h14=>?_)
 ·exact xV fol h13 hE [rZ,cT,rZ] c8
 obtain ⟨x9,c9,h15⟩:=ZbC h14;rcases Znz h15 with ⟨j10,h19,c10,h16⟩ | ⟨c10,h17⟩
 ·obtain ⟨x11,h20,h18⟩:=ZiT h16;obtain rfl:=ZjM h20;exact aqd fol [rZ,cF,.d {ds:=[(3,{oc:=x9.lo}),(6,{oc:=x9.lo,oe:=[zJ .i64 x11]})],hv:=0,Hs:=[]},.s 1] [0,2,4,11,12] [4] (aK c8 c9 (ZtA c10) c9) (ZaK.p2_ok h18 hE)
 exact aqd fol [rZ,cF,.d {ds:=[(3,{oc:=x9.lo}),(6,{oc:=x9.lo,yes:=false})],hv:=0,Hs:=[]},.s 1] [0,2,4,11,12] [4] (aK c8 c9 c10 c9) (ZaK.p2_ok h17 hE)
theorem ZaK.snd {A0:Option Nat} {A1:Zaj} {A2:Int} {st:LL} {r:Int×Int×Int×LL} (h:ZaK N A0 A1 A2 st=some r):Snd zC 56 [.one (zQ A0),.agg A1.ls,oI A2] st (ZaK.rs r) r.2.2.2:=
 sO ZaK.B Tryz.func56 fun g0 w0 R hE=>by
  unfold ZaK at h;refine Zbe h (fun c1 h21=>?_) (fun c1 h22=>?_)
  ·exact xV fol h21 hE [rZ,rZ,cT,rZ] c1
  obtain ⟨x1,c2,h23⟩:=Zac h22;let o3:List PS:=[rZ,rZ,cF,.r [(1,q1 [oB x1])]]
  have t2 {Q:Prop} (q:Q):=aJ c1 (ZcM.snd c2) q;refine Zbe h23 (fun c3 h24=>?_) (fun c3 h25=>?_)
  ·exact xV fol h24 hE (o3++[cT,rZ]) (t2 c3)
  obtain ⟨i2,rfl,h26⟩:=Zac h25;obtain ⟨x3,c5,h27⟩:=ZbC h26;obtain ⟨x4,c6,h28⟩:=Zac h27;rcases Znz h28 with ⟨j5,h32,c7,h29⟩ | ⟨c7,h30⟩
  ·obtain ⟨x6,h33,h31⟩:=ZiT h29;obtain rfl:=ZjM h33;exact aqd fol (o3++[cF,.d {ds:=[(3,{oc:=x3.lo}),(5,q1 [.agg [zH .u8 32 x4]]),(6,{oc:=x3.lo,oe:=[zJ .i64 x6]})],hv:=0,Hs:=[]},.s 2]) [0,2,4,9,10] [4] (t2 (aL c3 c5 (Zef.snd c6) (ZtA c7) c5)) (ZaK.p1_ok h31 hE)
  exact aqd fol (o3++[cF,.d {ds:=[(3,{oc:=x3.lo}),(5,q1 [.agg [zH .u8 32 x4]]),(6,{oc:=x3.lo,yes:=false})],hv:=0,Hs:=[]},.s 2]) [0,2,4,9,10] [4] (t2 (aL c3 c5 (Zef.snd c6) c7 c5)) (ZaK.p1_ok h30 hE)
def ZdT.B:Code:=Tryz.f84.body.getD .skip
def ZdT.rs (r:Int):List CV:=[oI r]
def ZdT (N:Nat) (A0:Int):Option Int:= some (ZaE .and .i64 A0 (w64 (A0-1)))
theorem ZdT.snd {A0:Int} {r:Int} (h:ZdT N A0=some r):ZdD zC 84 [oI A0] (ZdT.rs r):=fun st=>
 sO ZdT.B Tryz.func84 fun g0 w0 R hE=>by
  unfold ZdT at h;exact xS fol h hE [rZ,rZ] trivial
def Zej.B:Code:=Tryz.f58.body.getD .skip
def Zej.rs (r:Int):List CV:=[oI r]
def Zej (N:Nat) (h_0:Int):Option Int:= if (decide (h_0<2))=true then some 0 else if ((ZaE .and .i64 h_0 1)==0)=true then Zbj (ZdT N h_0) fun x1=> some x1 else Zbj (ZdT N (w64 (h_0-1))) fun x2=> Zbj (ZdT N x2) fun x3=> some (w64 (x3+1))
theorem Zej.snd {h_0:Int} {r:Int} (h:Zej N h_0=some r):ZdD zC 58 [oI h_0] (Zej.rs r):=fun st=>
 sO Zej.B Tryz.func58 fun g0 w0 R hE=>by
  unfold Zej at h;refine Zbe h (fun c1 h1=>?_) (fun c1 h2=>?_)
  ·exact xS fol h1 hE [rZ,rZ,cT,rZ] c1
  refine Zbe h2 (fun c2 h3=>?_) (fun c2 h4=>?_)
  ·obtain ⟨x1,c3,h5⟩:=Zac h3;exact xS fol h5 hE [rZ,rZ,cF,rZ,cT,.r [(1,q1 [oI x1])]] (aJ c1 c2 (ZdT.snd c3))
  obtain ⟨x2,c4,h6⟩:=Zac h4;obtain ⟨x3,c5,h7⟩:=Zac h6;exact xS fol h7 hE [rZ,rZ,cF,rZ,cF,.r [(2,q1 [oI x2]),(3,q1 [oI x3])]] (aK c1 c2 (ZdT.snd c4) (ZdT.snd c5))
def Zbb.B:Code:=Tryz.f49.body.getD .skip
def Zbb.rs (r:Int):List CV:=[oI r]
def Zbb (N:Nat) (A0:ZaF) (at_1:Int):Option Int:= Zbj (ZbE N A0 at_1) fun (x1,x2)=> if (!x2)=true then some (-1) else some x1.Height
theorem Zbb.snd {A0:ZaF} {at_1:Int} {r:Int} (h:Zbb N A0 at_1=some r):ZdD zC 49 [.one (vV 2 A0.ls),oI at_1] (Zbb.rs r):=fun st=>
 sO Zbb.B Tryz.func49 fun g0 w0 R hE=>by
  unfold Zbb at h;obtain ⟨⟨x1,x2⟩,c1,h1⟩:=Zac h;let o1:List PS:=[rZ,.r [(2,q0 [.agg x1.ls,oB x2])],rZ]
  refine Zbe h1 (fun c2 h2=>?_) (fun c2 h3=>?_)
  ·exact xS fol h2 hE (o1++[cT,rZ]) (aI (ZbE.snd c1) c2)
  exact xS fol h3 hE (o1++[cF,rZ]) (aI (ZbE.snd c1) c2)
def Zau.B:Code:=Tryz.f50.body.getD .skip
def Zau.rs (r:Int):List CV:=[oI r]
def Zau.p2 (N:Nat) (c1_:(Int×Int)→Option Int) (A0:ZaF) (F2 A8 x6 x7:Int):Option Int:= Zbj (Zbb N A0 A8) fun x9=> c1_ (A8,x9)
def Zau.p1 (N:Nat) (A0:ZaF) (F2:Int) (c1_:(Int×Int)→Option Int):(Int×Int)→Option Int:=fun (A2,h_3)=> if (decide (h_3>F2))=true then Zbj (ZbE N A0 A2) fun (x4,x5)=> chk (0≤A2)<| chk (A2<(len A0.leaps))<| ZcX (A0.leaps[zE A2]?) ZdP fun x6=> if (x6 != (-1))=true then Zbj (Zbb N A0 x6) fun x7=> if (decide (x7≥F2))=true then Zau.p2 N c1_ A0 F2 x6 x6 x7 else Zau.p2 N c1_ A0 F2 x4.Ahead x6 x7 else Zbj (Zbb N A0 x4.Ahead) fun x10=> c1_ (x4.Ahead,x10) else some A2
def Zau (N:Nat) (A0:ZaF) (at_1 F2:Int):Option Int:= Zbj (Zbb N A0 at_1) fun x1=> if (decide (F2<0))=true then some (-1) else if (decide (F2>x1))=true then some (-1) else loopN (Zau.p1 N A0 F2) N (at_1,x1)
def Zau.p2.S (A0:ZaF) (F2 A8 x6 x7:Int) (st:LL):S:=mkS 55 [(0,.one (.l (vV 2 A0.ls))),(2,sI F2),(10,sI A8),(43,.one (.l (vV 2 A0.ls))),(44,sI x6),(45,sI x7),(46,sI F2),(47,.one (.l (xK (decide (x7≥F2)))))] [] st
def Zau.p1.S (A0:ZaF) (A2 F2 h_3:Int) (st:LL):S:=mkS 55 [(0,.one (.l (vV 2 A0.ls))),(1,sI A2),(2,sI F2),(7,sI h_3)] [] st
theorem Zau.p2_ok {A0 F2 A8 x6 x7 st r c1_ J1} (h:Zau.p2 N c1_ A0 F2 A8 x6 x7=some r) (hE:En Tryz.f50 g0 w0 (Zau.rs r) st R) (hc1 : ∀A2 h_3,c1_ (A2,h_3)=some r→At g0 w0 (Zau.p1.S A0 A2 F2 h_3 st) J1):At g0 w0 (Zau.p2.S A0 F2 A8 x6 x7 st) (XK zC R [cK Zau.B [1,1,1,0,0,0,1,0,1,1,1],.b 1,.h J1,.b 0,cK Zau.B [1,1,1,1]]):=by
 unfold Zau.p2 at h;obtain ⟨x9,c12,h1⟩:=Zac h;exact an fol [.r [(3,q0 [oI x9])]] [0,1,2,7] [] (Zbb.snd c12) (hc1 A8 x9 h1)
theorem Zau.p1_ok {A0 A2 F2 h_3 st r c1_ J1} (h:Zau.p1 N A0 F2 c1_ (A2,h_3)=some r) (hE:En Tryz.f50 g0 w0 (Zau.rs r) st R) (hc1 : ∀A2 h_3,c1_ (A2,h_3)=some r→At g0 w0 (Zau.p1.S A0 A2 F2 h_3 st) J1):At g0 w0 (Zau.p1.S A0 A2 F2 h_3 st) (XK zC R (cK Zau.B [1,1,1,0,0,0] :: .h J1 :: [.b 0,cK Zau.B [1,1,1,1]])):=by
 unfold Zau.p1 at h;refine Zbe h (fun c4 h2=>?_) (fun c4 h3=>?_)
 ·obtain ⟨⟨x4,x5⟩,c5,h4⟩:=Zac h2;obtain ⟨c6,c7,h5⟩:=ck2 h4;obtain ⟨x6,c8,h6⟩:=Zdh h5;let o1:List PS:=[rZ,cT,.r [(2,q0 [.agg x4.ls,oB x5])],rZ,.r [(3,{oe:=A0.ls}),(6,{oe:=[zJ .i64 x6]})]]
  have t1 {Q:Prop} (q:Q):=aN c4 (ZbE.snd c5) (eO A0.ls) c6 c7 c8 q;refine Zbe h6 (fun c9 h7=>?_) (fun c9 h8=>?_)
  ·obtain ⟨x7,c10,h9⟩:=Zac h7;let o2:List PS:=o1++[.r [(5,q0 [oI x7])]]
   have t2 {Q:Prop} (q:Q):=t1 (aO c9 c9 c9 (Zbb.snd c10) c9 c9 c9 q);refine Zbe h9 (fun c11 h10=>?_) (fun c11 h11=>?_)
   ·exact aq fol (o2++[cT,rZ,.s 5]) [0,2,10,43,44,45,46,47] [] (t2 c11) (Zau.p2_ok h10 hE hc1)
   exact aq fol (o2++[cF,.s 5]) [0,2,10,43,44,45,46,47] [] (t2 c11) (Zau.p2_ok h11 hE hc1)
  obtain ⟨x10,c13,h12⟩:=Zac h8;exact an fol (o1++[.r [(3,wF),(4,wF),(5,wF),(6,wF),(7,wF),(8,yF)],cF,.r [(3,q0 [oI x10])]]) [0,1,2,7] [] (t1 (aO c9 c9 c9 c9 c9 c9 eF (Zbb.snd c13))) (hc1 x4.Ahead x10 h12)
 exact xS fol h3 hE [rZ,cF,rZ] c4
theorem Zau.snd {A0:ZaF} {at_1 F2:Int} {r:Int} (h:Zau N A0 at_1 F2=some r):ZdD zC 50 [.one (vV 2 A0.ls),oI at_1,oI F2] (Zau.rs r):=fun st=>
 sO Zau.B Tryz.func50 fun g0 w0 R hE=>by
  unfold Zau at h;obtain ⟨x1,c1,h13⟩:=Zac h;let o3:List PS:=[rZ,.r [(2,q0 [oI x1])]]
  have t3 {Q:Prop} (q:Q):=aI (Zbb.snd c1) q;refine Zbe h13 (fun c2 h14=>?_) (fun c2 h15=>?_)
  ·exact xS fol h14 hE (o3++[.r [(3,wF),(4,wF),(5,wF)],cT,rZ]) (t3 (aL c2 c2 c2 c2 eT))
  refine Zbe h15 (fun c3 h16=>?_) (fun c3 h17=>?_)
  ·exact xS fol h16 hE (o3++[.r [(6,yF)],cT,rZ]) (t3 (aL c2 c2 c2 c2 c3))
  exact aq fol (o3++[.r [(6,yF)],cF]) [0,1,2,7] [] (t3 (aL c2 c2 c2 c2 c3)) (At.loop N (At.loopN (fun y:Int×Int=>Zau.p1.S A0 y.1 F2 y.2 st) (fun c J hc y h=>Zau.p1_ok (A2:=y.1) (h_3:=y.2) h hE (fun A2 h_3=>hc (A2,h_3))) N (at_1,x1) h17))
def Zdr.B:Code:=Tryz.f49.body.getD .skip
def Zdr.rs (r:Int×LL):List CV:=[oI r.1]
def Zdr (N:Nat) (A0:Option Nat) (at_1:Int) (st:LL):Option (Int×LL):= Zbj (Zeb N A0 at_1 st) fun (x1,x2,st3)=> if (!x2)=true then some ((-1),st3) else some (x1.Height,st3)
theorem Zdr.snd {A0:Option Nat} {at_1:Int} {st:LL} {r:Int×LL} (h:Zdr N A0 at_1 st=some r):Snd zC 49 [.one (zQ A0),oI at_1] st (Zdr.rs r) r.2:=
 sO Zdr.B Tryz.func49 fun g0 w0 R hE=>by
  unfold Zdr at h;obtain ⟨⟨x1,x2,st3⟩,c1,h1⟩:=Zac h;let o1:List PS:=[rZ,.r [(2,{rs:=[.agg x1.ls,oB x2],st:=st3})],rZ]
  refine Zbe h1 (fun c2 h2=>?_) (fun c2 h3=>?_)
  ·exact xT fol h2 hE (o1++[cT,rZ]) (aI (Zeb.snd c1) c2)
  exact xT fol h3 hE (o1++[cF,rZ]) (aI (Zeb.snd c1) c2)
def ZaL.B:Code:=Tryz.f50.body.getD .skip
def ZaL.rs (r:Int×LL):List CV:=[oI r.1]
def ZaL.p2 (N:Nat) (c1_:((Option Nat)×Int×Int×LL)→Option (Int×LL)) (i26:Nat) (F2 A35 x33 x34:Int) (st25:LL):Option (Int×LL):= ZcX (st25[i26]?) Zdd fun x36 x37=> Zbj x36 fun i38=> ZcX (st25[i38]?) ZbJ fun x39=> Zbj (Zbb N (ZaF.mk x39 x37) A35) fun x40=> c1_ ((some i26),A35,x40,st25)
def ZaL.p1 (N:Nat) (F2:Int) (c1_:((Option Nat)×Int×Int×LL)→Option (Int×LL)):((Option Nat)×Int×Int×LL)→Option (Int×LL):=fun (A24,A3,A4,st25)=> if (decide (A4>F2))=true then Zbj A24 fun i26=> ZcX (st25[i26]?) Zdd fun x27 x28=> Zbj x27 fun i29=> ZcX (st25[i29]?) ZbJ fun x30=> Zbj (ZbE N (ZaF.mk x30 x28) A3) fun (x31,x32)=> chk (0≤A3)<| chk (A3<(len x28))<| ZcX (x28[0+(zE A3)]?) ZdP fun x33=> if (x33 != (-1))=true then Zbj (Zbb N (ZaF.mk x30 x28) x33) fun x34=> if (decide (x34≥F2))=true then ZaL.p2 N c1_ i26 F2 x33 x33 x34 st25 else ZaL.p2 N c1_ i26 F2 x31.Ahead x33 x34 st25 else Zbj (Zbb N (ZaF.mk x30 x28) x31.Ahead) fun x41=> c1_ ((some i26),x31.Ahead,x41,st25) else some (A3,st25)
def ZaL (N:Nat) (A0:Option Nat) (at_1 F2:Int) (st:LL):Option (Int×LL):= Zbj (Zdr N A0 at_1 st) fun (x1,st2)=> if (decide (F2<0))=true then some ((-1),st2) else if (decide (F2>x1))=true then some ((-1),st2) else loopN (ZaL.p1 N F2) N (A0,at_1,x1,st2)
def ZaL.p2.S (i26:Nat) (F2 A35 x33 x34:Int) (st25:LL):S:=mkS 55 [(0,sP (some i26)),(2,sI F2),(10,sI A35),(43,sP (some i26)),(44,sI x33),(45,sI x34),(46,sI F2),(47,.one (.l (xK (decide (x34≥F2)))))] [] st25
def ZaL.p1.S (A24:Option Nat) (A3 F2 A4:Int) (st25:LL):S:=mkS 55 [(0,sP A24),(1,sI A3),(2,sI F2),(7,sI A4)] [] st25
theorem ZaL.p2_ok {i26 F2 A35 x33 x34 st25 r c1_ J1} (h:ZaL.p2 N c1_ i26 F2 A35 x33 x34 st25=some r) (hE:En Tryz.f50 g0 w0 (ZaL.rs r) r.2 R) (hc1 : ∀A24 A3 A4 st25,c1_ (A24,A3,A4,st25)=some r→At g0 w0 (ZaL.p1.S A24 A3 F2 A4 st25) J1):At g0 w0 (ZaL.p2.S i26 F2 A35 x33 x34 st25) (XK zC R [cK ZaL.B [1,1,1,0,0,0,1,0,1,1,1],.b 1,.h J1,.b 0,cK ZaL.B [1,1,1,1]]):=by
 unfold ZaL.p2 at h;obtain ⟨x36,x37,c35,h1⟩:=ZcT h;obtain ⟨i38,rfl,h2⟩:=Zac h1;obtain ⟨x39,c37,h3⟩:=ZbC h2;obtain ⟨x40,c38,h4⟩:=Zac h3;exact an fol [.r [(3,{rs:=[oI x40],m:=10,cv:=[.one (vV 2 (ZaF.ls (ZaF.mk x39 x37)))]})]] [0,1,2,7] [] (aI (bO 2 c35 ((bC 87 c37 (ZaG.bv x39) (bW bN)):BVs st25 [zQ (some i38),yB true 1 x37] (ZaF.ls (ZaF.mk x39 x37)))) (Zbb.snd c38)) (hc1 (some i26) A35 x40 st25 h4)
theorem ZaL.p1_ok {A24 A3 F2 A4 st25 r c1_ J1} (h:ZaL.p1 N F2 c1_ (A24,A3,A4,st25)=some r) (hE:En Tryz.f50 g0 w0 (ZaL.rs r) r.2 R) (hc1 : ∀A24 A3 A4 st25,c1_ (A24,A3,A4,st25)=some r→At g0 w0 (ZaL.p1.S A24 A3 F2 A4 st25) J1):At g0 w0 (ZaL.p1.S A24 A3 F2 A4 st25) (XK zC R (cK ZaL.B [1,1,1,0,0,0] :: .h J1 :: [.b 0,cK ZaL.B [1,1,1,1]])):=by
 unfold ZaL.p1 at h;refine Zbe h (fun c23 h5=>?_) (fun c23 h6=>?_)
 ·obtain ⟨i26,rfl,h7⟩:=Zac h5;obtain ⟨x27,x28,c25,h8⟩:=ZcT h7;obtain ⟨i29,rfl,h9⟩:=Zac h8;obtain ⟨x30,c27,h10⟩:=ZbC h9;obtain ⟨⟨x31,x32⟩,c28,h11⟩:=Zac h10;obtain ⟨c29,c30,h12⟩:=ck2 h11;obtain ⟨x33,c31,h13⟩:=Zdh h12;let o1:List PS:=[rZ,cT,.r [(2,{rs:=[.agg x31.ls,oB x32],m:=10,cv:=[.one (vV 2 (ZaF.ls (ZaF.mk x30 x28)))]})],rZ,.r [(3,{oc:=[zQ (some i29),yB true 1 x28]}),(6,{oc:=[zQ (some i29),yB true 1 x28],oe:=[zJ .i64 x33]})]]
  have t1 {Q:Prop} (q:Q):=aO c23 (bO 2 c25 ((bC 87 c27 (ZaG.bv x30) (bW bN)):BVs st25 [zQ (some i29),yB true 1 x28] (ZaF.ls (ZaF.mk x30 x28)))) (ZbE.snd c28) c25 c29 c30 c31 (aI c25 q);refine Zbe h13 (fun c32 h14=>?_) (fun c32 h15=>?_)
  ·obtain ⟨x34,c33,h16⟩:=Zac h14;let o2:List PS:=o1++[.r [(5,{rs:=[oI x34],m:=10,cv:=[.one (vV 2 (ZaF.ls (ZaF.mk x30 x28)))]})]]
   have t2 {Q:Prop} (q:Q):=t1 (aO c32 c32 c32 (bO 2 c25 ((bC 87 c27 (ZaG.bv x30) (bW bN)):BVs st25 [zQ (some i29),yB true 1 x28] (ZaF.ls (ZaF.mk x30 x28)))) (Zbb.snd c33) c32 c32 (aI c32 q));refine Zbe h16 (fun c34 h17=>?_) (fun c34 h18=>?_)
   ·exact aq fol (o2++[cT,rZ,.s 5]) [0,2,10,43,44,45,46,47] [] (t2 c34) (ZaL.p2_ok h17 hE hc1)
   exact aq fol (o2++[cF,.s 5]) [0,2,10,43,44,45,46,47] [] (t2 c34) (ZaL.p2_ok h18 hE hc1)
  obtain ⟨x41,c39,h19⟩:=Zac h15;exact an fol (o1++[.r [(3,wF),(4,wF),(5,wF),(6,wF),(7,wF),(8,yF)],cF,.r [(3,{rs:=[oI x41],m:=10,cv:=[.one (vV 2 (ZaF.ls (ZaF.mk x30 x28)))]})]]) [0,1,2,7] [] (t1 (aO c32 c32 c32 c32 c32 c32 eF (aI (bO 2 c25 ((bC 87 c27 (ZaG.bv x30) (bW bN)):BVs st25 [zQ (some i29),yB true 1 x28] (ZaF.ls (ZaF.mk x30 x28)))) (Zbb.snd c39)))) (hc1 (some i26) x31.Ahead x41 st25 h19)
 exact xT fol h6 hE [rZ,cF,rZ] c23
theorem ZaL.snd {A0:Option Nat} {at_1 F2:Int} {st:LL} {r:Int×LL} (h:ZaL N A0 at_1 F2 st=some r):Snd zC 50 [.one (zQ A0),oI at_1,oI F2] st (ZaL.rs r) r.2:=
 sO ZaL.B Tryz.func50 fun g0 w0 R hE=>by
  unfold ZaL at h;obtain ⟨⟨x1,st2⟩,c1,h20⟩:=Zac h;let o3:List PS:=[rZ,.r [(2,{rs:=[oI x1],st:=st2})]]
  have t3 {Q:Prop} (q:Q):=aI (Zdr.snd c1) q;refine Zbe h20 (fun c2 h21=>?_) (fun c2 h22=>?_)
  ·exact xT fol h21 hE (o3++[.r [(3,wF),(4,wF),(5,wF)],cT,rZ]) (t3 (aL c2 c2 c2 c2 eT))
  refine Zbe h22 (fun c3 h23=>?_) (fun c3 h24=>?_)
  ·exact xT fol h23 hE (o3++[.r [(6,yF)],cT,rZ]) (t3 (aL c2 c2 c2 c2 c3))
  exact aq fol (o3++[.r [(6,yF)],cF]) [0,1,2,7] [] (t3 (aL c2 c2 c2 c2 c3)) (At.loop N (At.loopN (fun y:(Option Nat)×Int×Int×LL=>ZaL.p1.S y.1 y.2.1 F2 y.2.2.1 y.2.2.2) (fun c J hc y h=>ZaL.p1_ok (A24:=y.1) (A3:=y.2.1) (A4:=y.2.2.1) (st25:=y.2.2.2) h hE (fun A24 A3 A4 st25=>hc (A24,A3,A4,st25))) N (A0,at_1,x1,st2) h24))
def ZbW.B:Code:=Tryz.f32.body.getD .skip
def ZbW.rs (r:Int×Int×Int×LL):List CV:=[oI r.1,oI r.2.1,oI r.2.2.1]
def ZbW.p1 (N:Nat) (x4 x5 x6:Int) (st16:LL):Option (Int×Int×Int×LL):= some (x4,x5,x6,st16)
def ZbW (N:Nat) (A0:Option Nat) (A1:Zaj) (A2:Int) (st:LL):Option (Int×Int×Int×LL):= if (Option.isNone A0)=true then some ((-1),0,2,st) else Zbj A0 fun i1=> ZcX (st[i1]?) Zdd fun x2 x3=> Zbj (ZaK N x2 A1 A2 st) fun (x4,x5,x6,st7)=> if (x6==0)=true then ZcX (st7[i1]?) Zdd fun x8 x9=> if (x4==(len x9))=true then Zbj x8 fun i10=> ZcX (st7[i10]?) ZbJ fun x11=> Zbj (Zch N x11 x4) fun (x12,x13)=> Zbj (Zej N x12.Height) fun x14=> Zbj (Zau N (ZaF.mk x11 x9) x12.Ahead x14) fun x15=> chk (zK (x9++[[zJ .i64 x15]])*8≤140737488355328)<| ZbW.p1 N x4 x5 x6 (zM (zM st7 i1 [zQ (some i10),L.gone]) i1 [zQ (some i10),yB true 1 (x9++[[zJ .i64 x15]])]) else ZbW.p1 N x4 x5 x6 st7 else some (x4,x5,x6,st7)
def ZbW.p1.S (x4 x5 x6:Int) (st16:LL):S:=mkS 66 [(9,sI x4),(10,sI x5),(11,sI x6)] [] st16
theorem ZbW.p1_ok {x4 x5 x6 st16 r} (h:ZbW.p1 N x4 x5 x6 st16=some r) (hE:En Tryz.f32 g0 w0 (ZbW.rs r) r.2.2.2 R):At g0 w0 (ZbW.p1.S x4 x5 x6 st16) (XK zC R [cK ZbW.B [1,1,1,1]]):=by
 unfold ZbW.p1 at h;exact xV fol h hE [rZ] trivial
theorem ZbW.snd {A0:Option Nat} {A1:Zaj} {A2:Int} {st:LL} {r:Int×Int×Int×LL} (h:ZbW N A0 A1 A2 st=some r):Snd zC 32 [.one (zQ A0),.agg A1.ls,oI A2] st (ZbW.rs r) r.2.2.2:=
 sO ZbW.B Tryz.func32 fun g0 w0 R hE=>by
  unfold ZbW at h;refine Zbe h (fun c1 h1=>?_) (fun c1 h2=>?_)
  ·exact xV fol h1 hE [rZ,rZ,cT,rZ] c1
  obtain ⟨i1,rfl,h3⟩:=Zac h2;obtain ⟨x2,x3,c3,h4⟩:=ZcT h3;obtain ⟨⟨x4,x5,x6,st7⟩,c4,h5⟩:=Zac h4;let o1:List PS:=[rZ,rZ,cF,.d {ds:=[(3,{oc:=[zQ x2,yB true 1 x3]}),(6,{rs:=[oI x4,oI x5,oI x6],st:=st7})],hv:=64,Hs:=[64]}]
  have t1 {Q:Prop} (q:Q):=aK c1 c3 (ZaK.snd c4) q;refine Zbe h5 (fun c5 h6=>?_) (fun c5 h7=>?_)
  ·obtain ⟨x8,x9,c6,h8⟩:=ZcT h6;refine Zbe h8 (fun c7 h9=>?_) (fun c7 h10=>?_)
   ·obtain ⟨i10,rfl,h11⟩:=Zac h9;obtain ⟨x11,c9,h12⟩:=ZbC h11;obtain ⟨⟨x12,x13⟩,c10,h13⟩:=Zac h12;obtain ⟨x14,c11,h14⟩:=Zac h13;obtain ⟨x15,c12,h15⟩:=Zac h14;obtain ⟨c13,h16⟩:=Zbd h15;exact aqd fol (o1++[.r [(7,{oc:=[zQ (some i10),yB true 1 x9]})],cT,.r [(3,{oc:=[zQ (some i10),yB true 1 x9]}),(5,{rs:=[.agg x12.ls,oB x13],m:=10,cv:=[.one (vV 87 x11.ls)]})],.d {ds:=[(4,{oc:=[zQ (some i10),yB true 1 x9]}),(10,q1 [oI x14]),(11,{rs:=[oI x15],m:=10,cv:=[.one (vV 2 (ZaF.ls (ZaF.mk x11 x9)))]}),(13,{oe:=[zQ (some i10),yB true 1 x9]}),(16,{oc:=[zQ (some i10),L.gone],mv:=[60]})],hv:=79872,Hs:=[2048,6144,14336,79872]},.s 1]) [9,10,11] [] (t1 (aO c5 c5 c5 c5 c5 c6 c5 (aO c5 c5 c7 c6 (bO 87 c9 (ZaG.bv x11)) (Zch.snd c10) c6 (aO c6 c6 (Zej.snd c11) (bO 2 c6 ((bC 87 c9 (ZaG.bv x11) (bW bN)):BVs st7 [zQ (some i10),yB true 1 x9] (ZaF.ls (ZaF.mk x11 x9)))) (Zau.snd c12) z0 (eN (zK x9)) (aN c6 z0 (eN (1)) c13 (Zao c6 [zQ (some i10),L.gone]) z0 (eN (zK (x9++[[zJ .i64 x15]])))))))) (ZbW.p1_ok h16 hE)
   exact aqd fol (o1++[.r [(7,{oc:=[zQ x8,yB true 1 x9]})],cF,.s 1]) [9,10,11] [] (t1 (aO c5 c5 c5 c5 c5 c6 c5 (aJ c5 c5 c7))) (ZbW.p1_ok h10 hE)
  exact xVd fol h7 hE (o1++[.r [(3,wF),(4,wF),(5,wF),(6,wF),(7,wF),(8,wF),(9,wF),(10,yF)],cF,rZ]) (t1 (aO c5 c5 c5 c5 c5 c5 c5 (aI c5 eF)))
def Zbn.B:Code:=Tryz.f59.body.getD .skip
def Zbn.rs (r:Int):List CV:=[oI r]
def Zbn.p1 (N:Nat) (A0:Zab) (A1_0:List Int) (c1_:Int→Option Int):Int→Option Int:=fun v1=> if (decide (v1<(len A0.Ids)))=true then chk (0≤v1)<| ZcX (A0.Ids[zE v1]?) Zhi fun x2=> if (x2==A1_0)=true then some v1 else c1_ (w64 (v1+1)) else some (-1)
def Zbn (N:Nat) (A0:Zab) (A1_0:List Int):Option Int:= loopN (Zbn.p1 N A0 A1_0) N 0
def Zbn.p1.S (A0:Zab) (v1:Int) (A1_0:List Int) (st:LL):S:=mkS 22 [(3,sA 3),(10,sV 32 A0.Ids),(11,sI (len A0.Ids)),(12,sI v1)] [(3,.cells [zH .u8 32 A1_0])] st
theorem Zbn.p1_ok {A0 v1 A1_0 st r c1_ J1} (h:Zbn.p1 N A0 A1_0 c1_ v1=some r) (hE:En Tryz.f59 g0 w0 (Zbn.rs r) st R) (hc1 : ∀v1,c1_ v1=some r→At g0 w0 (Zbn.p1.S A0 v1 A1_0 st) J1):At g0 w0 (Zbn.p1.S A0 v1 A1_0 st) (XK zC R (cK Zbn.B [1,0,1,0,0] :: .h J1 :: [.b 0,cK Zbn.B [1,1]])):=by
 unfold Zbn.p1 at h;refine Zbe h (fun c1 h1=>?_) (fun c1 h2=>?_)
 ·obtain ⟨c2,h3⟩:=Zbd h1;obtain ⟨x2,c3,h4⟩:=Zhz h3;let o1:List PS:=[rZ,cT,.r [(2,{oe:=[zH .u8 32 x2]})],rZ]
  refine Zbe h4 (fun c4 h5=>?_) (fun c4 h6=>?_)
  ·exact xS fol h5 hE (o1++[cT,rZ]) (aL c1 c2 (oD c1) c3 c4)
  exact an fol (o1++[cF,rZ]) [3,10,11,12] [3] (aL c1 c2 (oD c1) c3 c4) (hc1 (w64 (v1+1)) h6)
 exact xS fol h2 hE [rZ,cF,rZ] c1
theorem Zbn.snd {A0:Zab} {A1_0:List Int} {r:Int} (h:Zbn N A0 A1_0=some r):ZdD zC 59 [.one (vV 88 A0.ls),.agg [zH .u8 32 A1_0]] (Zbn.rs r):=fun st=>
 sO Zbn.B Tryz.func59 fun g0 w0 R hE=>by
  unfold Zbn at h;exact aq fol [rZ,.r [(3,{oe:=A0.ls})]] [3,10,11,12] [3] (eO A0.ls) (At.loop N (At.loopN (fun y:Int=>Zbn.p1.S A0 y A1_0 st) (fun c J hc y h=>Zbn.p1_ok h hE (fun v1=>hc v1)) N 0 h))
def ZaW.B:Code:=Tryz.f61.body.getD .skip
def ZaW.rs (r:LL):List CV:=[.row true 68 r]
def ZaW.p1 (N:Nat) (A0:Zab) (c1_:(LL×Int)→Option LL):(LL×Int)→Option LL:=fun (A4,A1)=> if (decide (A1≥0))=true then chk (0≤A1)<| chk (A1<(len A0.List_))<| ZcX (A0.List_[zE A1]?) Zec fun x5=> chk (zK ([x5.ls]++A4)*96≤140737488355328)<| chk (A1<(len A0.Ahead))<| ZcX (A0.Ahead[zE A1]?) ZdP fun x6=> c1_ ([x5.ls]++A4,x6) else some A4
def ZaW (N:Nat) (A0:Zab) (at_1:Int):Option LL:= loopN (ZaW.p1 N A0) N ([],at_1)
def ZaW.p1.S (A0:Zab) (A4:LL) (A1:Int) (st:LL):S:=mkS 28 [(0,.one (.l (vV 88 A0.ls))),(5,.one (.h (.row 5 0) 68 0 (zK A4))),(6,sI A1)] [(5,.row 0 true 68 A4)] st
theorem ZaW.p1_ok {A0 A4 A1 st r c1_ J1} (h:ZaW.p1 N A0 c1_ (A4,A1)=some r) (hE:En Tryz.f61 g0 w0 (ZaW.rs r) st R) (hc1 : ∀A4 A1,c1_ (A4,A1)=some r→At g0 w0 (ZaW.p1.S A0 A4 A1 st) J1):At g0 w0 (ZaW.p1.S A0 A4 A1 st) (XK zC R (cK ZaW.B [1,1,0,1,0,0] :: .h J1 :: [.b 0,cK ZaW.B [1,1,1]])):=by
 unfold ZaW.p1 at h;refine Zbe h (fun c8 h1=>?_) (fun c8 h2=>?_)
 ·obtain ⟨c9,c10,h3⟩:=ck2 h1;obtain ⟨x5,c11,h4⟩:=Zev h3;obtain ⟨c12,c13,h5⟩:=ck2 h4;obtain ⟨x6,c14,h6⟩:=Zdh h5;exact an fol [rZ,cT,.r [(3,{oe:=A0.ls}),(6,{oe:=x5.ls}),(10,{m:=4})],.r [(3,{oe:=A0.ls}),(6,{oe:=[zJ .i64 x6]})]] [0,5,6] [5] (aO c8 (eO A0.ls) c9 c10 c11 z0 (eN (1)) (aN z0 (eN (zK A4)) c12 (eO A0.ls) c9 c13 c14)) (hc1 ([x5.ls]++A4) x6 h6)
 obtain rfl:=Zad h2;exact af fol hE [rZ,cF,rZ] [] 0 [0] (aJ c8 z0 (eN (zK A4)))
theorem ZaW.snd {A0:Zab} {at_1:Int} {r:LL} (h:ZaW N A0 at_1=some r):ZdD zC 61 [.one (vV 88 A0.ls),oI at_1] (ZaW.rs r):=fun st=>
 sO ZaW.B Tryz.func61 fun g0 w0 R hE=>by
  unfold ZaW at h;exact aq fol [.r [(0,{m:=2})],.r [(0,{m:=1})],rZ] [0,5,6] [5] trivial (At.loop N (At.loopN (fun y:LL×Int=>ZaW.p1.S A0 y.1 y.2 st) (fun c J hc y h=>ZaW.p1_ok (A4:=y.1) (A1:=y.2) h hE (fun A4 A1=>hc (A4,A1))) N ([],at_1) h))
def Zav.B:Code:=Tryz.f155.body.getD .skip
def Zav.rs (r:(List Int)×Bool):List CV:=[.agg [zH .u64 4 r.1],oB r.2]
def Zav.p2 (N:Nat) (c1_:(Int×Int×(List Int))→Option ((List Int)×Bool)) (F1 F2 A1 A2 A12:Int) (A0_0 A11:List Int):Option ((List Int)×Bool):= chk (0≤A2)<| chk (A2<10)<| c1_ (w64 (zR (w64 ((w64 (A12*F1))+A1)) 4294967296),w64 (A2+1),zM A11 (zE A2) (zW (w64 ((w64 (A12*F1))+A1)) 4294967296))
def Zav.p4 (N:Nat) (A17:List Int) (c4_:(Int×(List Int))→Option ((List Int)×Bool)):(Int×(List Int))→Option ((List Int)×Bool):=fun (A18,A19)=> if (decide (A18<8))=true then chk (0≤(w64 (zR A18 2)))<| chk ((w64 (zR A18 2))<4)<| chk (0≤A18)<| chk (A18<10)<| chk (0≤(v64 (w64 (32*(zW A18 2)))))<| c4_ (w64 (A18+1),zM A19 (zE (w64 (zR A18 2))) (v64 ((zF A19 (zE (w64 (zR A18 2))) 0)+(ZbA .u64 (v64 (zF A17 (zE A18) 0)) (v64 (w64 (32*(zW A18 2)))))))) else if ((zF A17 8 0)==0)=true then some (A19,(zF A17 9 0)==0) else some (A19,false)
def Zav.p3 (N:Nat) (F2:Int) (A11:List Int) (c3_:(Int×Int×(List Int))→Option ((List Int)×Bool)):(Int×Int×(List Int))→Option ((List Int)×Bool):=fun (A13,A14,A17)=> if (decide (A14≥0))=true then chk (0≤A14)<| chk (A14<10)<| chk (F2≠0)<| c3_ (zW (w64 ((w64 (A13*4294967296))+(zF A11 (zE A14) 0))) F2,w64 (A14-1),zM A17 (zE A14) (w64 (zR (w64 ((w64 (A13*4294967296))+(zF A11 (zE A14) 0))) F2))) else loopN (Zav.p4 N A17) N (0,zB 4 0)
def Zav.p1 (N:Nat) (F1 F2:Int) (A0_0:List Int) (c1_:(Int×Int×(List Int))→Option ((List Int)×Bool)):(Int×Int×(List Int))→Option ((List Int)×Bool):=fun (A1,A2,A11)=> if (decide (A2<10))=true then if (decide (A2<8))=true then chk (0≤(w64 (zR A2 2)))<| chk ((w64 (zR A2 2))<4)<| chk (0≤(v64 (w64 (32*(zW A2 2)))))<| Zav.p2 N c1_ F1 F2 A1 A2 (w64 (zW (Zbs .u64 (zF A0_0 (zE (w64 (zR A2 2))) 0) (v64 (w64 (32*(zW A2 2))))) 4294967296)) A0_0 A11 else Zav.p2 N c1_ F1 F2 A1 A2 0 A0_0 A11 else loopN (Zav.p3 N F2 A11) N (0,9,zB 10 0)
def Zav (N:Nat) (A0_0:List Int) (F1 F2:Int):Option ((List Int)×Bool):= loopN (Zav.p1 N F1 F2 A0_0) N (0,0,zB 10 0)
def Zav.p2.S (F1 F2 A1 A2 A12:Int) (A0_0 A11:List Int) (st:LL):S:=mkS 96 [(1,sI F1),(2,sI F2),(3,sA 3),(6,sA 6),(8,sA 8),(9,sI A1),(10,sI A2),(11,sI A12)] [(3,.cells [zH .u64 4 A0_0]),(6,.cells [zH .u64 4 (zB 4 0)]),(8,.cells [zH .i64 10 A11])] st
def Zav.p4.S (A18:Int) (A17 A19:List Int) (st:LL):S:=mkS 96 [(6,sA 6),(14,sA 14),(17,sA 17),(18,sI A18)] [(6,.cells [zH .u64 4 (zB 4 0)]),(14,.cells [zH .i64 10 A17]),(17,.cells [zH .u64 4 A19])] st
def Zav.p3.S (F2 A13 A14:Int) (A11 A17:List Int) (st:LL):S:=mkS 96 [(2,sI F2),(6,sA 6),(8,sA 8),(13,sI A13),(14,sA 14),(15,sI A14)] [(6,.cells [zH .u64 4 (zB 4 0)]),(8,.cells [zH .i64 10 A11]),(14,.cells [zH .i64 10 A17])] st
def Zav.p1.S (F1 F2 A1 A2:Int) (A0_0 A11:List Int) (st:LL):S:=mkS 96 [(1,sI F1),(2,sI F2),(3,sA 3),(6,sA 6),(8,sA 8),(9,sI A1),(10,sI A2)] [(3,.cells [zH .u64 4 A0_0]),(6,.cells [zH .u64 4 (zB 4 0)]),(8,.cells [zH .i64 10 A11])] st
theorem Zav.p2_ok {F1 F2 A1 A2 A12 A0_0 A11 st r c1_ J1} (h:Zav.p2 N c1_ F1 F2 A1 A2 A12 A0_0 A11=some r) (hE:En Tryz.f155 g0 w0 (Zav.rs r) st R) (hc1 : ∀A1 A2 A11,c1_ (A1,A2,A11)=some r→At g0 w0 (Zav.p1.S F1 F2 A1 A2 A0_0 A11 st) J1):At g0 w0 (Zav.p2.S F1 F2 A1 A2 A12 A0_0 A11 st) (XK zC R [cK Zav.B [1,1,1,0,1,0,0,1,0,0,1,1],.b 1,cK Zav.B [1,1,1,0,1,0,0,1,1],.h J1,.b 0,cK Zav.B [1,1,1,1]]):=by
 unfold Zav.p2 at h;obtain ⟨c49,c50,h1⟩:=ck2 h;exact an fol [rZ,rZ,rZ,rZ] [1,2,3,6,8,9,10] [3,6,8] (aK (neI 4294967296) c49 c50 (neI 4294967296)) (hc1 (w64 (zR (w64 ((w64 (A12*F1))+A1)) 4294967296)) (w64 (A2+1)) (zM A11 (zE A2) (zW (w64 ((w64 (A12*F1))+A1)) 4294967296)) h1)
theorem Zav.p4_ok {A18 A17 A19 st r c4_ J4} (h:Zav.p4 N A17 c4_ (A18,A19)=some r) (hE:En Tryz.f155 g0 w0 (Zav.rs r) st R) (hc4 : ∀A18 A19,c4_ (A18,A19)=some r→At g0 w0 (Zav.p4.S A18 A17 A19 st) J4):At g0 w0 (Zav.p4.S A18 A17 A19 st) (XK zC R (cK Zav.B [1,1,1,1,1,1,1,1,0,1,0,0] :: .h J4 :: [.b 4,cK Zav.B [1,1,1,1,1,1,1,1,1]])):=by
 unfold Zav.p4 at h;refine Zbe h (fun c80 h2=>?_) (fun c80 h3=>?_)
 ·obtain ⟨c81,c82,c83,c84,c85,h4⟩:=ck5 h2;exact ZjD fol [rZ,cT,.d {ds:=[],hv:=131072,Hs:=[131072]},rZ] [6,14,17,18] [6,14,17] (aO c80 (neI 2) (neI 2) c81 c82 c83 c84 (aK (neI 2) c85 c81 c82)) (hc4 (w64 (A18+1)) (zM A19 (zE (w64 (zR A18 2))) (v64 ((zF A19 (zE (w64 (zR A18 2))) 0)+(ZbA .u64 (v64 (zF A17 (zE A18) 0)) (v64 (w64 (32*(zW A18 2)))))))) h4)
 refine Zbe h3 (fun c86 h5=>?_) (fun c86 h6=>?_)
 ·exact xSd fol h5 hE [rZ,cF,.d {ds:=[],hv:=512,Hs:=[512]}] (aI c80 (ix 8 10 (aI c86 (ix 9 10 (aI c86 (ix 9 10 (aM c86 c86 c86 c86 c86 c86)))))))
 exact xSd fol h6 hE [rZ,cF,.d {ds:=[(5,wF),(6,wF),(7,wF),(8,yF)],hv:=512,Hs:=[512]}] (aI c80 (ix 8 10 (aO c86 c86 c86 c86 c86 c86 c86 c86)))
theorem Zav.p3_ok {F2 A13 A14 A11 A17 st r c3_ J3} (h:Zav.p3 N F2 A11 c3_ (A13,A14,A17)=some r) (hE:En Tryz.f155 g0 w0 (Zav.rs r) st R) (hc3 : ∀A13 A14 A17,c3_ (A13,A14,A17)=some r→At g0 w0 (Zav.p3.S F2 A13 A14 A11 A17 st) J3):At g0 w0 (Zav.p3.S F2 A13 A14 A11 A17 st) (XK zC R (cK Zav.B [1,1,1,1,1,1,0,1,0,0] :: .h J3 :: [.b 2,cK Zav.B [1,1,1,1,1,1,1]])):=by
 unfold Zav.p3 at h;refine Zbe h (fun c69 h7=>?_) (fun c69 h8=>?_)
 ·obtain ⟨c70,c71,c72,h9⟩:=ck3 h7;exact an fol [rZ,cT,rZ,rZ,rZ,rZ] [2,6,8,13,14,15] [6,8,14] (aN c69 c70 c71 c72 c70 c71 c72) (hc3 (zW (w64 ((w64 (A13*4294967296))+(zF A11 (zE A14) 0))) F2) (w64 (A14-1)) (zM A17 (zE A14) (w64 (zR (w64 ((w64 (A13*4294967296))+(zF A11 (zE A14) 0))) F2))) h9)
 exact aq fol [rZ,cF,rZ,rZ] [6,14,17,18] [6,14,17] c69 (At.loop N (At.loopN (fun y:Int×(List Int)=>Zav.p4.S y.1 A17 y.2 st) (fun c J hc y h=>Zav.p4_ok (A18:=y.1) (A19:=y.2) h hE (fun A18 A19=>hc (A18,A19))) N (0,zB 4 0) h8))
theorem Zav.p1_ok {F1 F2 A1 A2 A0_0 A11 st r c1_ J1} (h:Zav.p1 N F1 F2 A0_0 c1_ (A1,A2,A11)=some r) (hE:En Tryz.f155 g0 w0 (Zav.rs r) st R) (hc1 : ∀A1 A2 A11,c1_ (A1,A2,A11)=some r→At g0 w0 (Zav.p1.S F1 F2 A1 A2 A0_0 A11 st) J1):At g0 w0 (Zav.p1.S F1 F2 A1 A2 A0_0 A11 st) (XK zC R (cK Zav.B [1,1,1,0,1,0,0] :: .h J1 :: [.b 0,cK Zav.B [1,1,1,1]])):=by
 unfold Zav.p1 at h;refine Zbe h (fun c44 h10=>?_) (fun c44 h11=>?_)
 ·refine Zbe h10 (fun c45 h12=>?_) (fun c45 h13=>?_)
  ·obtain ⟨c46,c47,c48,h14⟩:=ck3 h12;exact aq fol [rZ,cT,rZ,rZ,cT,rZ,.s 6] [1,2,3,6,8,9,10,11] [3,6,8] (aO c44 c45 (neI 2) c46 c47 (neI 2) c48 (neI 4294967296)) (Zav.p2_ok h14 hE hc1)
  exact aq fol [rZ,cT,rZ,rZ,cF,.s 6] [1,2,3,6,8,9,10,11] [3,6,8] (aI c44 c45) (Zav.p2_ok h13 hE hc1)
 exact aq fol [rZ,cF,rZ,rZ,rZ] [2,6,8,13,14,15] [6,8,14] c44 (At.loop N (At.loopN (fun y:Int×Int×(List Int)=>Zav.p3.S F2 y.1 y.2.1 A11 y.2.2 st) (fun c J hc y h=>Zav.p3_ok (A13:=y.1) (A14:=y.2.1) (A17:=y.2.2) h hE (fun A13 A14 A17=>hc (A13,A14,A17))) N (0,9,zB 10 0) h11))
theorem Zav.snd {A0_0:List Int} {F1 F2:Int} {r:(List Int)×Bool} (h:Zav N A0_0 F1 F2=some r):ZdD zC 155 [.agg [zH .u64 4 A0_0],oI F1,oI F2] (Zav.rs r):=fun st=>
 sO Zav.B Tryz.func155 fun g0 w0 R hE=>by
  unfold Zav at h;exact aq fol [rZ,rZ,rZ,rZ] [1,2,3,6,8,9,10] [3,6,8] trivial (At.loop N (At.loopN (fun y:Int×Int×(List Int)=>Zav.p1.S F1 F2 y.1 y.2.1 A0_0 y.2.2 st) (fun c J hc y h=>Zav.p1_ok (A1:=y.1) (A2:=y.2.1) (A11:=y.2.2) h hE (fun A1 A2 A11=>hc (A1,A2,A11))) N (0,0,zB 10 0) h))
def Zay.B:Code:=Tryz.f156.body.getD .skip
def Zay.rs (r:Int):List CV:=[oI r]
def Zay.p2 (N:Nat) (c1_:(Int×Int)→Option Int) (A4 A2:Int) (A0_0:List Int):Option Int:= c1_ (A4,w64 (A2+1))
def Zay.p4 (N:Nat) (A8 A9:Int):Option Int:= some (w64 ((w64 (A8*16777216))+A9))
def Zay.p3 (N:Nat) (A1 A7:Int):Option Int:= if (decide (A7≥8388608))=true then Zay.p4 N (w64 (A1+1)) (w64 (zR A7 256)) else Zay.p4 N A1 A7
def Zay.p1 (N:Nat) (A0_0:List Int) (c1_:(Int×Int)→Option Int):(Int×Int)→Option Int:=fun (A1,A2)=> if (decide (A2<32))=true then Zbj (Zan N A0_0 (w64 ((-8)*A2))) fun x3=> if (decide ((zW (zF x3 0 0) 256)>0))=true then Zay.p2 N c1_ (w64 (A2+1)) A2 A0_0 else Zay.p2 N c1_ A1 A2 A0_0 else Zbj (Zan N A0_0 (w64 (8*(w64 (3-A1))))) fun x5=> if (decide (A1>3))=true then Zbj (Zan N A0_0 (w64 ((-8)*(w64 (A1-3))))) fun x6=> Zay.p3 N A1 (w64 (zW (zF x6 0 0) 16777216)) else Zay.p3 N A1 (w64 (zW (zF x5 0 0) 16777216))
def Zay (N:Nat) (A0_0:List Int):Option Int:= loopN (Zay.p1 N A0_0) N (0,0)
def Zay.p2.S (A4 A2:Int) (A0_0:List Int) (st:LL):S:=mkS 49 [(1,sA 1),(3,sI A4),(4,sI A2)] [(1,.cells [zH .u64 4 A0_0])] st
def Zay.p4.S (A8 A9:Int) (st:LL):S:=mkS 49 [(3,sI A8),(6,sI A9)] [] st
def Zay.p3.S (A1 A7:Int) (st:LL):S:=mkS 49 [(3,sI A1),(6,sI A7)] [] st
def Zay.p1.S (A1 A2:Int) (A0_0:List Int) (st:LL):S:=mkS 49 [(1,sA 1),(3,sI A1),(4,sI A2)] [(1,.cells [zH .u64 4 A0_0])] st
theorem Zay.p2_ok {A4 A2 A0_0 st r c1_ J1} (h:Zay.p2 N c1_ A4 A2 A0_0=some r) (hE:En Tryz.f156 g0 w0 (Zay.rs r) st R) (hc1 : ∀A1 A2,c1_ (A1,A2)=some r→At g0 w0 (Zay.p1.S A1 A2 A0_0 st) J1):At g0 w0 (Zay.p2.S A4 A2 A0_0 st) (XK zC R [cK Zay.B [1,1,0,1,0,0,1,1],.h J1,.b 0,cK Zay.B [1,1,1]]):=by
 unfold Zay.p2 at h;exact an fol [rZ] [1,3,4] [1] trivial (hc1 A4 (w64 (A2+1)) h)
theorem Zay.p4_ok {A8 A9 st r} (h:Zay.p4 N A8 A9=some r) (hE:En Tryz.f156 g0 w0 (Zay.rs r) st R):At g0 w0 (Zay.p4.S A8 A9 st) (XK zC R [cK Zay.B [1,1,1,1,1,1]]):=by
 unfold Zay.p4 at h;exact xS fol h hE [rZ] trivial
theorem Zay.p3_ok {A1 A7 st r} (h:Zay.p3 N A1 A7=some r) (hE:En Tryz.f156 g0 w0 (Zay.rs r) st R):At g0 w0 (Zay.p3.S A1 A7 st) (XK zC R [cK Zay.B [1,1,1,1,1]]):=by
 unfold Zay.p3 at h;refine Zbe h (fun c7 h1=>?_) (fun c7 h2=>?_)
 ·exact aq fol [rZ,cT,rZ,rZ,.s 1] [3,6] [] (aI c7 (neI 256)) (Zay.p4_ok h1 hE)
 exact aq fol [rZ,cF,.s 1] [3,6] [] c7 (Zay.p4_ok h2 hE)
theorem Zay.p1_ok {A1 A2 A0_0 st r c1_ J1} (h:Zay.p1 N A0_0 c1_ (A1,A2)=some r) (hE:En Tryz.f156 g0 w0 (Zay.rs r) st R) (hc1 : ∀A1 A2,c1_ (A1,A2)=some r→At g0 w0 (Zay.p1.S A1 A2 A0_0 st) J1):At g0 w0 (Zay.p1.S A1 A2 A0_0 st) (XK zC R (cK Zay.B [1,1,0,1,0,0] :: .h J1 :: [.b 0,cK Zay.B [1,1,1]])):=by
 unfold Zay.p1 at h;refine Zbe h (fun c1 h3=>?_) (fun c1 h4=>?_)
 ·obtain ⟨x3,c2,h5⟩:=Zac h3;let o1:List PS:=[rZ,cT,.r [(3,q1 [.agg [zH .u64 4 x3]])],rZ]
  have t1 {Q:Prop} (q:Q):=aJ c1 (Zan.snd c2) (ix 0 4 (aI (neI 256) q));refine Zbe h5 (fun c3 h6=>?_) (fun c3 h7=>?_)
  ·exact aq fol (o1++[cT,rZ,.s 4]) [1,3,4] [1] (t1 c3) (Zay.p2_ok h6 hE hc1)
  exact aq fol (o1++[cF,.s 4]) [1,3,4] [1] (t1 c3) (Zay.p2_ok h7 hE hc1)
 obtain ⟨x5,c4,h8⟩:=Zac h4;let o2:List PS:=[rZ,cF,.r [(4,q1 [.agg [zH .u64 4 x5]])],rZ]
 have t2 {Q:Prop} (q:Q):=aJ c1 (Zan.snd c4) (ix 0 4 (aI (neI 16777216) q));refine Zbe h8 (fun c5 h9=>?_) (fun c5 h10=>?_)
 ·obtain ⟨x6,c6,h11⟩:=Zac h9;exact aq fol (o2++[cT,.r [(4,q1 [.agg [zH .u64 4 x6]])],.s 1]) [3,6] [] (t2 (aJ c5 (Zan.snd c6) (ix 0 4 (neI 16777216)))) (Zay.p3_ok h11 hE)
 exact aq fol (o2++[cF,.s 1]) [3,6] [] (t2 c5) (Zay.p3_ok h10 hE)
theorem Zay.snd {A0_0:List Int} {r:Int} (h:Zay N A0_0=some r):ZdD zC 156 [.agg [zH .u64 4 A0_0]] (Zay.rs r):=fun st=>
 sO Zay.B Tryz.func156 fun g0 w0 R hE=>by
  unfold Zay at h;exact aq fol [rZ,rZ,rZ] [1,3,4] [1] trivial (At.loop N (At.loopN (fun y:Int×Int=>Zay.p1.S y.1 y.2 A0_0 st) (fun c J hc y h=>Zay.p1_ok (A1:=y.1) (A2:=y.2) h hE (fun A1 A2=>hc (A1,A2))) N (0,0) h))
def ZaA.B:Code:=Tryz.f136.body.getD .skip
def ZaA.rs (r:Int):List CV:=[oI r]
def ZaA.p3 (N:Nat) (A11:List Int):Option Int:= Zbj (Zay N A11) fun x12=> some x12
def ZaA.p2 (N:Nat) (A0:Zae) (A5:Int) (x1:List Int):Option Int:= Zbj (Zav N x1 A5 (w64 (A0.Interval*A0.Spacing))) fun (x6,x7)=> Zbj (ZcN N A0.Limit A0.Limit) fun (x8,x9)=> if (!x7)=true then some A0.Limit else Zbj (Zby N x8 x6) fun x10=> if x10=true then some A0.Limit else if (x6==(zB 4 0))=true then ZaA.p3 N [1,0,0,0] else ZaA.p3 N x6
def ZaA.p1 (N:Nat) (A0:Zae) (A4:Int) (x1:List Int):Option Int:= if (decide (A4>(w64 ((w64 (A0.Interval*A0.Spacing))*4))))=true then ZaA.p2 N A0 (w64 ((w64 (A0.Interval*A0.Spacing))*4)) x1 else ZaA.p2 N A0 A4 x1
def ZaA (N:Nat) (A0:Zae) (A1 A2 A3:Int):Option Int:= Zbj (ZcN N A1 A0.Limit) fun (x1,x2)=> Zbj (ZdL N A0) fun x3=> if (!x3)=true then some A0.Limit else if (!x2)=true then some A0.Limit else if (decide ((w64 (A3-A2))<(w64 (zR (w64 (A0.Interval*A0.Spacing)) 4))))=true then ZaA.p1 N A0 (w64 (zR (w64 (A0.Interval*A0.Spacing)) 4)) x1 else ZaA.p1 N A0 (w64 (A3-A2)) x1
def ZaA.p3.S (A11:List Int) (st:LL):S:=mkS 83 [(13,sA 13)] [(13,.cells [zH .u64 4 A11])] st
def ZaA.p2.S (A0:Zae) (A5:Int) (x1:List Int) (st:LL):S:=mkS 83 [(4,sA 4),(9,sA 9),(11,sI (w64 (A0.Interval*A0.Spacing))),(12,sI A5)] [(4,.cells A0.ls),(9,.cells [zH .u64 4 x1])] st
def ZaA.p1.S (A0:Zae) (A4:Int) (x1:List Int) (st:LL):S:=mkS 83 [(4,sA 4),(9,sA 9),(11,sI (w64 (A0.Interval*A0.Spacing))),(12,sI A4)] [(4,.cells A0.ls),(9,.cells [zH .u64 4 x1])] st
theorem ZaA.p3_ok {A11 st r} (h:ZaA.p3 N A11=some r) (hE:En Tryz.f136 g0 w0 (ZaA.rs r) st R):At g0 w0 (ZaA.p3.S A11 st) (XK zC R [cK ZaA.B [1,1,1,1,1,1,1,1,1,1,1]]):=by
 unfold ZaA.p3 at h;obtain ⟨x12,c13,h1⟩:=Zac h;exact xS fol h1 hE [.r [(1,q1 [oI x12])]] (Zay.snd c13)
theorem ZaA.p2_ok {A0 A5 x1 st r} (h:ZaA.p2 N A0 A5 x1=some r) (hE:En Tryz.f136 g0 w0 (ZaA.rs r) st R):At g0 w0 (ZaA.p2.S A0 A5 x1 st) (XK zC R [cK ZaA.B [1,1,1,1,1,1,1]]):=by
 unfold ZaA.p2 at h;obtain ⟨⟨x6,x7⟩,c7,h2⟩:=Zac h;obtain ⟨⟨x8,x9⟩,c8,h3⟩:=Zac h2;let o1:List PS:=[.r [(3,q1 [.agg [zH .u64 4 x6],oB x7])],.r [(4,q1 [.agg [zH .u64 4 x8],oB x9])]]
 have t1 {Q:Prop} (q:Q):=aJ (Zav.snd c7) (ZcN.snd c8) q;refine Zbe h3 (fun c9 h4=>?_) (fun c9 h5=>?_)
 ·exact xS fol h4 hE (o1++[.r [(3,wF),(4,wF),(5,wF)],cT,rZ]) (t1 (aL (not_false (Zcm c9)) (not_false (Zcm c9)) (not_false (Zcm c9)) (not_false (Zcm c9)) eT))
 obtain ⟨x10,c10,h6⟩:=Zac h5;let o2:List PS:=o1++[.r [(5,q1 [oB x10]),(6,yF)]]
 have t2 {Q:Prop} (q:Q):=t1 (aM (not_true (Zcn c9)) (not_true (Zcn c9)) (not_true (Zcn c9)) (Zby.snd c10) (not_true (Zcn c9)) q);refine Zbe h6 (fun c11 h7=>?_) (fun c11 h8=>?_)
 ·exact xS fol h7 hE (o2++[cT,rZ]) (t2 c11)
 refine Zbe h8 (fun c12 h9=>?_) (fun c12 h10=>?_)
 ·exact aq fol (o2++[cF,rZ,cT,.r [(0,{m:=3})],.s 1]) [13] [13] (t2 (aI c11 c12)) (ZaA.p3_ok h9 hE)
 exact aq fol (o2++[cF,rZ,cF,.s 1]) [13] [13] (t2 (aI c11 c12)) (ZaA.p3_ok h10 hE)
theorem ZaA.p1_ok {A0 A4 x1 st r} (h:ZaA.p1 N A0 A4 x1=some r) (hE:En Tryz.f136 g0 w0 (ZaA.rs r) st R):At g0 w0 (ZaA.p1.S A0 A4 x1 st) (XK zC R [cK ZaA.B [1,1,1,1,1,1]]):=by
 unfold ZaA.p1 at h;refine Zbe h (fun c6 h11=>?_) (fun c6 h12=>?_)
 ·exact aq fol [rZ,cT,rZ,.s 1] [4,9,11,12] [4,9] c6 (ZaA.p2_ok h11 hE)
 exact aq fol [rZ,cF,.s 1] [4,9,11,12] [4,9] c6 (ZaA.p2_ok h12 hE)
theorem ZaA.snd {A0:Zae} {A1 A2 A3:Int} {r:Int} (h:ZaA N A0 A1 A2 A3=some r):ZdD zC 136 [.agg A0.ls,oI A1,oI A2,oI A3] (ZaA.rs r):=fun st=>
 sO ZaA.B Tryz.func136 fun g0 w0 R hE=>by
  unfold ZaA at h;obtain ⟨⟨x1,x2⟩,c1,h13⟩:=Zac h;obtain ⟨x3,c2,h14⟩:=Zac h13;let o3:List PS:=[rZ,.r [(3,q1 [.agg [zH .u64 4 x1],oB x2])]]
  have t3 {Q:Prop} (q:Q):=aJ (ZcN.snd c1) (ZdL.snd c2) q;refine Zbe h14 (fun c3 h15=>?_) (fun c3 h16=>?_)
  ·exact xS fol h15 hE (o3++[.r [(1,q1 [oB x3]),(4,wF),(5,wF)],cT,rZ]) (t3 (aK (not_false (Zcm c3)) (not_false (Zcm c3)) (not_false (Zcm c3)) eT))
  let o4:List PS:=o3++[.r [(1,q1 [oB x3]),(6,yF)]]
  have t4 {Q:Prop} (q:Q):=t3 (aK (not_true (Zcn c3)) (not_true (Zcn c3)) (not_true (Zcn c3)) q);refine Zbe h16 (fun c4 h17=>?_) (fun c4 h18=>?_)
  ·exact xS fol h17 hE (o4++[cT,rZ]) (t4 c4)
  refine Zbe h18 (fun c5 h19=>?_) (fun c5 h20=>?_)
  ·exact aq fol (o4++[cF,rZ,rZ,rZ,cT,rZ,.s 1]) [4,9,11,12] [4,9] (t4 (aK c4 (neI 4) c5 (neI 4))) (ZaA.p1_ok h19 hE)
  exact aq fol (o4++[cF,rZ,rZ,rZ,cF,.s 1]) [4,9,11,12] [4,9] (t4 (aJ c4 (neI 4) c5)) (ZaA.p1_ok h20 hE)
def ZcB.B:Code:=Tryz.f114.body.getD .skip
def ZcB.rs (r:Int):List CV:=[oI r]
def ZcB.p1 (N:Nat) (A2 A3 A5 A6:Int) (A0:Zae):Option Int:= if (!A0.Easy)=true then some A2 else if (decide ((w64 (A6-A3))>(w64 (2*A0.Spacing))))=true then some A0.Limit else some A5
def ZcB (N:Nat) (A0:Zae) (A1 A2 A3 A4 A5 A6:Int):Option Int:= if (decide (A1≤0))=true then some A0.Limit else if (decide (A0.Interval>0))=true then chk (A0.Interval≠0)<| if ((zW A1 A0.Interval)==0)=true then Zbj (ZaA N A0 A2 A4 A3) fun x1=> some x1 else ZcB.p1 N A2 A3 A5 A6 A0 else ZcB.p1 N A2 A3 A5 A6 A0
def ZcB.p1.S (A2 A3 A5 A6:Int) (A0:Zae) (st:LL):S:=mkS 48 [(2,sI A2),(3,sI A3),(5,sI A5),(6,sI A6),(7,sA 7)] [(7,.cells A0.ls)] st
theorem ZcB.p1_ok {A2 A3 A5 A6 A0 st r} (h:ZcB.p1 N A2 A3 A5 A6 A0=some r) (hE:En Tryz.f114 g0 w0 (ZcB.rs r) st R):At g0 w0 (ZcB.p1.S A2 A3 A5 A6 A0 st) (XK zC R [cK ZcB.B [1,1,1]]):=by
 unfold ZcB.p1 at h;refine Zbe h (fun c6 h1=>?_) (fun c6 h2=>?_)
 ·exact xS fol h1 hE [rZ,cT,rZ] c6
 refine Zbe h2 (fun c7 h3=>?_) (fun c7 h4=>?_)
 ·exact xS fol h3 hE [rZ,cF,rZ,cT,rZ] (aI c6 c7)
 exact xS fol h4 hE [rZ,cF,rZ,cF,rZ] (aI c6 c7)
theorem ZcB.snd {A0:Zae} {A1 A2 A3 A4 A5 A6:Int} {r:Int} (h:ZcB N A0 A1 A2 A3 A4 A5 A6=some r):ZdD zC 114 [.agg A0.ls,oI A1,oI A2,oI A3,oI A4,oI A5,oI A6] (ZcB.rs r):=fun st=>
 sO ZcB.B Tryz.func114 fun g0 w0 R hE=>by
  unfold ZcB at h;refine Zbe h (fun c1 h5=>?_) (fun c1 h6=>?_)
  ·exact xS fol h5 hE [rZ,rZ,cT,rZ] c1
  let o1:List PS:=[rZ,rZ,cF]
  refine Zbe h6 (fun c2 h7=>?_) (fun c2 h8=>?_)
  ·obtain ⟨c3,h9⟩:=Zbd h7;refine Zbe h9 (fun c4 h10=>?_) (fun c4 h11=>?_)
   ·obtain ⟨x1,c5,h12⟩:=Zac h10;exact xS fol h12 hE (o1++[rZ,cT,.r [(4,q1 [oI x1])]]) (aO c1 c2 c2 c2 c2 c3 c2 (aJ c2 c4 (ZaA.snd c5)))
   exact aq fol (o1++[rZ,cF,.s 1]) [2,3,5,6,7] [7] (aO c1 c2 c2 c2 c2 c3 c2 (aI c2 c4)) (ZcB.p1_ok h11 hE)
  exact aq fol (o1++[.r [(4,wF),(5,wF),(6,wF),(7,wF),(8,wF),(9,yF)],cF,.s 1]) [2,3,5,6,7] [7] (aO c1 c2 c2 c2 c2 c2 c2 eF) (ZcB.p1_ok h8 hE)
def ZaC.B:Code:=Tryz.f85.body.getD .skip
def ZaC.rs (r:Int):List CV:=[oI r]
def ZaC.p4 (N:Nat) (c1_:(Int×Int×Int)→Option Int) (A2:Int) (A1:LL) (A7 A8 v4:Int) (A0:Zae) (x1:Zaj):Option Int:= c1_ (A7,A8,w64 (v4+1))
def ZaC.p3 (N:Nat) (c1_:(Int×Int×Int)→Option Int) (A2:Int) (A1:LL) (A7 A3:Int) (A6:Bool) (v4:Int) (A0:Zae) (x1 x5:Zaj):Option Int:= if (!A0.Easy)=true then ZaC.p4 N c1_ A2 A1 A7 x5.Bits v4 A0 x1 else if (x5.Bits != A0.Limit)=true then ZaC.p4 N c1_ A2 A1 A7 x5.Bits v4 A0 x1 else if A6=true then ZaC.p4 N c1_ A2 A1 A7 x5.Bits v4 A0 x1 else ZaC.p4 N c1_ A2 A1 A7 A3 v4 A0 x1
def ZaC.p2 (N:Nat) (c1_:(Int×Int×Int)→Option Int) (A2:Int) (A1:LL) (F2 A3:Int) (A6:Bool) (v4:Int) (A0:Zae) (x1 x5:Zaj):Option Int:= if A6=true then ZaC.p3 N c1_ A2 A1 x5.Time A3 A6 v4 A0 x1 x5 else ZaC.p3 N c1_ A2 A1 F2 A3 A6 v4 A0 x1 x5
def ZaC.p1 (N:Nat) (A2:Int) (A1:LL) (A0:Zae) (x1:Zaj) (c1_:(Int×Int×Int)→Option Int):(Int×Int×Int)→Option Int:=fun (F2,A3,v4)=> if (decide (v4<(len A1)))=true then chk (0≤v4)<| ZcX (A1[zE v4]?) Zec fun x5=> if (decide (A0.Interval>0))=true then chk (A0.Interval≠0)<| ZaC.p2 N c1_ A2 A1 F2 A3 ((zW v4 A0.Interval)==0) v4 A0 x1 x5 else ZaC.p2 N c1_ A2 A1 F2 A3 false v4 A0 x1 x5 else Zbj (ZcB N A0 (len A1) x1.Bits x1.Time F2 A3 A2) fun x9=> some x9
def ZaC (N:Nat) (A0:Zae) (A1:LL) (A2:Int):Option Int:= if ((len A1)==0)=true then some A0.Limit else chk (0≤(w64 ((len A1)-1)))<| chk ((w64 ((len A1)-1))<(len A1))<| ZcX (A1[zE (w64 ((len A1)-1))]?) Zec fun x1=> loopN (ZaC.p1 N A2 A1 A0 x1) N (0,A0.Limit,0)
def ZaC.p4.S (A2:Int) (A1:LL) (A7 A8 v4:Int) (A0:Zae) (x1:Zaj) (st:LL):S:=mkS 73 [(2,sI A2),(3,sA 3),(7,sI (len A1)),(8,sA 8),(9,sI A7),(10,sI A8),(27,sV 68 A1),(28,sI (len A1)),(29,sI v4)] [(3,.cells A0.ls),(8,.cells x1.ls)] st
def ZaC.p3.S (A2:Int) (A1:LL) (A7 A3:Int) (A6:Bool) (v4:Int) (A0:Zae) (x1 x5:Zaj) (st:LL):S:=mkS 73 [(2,sI A2),(3,sA 3),(7,sI (len A1)),(8,sA 8),(9,sI A7),(10,sI A3),(12,sA 12),(13,.one (.l (xK A6))),(27,sV 68 A1),(28,sI (len A1)),(29,sI v4)] [(3,.cells A0.ls),(8,.cells x1.ls),(12,.cells x5.ls)] st
def ZaC.p2.S (A2:Int) (A1:LL) (F2 A3:Int) (A6:Bool) (v4:Int) (A0:Zae) (x1 x5:Zaj) (st:LL):S:=mkS 73 [(2,sI A2),(3,sA 3),(7,sI (len A1)),(8,sA 8),(9,sI F2),(10,sI A3),(12,sA 12),(13,.one (.l (xK A6))),(27,sV 68 A1),(28,sI (len A1)),(29,sI v4)] [(3,.cells A0.ls),(8,.cells x1.ls),(12,.cells x5.ls)] st
def ZaC.p1.S (A2:Int) (A1:LL) (F2 A3 v4:Int) (A0:Zae) (x1:Zaj) (st:LL):S:=mkS 73 [(2,sI A2),(3,sA 3),(7,sI (len A1)),(8,sA 8),(9,sI F2),(10,sI A3),(27,sV 68 A1),(28,sI (len A1)),(29,sI v4)] [(3,.cells A0.ls),(8,.cells x1.ls)] st
theorem ZaC.p4_ok {A2 A1 A7 A8 v4 A0 x1 st r c1_ J1} (h:ZaC.p4 N c1_ A2 A1 A7 A8 v4 A0 x1=some r) (hE:En Tryz.f85 g0 w0 (ZaC.rs r) st R) (hc1 : ∀F2 A3 v4,c1_ (F2,A3,v4)=some r→At g0 w0 (ZaC.p1.S A2 A1 F2 A3 v4 A0 x1 st) J1):At g0 w0 (ZaC.p4.S A2 A1 A7 A8 v4 A0 x1 st) (XK zC R [cK ZaC.B [1,1,1,1,1,1,0,1,0,0,1,1,1],.h J1,.b 0,cK ZaC.B [1,1,1,1,1,1,1]]):=by
 unfold ZaC.p4 at h;exact an fol [rZ] [2,3,7,8,9,10,27,28,29] [3,8] trivial (hc1 A7 A8 (w64 (v4+1)) h)
theorem ZaC.p3_ok {A2 A1 A7 A3 A6 v4 A0 x1 x5 st r c1_ J1} (h:ZaC.p3 N c1_ A2 A1 A7 A3 A6 v4 A0 x1 x5=some r) (hE:En Tryz.f85 g0 w0 (ZaC.rs r) st R) (hc1 : ∀F2 A3 v4,c1_ (F2,A3,v4)=some r→At g0 w0 (ZaC.p1.S A2 A1 F2 A3 v4 A0 x1 st) J1):At g0 w0 (ZaC.p3.S A2 A1 A7 A3 A6 v4 A0 x1 x5 st) (XK zC R [cK ZaC.B [1,1,1,1,1,1,0,1,0,0,1,1,0,0,1,1,1],.b 1,cK ZaC.B [1,1,1,1,1,1,0,1,0,0,1,1,1],.h J1,.b 0,cK ZaC.B [1,1,1,1,1,1,1]]):=by
 unfold ZaC.p3 at h;refine Zbe h (fun c11 h1=>?_) (fun c11 h2=>?_)
 ·exact aq fol [.r [(4,wF),(5,wF),(6,wF),(7,wF),(8,wF),(11,wF)],cT,rZ,.s 4] [2,3,7,8,9,10,27,28,29] [3,8] (aO (not_false (Zcm c11)) (not_false (Zcm c11)) (not_false (Zcm c11)) (not_false (Zcm c11)) (not_false (Zcm c11)) (not_false (Zcm c11)) eT (aI eT eT)) (ZaC.p4_ok h1 hE hc1)
 have t1 {Q:Prop} (q:Q):=aN (not_true (Zcn c11)) (not_true (Zcn c11)) (not_true (Zcn c11)) (not_true (Zcn c11)) (not_true (Zcn c11)) (not_true (Zcn c11)) q;refine Zbe h2 (fun c12 h3=>?_) (fun c12 h4=>?_)
 ·exact aq fol [.r [(9,yF),(11,wF)],cT,rZ,.s 4] [2,3,7,8,9,10,27,28,29] [3,8] (t1 (aJ c12 c12 eT)) (ZaC.p4_ok h3 hE hc1)
 let o1:List PS:=[.r [(9,yF),(12,yF)]]
 refine Zbe h4 (fun c13 h5=>?_) (fun c13 h6=>?_)
 ·exact aq fol (o1++[cT,rZ,.s 4]) [2,3,7,8,9,10,27,28,29] [3,8] (t1 (aJ c12 c12 c13)) (ZaC.p4_ok h5 hE hc1)
 exact aq fol (o1++[cF,.s 4]) [2,3,7,8,9,10,27,28,29] [3,8] (t1 (aJ c12 c12 c13)) (ZaC.p4_ok h6 hE hc1)
theorem ZaC.p2_ok {A2 A1 F2 A3 A6 v4 A0 x1 x5 st r c1_ J1} (h:ZaC.p2 N c1_ A2 A1 F2 A3 A6 v4 A0 x1 x5=some r) (hE:En Tryz.f85 g0 w0 (ZaC.rs r) st R) (hc1 : ∀F2 A3 v4,c1_ (F2,A3,v4)=some r→At g0 w0 (ZaC.p1.S A2 A1 F2 A3 v4 A0 x1 st) J1):At g0 w0 (ZaC.p2.S A2 A1 F2 A3 A6 v4 A0 x1 x5 st) (XK zC R [cK ZaC.B [1,1,1,1,1,1,0,1,0,0,1,1,0,0,1,1],.b 1,cK ZaC.B [1,1,1,1,1,1,0,1,0,0,1,1,1],.h J1,.b 0,cK ZaC.B [1,1,1,1,1,1,1]]):=by
 unfold ZaC.p2 at h;refine Zbe h (fun c10 h7=>?_) (fun c10 h8=>?_)
 ·exact aq fol [rZ,cT,rZ,.s 6] [2,3,7,8,9,10,12,13,27,28,29] [3,8,12] c10 (ZaC.p3_ok h7 hE hc1)
 exact aq fol [rZ,cF,.s 6] [2,3,7,8,9,10,12,13,27,28,29] [3,8,12] c10 (ZaC.p3_ok h8 hE hc1)
theorem ZaC.p1_ok {A2 A1 F2 A3 v4 A0 x1 st r c1_ J1} (h:ZaC.p1 N A2 A1 A0 x1 c1_ (F2,A3,v4)=some r) (hE:En Tryz.f85 g0 w0 (ZaC.rs r) st R) (hc1 : ∀F2 A3 v4,c1_ (F2,A3,v4)=some r→At g0 w0 (ZaC.p1.S A2 A1 F2 A3 v4 A0 x1 st) J1):At g0 w0 (ZaC.p1.S A2 A1 F2 A3 v4 A0 x1 st) (XK zC R (cK ZaC.B [1,1,1,1,1,1,0,1,0,0] :: .h J1 :: [.b 0,cK ZaC.B [1,1,1,1,1,1,1]])):=by
 unfold ZaC.p1 at h;refine Zbe h (fun c5 h9=>?_) (fun c5 h10=>?_)
 ·obtain ⟨c6,h11⟩:=Zbd h9;obtain ⟨x5,c7,h12⟩:=Zev h11;let o2:List PS:=[rZ,cT,.r [(2,{oe:=x5.ls})]]
  refine Zbe h12 (fun c8 h13=>?_) (fun c8 h14=>?_)
  ·obtain ⟨c9,h15⟩:=Zbd h13;exact aq fol (o2++[rZ,.s 6]) [2,3,7,8,9,10,12,13,27,28,29] [3,8,12] (aO c5 c6 (oD c5) c7 c8 c8 c8 (aK c8 c9 c8 c8)) (ZaC.p2_ok h15 hE hc1)
  exact aq fol (o2++[.r [(4,wF),(5,wF),(6,wF),(7,wF),(8,wF),(9,yF)],.s 6]) [2,3,7,8,9,10,12,13,27,28,29] [3,8,12] (aO c5 c6 (oD c5) c7 c8 c8 c8 (aJ c8 c8 c8)) (ZaC.p2_ok h14 hE hc1)
 obtain ⟨x9,c14,h16⟩:=Zac h10;exact xS fol h16 hE [rZ,cF,.r [(9,q1 [oI x9])]] (aI c5 (ZcB.snd c14))
theorem ZaC.snd {A0:Zae} {A1:LL} {A2:Int} {r:Int} (h:ZaC N A0 A1 A2=some r):ZdD zC 85 [.agg A0.ls,.one (L.sl 68 A1),oI A2] (ZaC.rs r):=fun st=>
 sO ZaC.B Tryz.func85 fun g0 w0 R hE=>by
  unfold ZaC at h;refine Zbe h (fun c1 h17=>?_) (fun c1 h18=>?_)
  ·exact xS fol h17 hE [rZ,rZ,rZ,cT,rZ] c1
  obtain ⟨c2,c3,h19⟩:=ck2 h18;obtain ⟨x1,c4,h20⟩:=Zev h19;exact aq fol [rZ,rZ,rZ,cF,.r [(4,{oe:=x1.ls})],rZ,rZ,rZ] [2,3,7,8,9,10,27,28,29] [3,8] (aK c1 c2 c3 c4) (At.loop N (At.loopN (fun y:Int×Int×Int=>ZaC.p1.S A2 A1 y.1 y.2.1 y.2.2 A0 x1 st) (fun c J hc y h=>ZaC.p1_ok (F2:=y.1) (A3:=y.2.1) (v4:=y.2.2) h hE (fun F2 A3 v4=>hc (F2,A3,v4))) N (0,A0.Limit,0) h20))
def ZbN.B:Code:=Tryz.f115.body.getD .skip
def ZbN.rs (r:(List Int)):List CV:=[.agg [zH .u64 4 r]]
def ZbN.p1 (N:Nat) (A0_0:List Int) (c1_:(Int×(List Int))→Option (List Int)):(Int×(List Int))→Option (List Int):=fun (A1,A3)=> if (decide (A1≥0))=true then Zbj (Zan N A3 8) fun x4=> chk (0≤A1)<| chk (A1<32)<| c1_ (w64 (A1-1),zM x4 0 (v64 ((zF x4 0 0)+(v64 (zF A0_0 (zE A1) 0))))) else some A3
def ZbN (N:Nat) (A0_0:List Int):Option (List Int):= loopN (ZbN.p1 N A0_0) N (31,zB 4 0)
def ZbN.p1.S (A1:Int) (A0_0 A3:List Int) (st:LL):S:=mkS 21 [(1,sA 1),(2,sA 2),(3,sA 3),(4,sI A1)] [(1,.cells [zH .u8 32 A0_0]),(2,.cells [zH .u64 4 (zB 4 0)]),(3,.cells [zH .u64 4 A3])] st
theorem ZbN.p1_ok {A1 A0_0 A3 st r c1_ J1} (h:ZbN.p1 N A0_0 c1_ (A1,A3)=some r) (hE:En Tryz.f115 g0 w0 (ZbN.rs r) st R) (hc1 : ∀A1 A3,c1_ (A1,A3)=some r→At g0 w0 (ZbN.p1.S A1 A0_0 A3 st) J1):At g0 w0 (ZbN.p1.S A1 A0_0 A3 st) (XK zC R (cK ZbN.B [1,1,0,1,0,0] :: .h J1 :: [.b 0,cK ZbN.B [1,1,1]])):=by
 unfold ZbN.p1 at h;refine Zbe h (fun c5 h1=>?_) (fun c5 h2=>?_)
 ·obtain ⟨x4,c6,h3⟩:=Zac h1;obtain ⟨c7,c8,h4⟩:=ck2 h3;exact ZjD fol [rZ,cT,.r [(1,q1 [.agg [zH .u64 4 x4]])],.d {ds:=[],hv:=256,Hs:=[256]},rZ] [1,2,3,4] [1,2,3] (aJ c5 (Zan.snd c6) (ix 0 4 (aK c7 c8 (leI 0 0) (ltI 0 4)))) (hc1 (w64 (A1-1)) (zM x4 0 (v64 ((zF x4 0 0)+(v64 (zF A0_0 (zE A1) 0))))) h4)
 exact xS fol h2 hE [rZ,cF,rZ] c5
theorem ZbN.snd {A0_0:List Int} {r:(List Int)} (h:ZbN N A0_0=some r):ZdD zC 115 [.agg [zH .u8 32 A0_0]] (ZbN.rs r):=fun st=>
 sO ZbN.B Tryz.func115 fun g0 w0 R hE=>by
  unfold ZbN at h;exact aq fol [rZ,rZ,rZ] [1,2,3,4] [1,2,3] trivial (At.loop N (At.loopN (fun y:Int×(List Int)=>ZbN.p1.S y.1 A0_0 y.2 st) (fun c J hc y h=>ZbN.p1_ok (A1:=y.1) (A3:=y.2) h hE (fun A1 A3=>hc (A1,A3))) N (31,zB 4 0) h))
def ZdX.B:Code:=Tryz.f86.body.getD .skip
def ZdX.rs (r:Bool):List CV:=[oB r]
def ZdX (N:Nat) (A0:Zae) (A1:Zaj):Option Bool:= Zbj (ZcN N A1.Bits A0.Limit) fun (x1,x2)=> if x2=true then Zbj (Zdj N A1) fun x3=> Zbj (ZbN N x3) fun x4=> Zbj (Zby N x1 x4) fun x5=> some (!x5) else some false
theorem ZdX.snd {A0:Zae} {A1:Zaj} {r:Bool} (h:ZdX N A0 A1=some r):ZdD zC 86 [.agg A0.ls,.agg A1.ls] (ZdX.rs r):=fun st=>
 sO ZdX.B Tryz.func86 fun g0 w0 R hE=>by
  unfold ZdX at h;obtain ⟨⟨x1,x2⟩,c1,h1⟩:=Zac h;let o1:List PS:=[rZ,.r [(4,q1 [.agg [zH .u64 4 x1],oB x2])]]
  refine Zbe h1 (fun c2 h2=>?_) (fun c2 h3=>?_)
  ·obtain ⟨x3,c3,h4⟩:=Zac h2;obtain ⟨x4,c4,h5⟩:=Zac h4;obtain ⟨x5,c5,h6⟩:=Zac h5;exact xSd fol h6 hE (o1++[.d {ds:=[(4,q1 [.agg [zH .u8 32 x3]]),(5,q1 [.agg [zH .u64 4 x4]]),(6,q1 [oB x5])],hv:=0,Hs:=[]}]) (aO (ZcN.snd c1) c2 c2 c2 (Zdj.snd c3) c2 (ZbN.snd c4) (aK c2 (Zby.snd c5) c2 c2))
  exact xSd fol h3 hE (o1++[.d {ds:=[(2,wF),(3,wF),(4,wF),(5,wF),(6,wF),(7,wF),(8,yF)],hv:=0,Hs:=[]}]) (aO (ZcN.snd c1) c2 c2 c2 c2 c2 c2 c2)
def ZcC.B:Code:=Tryz.f88.body.getD .skip
def ZcC.rs (r:LL):List CV:=[.row true 1 r]
def ZcC.p1 (N:Nat) (A0:LL) (c1_:(LL×Int)→Option LL):(LL×Int)→Option LL:=fun (A3,A1)=> if (decide (A1≥0))=true then if (decide ((len A3)<11))=true then chk (0≤A1)<| chk (A1<(len A0))<| ZcX (A0[zE A1]?) ZdP fun x4=> chk (zK (A3++[[zJ .i64 x4]])*8≤140737488355328)<| c1_ (A3++[[zJ .i64 x4]],w64 (A1-1)) else some A3 else some A3
def ZcC (N:Nat) (A0:LL):Option LL:= loopN (ZcC.p1 N A0) N ([],w64 ((len A0)-1))
def ZcC.p1.S (A0 A3:LL) (A1:Int) (st:LL):S:=mkS 25 [(0,sV 1 A0),(3,.one (.h (.row 3 0) 1 0 (zK A3))),(4,sI A1)] [(3,.row 0 true 1 A3)] st
theorem ZcC.p1_ok {A0 A3 A1 st r c1_ J1} (h:ZcC.p1 N A0 c1_ (A3,A1)=some r) (hE:En Tryz.f88 g0 w0 (ZcC.rs r) st R) (hc1 : ∀A3 A1,c1_ (A3,A1)=some r→At g0 w0 (ZcC.p1.S A0 A3 A1 st) J1):At g0 w0 (ZcC.p1.S A0 A3 A1 st) (XK zC R (cK ZcC.B [1,1,0,1,0,0] :: .h J1 :: [.b 0,cK ZcC.B [1,1,1]])):=by
 unfold ZcC.p1 at h;refine Zbe h (fun c6 h1=>?_) (fun c6 h2=>?_)
 ·refine Zbe h1 (fun c7 h3=>?_) (fun c7 h4=>?_)
  ·obtain ⟨c8,c9,h5⟩:=ck2 h3;obtain ⟨x4,c10,h6⟩:=Zdh h5;obtain ⟨c11,h7⟩:=Zbd h6;exact an fol [rZ,cT,.r [(4,{oe:=[zJ .i64 x4]})],rZ] [0,3,4] [3] (aO c6 c6 c6 c6 c7 c8 c9 (aM c10 z0 (eN (zK A3)) z0 (eN (1)) c11)) (hc1 (A3++[[zJ .i64 x4]]) (w64 (A1-1)) h7)
  obtain rfl:=Zad h4;exact af fol hE [rZ,cF,rZ] [] 0 [0] (aN c6 c6 c6 c6 c7 z0 (eN (zK A3)))
 obtain rfl:=Zad h2;exact af fol hE [.r [(3,wF),(4,wF),(5,wF),(6,yF)],cF,rZ] [] 0 [0] (aN c6 c6 c6 c6 eF z0 (eN (zK A3)))
theorem ZcC.snd {A0:LL} {r:LL} (h:ZcC N A0=some r):ZdD zC 88 [.one (L.sl 1 A0)] (ZcC.rs r):=fun st=>
 sO ZcC.B Tryz.func88 fun g0 w0 R hE=>by
  unfold ZcC at h;exact aq fol [.r [(0,{m:=2})],.r [(0,{m:=1})],rZ] [0,3,4] [3] trivial (At.loop N (At.loopN (fun y:LL×Int=>ZcC.p1.S A0 y.1 y.2 st) (fun c J hc y h=>ZcC.p1_ok (A3:=y.1) (A1:=y.2) h hE (fun A3 A1=>hc (A3,A1))) N ([],w64 ((len A0)-1)) h))
def ZaM.B:Code:=Tryz.f87.body.getD .skip
def ZaM.rs (r:Int):List CV:=[oI r]
def ZaM.p4 (N:Nat) (c2_:(Int×Int×Int)→Option Int) (c1_:Int→Option Int) (A0:LL) (A1 A7 A10 A4:Int):Option Int:= c2_ (A7,A10,w64 (A4+1))
def ZaM.p3 (N:Nat) (c2_:(Int×Int×Int)→Option Int) (c1_:Int→Option Int) (A0:LL) (A1 A7 A3 A4:Int):Option Int:= chk (0≤A4)<| chk (A4<(len A0))<| ZcX (A0[zE A4]?) ZdP fun x8=> chk (0≤A1)<| chk (A1<(len A0))<| ZcX (A0[zE A1]?) ZdP fun x9=> if (x8==x9)=true then ZaM.p4 N c2_ c1_ A0 A1 A7 (w64 (A3+1)) A4 else ZaM.p4 N c2_ c1_ A0 A1 A7 A3 A4
def ZaM.p2 (N:Nat) (c1_:Int→Option Int) (A0:LL) (A1:Int) (c2_:(Int×Int×Int)→Option Int):(Int×Int×Int)→Option Int:=fun (A2,A3,A4)=> if (decide (A4<(if (11:Int)<(len A0) then 11 else (len A0))))=true then chk (0≤A4)<| chk (A4<(len A0))<| ZcX (A0[zE A4]?) ZdP fun x5=> chk (0≤A1)<| chk (A1<(len A0))<| ZcX (A0[zE A1]?) ZdP fun x6=> if (decide (x5<x6))=true then ZaM.p3 N c2_ c1_ A0 A1 (w64 (A2+1)) A3 A4 else ZaM.p3 N c2_ c1_ A0 A1 A2 A3 A4 else if (decide (A2≤(w64 (zR (if (11:Int)<(len A0) then 11 else (len A0)) 2))))=true then if (decide ((w64 (zR (if (11:Int)<(len A0) then 11 else (len A0)) 2))<(w64 (A2+A3))))=true then chk (0≤A1)<| chk (A1<(len A0))<| ZcX (A0[zE A1]?) ZdP fun x11=> some x11 else c1_ (w64 (A1+1)) else c1_ (w64 (A1+1))
def ZaM.p1 (N:Nat) (A0:LL) (c1_:Int→Option Int):Int→Option Int:=fun A1=> if (decide (A1<(if (11:Int)<(len A0) then 11 else (len A0))))=true then loopN (ZaM.p2 N c1_ A0 A1) N (0,0,0) else some 0
def ZaM (N:Nat) (A0:LL):Option Int:= loopN (ZaM.p1 N A0) N 0
def ZaM.p4.S (A0:LL) (A1 A7 A10 A4:Int) (st:LL):S:=mkS 59 [(0,sV 1 A0),(3,sI (if (11:Int)<(len A0) then 11 else (len A0))),(4,sI A1),(5,sI A7),(6,sI A10),(7,sI A4)] [] st
def ZaM.p3.S (A0:LL) (A1 A7 A3 A4:Int) (st:LL):S:=mkS 59 [(0,sV 1 A0),(3,sI (if (11:Int)<(len A0) then 11 else (len A0))),(4,sI A1),(5,sI A7),(6,sI A3),(7,sI A4)] [] st
def ZaM.p2.S (A0:LL) (A1 A2 A3 A4:Int) (st:LL):S:=mkS 59 [(0,sV 1 A0),(3,sI (if (11:Int)<(len A0) then 11 else (len A0))),(4,sI A1),(5,sI A2),(6,sI A3),(7,sI A4)] [] st
def ZaM.p1.S (A0:LL) (A1:Int) (st:LL):S:=mkS 59 [(0,sV 1 A0),(3,sI (if (11:Int)<(len A0) then 11 else (len A0))),(4,sI A1)] [] st
theorem ZaM.p4_ok {A0 A1 A7 A10 A4 st r c2_ c1_ J2 J1} (h:ZaM.p4 N c2_ c1_ A0 A1 A7 A10 A4=some r) (hE:En Tryz.f87 g0 w0 (ZaM.rs r) st R) (hc2 : ∀A2 A3 A4,c2_ (A2,A3,A4)=some r→At g0 w0 (ZaM.p2.S A0 A1 A2 A3 A4 st) J2) (hc1 : ∀A1,c1_ A1=some r→At g0 w0 (ZaM.p1.S A0 A1 st) J1):At g0 w0 (ZaM.p4.S A0 A1 A7 A10 A4 st) (XK zC R [cK ZaM.B [1,1,0,1,0,0,1,0,0,1,1,0,1,0,0,1,1],.h J2,.b 2,cK ZaM.B [1,1,0,1,0,0,1,0,0,1,1,1],.b 1,cK ZaM.B [1,1,0,1,0,0,1,1],.h J1,.b 0,cK ZaM.B [1,1,1]]):=by
 unfold ZaM.p4 at h;exact an fol [rZ] [0,3,4,5,6,7] [] trivial (hc2 A7 A10 (w64 (A4+1)) h)
theorem ZaM.p3_ok {A0 A1 A7 A3 A4 st r c2_ c1_ J2 J1} (h:ZaM.p3 N c2_ c1_ A0 A1 A7 A3 A4=some r) (hE:En Tryz.f87 g0 w0 (ZaM.rs r) st R) (hc2 : ∀A2 A3 A4,c2_ (A2,A3,A4)=some r→At g0 w0 (ZaM.p2.S A0 A1 A2 A3 A4 st) J2) (hc1 : ∀A1,c1_ A1=some r→At g0 w0 (ZaM.p1.S A0 A1 st) J1):At g0 w0 (ZaM.p3.S A0 A1 A7 A3 A4 st) (XK zC R [cK ZaM.B [1,1,0,1,0,0,1,0,0,1,1,0,1,0,0,1,0,0,1],.b 3,cK ZaM.B [1,1,0,1,0,0,1,0,0,1,1,0,1,0,0,1,1],.h J2,.b 2,cK ZaM.B [1,1,0,1,0,0,1,0,0,1,1,1],.b 1,cK ZaM.B [1,1,0,1,0,0,1,1],.h J1,.b 0,cK ZaM.B [1,1,1]]):=by
 unfold ZaM.p3 at h;obtain ⟨c10,c11,h1⟩:=ck2 h;obtain ⟨x8,c12,h2⟩:=Zdh h1;obtain ⟨c13,c14,h3⟩:=ck2 h2;obtain ⟨x9,c15,h4⟩:=Zdh h3;let o1:List PS:=[.d {ds:=[(3,{oe:=[zJ .i64 x8]}),(7,{oe:=[zJ .i64 x9]})],hv:=0,Hs:=[]}]
 refine Zbe h4 (fun c16 h5=>?_) (fun c16 h6=>?_)
 ·exact aqd fol (o1++[cT,rZ,.s 9]) [0,3,4,5,6,7] [] (aN c10 c11 c12 c13 c14 c15 c16) (ZaM.p4_ok h5 hE hc2 hc1)
 exact aqd fol (o1++[cF,.s 9]) [0,3,4,5,6,7] [] (aN c10 c11 c12 c13 c14 c15 c16) (ZaM.p4_ok h6 hE hc2 hc1)
theorem ZaM.p2_ok {A0 A1 A2 A3 A4 st r c1_ c2_ J1 J2} (h:ZaM.p2 N c1_ A0 A1 c2_ (A2,A3,A4)=some r) (hE:En Tryz.f87 g0 w0 (ZaM.rs r) st R) (hc1 : ∀A1,c1_ A1=some r→At g0 w0 (ZaM.p1.S A0 A1 st) J1) (hc2 : ∀A2 A3 A4,c2_ (A2,A3,A4)=some r→At g0 w0 (ZaM.p2.S A0 A1 A2 A3 A4 st) J2):At g0 w0 (ZaM.p2.S A0 A1 A2 A3 A4 st) (XK zC R (cK ZaM.B [1,1,0,1,0,0,1,0,0,1,1,0,1,0,0] :: .h J2 :: [.b 2,cK ZaM.B [1,1,0,1,0,0,1,0,0,1,1,1],.b 1,cK ZaM.B [1,1,0,1,0,0,1,1],.h J1,.b 0,cK ZaM.B [1,1,1]])):=by
 unfold ZaM.p2 at h;refine Zbe h (fun c2 h7=>?_) (fun c2 h8=>?_)
 ·obtain ⟨c3,c4,h9⟩:=ck2 h7;obtain ⟨x5,c5,h10⟩:=Zdh h9;obtain ⟨c6,c7,h11⟩:=ck2 h10;obtain ⟨x6,c8,h12⟩:=Zdh h11;let o2:List PS:=[rZ,cT,.d {ds:=[(3,{oe:=[zJ .i64 x5]}),(7,{oe:=[zJ .i64 x6]})],hv:=0,Hs:=[]}]
  refine Zbe h12 (fun c9 h13=>?_) (fun c9 h14=>?_)
  ·exact aqd fol (o2++[cT,rZ,.s 11]) [0,3,4,5,6,7] [] (aO c2 c3 c4 c5 c6 c7 c8 c9) (ZaM.p3_ok h13 hE hc2 hc1)
  exact aqd fol (o2++[cF,.s 11]) [0,3,4,5,6,7] [] (aO c2 c3 c4 c5 c6 c7 c8 c9) (ZaM.p3_ok h14 hE hc2 hc1)
 refine Zbe h8 (fun c17 h15=>?_) (fun c17 h16=>?_)
 ·have t1 {Q:Prop} (q:Q):=aO c2 (neI 2) c17 c17 (neI 2) c17 c17 (aK c17 c17 c17 q);refine Zbe h15 (fun c18 h17=>?_) (fun c18 h18=>?_)
  ·obtain ⟨c19,c20,h19⟩:=ck2 h17;obtain ⟨x11,c21,h20⟩:=Zdh h19;exact xS fol h20 hE [rZ,cF,rZ,cT,.r [(3,{oe:=[zJ .i64 x11]})]] (t1 (aK c18 c19 c20 c21))
  exact an fol [rZ,cF,rZ,cF,rZ] [0,3,4] [] (t1 c18) (hc1 (w64 (A1+1)) h18)
 exact an fol [rZ,cF,.r [(5,wF),(6,wF),(7,wF),(8,wF),(9,wF),(10,wF),(11,yF)],cF,rZ] [0,3,4] [] (aO c2 (neI 2) c17 c17 c17 c17 c17 (aJ c17 c17 eF)) (hc1 (w64 (A1+1)) h16)
theorem ZaM.p1_ok {A0 A1 st r c1_ J1} (h:ZaM.p1 N A0 c1_ A1=some r) (hE:En Tryz.f87 g0 w0 (ZaM.rs r) st R) (hc1 : ∀A1,c1_ A1=some r→At g0 w0 (ZaM.p1.S A0 A1 st) J1):At g0 w0 (ZaM.p1.S A0 A1 st) (XK zC R (cK ZaM.B [1,1,0,1,0,0] :: .h J1 :: [.b 0,cK ZaM.B [1,1,1]])):=by
 unfold ZaM.p1 at h;refine Zbe h (fun c1 h21=>?_) (fun c1 h22=>?_)
 ·exact aq fol [rZ,cT,rZ,rZ,rZ] [0,3,4,5,6,7] [] c1 (At.loop N (At.loopN (fun y:Int×Int×Int=>ZaM.p2.S A0 A1 y.1 y.2.1 y.2.2 st) (fun c J hc y h=>ZaM.p2_ok (A2:=y.1) (A3:=y.2.1) (A4:=y.2.2) h hE hc1 (fun A2 A3 A4=>hc (A2,A3,A4))) N (0,0,0) h21))
 exact xS fol h22 hE [rZ,cF,rZ] c1
theorem ZaM.snd {A0:LL} {r:Int} (h:ZaM N A0=some r):ZdD zC 87 [.one (L.sl 1 A0)] (ZaM.rs r):=fun st=>
 sO ZaM.B Tryz.func87 fun g0 w0 R hE=>by
  unfold ZaM at h;exact aq fol [rZ,rZ,rZ] [0,3,4] [] trivial (At.loop N (At.loopN (fun y:Int=>ZaM.p1.S A0 y st) (fun c J hc y h=>ZaM.p1_ok h hE (fun A1=>hc A1)) N 0 h))
def Zas.B:Code:=Tryz.f60.body.getD .skip
def Zas.rs (r:Int):List CV:=[oI r]
def Zas.p6 (N:Nat) (A1:LL) (A0:Zae) (h_2:Zaj) (c6_:Int→Option Int):Int→Option Int:=fun v21=> if (decide (v21<(len A0.Checks)))=true then chk (0≤v21)<| ZcX (A0.Checks[zE v21]?) Zew fun x22=> if (x22.Height==(len A1))=true then Zbj (Zdj N h_2) fun x23=> if (!(x22.Id==x23))=true then some 8 else c6_ (w64 (v21+1)) else c6_ (w64 (v21+1)) else some 0
def Zas.p5 (N:Nat) (A1:LL) (A0:Zae) (h_2:Zaj) (c5_:Int→Option Int):Int→Option Int:=fun v19=> if (decide (v19<(len A0.Gates)))=true then chk (0≤v19)<| ZcX (A0.Gates[zE v19]?) ZeI fun x20=> if (decide (x20.Height≤(len A1)))=true then if (decide (h_2.Version<x20.Version))=true then some 7 else c5_ (w64 (v19+1)) else c5_ (w64 (v19+1)) else loopN (Zas.p6 N A1 A0 h_2) N 0
def Zas.p4 (N:Nat) (A1:LL) (A0:Zae) (h_2:Zaj):Option Int:= loopN (Zas.p5 N A1 A0 h_2) N 0
def Zas.p3 (N:Nat) (A3:Int) (A1:LL) (A0:Zae) (h_2:Zaj):Option Int:= if (decide (A0.Future<0))=true then some 6 else if (decide (h_2.Time>A3))=true then if (decide ((w64 (h_2.Time-A3))>A0.Future))=true then some 6 else Zas.p4 N A1 A0 h_2 else Zas.p4 N A1 A0 h_2
def Zas.p2 (N:Nat) (A3:Int) (A1:LL) (A0:Zae) (h_2:Zaj) (c2_:(LL×Int)→Option Int):(LL×Int)→Option Int:=fun (A15,v6)=> if (decide (v6<(len A1)))=true then chk (0≤v6)<| ZcX (A1[zE v6]?) Zec fun x16=> chk (zK (A15++[[zJ .i64 x16.Time]])*8≤140737488355328)<| c2_ (A15++[[zJ .i64 x16.Time]],w64 (v6+1)) else if (decide ((len A1)>0))=true then Zbj (ZcC N A15) fun x17=> chk (Zex x17=true)<| Zbj (ZaM N x17) fun x18=> if (decide (h_2.Time≤x18))=true then some 5 else Zas.p3 N A3 A1 A0 h_2 else Zas.p3 N A3 A1 A0 h_2
def Zas.p1 (N:Nat) (A1:LL) (A3:Int) (A0:Zae) (h_2:Zaj):Option Int:= Zbj (ZaC N A0 A1 h_2.Time) fun x4=> if (h_2.Bits != x4)=true then some 3 else Zbj (ZdX N A0 h_2) fun x5=> if (!x5)=true then some 4 else loopN (Zas.p2 N A3 A1 A0 h_2) N ([],0)
def Zas (N:Nat) (A0:Zae) (A1:LL) (h_2:Zaj) (A3:Int):Option Int:= Zbj (Zdc N h_2) fun x1=> if (!x1)=true then some 1 else if (decide ((len A1)>0))=true then chk (0≤(w64 ((len A1)-1)))<| chk ((w64 ((len A1)-1))<(len A1))<| ZcX (A1[zE (w64 ((len A1)-1))]?) Zec fun x2=> Zbj (Zdj N x2) fun x3=> if (!(h_2.Prev==x3))=true then some 2 else Zas.p1 N A1 A3 A0 h_2 else Zas.p1 N A1 A3 A0 h_2
def Zas.p6.S (A1:LL) (A0:Zae) (v21:Int) (h_2:Zaj) (st:LL):S:=mkS 125 [(6,sA 6),(9,sI (len A1)),(107,sV 33 A0.Checks),(108,sI (len A0.Checks)),(109,sI v21)] [(6,.cells h_2.ls)] st
def Zas.p5.S (A1:LL) (A0:Zae) (v19:Int) (h_2:Zaj) (st:LL):S:=mkS 125 [(4,sA 4),(6,sA 6),(9,sI (len A1)),(88,sV 2 A0.Gates),(89,sI (len A0.Gates)),(90,sI v19)] [(4,.cells A0.ls),(6,.cells h_2.ls)] st
def Zas.p4.S (A1:LL) (A0:Zae) (h_2:Zaj) (st:LL):S:=mkS 125 [(4,sA 4),(6,sA 6),(9,sI (len A1))] [(4,.cells A0.ls),(6,.cells h_2.ls)] st
def Zas.p3.S (A3:Int) (A1:LL) (A0:Zae) (h_2:Zaj) (st:LL):S:=mkS 125 [(3,sI A3),(4,sA 4),(6,sA 6),(9,sI (len A1))] [(4,.cells A0.ls),(6,.cells h_2.ls)] st
def Zas.p2.S (A3:Int) (A1 A15:LL) (v6:Int) (A0:Zae) (h_2:Zaj) (st:LL):S:=mkS 125 [(3,sI A3),(4,sA 4),(6,sA 6),(9,sI (len A1)),(10,.one (.h (.row 10 0) 1 0 (zK A15))),(47,sV 68 A1),(48,sI (len A1)),(49,sI v6)] [(4,.cells A0.ls),(6,.cells h_2.ls),(10,.row 0 true 1 A15)] st
def Zas.p1.S (A1:LL) (A3:Int) (A0:Zae) (h_2:Zaj) (st:LL):S:=mkS 125 [(1,sV 68 A1),(3,sI A3),(4,sA 4),(6,sA 6),(9,sI (len A1))] [(4,.cells A0.ls),(6,.cells h_2.ls)] st
theorem Zas.p6_ok {A1 A0 v21 h_2 st r c6_ J6} (h:Zas.p6 N A1 A0 h_2 c6_ v21=some r) (hE:En Tryz.f60 g0 w0 (Zas.rs r) st R) (hc6 : ∀v21,c6_ v21=some r→At g0 w0 (Zas.p6.S A1 A0 v21 h_2 st) J6):At g0 w0 (Zas.p6.S A1 A0 v21 h_2 st) (XK zC R (cK Zas.B [1,1,1,1,1,1,1,1,1,1,1,0,1,0,0] :: .h J6 :: [.b 4,cK Zas.B [1,1,1,1,1,1,1,1,1,1,1,1]])):=by
 unfold Zas.p6 at h;refine Zbe h (fun c53 h1=>?_) (fun c53 h2=>?_)
 ·obtain ⟨c54,h3⟩:=Zbd h1;obtain ⟨x22,c55,h4⟩:=ZeE h3;let o1:List PS:=[rZ,cT,.r [(1,{oe:=x22.ls})]]
  have t1 {Q:Prop} (q:Q):=aL c53 c54 (oD c53) c55 q;refine Zbe h4 (fun c56 h5=>?_) (fun c56 h6=>?_)
  ·obtain ⟨x23,c57,h7⟩:=Zac h5;let o2:List PS:=o1++[.d {ds:=[(8,q1 [.agg [zH .u8 32 x23]])],hv:=0,Hs:=[]}]
   have t2 {Q:Prop} (q:Q):=t1 (aO c56 c56 c56 c56 (Zdj.snd c57) c56 c56 q);refine Zbe h7 (fun c58 h8=>?_) (fun c58 h9=>?_)
   ·exact xSd fol h8 hE (o2++[cT,rZ]) (t2 c58)
   exact ZjD fol (o2++[cF,rZ]) [6,9,107,108,109] [6] (t2 c58) (hc6 (w64 (v21+1)) h9)
  exact ZjD fol (o1++[.d {ds:=[(5,wF),(6,wF),(7,wF),(8,wF),(9,wF),(10,yF)],hv:=0,Hs:=[]},cF,rZ]) [6,9,107,108,109] [6] (t1 (aN c56 c56 c56 c56 c56 c56 eF)) (hc6 (w64 (v21+1)) h6)
 exact xS fol h2 hE [rZ,cF,rZ] c53
theorem Zas.p5_ok {A1 A0 v19 h_2 st r c5_ J5} (h:Zas.p5 N A1 A0 h_2 c5_ v19=some r) (hE:En Tryz.f60 g0 w0 (Zas.rs r) st R) (hc5 : ∀v19,c5_ v19=some r→At g0 w0 (Zas.p5.S A1 A0 v19 h_2 st) J5):At g0 w0 (Zas.p5.S A1 A0 v19 h_2 st) (XK zC R (cK Zas.B [1,1,1,1,1,1,1,1,1,1,0,1,0,0] :: .h J5 :: [.b 2,cK Zas.B [1,1,1,1,1,1,1,1,1,1,1]])):=by
 unfold Zas.p5 at h;refine Zbe h (fun c48 h10=>?_) (fun c48 h11=>?_)
 ·obtain ⟨c49,h12⟩:=Zbd h10;obtain ⟨x20,c50,h13⟩:=ZeN h12;let o3:List PS:=[rZ,cT,.r [(1,{oe:=x20.ls})]]
  have t3 {Q:Prop} (q:Q):=aL c48 c49 (oD c48) c50 q;refine Zbe h13 (fun c51 h14=>?_) (fun c51 h15=>?_)
  ·refine Zbe h14 (fun c52 h16=>?_) (fun c52 h17=>?_)
   ·exact xS fol h16 hE (o3++[rZ,cT,rZ]) (t3 (aN c51 c51 c51 c51 c51 c51 c52))
   exact an fol (o3++[rZ,cF,rZ]) [4,6,9,88,89,90] [4,6] (t3 (aN c51 c51 c51 c51 c51 c51 c52)) (hc5 (w64 (v19+1)) h17)
  exact an fol (o3++[.r [(5,wF),(6,wF),(7,wF),(8,wF),(9,wF),(10,yF)],cF,rZ]) [4,6,9,88,89,90] [4,6] (t3 (aN c51 c51 c51 c51 c51 c51 eF)) (hc5 (w64 (v19+1)) h15)
 exact aq fol [rZ,cF,rZ] [6,9,107,108,109] [6] c48 (At.loop N (At.loopN (fun y:Int=>Zas.p6.S A1 A0 y h_2 st) (fun c J hc y h=>Zas.p6_ok h hE (fun v21=>hc v21)) N 0 h11))
theorem Zas.p4_ok {A1 A0 h_2 st r} (h:Zas.p4 N A1 A0 h_2=some r) (hE:En Tryz.f60 g0 w0 (Zas.rs r) st R):At g0 w0 (Zas.p4.S A1 A0 h_2 st) (XK zC R [cK Zas.B [1,1,1,1,1,1,1,1,1,1]]):=by
 unfold Zas.p4 at h;exact aq fol [rZ] [4,6,9,88,89,90] [4,6] trivial (At.loop N (At.loopN (fun y:Int=>Zas.p5.S A1 A0 y h_2 st) (fun c J hc y h=>Zas.p5_ok h hE (fun v19=>hc v19)) N 0 h))
theorem Zas.p3_ok {A3 A1 A0 h_2 st r} (h:Zas.p3 N A3 A1 A0 h_2=some r) (hE:En Tryz.f60 g0 w0 (Zas.rs r) st R):At g0 w0 (Zas.p3.S A3 A1 A0 h_2 st) (XK zC R [cK Zas.B [1,1,1,1,1,1,1,1,1]]):=by
 unfold Zas.p3 at h;refine Zbe h (fun c45 h18=>?_) (fun c45 h19=>?_)
 ·exact xS fol h18 hE [.r [(4,wF),(5,wF),(6,wF),(7,wF),(8,wF),(16,wF)],cT,rZ] (aO c45 c45 c45 c45 c45 c45 c45 eT)
 have t4 {Q:Prop} (q:Q):=aM c45 c45 c45 c45 c45 q;refine Zbe h19 (fun c46 h20=>?_) (fun c46 h21=>?_)
 ·have t5 {Q:Prop} (q:Q):=t4 (aO c46 c46 c46 c46 c46 c46 c46 (aK c45 c46 c45 q));refine Zbe h20 (fun c47 h22=>?_) (fun c47 h23=>?_)
  ·exact xS fol h22 hE [.r [(17,yF)],cT,rZ] (t5 c47)
  exact aq fol [.r [(17,yF)],cF,.s 1] [4,6,9] [4,6] (t5 c47) (Zas.p4_ok h23 hE)
 exact aq fol [.r [(9,wF),(10,wF),(11,wF),(12,wF),(13,wF),(14,wF),(15,wF),(16,yF),(17,yF)],cF,.s 1] [4,6,9] [4,6] (t4 (aO c46 c46 c46 c46 c46 c46 c46 (aK c45 c46 c45 eF))) (Zas.p4_ok h21 hE)
theorem Zas.p2_ok {A3 A1 A15 v6 A0 h_2 st r c2_ J2} (h:Zas.p2 N A3 A1 A0 h_2 c2_ (A15,v6)=some r) (hE:En Tryz.f60 g0 w0 (Zas.rs r) st R) (hc2 : ∀A15 v6,c2_ (A15,v6)=some r→At g0 w0 (Zas.p2.S A3 A1 A15 v6 A0 h_2 st) J2):At g0 w0 (Zas.p2.S A3 A1 A15 v6 A0 h_2 st) (XK zC R (cK Zas.B [1,1,1,1,1,1,1,0,1,0,0] :: .h J2 :: [.b 0,cK Zas.B [1,1,1,1,1,1,1,1]])):=by
 unfold Zas.p2 at h;refine Zbe h (fun c36 h24=>?_) (fun c36 h25=>?_)
 ·obtain ⟨c37,h26⟩:=Zbd h24;obtain ⟨x16,c38,h27⟩:=Zev h26;obtain ⟨c39,h28⟩:=Zbd h27;exact an fol [rZ,cT,.r [(1,{oe:=x16.ls})],rZ,rZ] [3,4,6,9,10,47,48,49] [4,6,10] (aO c36 c37 (oD c36) c38 z0 (eN (zK A15)) z0 (aI (eN (1)) c39)) (hc2 (A15++[[zJ .i64 x16.Time]]) (w64 (v6+1)) h28)
 refine Zbe h25 (fun c40 h29=>?_) (fun c40 h30=>?_)
 ·obtain ⟨x17,c41,h31⟩:=Zac h29;obtain ⟨c42,h32⟩:=Zbd h31;obtain ⟨x18,c43,h33⟩:=Zac h32;let o4:List PS:=[rZ,cF,.d {ds:=[(6,{rs:=[.row true 1 x17],ns:=[65],m:=2}),(7,{rs:=[oI x18],m:=2})],hv:=64,Hs:=[64]}]
  have t6 {Q:Prop} (q:Q):=aO c36 c40 c40 c40 c40 c40 c40 (aO z0 (eN (zK A15)) c42 (ZcC.snd c41) c40 z0 (eN (zK x17)) (aK (ZaM.snd c43) c40 c40 q));refine Zbe h33 (fun c44 h34=>?_) (fun c44 h35=>?_)
  ·exact xSd fol h34 hE (o4++[cT,rZ]) (t6 c44)
  exact aqd fol (o4++[cF,.s 1]) [3,4,6,9] [4,6] (t6 c44) (Zas.p3_ok h35 hE)
 exact aqd fol [rZ,cF,.d {ds:=[(3,wF),(4,wF),(5,wF),(6,wF),(7,wF),(8,wF),(9,yF)],hv:=0,Hs:=[]},cF,.s 1] [3,4,6,9] [4,6] (aO c36 c40 c40 c40 c40 c40 c40 (aI c40 eF)) (Zas.p3_ok h30 hE)
theorem Zas.p1_ok {A1 A3 A0 h_2 st r} (h:Zas.p1 N A1 A3 A0 h_2=some r) (hE:En Tryz.f60 g0 w0 (Zas.rs r) st R):At g0 w0 (Zas.p1.S A1 A3 A0 h_2 st) (XK zC R [cK Zas.B [1,1,1,1]]):=by
 unfold Zas.p1 at h;obtain ⟨x4,c9,h36⟩:=Zac h;let o5:List PS:=[.d {ds:=[(6,q1 [oI x4])],hv:=0,Hs:=[]}]
 have t7 {Q:Prop} (q:Q):=aI (ZaC.snd c9) q;refine Zbe h36 (fun c10 h37=>?_) (fun c10 h38=>?_)
 ·exact xSd fol h37 hE (o5++[cT,rZ]) (t7 c10)
 obtain ⟨x5,c11,h39⟩:=Zac h38;let o6:List PS:=o5++[cF,.r [(2,q1 [oB x5])]]
 refine Zbe h39 (fun c12 h40=>?_) (fun c12 h41=>?_)
 ·exact xSd fol h40 hE (o6++[cT,rZ]) (t7 (aJ c10 (ZdX.snd c11) c12))
 exact aqd fol (o6++[cF,.r [(0,{m:=1})],rZ]) [3,4,6,9,10,47,48,49] [4,6,10] (t7 (aJ c10 (ZdX.snd c11) c12)) (At.loop N (At.loopN (fun y:LL×Int=>Zas.p2.S A3 A1 y.1 y.2 A0 h_2 st) (fun c J hc y h=>Zas.p2_ok (A15:=y.1) (v6:=y.2) h hE (fun A15 v6=>hc (A15,v6))) N ([],0) h41))
theorem Zas.snd {A0:Zae} {A1:LL} {h_2:Zaj} {A3:Int} {r:Int} (h:Zas N A0 A1 h_2 A3=some r):ZdD zC 60 [.agg A0.ls,.one (L.sl 68 A1),.agg h_2.ls,oI A3] (Zas.rs r):=fun st=>
 sO Zas.B Tryz.func60 fun g0 w0 R hE=>by
  unfold Zas at h;obtain ⟨x1,c1,h42⟩:=Zac h;let o7:List PS:=[rZ,rZ,.r [(1,q1 [oB x1])]]
  have t8 {Q:Prop} (q:Q):=aI (Zdc.snd c1) q;refine Zbe h42 (fun c2 h43=>?_) (fun c2 h44=>?_)
  ·exact xS fol h43 hE (o7++[cT,rZ]) (t8 c2)
  refine Zbe h44 (fun c3 h45=>?_) (fun c3 h46=>?_)
  ·obtain ⟨c4,c5,h47⟩:=ck2 h45;obtain ⟨x2,c6,h48⟩:=Zev h47;obtain ⟨x3,c7,h49⟩:=Zac h48;let o8:List PS:=o7++[cF,.d {ds:=[(9,{oe:=x2.ls}),(10,q1 [.agg [zH .u8 32 x3]])],hv:=0,Hs:=[]}]
   have t9 {Q:Prop} (q:Q):=t8 (aO c2 c3 c3 c3 c3 c3 c3 (aO c4 c5 c3 c6 c3 (Zdj.snd c7) c3 (aI c3 q)));refine Zbe h49 (fun c8 h50=>?_) (fun c8 h51=>?_)
   ·exact xSd fol h50 hE (o8++[cT,rZ]) (t9 c8)
   exact aqd fol (o8++[cF,.s 1]) [1,3,4,6,9] [4,6] (t9 c8) (Zas.p1_ok h51 hE)
  exact aqd fol (o7++[cF,.d {ds:=[(3,wF),(4,wF),(5,wF),(6,wF),(7,wF),(8,wF),(9,wF),(10,wF),(11,wF),(12,yF)],hv:=0,Hs:=[]},cF,.s 1]) [1,3,4,6,9] [4,6] (t8 (aO c2 c3 c3 c3 c3 c3 c3 (aL c3 c3 c3 c3 eF))) (Zas.p1_ok h46 hE)
def Zbf.B:Code:=Tryz.f59.body.getD .skip
def Zbf.rs (r:Int×LL):List CV:=[oI r.1]
def Zbf.p1 (N:Nat) (i1:Nat) (x2:Zab) (A1_0:List Int) (st:LL) (c1_:Int→Option (Int×LL)):Int→Option (Int×LL):=fun v3=> if (decide (v3<(len x2.Ids)))=true then chk (0≤v3)<| ZcX (st[i1]?) ZbR fun x4=> ZcX (x4.Ids[0+(zE v3)]?) Zhi fun x5=> if (x5==A1_0)=true then some (v3,st) else c1_ (w64 (v3+1)) else some ((-1),st)
def Zbf (N:Nat) (A0:Option Nat) (A1_0:List Int) (st:LL):Option (Int×LL):= Zbj A0 fun i1=> ZcX (st[i1]?) ZbR fun x2=> loopN (Zbf.p1 N i1 x2 A1_0 st) N 0
def Zbf.p1.S (i1:Nat) (x2:Zab) (v3:Int) (A1_0:List Int) (st:LL):S:=mkS 22 [(3,sA 3),(10,.one (.h (.mem (.obj i1) 84 0) 32 0 (zK x2.Ids))),(11,sI (len x2.Ids)),(12,sI v3)] [(3,.cells [zH .u8 32 A1_0])] st
theorem Zbf.p1_ok {i1 x2 v3 A1_0 st r c1_ J1} (h:Zbf.p1 N i1 x2 A1_0 st c1_ v3=some r) (hE:En Tryz.f59 g0 w0 (Zbf.rs r) r.2 R) (hc1 : ∀v3,c1_ v3=some r→At g0 w0 (Zbf.p1.S i1 x2 v3 A1_0 st) J1):At g0 w0 (Zbf.p1.S i1 x2 v3 A1_0 st) (XK zC R (cK Zbf.B [1,0,1,0,0] :: .h J1 :: [.b 0,cK Zbf.B [1,1]])):=by
 unfold Zbf.p1 at h;refine Zbe h (fun c3 h1=>?_) (fun c3 h2=>?_)
 ·obtain ⟨c4,h3⟩:=Zbd h1;obtain ⟨x4,c5,h4⟩:=Zcw h3;obtain ⟨x5,c6,h5⟩:=Zhz h4;let o1:List PS:=[rZ,cT,.r [(2,{oc:=x4.lo,oe:=[zH .u8 32 x5]})],rZ]
  refine Zbe h5 (fun c7 h6=>?_) (fun c7 h7=>?_)
  ·exact xT fol h6 hE (o1++[cT,rZ]) (aM c3 c4 (oD c3) c6 c5 c7)
  exact an fol (o1++[cF,rZ]) [3,10,11,12] [3] (aM c3 c4 (oD c3) c6 c5 c7) (hc1 (w64 (v3+1)) h7)
 exact xT fol h2 hE [rZ,cF,rZ] c3
theorem Zbf.snd {A0:Option Nat} {A1_0:List Int} {st:LL} {r:Int×LL} (h:Zbf N A0 A1_0 st=some r):Snd zC 59 [.one (zQ A0),.agg [zH .u8 32 A1_0]] st (Zbf.rs r) r.2:=
 sO Zbf.B Tryz.func59 fun g0 w0 R hE=>by
  unfold Zbf at h;obtain ⟨i1,rfl,h8⟩:=Zac h;obtain ⟨x2,c2,h9⟩:=Zcw h8;exact aq fol [rZ,.r [(3,{oc:=x2.lo})]] [3,10,11,12] [3] c2 (At.loop N (At.loopN (fun y:Int=>Zbf.p1.S i1 x2 y A1_0 st) (fun c J hc y h=>Zbf.p1_ok h hE (fun v3=>hc v3)) N 0 h9))
def ZeG.B:Code:=Tryz.f62.body.getD .skip
def ZeG.rs (r:(List Int)):List CV:=[.agg [zH .u64 4 r]]
def ZeG (N:Nat) (A0_0 A1_0:List Int):Option (List Int):= Zbj (Zbg N A0_0 A1_0) fun (x1,x2)=> if x2=true then Zbj (Zdk N ) fun x3=> some x3 else some x1
theorem ZeG.snd {A0_0 A1_0:List Int} {r:(List Int)} (h:ZeG N A0_0 A1_0=some r):ZdD zC 62 [.agg [zH .u64 4 A0_0],.agg [zH .u64 4 A1_0]] (ZeG.rs r):=fun st=>
 sO ZeG.B Tryz.func62 fun g0 w0 R hE=>by
  unfold ZeG at h;obtain ⟨⟨x1,x2⟩,c1,h1⟩:=Zac h;let o1:List PS:=[rZ,.r [(2,q1 [.agg [zH .u64 4 x1],oB x2])],rZ]
  refine Zbe h1 (fun c2 h2=>?_) (fun c2 h3=>?_)
  ·obtain ⟨x3,c3,h4⟩:=Zac h2;exact xS fol h4 hE (o1++[cT,.r [(0,q1 [.agg [zH .u64 4 x3]])]]) (aJ (Zbg.snd c1) c2 (Zdk.snd c3))
  exact xS fol h3 hE (o1++[cF,rZ]) (aI (Zbg.snd c1) c2)
def Zdb.B:Code:=Tryz.f33.body.getD .skip
def Zdb.rs (r:Int×Int×Int×LL):List CV:=[oI r.1,oI r.2.1,oI r.2.2.1]
def Zdb (N:Nat) (A0:Option Nat) (A1:Zaj) (A2:Int) (st:LL):Option (Int×Int×Int×LL):= Zbj (Zdc N A1) fun x1=> if (!x1)=true then some ((-1),1,8,st) else Zbj (Zdj N A1) fun x2=> Zbj (Zbf N A0 x2 st) fun (x3,st4)=> if (decide (x3≥0))=true then some (x3,0,0,st4) else Zbj (Zbf N A0 A1.Prev st4) fun (x5,st6)=> if (decide (x5<0))=true then some ((-1),2,5,st6) else Zbj A0 fun i7=> ZcX (st6[i7]?) ZbR fun x8=> Zbj (ZaW N x8 x5) fun x9=> chk (Zex x9=true)<| Zbj (Zas N x8.Rules x9 A1 A2) fun x10=> if (decide (x10>0))=true then some ((-1),x10,8,st6) else if (decide ((len x8.List_)≥x8.Room))=true then some ((-1),0,6,st6) else chk (zK (x8.List_++[A1.ls])*96≤140737488355328)<| chk (zK (x8.Ids++[[zH .u8 32 x2]])*32≤140737488355328)<| chk (0≤x5)<| chk (x5<(len x8.Works))<| ZcX (x8.Works[0+(zE x5)]?) Zig fun x11=> Zbj (Zcz N A1.Bits) fun x12=> Zbj (ZeG N x11 x12) fun x13=> chk (zK (x8.Works++[[zH .u64 4 x13]])*32≤140737488355328)<| chk (zK (x8.Ahead++[[zJ .i64 x5]])*8≤140737488355328)<| some (w64 ((len (x8.List_++[A1.ls]))-1),0,0,zM (zM (zM (zM (zM (zM (zM (zM st6 i7 (gs x8.lo 15)) i7 (Zab.lo {x8 with List_:=x8.List_++[A1.ls]})) i7 (gs (Zab.lo {x8 with List_:=x8.List_++[A1.ls]}) 16)) i7 (Zab.lo {x8 with List_:=x8.List_++[A1.ls],Ids:=x8.Ids++[[zH .u8 32 x2]]})) i7 (gs (Zab.lo {x8 with List_:=x8.List_++[A1.ls],Ids:=x8.Ids++[[zH .u8 32 x2]]}) 18)) i7 (Zab.lo {x8 with List_:=x8.List_++[A1.ls],Ids:=x8.Ids++[[zH .u8 32 x2]],Works:=x8.Works++[[zH .u64 4 x13]]})) i7 (gs (Zab.lo {x8 with List_:=x8.List_++[A1.ls],Ids:=x8.Ids++[[zH .u8 32 x2]],Works:=x8.Works++[[zH .u64 4 x13]]}) 17)) i7 (Zab.lo (Zab.mk x8.Rules (x8.List_++[A1.ls]) (x8.Ids++[[zH .u8 32 x2]]) (x8.Ahead++[[zJ .i64 x5]]) (x8.Works++[[zH .u64 4 x13]]) x8.Room)))
theorem Zdb.snd {A0:Option Nat} {A1:Zaj} {A2:Int} {st:LL} {r:Int×Int×Int×LL} (h:Zdb N A0 A1 A2 st=some r):Snd zC 33 [.one (zQ A0),.agg A1.ls,oI A2] st (Zdb.rs r) r.2.2.2:=
 sO Zdb.B Tryz.func33 fun g0 w0 R hE=>by
  unfold Zdb at h;obtain ⟨x1,c1,h1⟩:=Zac h;let o1:List PS:=[rZ,.r [(1,q1 [oB x1])]]
  have t1 {Q:Prop} (q:Q):=aI (Zdc.snd c1) q;refine Zbe h1 (fun c2 h2=>?_) (fun c2 h3=>?_)
  ·exact xV fol h2 hE (o1++[cT,rZ]) (t1 c2)
  obtain ⟨x2,c3,h4⟩:=Zac h3;obtain ⟨⟨x3,st4⟩,c4,h5⟩:=Zac h4;let o2:List PS:=o1++[cF,.r [(2,q1 [.agg [zH .u8 32 x2]]),(3,{rs:=[oI x3],st:=st4})],rZ]
  have t2 {Q:Prop} (q:Q):=t1 (aK c2 (Zdj.snd c3) (Zbf.snd c4) q);refine Zbe h5 (fun c5 h6=>?_) (fun c5 h7=>?_)
  ·exact xV fol h6 hE (o2++[cT,rZ]) (t2 c5)
  obtain ⟨⟨x5,st6⟩,c6,h8⟩:=Zac h7;let o3:List PS:=o2++[cF,.r [(3,{rs:=[oI x5],st:=st6})],rZ]
  have t3 {Q:Prop} (q:Q):=t2 (aJ c5 (Zbf.snd c6) q);refine Zbe h8 (fun c7 h9=>?_) (fun c7 h10=>?_)
  ·exact xV fol h9 hE (o3++[cT,rZ]) (t3 c7)
  obtain ⟨i7,rfl,h11⟩:=Zac h10;obtain ⟨x8,c9,h12⟩:=Zcw h11;obtain ⟨x9,c10,h13⟩:=Zac h12;obtain ⟨c11,h14⟩:=Zbd h13;obtain ⟨x10,c12,h15⟩:=Zac h14;let o4:List PS:=o3++[cF,.d {ds:=[(3,{oc:=x8.lo}),(6,{rs:=[.row true 68 x9],ns:=[34],m:=10,cv:=[.one (vV 88 x8.ls)]}),(9,{rs:=[oI x10],m:=2})],hv:=64,Hs:=[64]},rZ]
  have t4 {Q:Prop} (q:Q):=t3 (aO c7 c9 c9 (bO 88 c9 (Zab.bv x8)) c11 (ZaW.snd c10) z0 (aJ (eN (zK x9)) (Zas.snd c12) q));refine Zbe h15 (fun c13 h16=>?_) (fun c13 h17=>?_)
  ·exact xVd fol h16 hE (o4++[cT,rZ]) (t4 c13)
  let o5:List PS:=o4++[cF,.d {ds:=[(3,{oc:=x8.lo}),(8,{oc:=x8.lo})],hv:=0,Hs:=[]}]
  refine Zbe h17 (fun c14 h18=>?_) (fun c14 h19=>?_)
  ·exact xVd fol h18 hE (o5++[cT,rZ]) (t4 (aK c13 c9 c9 c14))
  obtain ⟨c15,c16,c17,c18,h20⟩:=ck4 h19;obtain ⟨x11,c19,h21⟩:=Zjv h20;obtain ⟨x12,c20,h22⟩:=Zac h21;obtain ⟨x13,c21,h23⟩:=Zac h22;obtain ⟨c22,c23,h24⟩:=ck2 h23;exact xVd fol h24 hE (o5++[cF,.d {ds:=[(4,{oc:=x8.lo}),(7,{oe:=x8.lo}),(10,{oc:=gs x8.lo 15,mv:=[58]})],hv:=1216,Hs:=[64,192,1216]},.d {ds:=[(4,{oc:=Zab.lo {x8 with List_:=x8.List_++[A1.ls]}}),(6,q1 [.agg [zH .u8 32 x2]]),(8,{oe:=Zab.lo {x8 with List_:=x8.List_++[A1.ls]}}),(11,{oc:=gs (Zab.lo {x8 with List_:=x8.List_++[A1.ls]}) 16,mv:=[69]})],hv:=2432,Hs:=[128,384,2432]},.d {ds:=[(4,{oc:=Zab.lo {x8 with List_:=x8.List_++[A1.ls],Ids:=x8.Ids++[[zH .u8 32 x2]]}}),(8,{oc:=Zab.lo {x8 with List_:=x8.List_++[A1.ls],Ids:=x8.Ids++[[zH .u8 32 x2]]}}),(11,{oc:=Zab.lo {x8 with List_:=x8.List_++[A1.ls],Ids:=x8.Ids++[[zH .u8 32 x2]]},oe:=[zH .u64 4 x11]}),(14,q1 [.agg [zH .u64 4 x12]]),(15,q1 [.agg [zH .u64 4 x13]]),(17,{oe:=Zab.lo {x8 with List_:=x8.List_++[A1.ls],Ids:=x8.Ids++[[zH .u8 32 x2]]}}),(20,{oc:=gs (Zab.lo {x8 with List_:=x8.List_++[A1.ls],Ids:=x8.Ids++[[zH .u8 32 x2]]}) 18,mv:=[89]})],hv:=1245184,Hs:=[65536,196608,1245184]},.r [(4,{oc:=Zab.lo {x8 with List_:=x8.List_++[A1.ls],Ids:=x8.Ids++[[zH .u8 32 x2]],Works:=x8.Works++[[zH .u64 4 x13]]}}),(7,{oe:=Zab.lo {x8 with List_:=x8.List_++[A1.ls],Ids:=x8.Ids++[[zH .u8 32 x2]],Works:=x8.Works++[[zH .u64 4 x13]]}}),(10,{oc:=gs (Zab.lo {x8 with List_:=x8.List_++[A1.ls],Ids:=x8.Ids++[[zH .u8 32 x2]],Works:=x8.Works++[[zH .u64 4 x13]]}) 17,mv:=[99]})],.r [(3,{oc:=Zab.lo (Zab.mk x8.Rules (x8.List_++[A1.ls]) (x8.Ids++[[zH .u8 32 x2]]) (x8.Ahead++[[zJ .i64 x5]]) (x8.Works++[[zH .u64 4 x13]]) x8.Room)})]]) (t4 (aO c13 c9 c9 c14 c9 c9 z0 (aO (eN (zK x8.List_)) c9 z0 (eN (1)) c15 (Zao c9 (gs x8.lo 15)) z0 (aO (eN (zK (x8.List_++[A1.ls]))) (Zao (Zao c9 (gs x8.lo 15)) (Zab.lo {x8 with List_:=x8.List_++[A1.ls]})) (Zao (Zao c9 (gs x8.lo 15)) (Zab.lo {x8 with List_:=x8.List_++[A1.ls]})) (Zdj.snd c3) z0 (eN (zK x8.Ids)) (Zao (Zao c9 (gs x8.lo 15)) (Zab.lo {x8 with List_:=x8.List_++[A1.ls]})) (aO z0 (eN (1)) c16 (Zao (Zao (Zao c9 (gs x8.lo 15)) (Zab.lo {x8 with List_:=x8.List_++[A1.ls]})) (gs (Zab.lo {x8 with List_:=x8.List_++[A1.ls]}) 16)) z0 (eN (zK (x8.Ids++[[zH .u8 32 x2]]))) (Zao (Zao (Zao (Zao c9 (gs x8.lo 15)) (Zab.lo {x8 with List_:=x8.List_++[A1.ls]})) (gs (Zab.lo {x8 with List_:=x8.List_++[A1.ls]}) 16)) (Zab.lo {x8 with List_:=x8.List_++[A1.ls],Ids:=x8.Ids++[[zH .u8 32 x2]]})) (aO (Zao (Zao (Zao (Zao c9 (gs x8.lo 15)) (Zab.lo {x8 with List_:=x8.List_++[A1.ls]})) (gs (Zab.lo {x8 with List_:=x8.List_++[A1.ls]}) 16)) (Zab.lo {x8 with List_:=x8.List_++[A1.ls],Ids:=x8.Ids++[[zH .u8 32 x2]]})) (Zao (Zao (Zao (Zao c9 (gs x8.lo 15)) (Zab.lo {x8 with List_:=x8.List_++[A1.ls]})) (gs (Zab.lo {x8 with List_:=x8.List_++[A1.ls]}) 16)) (Zab.lo {x8 with List_:=x8.List_++[A1.ls],Ids:=x8.Ids++[[zH .u8 32 x2]]})) c17 c18 c19 (Zao (Zao (Zao (Zao c9 (gs x8.lo 15)) (Zab.lo {x8 with List_:=x8.List_++[A1.ls]})) (gs (Zab.lo {x8 with List_:=x8.List_++[A1.ls]}) 16)) (Zab.lo {x8 with List_:=x8.List_++[A1.ls],Ids:=x8.Ids++[[zH .u8 32 x2]]})) (Zcz.snd c20) (aO (ZeG.snd c21) z0 (eN (zK x8.Works)) (Zao (Zao (Zao (Zao c9 (gs x8.lo 15)) (Zab.lo {x8 with List_:=x8.List_++[A1.ls]})) (gs (Zab.lo {x8 with List_:=x8.List_++[A1.ls]}) 16)) (Zab.lo {x8 with List_:=x8.List_++[A1.ls],Ids:=x8.Ids++[[zH .u8 32 x2]]})) z0 (eN (1)) c22 (aO (Zao (Zao (Zao (Zao (Zao c9 (gs x8.lo 15)) (Zab.lo {x8 with List_:=x8.List_++[A1.ls]})) (gs (Zab.lo {x8 with List_:=x8.List_++[A1.ls]}) 16)) (Zab.lo {x8 with List_:=x8.List_++[A1.ls],Ids:=x8.Ids++[[zH .u8 32 x2]]})) (gs (Zab.lo {x8 with List_:=x8.List_++[A1.ls],Ids:=x8.Ids++[[zH .u8 32 x2]]}) 18)) z0 (eN (zK (x8.Works++[[zH .u64 4 x13]]))) (Zao (Zao (Zao (Zao (Zao (Zao c9 (gs x8.lo 15)) (Zab.lo {x8 with List_:=x8.List_++[A1.ls]})) (gs (Zab.lo {x8 with List_:=x8.List_++[A1.ls]}) 16)) (Zab.lo {x8 with List_:=x8.List_++[A1.ls],Ids:=x8.Ids++[[zH .u8 32 x2]]})) (gs (Zab.lo {x8 with List_:=x8.List_++[A1.ls],Ids:=x8.Ids++[[zH .u8 32 x2]]}) 18)) (Zab.lo {x8 with List_:=x8.List_++[A1.ls],Ids:=x8.Ids++[[zH .u8 32 x2]],Works:=x8.Works++[[zH .u64 4 x13]]})) z0 (eN (zK x8.Ahead)) (Zao (Zao (Zao (Zao (Zao (Zao c9 (gs x8.lo 15)) (Zab.lo {x8 with List_:=x8.List_++[A1.ls]})) (gs (Zab.lo {x8 with List_:=x8.List_++[A1.ls]}) 16)) (Zab.lo {x8 with List_:=x8.List_++[A1.ls],Ids:=x8.Ids++[[zH .u8 32 x2]]})) (gs (Zab.lo {x8 with List_:=x8.List_++[A1.ls],Ids:=x8.Ids++[[zH .u8 32 x2]]}) 18)) (Zab.lo {x8 with List_:=x8.List_++[A1.ls],Ids:=x8.Ids++[[zH .u8 32 x2]],Works:=x8.Works++[[zH .u64 4 x13]]})) (aN z0 (eN (1)) c23 (Zao (Zao (Zao (Zao (Zao (Zao (Zao c9 (gs x8.lo 15)) (Zab.lo {x8 with List_:=x8.List_++[A1.ls]})) (gs (Zab.lo {x8 with List_:=x8.List_++[A1.ls]}) 16)) (Zab.lo {x8 with List_:=x8.List_++[A1.ls],Ids:=x8.Ids++[[zH .u8 32 x2]]})) (gs (Zab.lo {x8 with List_:=x8.List_++[A1.ls],Ids:=x8.Ids++[[zH .u8 32 x2]]}) 18)) (Zab.lo {x8 with List_:=x8.List_++[A1.ls],Ids:=x8.Ids++[[zH .u8 32 x2]],Works:=x8.Works++[[zH .u64 4 x13]]})) (gs (Zab.lo {x8 with List_:=x8.List_++[A1.ls],Ids:=x8.Ids++[[zH .u8 32 x2]],Works:=x8.Works++[[zH .u64 4 x13]]}) 17)) z0 (eN (zK (x8.Ahead++[[zJ .i64 x5]]))) (Zao (Zao (Zao (Zao (Zao (Zao (Zao (Zao c9 (gs x8.lo 15)) (Zab.lo {x8 with List_:=x8.List_++[A1.ls]})) (gs (Zab.lo {x8 with List_:=x8.List_++[A1.ls]}) 16)) (Zab.lo {x8 with List_:=x8.List_++[A1.ls],Ids:=x8.Ids++[[zH .u8 32 x2]]})) (gs (Zab.lo {x8 with List_:=x8.List_++[A1.ls],Ids:=x8.Ids++[[zH .u8 32 x2]]}) 18)) (Zab.lo {x8 with List_:=x8.List_++[A1.ls],Ids:=x8.Ids++[[zH .u8 32 x2]],Works:=x8.Works++[[zH .u64 4 x13]]})) (gs (Zab.lo {x8 with List_:=x8.List_++[A1.ls],Ids:=x8.Ids++[[zH .u8 32 x2]],Works:=x8.Works++[[zH .u64 4 x13]]}) 17)) (Zab.lo (Zab.mk x8.Rules (x8.List_++[A1.ls]) (x8.Ids++[[zH .u8 32 x2]]) (x8.Ahead++[[zJ .i64 x5]]) (x8.Works++[[zH .u64 4 x13]]) x8.Room))))))))))))
def Zax.B:Code:=Tryz.f19.body.getD .skip
def Zax.rs (r:Int×LL):List CV:=[oI r.1]
def Zax.p2 (N:Nat) (i4:Nat) (at_1 A3:Int) (st2:LL):Option (Int×LL):= ZcX (st2[i4]?) Zca fun x8 x9=> ZcX (x9[0+(zE at_1)]?) Zcl fun x10=> Zbj (ZaZ N (some i4) at_1 (zM st2 i4 [zQ x8,yB true 3 (zM x9 (0+(zE at_1)) (ZaO.ls {x10 with verdict:=A3}))])) fun st11=> some (0,st11)
def Zax.p1 (N:Nat) (m_0:Option Nat) (at_1 A3:Int) (st2:LL):Option (Int×LL):= Zbj m_0 fun i4=> ZcX (st2[i4]?) Zca fun x5 x6=> chk (0≤at_1)<| chk (at_1<(len x6))<| ZcX (x6[0+(zE at_1)]?) Zcl fun x7=> if (x7.verdict != 0)=true then if (x7.verdict != A3)=true then some (1,st2) else Zax.p2 N i4 at_1 A3 st2 else Zax.p2 N i4 at_1 A3 st2
def Zax (N:Nat) (m_0:Option Nat) (at_1:Int) (A2:Bool) (st:LL):Option (Int×LL):= Zbj (ZbU N m_0 at_1 st) fun (x1,st2)=> if (x1 != 0)=true then some (x1,st2) else if A2=true then Zax.p1 N m_0 at_1 1 st2 else Zax.p1 N m_0 at_1 2 st2
def Zax.p2.S (i4:Nat) (at_1 A3:Int) (st2:LL):S:=mkS 43 [(0,sP (some i4)),(1,sI at_1),(8,sI A3),(9,.one (.eadr (.mem (.obj i4) 1 0) 3 (0+(zE at_1)) 0))] [] st2
def Zax.p1.S (m_0:Option Nat) (at_1 A3:Int) (st2:LL):S:=mkS 43 [(0,sP m_0),(1,sI at_1),(8,sI A3)] [] st2
theorem Zax.p2_ok {i4 at_1 A3 st2 r} (h:Zax.p2 N i4 at_1 A3 st2=some r) (hE:En Tryz.f19 g0 w0 (Zax.rs r) r.2 R):At g0 w0 (Zax.p2.S i4 at_1 A3 st2) (XK zC R [cK Zax.B [1,1,1,1,1,1]]):=by
 unfold Zax.p2 at h;obtain ⟨x8,x9,c11,h1⟩:=ZbI h;obtain ⟨x10,c12,h2⟩:=Zce h1;obtain ⟨st11,c13,h3⟩:=Zac h2;exact xT fol h3 hE [.r [(4,{oc:=[zQ x8,yB true 3 x9],oe:=x10.ls,yes:=false})],.r [(2,{st:=st11})],rZ] (aJ c12 c11 (ZaZ.snd c13))
theorem Zax.p1_ok {m_0 at_1 A3 st2 r} (h:Zax.p1 N m_0 at_1 A3 st2=some r) (hE:En Tryz.f19 g0 w0 (Zax.rs r) r.2 R):At g0 w0 (Zax.p1.S m_0 at_1 A3 st2) (XK zC R [cK Zax.B [1,1,1,1]]):=by
 unfold Zax.p1 at h;obtain ⟨i4,rfl,h4⟩:=Zac h;obtain ⟨x5,x6,c5,h5⟩:=ZbI h4;obtain ⟨c6,c7,h6⟩:=ck2 h5;obtain ⟨x7,c8,h7⟩:=Zce h6;let o1:List PS:=[.r [(3,{oc:=[zQ x5,yB true 3 x6]})]]
 refine Zbe h7 (fun c9 h8=>?_) (fun c9 h9=>?_)
 ·let o2:List PS:=o1++[.r [(3,{oc:=[zQ x5,yB true 3 x6],oe:=x7.ls}),(9,{oc:=[zQ x5,yB true 3 x6],oe:=x7.ls})]]
  have t1 {Q:Prop} (q:Q):=aO c5 c6 c7 c8 c5 c9 c9 (aO c9 c9 c8 c5 c9 c9 c9 q);refine Zbe h8 (fun c10 h10=>?_) (fun c10 h11=>?_)
  ·exact xT fol h10 hE (o2++[cT,rZ]) (t1 c10)
  exact aq fol (o2++[cF,.s 1]) [0,1,8,9] [] (t1 c10) (Zax.p2_ok h11 hE)
 exact aq fol (o1++[.r [(3,{oc:=[zQ x5,yB true 3 x6],oe:=x7.ls}),(6,wF),(7,wF),(8,wF),(9,wF),(10,wF),(11,wF),(12,yF)],cF,.s 1]) [0,1,8,9] [] (aO c5 c6 c7 c8 c5 c9 c9 (aM c9 c9 c9 c9 c9 eF)) (Zax.p2_ok h9 hE)
theorem Zax.snd {m_0:Option Nat} {at_1:Int} {A2:Bool} {st:LL} {r:Int×LL} (h:Zax N m_0 at_1 A2 st=some r):Snd zC 19 [.one (zQ m_0),oI at_1,oB A2] st (Zax.rs r) r.2:=
 sO Zax.B Tryz.func19 fun g0 w0 R hE=>by
  unfold Zax at h;obtain ⟨⟨x1,st2⟩,c1,h12⟩:=Zac h;let o3:List PS:=[rZ,.r [(2,{rs:=[oI x1],st:=st2})],rZ]
  have t2 {Q:Prop} (q:Q):=aI (ZbU.snd c1) q;refine Zbe h12 (fun c2 h13=>?_) (fun c2 h14=>?_)
  ·exact xT fol h13 hE (o3++[cT,rZ]) (t2 c2)
  refine Zbe h14 (fun c3 h15=>?_) (fun c3 h16=>?_)
  ·exact aq fol (o3++[cF,rZ,rZ,cT,rZ,.s 1]) [0,1,8] [] (t2 (aI c2 c3)) (Zax.p1_ok h15 hE)
  exact aq fol (o3++[cF,rZ,rZ,cF,.s 1]) [0,1,8] [] (t2 (aI c2 c3)) (Zax.p1_ok h16 hE)
def Zen.B:Code:=Tryz.f63.body.getD .skip
def Zen.rs (r:Int):List CV:=[oI r]
def Zen (N:Nat) (A0:Zab) (at_1:Int):Option Int:= if (decide (at_1<0))=true then some 5 else if (decide (at_1≥(len A0.List_)))=true then some 5 else if (at_1==0)=true then some 1 else some 0
theorem Zen.snd {A0:Zab} {at_1:Int} {r:Int} (h:Zen N A0 at_1=some r):ZdD zC 63 [.one (vV 88 A0.ls),oI at_1] (Zen.rs r):=fun st=>
 sO Zen.B Tryz.func63 fun g0 w0 R hE=>by
  unfold Zen at h;refine Zbe h (fun c1 h1=>?_) (fun c1 h2=>?_)
  ·exact xS fol h1 hE [rZ,.r [(3,wF),(4,wF),(5,wF),(6,wF),(7,wF),(8,wF),(9,wF)],cT,rZ] (aO c1 c1 c1 c1 c1 c1 c1 (aI c1 eT))
  let o1:List PS:=[rZ,.r [(7,{oe:=A0.ls}),(10,yF)]]
  have t1 {Q:Prop} (q:Q):=aO c1 c1 c1 c1 c1 (eO A0.ls) c1 (aJ c1 c1 q);refine Zbe h2 (fun c2 h3=>?_) (fun c2 h4=>?_)
  ·exact xS fol h3 hE (o1++[cT,rZ]) (t1 c2)
  refine Zbe h4 (fun c3 h5=>?_) (fun c3 h6=>?_)
  ·exact xS fol h5 hE (o1++[cF,rZ,cT,rZ]) (t1 (aI c2 c3))
  exact xS fol h6 hE (o1++[cF,rZ,cF,rZ]) (t1 (aI c2 c3))
def ZcQ.B:Code:=Tryz.f63.body.getD .skip
def ZcQ.rs (r:Int×LL):List CV:=[oI r.1]
def ZcQ (N:Nat) (A0:Option Nat) (at_1:Int) (st:LL):Option (Int×LL):= if (decide (at_1<0))=true then some (5,st) else Zbj A0 fun i1=> ZcX (st[i1]?) ZbR fun x2=> if (decide (at_1≥(len x2.List_)))=true then some (5,st) else if (at_1==0)=true then some (1,st) else some (0,st)
theorem ZcQ.snd {A0:Option Nat} {at_1:Int} {st:LL} {r:Int×LL} (h:ZcQ N A0 at_1 st=some r):Snd zC 63 [.one (zQ A0),oI at_1] st (ZcQ.rs r) r.2:=
 sO ZcQ.B Tryz.func63 fun g0 w0 R hE=>by
  unfold ZcQ at h;refine Zbe h (fun c1 h1=>?_) (fun c1 h2=>?_)
  ·exact xT fol h1 hE [rZ,.r [(3,wF),(4,wF),(5,wF),(6,wF),(7,wF),(8,wF),(9,wF)],cT,rZ] (aO c1 c1 c1 c1 c1 c1 c1 (aI c1 eT))
  obtain ⟨i1,rfl,h3⟩:=Zac h2;obtain ⟨x2,c3,h4⟩:=Zcw h3;let o1:List PS:=[rZ,.r [(7,{oc:=x2.lo}),(10,yF)]]
  have t1 {Q:Prop} (q:Q):=aO c1 c1 c1 c1 c1 c3 c1 (aJ c1 c1 q);refine Zbe h4 (fun c4 h5=>?_) (fun c4 h6=>?_)
  ·exact xT fol h5 hE (o1++[cT,rZ]) (t1 c4)
  refine Zbe h6 (fun c5 h7=>?_) (fun c5 h8=>?_)
  ·exact xT fol h7 hE (o1++[cF,rZ,cT,rZ]) (t1 (aI c4 c5))
  exact xT fol h8 hE (o1++[cF,rZ,cF,rZ]) (t1 (aI c4 c5))
def ZaV.B:Code:=Tryz.f34.body.getD .skip
def ZaV.rs (r:Int×LL):List CV:=[oI r.1]
def ZaV.p1 (N:Nat) (m_0:Option Nat) (A2 A3:Int) (st2:LL):Option (Int×LL):= Zbj m_0 fun i4=> chk (0≤A2)<| chk (A2<600)<| ZcX (st2[i4]?) ZcO fun x5=> if (decide ((zF x5.Said (zE A2) 0)>0))=true then if ((zF x5.Said (zE A2) 0) != A3)=true then some (1,st2) else some (0,zM st2 i4 (ZaD.ls {x5 with Said:=zM x5.Said (zE A2) A3})) else some (0,zM st2 i4 (ZaD.ls {x5 with Said:=zM x5.Said (zE A2) A3}))
def ZaV (N:Nat) (m_0 A1:Option Nat) (A2:Int) (A3:Bool) (st:LL):Option (Int×LL):= Zbj (ZcQ N A1 A2 st) fun (x1,st2)=> if (decide (x1>0))=true then some (x1,st2) else if A3=true then ZaV.p1 N m_0 A2 1 st2 else ZaV.p1 N m_0 A2 2 st2
def ZaV.p1.S (m_0:Option Nat) (A2 A3:Int) (st2:LL):S:=mkS 41 [(0,sP m_0),(2,sI A2),(10,sI A3)] [] st2
theorem ZaV.p1_ok {m_0 A2 A3 st2 r} (h:ZaV.p1 N m_0 A2 A3 st2=some r) (hE:En Tryz.f34 g0 w0 (ZaV.rs r) r.2 R):At g0 w0 (ZaV.p1.S m_0 A2 A3 st2) (XK zC R [cK ZaV.B [1,1,1,1,1]]):=by
 unfold ZaV.p1 at h;obtain ⟨i4,rfl,h1⟩:=Zac h;obtain ⟨c5,c6,h2⟩:=ck2 h1;obtain ⟨x5,c7,h3⟩:=Zdy h2;refine Zbe h3 (fun c8 h4=>?_) (fun c8 h5=>?_)
 ·let o1:List PS:=[.r [(5,{oc:=x5.ls}),(13,{oc:=x5.ls})]]
  have t1 {Q:Prop} (q:Q):=aO c5 c6 c7 c8 c8 c8 c8 (aO c8 c5 c6 c8 c7 c8 c8 (aI c8 q));refine Zbe h4 (fun c9 h6=>?_) (fun c9 h7=>?_)
  ·exact xT fol h6 hE (o1++[cT,rZ]) (t1 c9)
  exact xT fol h7 hE (o1++[cF,.r [(6,{oc:=x5.ls})],rZ]) (t1 (aK c9 c5 c6 c7))
 exact xT fol h5 hE [.r [(5,{oc:=x5.ls}),(8,wF),(9,wF),(10,wF),(11,wF),(12,wF),(13,wF),(14,wF),(15,wF),(16,yF)],cF,.r [(6,{oc:=x5.ls})],rZ] (aO c5 c6 c7 c8 c8 c8 c8 (aO c8 c8 c8 c8 c8 eF c5 (aI c6 c7)))
theorem ZaV.snd {m_0 A1:Option Nat} {A2:Int} {A3:Bool} {st:LL} {r:Int×LL} (h:ZaV N m_0 A1 A2 A3 st=some r):Snd zC 34 [.one (zQ m_0),.one (zQ A1),oI A2,oB A3] st (ZaV.rs r) r.2:=
 sO ZaV.B Tryz.func34 fun g0 w0 R hE=>by
  unfold ZaV at h;obtain ⟨⟨x1,st2⟩,c1,h8⟩:=Zac h;let o2:List PS:=[rZ,.r [(2,{rs:=[oI x1],st:=st2})],rZ]
  have t2 {Q:Prop} (q:Q):=aI (ZcQ.snd c1) q;refine Zbe h8 (fun c2 h9=>?_) (fun c2 h10=>?_)
  ·exact xT fol h9 hE (o2++[cT,rZ]) (t2 c2)
  refine Zbe h10 (fun c3 h11=>?_) (fun c3 h12=>?_)
  ·exact aq fol (o2++[cF,rZ,rZ,cT,rZ,.s 1]) [0,2,10] [] (t2 (aI c2 c3)) (ZaV.p1_ok h11 hE)
  exact aq fol (o2++[cF,rZ,rZ,cF,.s 1]) [0,2,10] [] (t2 (aI c2 c3)) (ZaV.p1_ok h12 hE)
def ZaN.B:Code:=Tryz.f35.body.getD .skip
def ZaN.rs (r:Int×LL):List CV:=[oI r.1]
def ZaN.p1 (N:Nat) (x1:Int) (st5:LL):Option (Int×LL):= some (x1,st5)
def ZaN (N:Nat) (m_0 A1:Option Nat) (A2:Int) (st:LL):Option (Int×LL):= Zbj (ZcQ N A1 A2 st) fun (x1,st2)=> if (x1==0)=true then Zbj m_0 fun i3=> chk (0≤A2)<| chk (A2<600)<| ZcX (st2[i3]?) ZcO fun x4=> ZaN.p1 N x1 (zM st2 i3 (ZaD.ls {x4 with Out:=zM x4.Out (zE A2) true})) else ZaN.p1 N x1 st2
def ZaN.p1.S (x1:Int) (st5:LL):S:=mkS 19 [(7,sI x1)] [] st5
theorem ZaN.p1_ok {x1 st5 r} (h:ZaN.p1 N x1 st5=some r) (hE:En Tryz.f35 g0 w0 (ZaN.rs r) r.2 R):At g0 w0 (ZaN.p1.S x1 st5) (XK zC R [cK ZaN.B [1,1,1]]):=by
 unfold ZaN.p1 at h;exact xT fol h hE [rZ] trivial
theorem ZaN.snd {m_0 A1:Option Nat} {A2:Int} {st:LL} {r:Int×LL} (h:ZaN N m_0 A1 A2 st=some r):Snd zC 35 [.one (zQ m_0),.one (zQ A1),oI A2] st (ZaN.rs r) r.2:=
 sO ZaN.B Tryz.func35 fun g0 w0 R hE=>by
  unfold ZaN at h;obtain ⟨⟨x1,st2⟩,c1,h1⟩:=Zac h;let o1:List PS:=[rZ,.r [(2,{rs:=[oI x1],st:=st2})],rZ]
  refine Zbe h1 (fun c2 h2=>?_) (fun c2 h3=>?_)
  ·obtain ⟨i3,rfl,h4⟩:=Zac h2;obtain ⟨c4,c5,h5⟩:=ck2 h4;obtain ⟨x4,c6,h6⟩:=Zdy h5;exact aq fol (o1++[cT,.r [(5,{oc:=x4.ls})],.s 1]) [7] [] (aL (ZcQ.snd c1) c2 c4 c5 c6) (ZaN.p1_ok h6 hE)
  exact aq fol (o1++[cF,.s 1]) [7] [] (aI (ZcQ.snd c1) c2) (ZaN.p1_ok h3 hE)
def Zcy.B:Code:=Tryz.f26.body.getD .skip
def Zcy.rs (r:Bool):List CV:=[oB r]
def Zcy (N:Nat) (A0:ZaF) (at_1 A2:Int):Option Bool:= Zbj (Zbb N A0 at_1) fun x1=> if (decide (x1≥0))=true then Zbj (Zau N A0 A2 x1) fun x2=> some (x2==at_1) else some false
theorem Zcy.snd {A0:ZaF} {at_1 A2:Int} {r:Bool} (h:Zcy N A0 at_1 A2=some r):ZdD zC 26 [.one (vV 2 A0.ls),oI at_1,oI A2] (Zcy.rs r):=fun st=>
 sO Zcy.B Tryz.func26 fun g0 w0 R hE=>by
  unfold Zcy at h;obtain ⟨x1,c1,h1⟩:=Zac h;let o1:List PS:=[rZ,.r [(2,q0 [oI x1])]]
  refine Zbe h1 (fun c2 h2=>?_) (fun c2 h3=>?_)
  ·obtain ⟨x2,c3,h4⟩:=Zac h2;exact xS fol h4 hE (o1++[.r [(6,q0 [oI x2])]]) (aO (Zbb.snd c1) c2 c2 c2 c2 (Zau.snd c3) c2 (aI c2 c2))
  exact xS fol h3 hE (o1++[.r [(3,wF),(4,wF),(5,wF),(6,wF),(7,wF),(8,wF),(9,yF)]]) (aO (Zbb.snd c1) c2 c2 c2 c2 c2 c2 c2)
def Zap.B:Code:=Tryz.f23.body.getD .skip
def Zap.rs (r:Int×LL):List CV:=[oI r.1]
def Zap.p2 (N:Nat) (c1_:(Int×LL)→Option (Int×LL)) (i3:Nat) (at_1:Int) (x5:LL) (v6:Int) (st36:LL):Option (Int×LL):= c1_ (w64 (v6+1),st36)
def Zap.p1 (N:Nat) (i3:Nat) (at_1:Int) (x5:LL) (c1_:(Int×LL)→Option (Int×LL)):(Int×LL)→Option (Int×LL):=fun (v6,st22)=> if (decide (v6<(len x5)))=true then ZcX (st22[i3]?) Zca fun x23 x24=> chk (0≤v6)<| chk (v6<(len x24))<| Zbj x23 fun i25=> ZcX (st22[i25]?) Zdd fun x26 x27=> Zbj x26 fun i28=> ZcX (st22[i28]?) ZbJ fun x29=> Zbj (Zcy N (ZaF.mk x29 x27) v6 at_1) fun x30=> if x30=true then ZcX (x24[0+(zE v6)]?) Zcl fun x31=> ZcX ((zM x24 (0+(zE v6)) (ZaO.ls {x31 with out:=false}))[0+(zE v6)]?) Zcl fun x32=> if (x32.verdict==2)=true then Zap.p2 N c1_ i3 at_1 x5 v6 (zM (zM st22 i3 [zQ (some i25),yB true 3 (zM x24 (0+(zE v6)) (ZaO.ls {x31 with out:=false}))]) i3 [zQ (some i25),yB true 3 (zM (zM x24 (0+(zE v6)) (ZaO.ls {x31 with out:=false})) (0+(zE v6)) (ZaO.ls {x32 with verdict:=0}))]) else Zap.p2 N c1_ i3 at_1 x5 v6 (zM st22 i3 [zQ (some i25),yB true 3 (zM x24 (0+(zE v6)) (ZaO.ls {x31 with out:=false}))]) else Zbj (Zcy N (ZaF.mk x29 x27) at_1 v6) fun x33=> if x33=true then ZcX (x24[0+(zE v6)]?) Zcl fun x34=> ZcX ((zM x24 (0+(zE v6)) (ZaO.ls {x34 with out:=false}))[0+(zE v6)]?) Zcl fun x35=> if (x35.verdict==2)=true then Zap.p2 N c1_ i3 at_1 x5 v6 (zM (zM st22 i3 [zQ (some i25),yB true 3 (zM x24 (0+(zE v6)) (ZaO.ls {x34 with out:=false}))]) i3 [zQ (some i25),yB true 3 (zM (zM x24 (0+(zE v6)) (ZaO.ls {x34 with out:=false})) (0+(zE v6)) (ZaO.ls {x35 with verdict:=0}))]) else Zap.p2 N c1_ i3 at_1 x5 v6 (zM st22 i3 [zQ (some i25),yB true 3 (zM x24 (0+(zE v6)) (ZaO.ls {x34 with out:=false}))]) else Zap.p2 N c1_ i3 at_1 x5 v6 st22 else Zbj (ZaZ N (some i3) 1 st22) fun st37=> some (0,st37)
def Zap (N:Nat) (m_0:Option Nat) (at_1:Int) (st:LL):Option (Int×LL):= Zbj (ZbU N m_0 at_1 st) fun (x1,st2)=> if (x1 != 0)=true then some (x1,st2) else Zbj m_0 fun i3=> ZcX (st2[i3]?) Zca fun x4 x5=> loopN (Zap.p1 N i3 at_1 x5) N (0,st2)
def Zap.p2.S (i3:Nat) (at_1:Int) (x5:LL) (v6:Int) (st36:LL):S:=mkS 58 [(0,sP (some i3)),(1,sI at_1),(18,sI (len x5)),(19,sI v6)] [] st36
def Zap.p1.S (i3:Nat) (at_1:Int) (x5:LL) (v6:Int) (st22:LL):S:=mkS 58 [(0,sP (some i3)),(1,sI at_1),(18,sI (len x5)),(19,sI v6)] [] st22
theorem Zap.p2_ok {i3 at_1 x5 v6 st36 r c1_ J1} (h:Zap.p2 N c1_ i3 at_1 x5 v6 st36=some r) (hE:En Tryz.f23 g0 w0 (Zap.rs r) r.2 R) (hc1 : ∀v6 st22,c1_ (v6,st22)=some r→At g0 w0 (Zap.p1.S i3 at_1 x5 v6 st22) J1):At g0 w0 (Zap.p2.S i3 at_1 x5 v6 st36) (XK zC R [cK Zap.B [1,1,0,1,0,0,1,1,1],.h J1,.b 0,cK Zap.B [1,1,1]]):=by
 unfold Zap.p2 at h;exact an fol [rZ] [0,1,18,19] [] trivial (hc1 (w64 (v6+1)) st36 h)
theorem Zap.p1_ok {i3 at_1 x5 v6 st22 r c1_ J1} (h:Zap.p1 N i3 at_1 x5 c1_ (v6,st22)=some r) (hE:En Tryz.f23 g0 w0 (Zap.rs r) r.2 R) (hc1 : ∀v6 st22,c1_ (v6,st22)=some r→At g0 w0 (Zap.p1.S i3 at_1 x5 v6 st22) J1):At g0 w0 (Zap.p1.S i3 at_1 x5 v6 st22) (XK zC R (cK Zap.B [1,1,0,1,0,0] :: .h J1 :: [.b 0,cK Zap.B [1,1,1]])):=by
 unfold Zap.p1 at h;refine Zbe h (fun c24 h1=>?_) (fun c24 h2=>?_)
 ·obtain ⟨x23,x24,c25,h3⟩:=ZbI h1;obtain ⟨c26,c27,h4⟩:=ck2 h3;obtain ⟨i25,rfl,h5⟩:=Zac h4;obtain ⟨x26,x27,c29,h6⟩:=ZcT h5;obtain ⟨i28,rfl,h7⟩:=Zac h6;obtain ⟨x29,c31,h8⟩:=ZbC h7;obtain ⟨x30,c32,h9⟩:=Zac h8;let o1:List PS:=[rZ,cT,rZ,.r [(3,{oc:=[zQ (some i25),yB true 3 x24]})]]
  have t1 {Q:Prop} (q:Q):=aO c24 c25 c26 c27 c25 (bO 2 c29 ((bC 87 c31 (ZaG.bv x29) (bW bN)):BVs st22 [zQ (some i28),yB true 1 x27] (ZaF.ls (ZaF.mk x29 x27)))) (Zcy.snd c32) q;refine Zbe h9 (fun c33 h10=>?_) (fun c33 h11=>?_)
  ·obtain ⟨x31,c34,h12⟩:=Zce h10;obtain ⟨x32,c35,h13⟩:=Zce h12;let o2:List PS:=o1++[.r [(3,{oc:=[zQ (some i25),yB true 3 x24]}),(6,{rs:=[oB x30],m:=10,cv:=[.one (vV 2 (ZaF.ls (ZaF.mk x29 x27)))]}),(8,wF),(9,wF),(10,wF),(11,wF),(12,wF),(13,wF),(14,wF)],cT,.r [(3,{oc:=[zQ (some i25),yB true 3 x24],oe:=x31.ls,yes:=false})],.r [(3,{oc:=[zQ (some i25),yB true 3 (zM x24 (0+(zE v6)) (ZaO.ls {x31 with out:=false}))],oe:=x32.ls})]]
   have t2 {Q:Prop} (q:Q):=t1 (aO c33 c33 c33 c33 c33 c33 c33 (aN c33 eT c34 c25 c35 (Zao c25 [zQ (some i25),yB true 3 (zM x24 (0+(zE v6)) (ZaO.ls {x31 with out:=false}))]) q));refine Zbe h13 (fun c36 h14=>?_) (fun c36 h15=>?_)
   ·exact aq fol (o2++[cT,.r [(3,{oc:=[zQ (some i25),yB true 3 (zM x24 (0+(zE v6)) (ZaO.ls {x31 with out:=false}))],oe:=x32.ls,yes:=false})],.s 4]) [0,1,18,19] [] (t2 (aJ c36 c35 (Zao c25 [zQ (some i25),yB true 3 (zM x24 (0+(zE v6)) (ZaO.ls {x31 with out:=false}))]))) (Zap.p2_ok h14 hE hc1)
   exact aq fol (o2++[cF,.s 4]) [0,1,18,19] [] (t2 c36) (Zap.p2_ok h15 hE hc1)
  obtain ⟨x33,c37,h16⟩:=Zac h11;let o3:List PS:=o1++[.r [(3,{oc:=[zQ (some i25),yB true 3 x24]}),(6,{rs:=[oB x30],m:=10,cv:=[.one (vV 2 (ZaF.ls (ZaF.mk x29 x27)))]}),(11,{oc:=[zQ (some i25),yB true 3 x24]}),(14,{rs:=[oB x33],m:=10,cv:=[.one (vV 2 (ZaF.ls (ZaF.mk x29 x27)))]}),(15,yF)]]
  have t3 {Q:Prop} (q:Q):=t1 (aO c33 c33 c33 c33 c25 c33 c33 (aL c33 (bO 2 c29 ((bC 87 c31 (ZaG.bv x29) (bW bN)):BVs st22 [zQ (some i28),yB true 1 x27] (ZaF.ls (ZaF.mk x29 x27)))) (Zcy.snd c37) c33 q));refine Zbe h16 (fun c38 h17=>?_) (fun c38 h18=>?_)
  ·obtain ⟨x34,c39,h19⟩:=Zce h17;obtain ⟨x35,c40,h20⟩:=Zce h19;let o4:List PS:=o3++[cT,.r [(3,{oc:=[zQ (some i25),yB true 3 x24],oe:=x34.ls,yes:=false})],.r [(3,{oc:=[zQ (some i25),yB true 3 (zM x24 (0+(zE v6)) (ZaO.ls {x34 with out:=false}))],oe:=x35.ls})]]
   have t4 {Q:Prop} (q:Q):=t3 (aM c38 c39 c25 c40 (Zao c25 [zQ (some i25),yB true 3 (zM x24 (0+(zE v6)) (ZaO.ls {x34 with out:=false}))]) q);refine Zbe h20 (fun c41 h21=>?_) (fun c41 h22=>?_)
   ·exact aq fol (o4++[cT,.r [(3,{oc:=[zQ (some i25),yB true 3 (zM x24 (0+(zE v6)) (ZaO.ls {x34 with out:=false}))],oe:=x35.ls,yes:=false})],.s 4]) [0,1,18,19] [] (t4 (aJ c41 c40 (Zao c25 [zQ (some i25),yB true 3 (zM x24 (0+(zE v6)) (ZaO.ls {x34 with out:=false}))]))) (Zap.p2_ok h21 hE hc1)
   exact aq fol (o4++[cF,.s 4]) [0,1,18,19] [] (t4 c41) (Zap.p2_ok h22 hE hc1)
  exact aq fol (o3++[cF,.s 4]) [0,1,18,19] [] (t3 c38) (Zap.p2_ok h18 hE hc1)
 obtain ⟨st37,c42,h23⟩:=Zac h2;exact xT fol h23 hE [rZ,cF,.r [(1,{st:=st37})],rZ] (aI c24 (ZaZ.snd c42))
theorem Zap.snd {m_0:Option Nat} {at_1:Int} {st:LL} {r:Int×LL} (h:Zap N m_0 at_1 st=some r):Snd zC 23 [.one (zQ m_0),oI at_1] st (Zap.rs r) r.2:=
 sO Zap.B Tryz.func23 fun g0 w0 R hE=>by
  unfold Zap at h;obtain ⟨⟨x1,st2⟩,c1,h24⟩:=Zac h;let o5:List PS:=[rZ,.r [(2,{rs:=[oI x1],st:=st2})],rZ]
  refine Zbe h24 (fun c2 h25=>?_) (fun c2 h26=>?_)
  ·exact xT fol h25 hE (o5++[cT,rZ]) (aI (ZbU.snd c1) c2)
  obtain ⟨i3,rfl,h27⟩:=Zac h26;obtain ⟨x4,x5,c4,h28⟩:=ZbI h27;exact aq fol (o5++[cF,.r [(3,{oc:=[zQ x4,yB true 3 x5]})]]) [0,1,18,19] [] (aJ (ZbU.snd c1) c2 c4) (At.loop N (At.loopN (fun y:Int×LL=>Zap.p1.S i3 at_1 x5 y.1 y.2) (fun c J hc y h=>Zap.p1_ok (v6:=y.1) (st22:=y.2) h hE (fun v6 st22=>hc (v6,st22))) N (0,st2) h28))
def ZaP.B:Code:=Tryz.f70.body.getD .skip
def ZaP.rs (r:LL):List CV:=[.row true 1 r]
def ZaP.p1 (N:Nat) (A0:Zab) (c1_:(LL×Int)→Option LL):(LL×Int)→Option LL:=fun (A3,A1)=> if (decide (A1≥0))=true then chk (zK ([[zJ .i64 A1]]++A3)*8≤140737488355328)<| chk (0≤A1)<| chk (A1<(len A0.Ahead))<| ZcX (A0.Ahead[zE A1]?) ZdP fun x4=> c1_ ([[zJ .i64 A1]]++A3,x4) else some A3
def ZaP (N:Nat) (A0:Zab) (at_1:Int):Option LL:= loopN (ZaP.p1 N A0) N ([],at_1)
def ZaP.p1.S (A0:Zab) (A3:LL) (A1:Int) (st:LL):S:=mkS 22 [(0,.one (.l (vV 88 A0.ls))),(5,.one (.h (.row 5 0) 1 0 (zK A3))),(6,sI A1)] [(5,.row 0 true 1 A3)] st
theorem ZaP.p1_ok {A0 A3 A1 st r c1_ J1} (h:ZaP.p1 N A0 c1_ (A3,A1)=some r) (hE:En Tryz.f70 g0 w0 (ZaP.rs r) st R) (hc1 : ∀A3 A1,c1_ (A3,A1)=some r→At g0 w0 (ZaP.p1.S A0 A3 A1 st) J1):At g0 w0 (ZaP.p1.S A0 A3 A1 st) (XK zC R (cK ZaP.B [1,1,0,1,0,0] :: .h J1 :: [.b 0,cK ZaP.B [1,1,1]])):=by
 unfold ZaP.p1 at h;refine Zbe h (fun c6 h1=>?_) (fun c6 h2=>?_)
 ·obtain ⟨c7,c8,c9,h3⟩:=ck3 h1;obtain ⟨x4,c10,h4⟩:=Zdh h3;exact an fol [rZ,cT,.r [(4,{m:=4})],.r [(3,{oe:=A0.ls}),(6,{oe:=[zJ .i64 x4]})]] [0,5,6] [5] (aO c6 z0 (eN (1)) z0 (eN (zK A3)) c7 (eO A0.ls) (aJ c8 c9 c10)) (hc1 ([[zJ .i64 A1]]++A3) x4 h4)
 obtain rfl:=Zad h2;exact af fol hE [rZ,cF,rZ] [] 0 [0] (aJ c6 z0 (eN (zK A3)))
theorem ZaP.snd {A0:Zab} {at_1:Int} {r:LL} (h:ZaP N A0 at_1=some r):ZdD zC 70 [.one (vV 88 A0.ls),oI at_1] (ZaP.rs r):=fun st=>
 sO ZaP.B Tryz.func70 fun g0 w0 R hE=>by
  unfold ZaP at h;exact aq fol [.r [(0,{m:=2})],.r [(0,{m:=1})],rZ] [0,5,6] [5] trivial (At.loop N (At.loopN (fun y:LL×Int=>ZaP.p1.S A0 y.1 y.2 st) (fun c J hc y h=>ZaP.p1_ok (A3:=y.1) (A1:=y.2) h hE (fun A3 A1=>hc (A3,A1))) N ([],at_1) h))
def Zcs.B:Code:=Tryz.f64.body.getD .skip
def Zcs.rs (r:Bool):List CV:=[oB r]
def Zcs.p1 (N:Nat) (A1:Int) (x1:LL) (c1_:Int→Option Bool):Int→Option Bool:=fun v2=> if (decide (v2<(len x1)))=true then chk (0≤v2)<| ZcX (x1[0+(zE v2)]?) ZdP fun x3=> if (x3==A1)=true then some true else c1_ (w64 (v2+1)) else some false
def Zcs (N:Nat) (A0:Zab) (A1 A2:Int):Option Bool:= Zbj (ZaP N A0 A2) fun x1=> chk (Zex x1=true)<| loopN (Zcs.p1 N A1 x1) N 0
def Zcs.p1.S (A1:Int) (x1:LL) (v2:Int) (st:LL):S:=mkS 21 [(1,sI A1),(11,.one (.h (.row 11 0) 1 0 (zK x1))),(12,sI (len x1)),(13,sI v2)] [(11,.row 0 true 1 x1)] st
theorem Zcs.p1_ok {A1 x1 v2 st r c1_ J1} (h:Zcs.p1 N A1 x1 c1_ v2=some r) (hE:En Tryz.f64 g0 w0 (Zcs.rs r) st R) (hc1 : ∀v2,c1_ v2=some r→At g0 w0 (Zcs.p1.S A1 x1 v2 st) J1):At g0 w0 (Zcs.p1.S A1 x1 v2 st) (XK zC R (cK Zcs.B [1,0,1,0,0] :: .h J1 :: [.b 0,cK Zcs.B [1,1]])):=by
 unfold Zcs.p1 at h;refine Zbe h (fun c3 h1=>?_) (fun c3 h2=>?_)
 ·obtain ⟨c4,h3⟩:=Zbd h1;obtain ⟨x3,c5,h4⟩:=Zdh h3;let o1:List PS:=[rZ,cT,.r [(1,{oe:=[zJ .i64 x3]})],rZ]
  refine Zbe h4 (fun c6 h5=>?_) (fun c6 h6=>?_)
  ·exact xS fol h5 hE (o1++[cT,rZ]) (aL c3 c4 (oD c3) c5 c6)
  exact an fol (o1++[cF,rZ]) [1,11,12,13] [11] (aL c3 c4 (oD c3) c5 c6) (hc1 (w64 (v2+1)) h6)
 exact xS fol h2 hE [rZ,cF,rZ] c3
theorem Zcs.snd {A0:Zab} {A1 A2:Int} {r:Bool} (h:Zcs N A0 A1 A2=some r):ZdD zC 64 [.one (vV 88 A0.ls),oI A1,oI A2] (Zcs.rs r):=fun st=>
 sO Zcs.B Tryz.func64 fun g0 w0 R hE=>by
  unfold Zcs at h;obtain ⟨x1,c1,h7⟩:=Zac h;obtain ⟨c2,h8⟩:=Zbd h7;exact aq fol [rZ,.r [(2,{rs:=[.row true 1 x1],ns:=[11],m:=10})]] [1,11,12,13] [11] (aI c2 (ZaP.snd c1)) (At.loop N (At.loopN (fun y:Int=>Zcs.p1.S A1 x1 y st) (fun c J hc y h=>Zcs.p1_ok h hE (fun v2=>hc v2)) N 0 h8))
def Zam.B:Code:=Tryz.f36.body.getD .skip
def Zam.rs (r:Int×LL):List CV:=[oI r.1]
def Zam.p2 (N:Nat) (c1_:((Option Nat)×Int×LL)→Option (Int×LL)) (A25:Option Nat) (i3:Nat) (A2:Int) (x4:Zab) (v5:Int) (st24:LL):Option (Int×LL):= c1_ (A25,w64 (v5+1),st24)
def Zam.p1 (N:Nat) (i3:Nat) (A2:Int) (x4:Zab) (c1_:((Option Nat)×Int×LL)→Option (Int×LL)):((Option Nat)×Int×LL)→Option (Int×LL):=fun (A15,v5,st16)=> if (decide (v5<(len x4.List_)))=true then ZcX (st16[i3]?) ZbR fun x17=> Zbj (Zcs N x17 v5 A2) fun x18=> if x18=true then Zbj A15 fun i19=> chk (0≤v5)<| chk (v5<600)<| ZcX (st16[i19]?) ZcO fun x20=> if ((zF x20.Said (zE v5) 0)==2)=true then Zam.p2 N c1_ (some i19) i3 A2 x4 v5 (zM (zM st16 i19 (ZaD.ls {x20 with Out:=zM x20.Out (zE v5) false})) i19 (ZaD.ls (ZaD.mk (zM x20.Said (zE v5) 0) (zM x20.Out (zE v5) false)))) else Zam.p2 N c1_ (some i19) i3 A2 x4 v5 (zM st16 i19 (ZaD.ls {x20 with Out:=zM x20.Out (zE v5) false})) else Zbj (Zcs N x17 A2 v5) fun x21=> if x21=true then Zbj A15 fun i22=> chk (0≤v5)<| chk (v5<600)<| ZcX (st16[i22]?) ZcO fun x23=> if ((zF x23.Said (zE v5) 0)==2)=true then Zam.p2 N c1_ (some i22) i3 A2 x4 v5 (zM (zM st16 i22 (ZaD.ls {x23 with Out:=zM x23.Out (zE v5) false})) i22 (ZaD.ls (ZaD.mk (zM x23.Said (zE v5) 0) (zM x23.Out (zE v5) false)))) else Zam.p2 N c1_ (some i22) i3 A2 x4 v5 (zM st16 i22 (ZaD.ls {x23 with Out:=zM x23.Out (zE v5) false})) else Zam.p2 N c1_ A15 i3 A2 x4 v5 st16 else some (0,st16)
def Zam (N:Nat) (m_0 A1:Option Nat) (A2:Int) (st:LL):Option (Int×LL):= Zbj (ZcQ N A1 A2 st) fun (x1,st2)=> if (decide (x1>0))=true then some (x1,st2) else Zbj A1 fun i3=> ZcX (st2[i3]?) ZbR fun x4=> loopN (Zam.p1 N i3 A2 x4) N (m_0,0,st2)
def Zam.p2.S (A25:Option Nat) (i3:Nat) (A2:Int) (x4:Zab) (v5:Int) (st24:LL):S:=mkS 51 [(0,sP A25),(1,sP (some i3)),(2,sI A2),(19,sI (len x4.List_)),(20,sI v5)] [] st24
def Zam.p1.S (A15:Option Nat) (i3:Nat) (A2:Int) (x4:Zab) (v5:Int) (st16:LL):S:=mkS 51 [(0,sP A15),(1,sP (some i3)),(2,sI A2),(19,sI (len x4.List_)),(20,sI v5)] [] st16
theorem Zam.p2_ok {A25 i3 A2 x4 v5 st24 r c1_ J1} (h:Zam.p2 N c1_ A25 i3 A2 x4 v5 st24=some r) (hE:En Tryz.f36 g0 w0 (Zam.rs r) r.2 R) (hc1 : ∀A15 v5 st16,c1_ (A15,v5,st16)=some r→At g0 w0 (Zam.p1.S A15 i3 A2 x4 v5 st16) J1):At g0 w0 (Zam.p2.S A25 i3 A2 x4 v5 st24) (XK zC R [cK Zam.B [1,1,1,0,1,0,0,1,1,1],.h J1,.b 0,cK Zam.B [1,1,1,1]]):=by
 unfold Zam.p2 at h;exact an fol [rZ] [0,1,2,19,20] [] trivial (hc1 A25 (w64 (v5+1)) st24 h)
theorem Zam.p1_ok {A15 i3 A2 x4 v5 st16 r c1_ J1} (h:Zam.p1 N i3 A2 x4 c1_ (A15,v5,st16)=some r) (hE:En Tryz.f36 g0 w0 (Zam.rs r) r.2 R) (hc1 : ∀A15 v5 st16,c1_ (A15,v5,st16)=some r→At g0 w0 (Zam.p1.S A15 i3 A2 x4 v5 st16) J1):At g0 w0 (Zam.p1.S A15 i3 A2 x4 v5 st16) (XK zC R (cK Zam.B [1,1,1,0,1,0,0] :: .h J1 :: [.b 0,cK Zam.B [1,1,1,1]])):=by
 unfold Zam.p1 at h;refine Zbe h (fun c21 h1=>?_) (fun c21 h2=>?_)
 ·obtain ⟨x17,c22,h3⟩:=Zcw h1;obtain ⟨x18,c23,h4⟩:=Zac h3;let o1:List PS:=[rZ,cT,rZ]
  have t1 {Q:Prop} (q:Q):=aK c21 (bO 88 c22 (Zab.bv x17)) (Zcs.snd c23) q;refine Zbe h4 (fun c24 h5=>?_) (fun c24 h6=>?_)
  ·obtain ⟨i19,rfl,h7⟩:=Zac h5;obtain ⟨c26,c27,h8⟩:=ck2 h7;obtain ⟨x20,c28,h9⟩:=Zdy h8;let o2:List PS:=o1++[.r [(3,{rs:=[oB x18],m:=10,cv:=[.one (vV 88 x17.ls)]}),(5,wF),(6,wF),(7,wF),(8,wF)],cT,.r [(5,{oc:=x20.ls})],.r [(5,{oc:=ZaD.ls {x20 with Out:=zM x20.Out (zE v5) false}})]]
   have t2 {Q:Prop} (q:Q):=t1 (aO c24 c24 c24 c24 c24 eT c26 (aM c27 c28 c26 c27 (Zao c28 (ZaD.ls {x20 with Out:=zM x20.Out (zE v5) false})) q));refine Zbe h9 (fun c29 h10=>?_) (fun c29 h11=>?_)
   ·exact aq fol (o2++[cT,.r [(5,{oc:=ZaD.ls {x20 with Out:=zM x20.Out (zE v5) false}})],.s 4]) [0,1,2,19,20] [] (t2 (aK c29 c26 c27 (Zao c28 (ZaD.ls {x20 with Out:=zM x20.Out (zE v5) false})))) (Zam.p2_ok h10 hE hc1)
   exact aq fol (o2++[cF,.s 4]) [0,1,2,19,20] [] (t2 c29) (Zam.p2_ok h11 hE hc1)
  obtain ⟨x21,c30,h12⟩:=Zac h6;let o3:List PS:=o1++[.r [(3,{rs:=[oB x18],m:=10,cv:=[.one (vV 88 x17.ls)]}),(8,{rs:=[oB x21],m:=10,cv:=[.one (vV 88 x17.ls)]}),(9,yF)]]
  have t3 {Q:Prop} (q:Q):=t1 (aO c24 c24 c24 c24 (bO 88 c22 (Zab.bv x17)) (Zcs.snd c30) c24 q);refine Zbe h12 (fun c31 h13=>?_) (fun c31 h14=>?_)
  ·obtain ⟨i22,rfl,h15⟩:=Zac h13;obtain ⟨c33,c34,h16⟩:=ck2 h15;obtain ⟨x23,c35,h17⟩:=Zdy h16;let o4:List PS:=o3++[cT,.r [(5,{oc:=x23.ls})],.r [(5,{oc:=ZaD.ls {x23 with Out:=zM x23.Out (zE v5) false}})]]
   have t4 {Q:Prop} (q:Q):=t3 (aO c31 c33 c34 c35 c33 c34 (Zao c35 (ZaD.ls {x23 with Out:=zM x23.Out (zE v5) false})) q);refine Zbe h17 (fun c36 h18=>?_) (fun c36 h19=>?_)
   ·exact aq fol (o4++[cT,.r [(5,{oc:=ZaD.ls {x23 with Out:=zM x23.Out (zE v5) false}})],.s 4]) [0,1,2,19,20] [] (t4 (aK c36 c33 c34 (Zao c35 (ZaD.ls {x23 with Out:=zM x23.Out (zE v5) false})))) (Zam.p2_ok h18 hE hc1)
   exact aq fol (o4++[cF,.s 4]) [0,1,2,19,20] [] (t4 c36) (Zam.p2_ok h19 hE hc1)
  exact aq fol (o3++[cF,.s 4]) [0,1,2,19,20] [] (t3 c31) (Zam.p2_ok h14 hE hc1)
 exact xT fol h2 hE [rZ,cF,rZ] c21
theorem Zam.snd {m_0 A1:Option Nat} {A2:Int} {st:LL} {r:Int×LL} (h:Zam N m_0 A1 A2 st=some r):Snd zC 36 [.one (zQ m_0),.one (zQ A1),oI A2] st (Zam.rs r) r.2:=
 sO Zam.B Tryz.func36 fun g0 w0 R hE=>by
  unfold Zam at h;obtain ⟨⟨x1,st2⟩,c1,h20⟩:=Zac h;let o5:List PS:=[rZ,.r [(2,{rs:=[oI x1],st:=st2})],rZ]
  refine Zbe h20 (fun c2 h21=>?_) (fun c2 h22=>?_)
  ·exact xT fol h21 hE (o5++[cT,rZ]) (aI (ZcQ.snd c1) c2)
  obtain ⟨i3,rfl,h23⟩:=Zac h22;obtain ⟨x4,c4,h24⟩:=Zcw h23;exact aq fol (o5++[cF,.r [(3,{oc:=x4.lo})]]) [0,1,2,19,20] [] (aJ (ZcQ.snd c1) c2 c4) (At.loop N (At.loopN (fun y:(Option Nat)×Int×LL=>Zam.p1.S y.1 i3 A2 x4 y.2.1 y.2.2) (fun c J hc y h=>Zam.p1_ok (A15:=y.1) (v5:=y.2.1) (st16:=y.2.2) h hE (fun A15 v5 st16=>hc (A15,v5,st16))) N (m_0,0,st2) h24))
def Zbr.B:Code:=Tryz.f12.body.getD .skip
def Zbr.rs (r:Bool×LL):List CV:=[oB r.1]
def Zbr.p1 (N:Nat) (st45:LL):Option (Bool×LL):= some (true,st45)
def Zbr (N:Nat) (A0:Option Nat) (A1:Zbu) (st:LL):Option (Bool×LL):= if (A1.Kind==0)=true then Zbj A0 fun i1=> ZcX (st[i1]?) ZbG fun x2 x3 x4 x5=> Zbj (ZbW N x2 A1.Header A1.Now st) fun (x6,x7,x8,st9)=> ZcX (st9[i1]?) ZbG fun x10 x11 x12 x13=> Zbj (Zdb N x12 A1.Header A1.Now st9) fun (x14,x15,x16,st17)=> Zbr.p1 N st17 else if (A1.Kind==1)=true then Zbj A0 fun i18=> ZcX (st[i18]?) ZbG fun x19 x20 x21 x22=> Zbj (Zax N x20 A1.N A1.Right st) fun (x23,st24)=> chk (eqO (st24[i18]?) (some [zQ x19,zQ x20,zQ x21,zQ x22])=true)<| Zbj (ZaV N x22 x21 A1.N A1.Right st24) fun (x25,st26)=> some (x23==x25,st26) else if (A1.Kind==2)=true then Zbj A0 fun i27=> ZcX (st[i27]?) ZbG fun x28 x29 x30 x31=> Zbj (ZbV N x29 A1.N st) fun (x32,st33)=> chk (eqO (st33[i27]?) (some [zQ x28,zQ x29,zQ x30,zQ x31])=true)<| Zbj (ZaN N x31 x30 A1.N st33) fun (x34,st35)=> some (x32==x34,st35) else if (A1.Kind==3)=true then Zbj A0 fun i36=> ZcX (st[i36]?) ZbG fun x37 x38 x39 x40=> Zbj (Zap N x38 A1.N st) fun (x41,st42)=> chk (eqO (st42[i36]?) (some [zQ x37,zQ x38,zQ x39,zQ x40])=true)<| Zbj (Zam N x40 x39 A1.N st42) fun (x43,st44)=> some (x41==x43,st44) else Zbr.p1 N st
def Zbr.p1.S (st45:LL):S:=mkS 94 [] [] st45
theorem Zbr.p1_ok {st45 r} (h:Zbr.p1 N st45=some r) (hE:En Tryz.f12 g0 w0 (Zbr.rs r) r.2 R):At g0 w0 (Zbr.p1.S st45) (XK zC R [cK Zbr.B [1,1]]):=by
 unfold Zbr.p1 at h;exact xT fol h hE [rZ] trivial
theorem Zbr.snd {A0:Option Nat} {A1:Zbu} {st:LL} {r:Bool×LL} (h:Zbr N A0 A1 st=some r):Snd zC 12 [.one (zQ A0),.agg A1.ls] st (Zbr.rs r) r.2:=
 sO Zbr.B Tryz.func12 fun g0 w0 R hE=>by
  unfold Zbr at h;let o1:List PS:=[rZ,rZ,rZ]
  refine Zbe h (fun c1 h1=>?_) (fun c1 h2=>?_)
  ·obtain ⟨i1,rfl,h3⟩:=Zac h1;obtain ⟨x2,x3,x4,x5,c3,h4⟩:=Zcd h3;obtain ⟨⟨x6,x7,x8,st9⟩,c4,h5⟩:=Zac h4;obtain ⟨x10,x11,x12,x13,c5,h6⟩:=Zcd h5;obtain ⟨⟨x14,x15,x16,st17⟩,c6,h7⟩:=Zac h6;exact aqd fol (o1++[cT,.d {ds:=[(3,{oc:=(qla x2 x3 x4 x5)}),(8,{rs:=[oI x6,oI x7,oI x8],st:=st9})],hv:=256,Hs:=[256]},.d {ds:=[(3,{oc:=(qla x10 x11 x12 x13)}),(8,{rs:=[oI x14,oI x15,oI x16],st:=st17})],hv:=256,Hs:=[256]},.s 1]) [] [] (aL c1 c3 (ZbW.snd c4) c5 (Zdb.snd c6)) (Zbr.p1_ok h7 hE)
  let o2:List PS:=o1++[cF,rZ]
  refine Zbe h2 (fun c7 h8=>?_) (fun c7 h9=>?_)
  ·obtain ⟨i18,rfl,h10⟩:=Zac h8;obtain ⟨x19,x20,x21,x22,c9,h11⟩:=Zcd h10;obtain ⟨⟨x23,st24⟩,c10,h12⟩:=Zac h11;obtain ⟨c11,h13⟩:=Zbd h12;obtain ⟨⟨x25,st26⟩,c12,h14⟩:=Zac h13;exact xTd fol h14 hE (o2++[cT,.d {ds:=[(3,{oc:=(qla x19 x20 x21 x22)}),(8,{rs:=[oI x23],st:=st24}),(12,{oc:=(qla x19 x20 x21 x22)}),(16,{oc:=(qla x19 x20 x21 x22)}),(21,{rs:=[oI x25],st:=st26})],hv:=2097408,Hs:=[256,2097408]}]) (aO c1 c7 c9 (Zax.snd c10) c9 (ZgD c11) c9 (aI (ZgD c11) (ZaV.snd c12)))
  refine Zbe h9 (fun c13 h15=>?_) (fun c13 h16=>?_)
  ·obtain ⟨i27,rfl,h17⟩:=Zac h15;obtain ⟨x28,x29,x30,x31,c15,h18⟩:=Zcd h17;obtain ⟨⟨x32,st33⟩,c16,h19⟩:=Zac h18;obtain ⟨c17,h20⟩:=Zbd h19;obtain ⟨⟨x34,st35⟩,c18,h21⟩:=Zac h20;exact xTd fol h21 hE (o2++[cF,rZ,cT,.d {ds:=[(3,{oc:=(qla x28 x29 x30 x31)}),(6,{rs:=[oI x32],st:=st33}),(10,{oc:=(qla x28 x29 x30 x31)}),(14,{oc:=(qla x28 x29 x30 x31)}),(17,{rs:=[oI x34],st:=st35})],hv:=131136,Hs:=[64,131136]}]) (aO c1 c7 c13 c15 (ZbV.snd c16) c15 (ZgD c17) (aJ c15 (ZgD c17) (ZaN.snd c18)))
  refine Zbe h16 (fun c19 h22=>?_) (fun c19 h23=>?_)
  ·obtain ⟨i36,rfl,h24⟩:=Zac h22;obtain ⟨x37,x38,x39,x40,c21,h25⟩:=Zcd h24;obtain ⟨⟨x41,st42⟩,c22,h26⟩:=Zac h25;obtain ⟨c23,h27⟩:=Zbd h26;obtain ⟨⟨x43,st44⟩,c24,h28⟩:=Zac h27;exact xTd fol h28 hE (o2++[cF,rZ,cF,rZ,cT,.d {ds:=[(3,{oc:=(qla x37 x38 x39 x40)}),(6,{rs:=[oI x41],st:=st42}),(10,{oc:=(qla x37 x38 x39 x40)}),(14,{oc:=(qla x37 x38 x39 x40)}),(17,{rs:=[oI x43],st:=st44})],hv:=131136,Hs:=[64,131136]}]) (aO c1 c7 c13 c19 c21 (Zap.snd c22) c21 (aK (ZgD c23) c21 (ZgD c23) (Zam.snd c24)))
  exact aq fol (o2++[cF,rZ,cF,rZ,cF,.s 1]) [] [] (aK c1 c7 c13 c19) (Zbr.p1_ok h23 hE)
def Zda.B:Code:=Tryz.f18.body.getD .skip
def Zda.rs (r:Bool×LL):List CV:=[oB r.1]
def Zda (N:Nat) (m_0:Option Nat) (at_1:Int) (st:LL):Option (Bool×LL):= Zbj (ZbM N m_0 at_1 st) fun (x1,st2)=> if x1=true then Zbj m_0 fun i3=> ZcX (st2[i3]?) Zca fun x4 x5=> chk (0≤at_1)<| chk (at_1<(len x5))<| ZcX (x5[0+(zE at_1)]?) Zcl fun x6=> some (x6.child,st2) else some (false,st2)
theorem Zda.snd {m_0:Option Nat} {at_1:Int} {st:LL} {r:Bool×LL} (h:Zda N m_0 at_1 st=some r):Snd zC 18 [.one (zQ m_0),oI at_1] st (Zda.rs r) r.2:=
 sO Zda.B Tryz.func18 fun g0 w0 R hE=>by
  unfold Zda at h;obtain ⟨⟨x1,st2⟩,c1,h1⟩:=Zac h;refine Zbe h1 (fun c2 h2=>?_) (fun c2 h3=>?_)
  ·obtain ⟨i3,rfl,h4⟩:=Zac h2;obtain ⟨x4,x5,c4,h5⟩:=ZbI h4;obtain ⟨c5,c6,h6⟩:=ck2 h5;obtain ⟨x6,c7,h7⟩:=Zce h6;exact xT fol h7 hE [rZ,.r [(2,{rs:=[oB x1],st:=st2}),(7,{oc:=[zQ x4,yB true 3 x5]}),(11,{oc:=[zQ x4,yB true 3 x5],oe:=x6.ls})]] (aO (ZbM.snd c1) c2 c2 c2 c2 c4 c2 (aO c2 c5 c6 c2 c2 c7 c4 c2))
  exact xT fol h3 hE [rZ,.r [(2,{rs:=[oB x1],st:=st2}),(4,wF),(5,wF),(6,wF),(7,wF),(8,wF),(9,wF),(10,wF),(11,wF),(12,yF)]] (aO (ZbM.snd c1) c2 c2 c2 c2 c2 c2 (aJ c2 c2 c2))
def ZcV.B:Code:=Tryz.f20.body.getD .skip
def ZcV.rs (r:Int×Bool×LL):List CV:=[oI r.1,oB r.2.1]
def ZcV (N:Nat) (m_0:Option Nat) (at_1:Int) (st:LL):Option (Int×Bool×LL):= Zbj (ZbM N m_0 at_1 st) fun (x1,st2)=> if (!x1)=true then some (0,false,st2) else Zbj m_0 fun i3=> ZcX (st2[i3]?) Zca fun x4 x5=> chk (0≤at_1)<| chk (at_1<(len x5))<| ZcX (x5[0+(zE at_1)]?) Zcl fun x6=> some (x6.verdict,x6.out,st2)
theorem ZcV.snd {m_0:Option Nat} {at_1:Int} {st:LL} {r:Int×Bool×LL} (h:ZcV N m_0 at_1 st=some r):Snd zC 20 [.one (zQ m_0),oI at_1] st (ZcV.rs r) r.2.2:=
 sO ZcV.B Tryz.func20 fun g0 w0 R hE=>by
  unfold ZcV at h;obtain ⟨⟨x1,st2⟩,c1,h1⟩:=Zac h;let o1:List PS:=[rZ,.r [(2,{rs:=[oB x1],st:=st2})]]
  refine Zbe h1 (fun c2 h2=>?_) (fun c2 h3=>?_)
  ·exact xU fol h2 hE (o1++[cT,rZ]) (aI (ZbM.snd c1) c2)
  obtain ⟨i3,rfl,h4⟩:=Zac h3;obtain ⟨x4,x5,c4,h5⟩:=ZbI h4;obtain ⟨c5,c6,h6⟩:=ck2 h5;obtain ⟨x6,c7,h7⟩:=Zce h6;exact xUd fol h7 hE (o1++[cF,.d {ds:=[(3,{oc:=[zQ x4,yB true 3 x5]}),(7,{oc:=[zQ x4,yB true 3 x5],oe:=x6.ls}),(11,{oc:=[zQ x4,yB true 3 x5]}),(15,{oc:=[zQ x4,yB true 3 x5],oe:=x6.ls})],hv:=0,Hs:=[]}]) (aO (ZbM.snd c1) c2 c4 c5 c6 c7 c4 (aL c4 c5 c6 c7 c4))
def ZaI.B:Code:=Tryz.f4.body.getD .skip
def ZaI.rs (r:Bool×LL):List CV:=[oB r.1]
def ZaI.p2 (N:Nat) (A2:Int) (A3:Bool) (c2_:((Option Nat)×Int×LL)→Option (Bool×LL)):((Option Nat)×Int×LL)→Option (Bool×LL):=fun (A126,A89,st127)=> Zbj A126 fun i128=> ZcX (st127[i128]?) ZbG fun x129 x130 x131 x132=> Zbj x131 fun i133=> ZcX (st127[i133]?) ZbR fun x134=> if (decide (A89<(len x134.List_)))=true then Zbj (Zda N x130 A89 st127) fun (x135,st136)=> chk (eqO (st136[i128]?) (some [zQ x129,zQ x130,zQ (some i133),zQ x132])=true)<| chk (eqO (st136[i133]?) (some x134.lo)=true)<| chk (0≤A89)<| chk (A89<(len x134.Ahead))<| ZcX (x134.Ahead[zE A89]?) ZdP fun x137=> Zbj (ZcH N x130 x137 st136) fun (x138,st139)=> if (!(x135==x138))=true then some (false,st139) else c2_ ((some i128),w64 (A89+1),st139) else Zbj (Zax N x130 A2 A3 st127) fun (x140,st141)=> if (x140 != 0)=true then some (true,st141) else ZcX (st141[i128]?) ZbG fun x142 x143 x144 x145=> Zbj (ZcV N x143 A2 st141) fun (x146,x147,st148)=> ZcX (st148[i128]?) ZbG fun x149 x150 x151 x152=> Zbj (Zax N x150 A2 A3 st148) fun (x153,st154)=> chk (eqO (st154[i128]?) (some [zQ x149,zQ x150,zQ x151,zQ x152])=true)<| Zbj (Zax N x150 A2 (!A3) st154) fun (x155,st156)=> ZcX (st156[i128]?) ZbG fun x157 x158 x159 x160=> Zbj (ZcV N x158 A2 st156) fun (x161,x162,st163)=> if (x153==0)=true then if (x155==1)=true then if (x146==x161)=true then some ((x146==1)==A3,st163) else some (false,st163) else some (false,st163) else some (false,st163)
def ZaI.p1 (N:Nat) (A2:Int) (A3:Bool) (x4:Option Nat) (A1:LL) (c1_:(Int×LL)→Option (Bool×LL)):(Int×LL)→Option (Bool×LL):=fun (v6,st85)=> if (decide (v6<(len A1)))=true then chk (0≤v6)<| ZcX (A1[zE v6]?) ZdE fun x86=> Zbj (Zbr N x4 x86 st85) fun (x87,st88)=> c1_ (w64 (v6+1),st88) else loopN (ZaI.p2 N A2 A3) N (x4,1,st85)
def ZaI (N:Nat) (A0:Zae) (A1:LL) (A2:Int) (A3:Bool) (st:LL):Option (Bool×LL):= Zbj (ZdS N st) fun (x1,st2)=> if (!x1)=true then some (false,st2) else Zbj (ZbZ N A0 A1) fun x3=> if x3=true then some (true,st2) else Zbj (ZdR N A0 st2) fun (x4,st5)=> loopN (ZaI.p1 N A2 A3 x4 A1) N (0,st5)
def ZaI.p2.S (A2:Int) (A3:Bool) (A126:Option Nat) (A89:Int) (st127:LL):S:=mkS 128 [(2,sI A2),(3,.one (.l (xK A3))),(9,sP A126),(12,sI A89)] [] st127
def ZaI.p1.S (A2:Int) (A3:Bool) (x4:Option Nat) (A1:LL) (v6:Int) (st85:LL):S:=mkS 128 [(2,sI A2),(3,.one (.l (xK A3))),(9,sP x4),(26,sV 72 A1),(27,sI (len A1)),(28,sI v6)] [] st85
theorem ZaI.p2_ok {A2 A3 A126 A89 st127 r c2_ J2} (h:ZaI.p2 N A2 A3 c2_ (A126,A89,st127)=some r) (hE:En Tryz.f4 g0 w0 (ZaI.rs r) r.2 R) (hc2 : ∀A126 A89 st127,c2_ (A126,A89,st127)=some r→At g0 w0 (ZaI.p2.S A2 A3 A126 A89 st127) J2):At g0 w0 (ZaI.p2.S A2 A3 A126 A89 st127) (XK zC R (cK ZaI.B [1,1,1,1,1,0,1,0,0] :: .h J2 :: [.b 2,cK ZaI.B [1,1,1,1,1,1]])):=by
 unfold ZaI.p2 at h;obtain ⟨i128,rfl,h1⟩:=Zac h;obtain ⟨x129,x130,x131,x132,c93,h2⟩:=Zcd h1;obtain ⟨i133,rfl,h3⟩:=Zac h2;obtain ⟨x134,c95,h4⟩:=Zcw h3;let o1:List PS:=[.r [(4,{oc:=(qla x129 x130 (some i133) x132)}),(7,{oc:=x134.lo})]]
 have t1 {Q:Prop} (q:Q):=aJ c93 c95 q;refine Zbe h4 (fun c96 h5=>?_) (fun c96 h6=>?_)
 ·obtain ⟨⟨x135,st136⟩,c97,h7⟩:=Zac h5;obtain ⟨c98,c99,c100,c101,h8⟩:=ck4 h7;obtain ⟨x137,c102,h9⟩:=Zdh h8;obtain ⟨⟨x138,st139⟩,c103,h10⟩:=Zac h9;let o2:List PS:=o1++[cT,.d {ds:=[(3,{oc:=(qla x129 x130 (some i133) x132)}),(5,{rs:=[oB x135],st:=st136}),(9,{oc:=(qla x129 x130 (some i133) x132)}),(13,{oc:=(qla x129 x130 (some i133) x132)}),(16,{oc:=x134.lo,m:=13}),(19,{oe:=[zJ .i64 x137]}),(20,{rs:=[oB x138],st:=st139})],hv:=1048608,Hs:=[32,1048608]}]
  have t2 {Q:Prop} (q:Q):=t1 (aO c96 c93 (Zda.snd c97) c93 (ZgD c98) c93 (ZgD c98) (aO c95 z0 (eN (zK x134.Ahead)) c95 (ZgD c99) z0 (eN (zK x134.Ahead)) (aO (ZgD c99) c100 c101 c100 c101 c102 c102 (aI (ZcH.snd c103) q))));refine Zbe h10 (fun c104 h11=>?_) (fun c104 h12=>?_)
  ·exact xTd fol h11 hE (o2++[cT,rZ]) (t2 c104)
  exact ZjD fol (o2++[cF,rZ]) [2,3,9,12] [] (t2 c104) (hc2 (some i128) (w64 (A89+1)) st139 h12)
 obtain ⟨⟨x140,st141⟩,c105,h13⟩:=Zac h6;let o3:List PS:=o1++[cF,.r [(3,{oc:=(qla x129 x130 (some i133) x132)}),(6,{rs:=[oI x140],st:=st141})]]
 have t3 {Q:Prop} (q:Q):=t1 (aK c96 c93 (Zax.snd c105) q);refine Zbe h13 (fun c106 h14=>?_) (fun c106 h15=>?_)
 ·exact xT fol h14 hE (o3++[cT,rZ]) (t3 c106)
 obtain ⟨x142,x143,x144,x145,c107,h16⟩:=Zcd h15;obtain ⟨⟨x146,x147,st148⟩,c108,h17⟩:=Zac h16;obtain ⟨x149,x150,x151,x152,c109,h18⟩:=Zcd h17;obtain ⟨⟨x153,st154⟩,c110,h19⟩:=Zac h18;obtain ⟨c111,h20⟩:=Zbd h19;obtain ⟨⟨x155,st156⟩,c112,h21⟩:=Zac h20;obtain ⟨x157,x158,x159,x160,c113,h22⟩:=Zcd h21;obtain ⟨⟨x161,x162,st163⟩,c114,h23⟩:=Zac h22;let o4:List PS:=o3++[cF,.r [(3,{oc:=(qla x142 x143 x144 x145)}),(5,{rs:=[oI x146,oB x147],st:=st148})],.d {ds:=[(3,{oc:=(qla x149 x150 x151 x152)}),(6,{rs:=[oI x153],st:=st154}),(10,{oc:=(qla x149 x150 x151 x152)}),(14,{rs:=[oI x155],st:=st156})],hv:=16448,Hs:=[64,16448]},.r [(3,{oc:=(qla x157 x158 x159 x160)}),(5,{rs:=[oI x161,oB x162],st:=st163})]]
 have t4 {Q:Prop} (q:Q):=t3 (aO c106 c107 (ZcV.snd c108) c109 (Zax.snd c110) c109 (ZgD c111) (aK (Zax.snd c112) c113 (ZcV.snd c114) q));refine Zbe h23 (fun c115 h24=>?_) (fun c115 h25=>?_)
 ·refine Zbe h24 (fun c116 h26=>?_) (fun c116 h27=>?_)
  ·refine Zbe h26 (fun c117 h28=>?_) (fun c117 h29=>?_)
   ·exact xTd fol h28 hE (o4++[rZ]) (t4 (aO c115 c115 c115 c116 c116 c116 c116 (aL c117 c117 c117 c117 c117)))
   exact xTd fol h29 hE (o4++[.r [(12,wF),(13,wF),(14,wF),(15,wF),(16,yF)]]) (t4 (aO c115 c115 c115 c116 c116 c116 c116 (aL c117 c117 c117 c117 c117)))
  exact xTd fol h27 hE (o4++[.r [(7,wF),(8,wF),(9,wF),(10,yF),(12,wF),(13,wF),(14,wF),(15,wF),(16,yF)]]) (t4 (aO c115 c115 c115 c116 c116 c116 c116 (aL eF eF eF eF eF)))
 exact xTd fol h25 hE (o4++[.r [(3,wF),(4,wF),(5,yF),(7,wF),(8,wF),(9,wF),(10,yF),(12,wF),(13,wF),(14,wF),(15,wF),(16,yF)]]) (t4 (aO c115 c115 c115 eF eF eF eF (aL eF eF eF eF eF)))
theorem ZaI.p1_ok {A2 A3 x4 A1 v6 st85 r c1_ J1} (h:ZaI.p1 N A2 A3 x4 A1 c1_ (v6,st85)=some r) (hE:En Tryz.f4 g0 w0 (ZaI.rs r) r.2 R) (hc1 : ∀v6 st85,c1_ (v6,st85)=some r→At g0 w0 (ZaI.p1.S A2 A3 x4 A1 v6 st85) J1):At g0 w0 (ZaI.p1.S A2 A3 x4 A1 v6 st85) (XK zC R (cK ZaI.B [1,1,1,1,0,1,0,0] :: .h J1 :: [.b 0,cK ZaI.B [1,1,1,1,1]])):=by
 unfold ZaI.p1 at h;refine Zbe h (fun c62 h30=>?_) (fun c62 h31=>?_)
 ·obtain ⟨c63,h32⟩:=Zbd h30;obtain ⟨x86,c64,h33⟩:=Zfs h32;obtain ⟨⟨x87,st88⟩,c65,h34⟩:=Zac h33;exact an fol [rZ,cT,.r [(1,{oe:=x86.ls})],.r [(2,{rs:=[oB x87],st:=st88})],rZ] [2,3,9,26,27,28] [] (aL c62 c63 (oD c62) c64 (Zbr.snd c65)) (hc1 (w64 (v6+1)) st88 h34)
 exact aq fol [rZ,cF,rZ] [2,3,9,12] [] c62 (At.loop N (At.loopN (fun y:(Option Nat)×Int×LL=>ZaI.p2.S A2 A3 y.1 y.2.1 y.2.2) (fun c J hc y h=>ZaI.p2_ok (A126:=y.1) (A89:=y.2.1) (st127:=y.2.2) h hE (fun A126 A89 st127=>hc (A126,A89,st127))) N (x4,1,st85) h31))
theorem ZaI.snd {A0:Zae} {A1:LL} {A2:Int} {A3:Bool} {st:LL} {r:Bool×LL} (h:ZaI N A0 A1 A2 A3 st=some r):Snd zC 4 [.agg A0.ls,.one (L.sl 72 A1),oI A2,oB A3] st (ZaI.rs r) r.2:=
 sO ZaI.B Tryz.func4 fun g0 w0 R hE=>by
  unfold ZaI at h;obtain ⟨⟨x1,st2⟩,c1,h35⟩:=Zac h;let o5:List PS:=[rZ,.r [(0,{rs:=[oB x1],st:=st2})]]
  have t5 {Q:Prop} (q:Q):=aI (ZdS.snd c1) q;refine Zbe h35 (fun c2 h36=>?_) (fun c2 h37=>?_)
  ·exact xT fol h36 hE (o5++[cT,rZ]) (t5 c2)
  obtain ⟨x3,c3,h38⟩:=Zac h37;let o6:List PS:=o5++[cF,.r [(2,q1 [oB x3])]]
  refine Zbe h38 (fun c4 h39=>?_) (fun c4 h40=>?_)
  ·exact xT fol h39 hE (o6++[cT,rZ]) (t5 (aJ c2 (ZbZ.snd c3) c4))
  obtain ⟨⟨x4,st5⟩,c5,h41⟩:=Zac h40;exact aq fol (o6++[cF,.r [(1,{rs:=[.one (zQ x4)],st:=st5})],rZ]) [2,3,9,26,27,28] [] (t5 (aK c2 (ZbZ.snd c3) c4 (ZdR.snd c5))) (At.loop N (At.loopN (fun y:Int×LL=>ZaI.p1.S A2 A3 x4 A1 y.1 y.2) (fun c J hc y h=>ZaI.p1_ok (v6:=y.1) (st85:=y.2) h hE (fun v6 st85=>hc (v6,st85))) N (0,st5) h41))
end Go.Dn.F
end
