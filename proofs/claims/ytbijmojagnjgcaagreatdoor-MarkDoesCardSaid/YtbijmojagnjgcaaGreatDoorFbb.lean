import Derived.Test.YtbijmojagnjgcaaGreatDoorFba
set_option linter.all false
open Go.Dn.L renaming int→zK,arr→zI,bool→xW,ptr→zQ,bx→vN,own→yC
open Go.Proofs.Tryz renaming prog→zB
open Int renaming toNat→zD,tdiv→zS,tmod→zX
open List renaming getD→zF,set→zN,replicate→zC,length→zL
noncomputable section
set_option maxRecDepth 100000
namespace Go.Dn.F
open Go.Proofs
variable {N:Nat} {g0:G} {w0:World} {R:Exit→Act→World→Prop}
def Zdl.B:Code:=Tryz.f162.body.getD .skip
def Zdl.rs (r:Int×Int):List CV:=[.one (zK .u64 r.1),.one (zK .u64 r.2)]
def Zdl (N:Nat) (A0 A1:Int):Option (Int×Int):= some (v64 ((v64 ((v64 ((ZbF .u64 A0 32)*(ZbF .u64 A1 32)))+(ZbF .u64 (v64 ((v64 ((ZbF .u64 A0 32)*(ZaG .and .u64 A1 4294967295)))+(ZbF .u64 (v64 ((ZaG .and .u64 A0 4294967295)*(ZaG .and .u64 A1 4294967295))) 32))) 32)))+(ZbF .u64 (v64 ((ZaG .and .u64 (v64 ((v64 ((ZbF .u64 A0 32)*(ZaG .and .u64 A1 4294967295)))+(ZbF .u64 (v64 ((ZaG .and .u64 A0 4294967295)*(ZaG .and .u64 A1 4294967295))) 32))) 4294967295)+(v64 ((ZaG .and .u64 A0 4294967295)*(ZbF .u64 A1 32))))) 32)),v64 (A0*A1))
theorem Zdl.snd {A0 A1:Int} {r:Int×Int} (h:Zdl N A0 A1=some r):ZdP zB 162 [.one (zK .u64 A0),.one (zK .u64 A1)] (Zdl.rs r):=fun st=>
 sO Zdl.B Tryz.func162 fun g0 w0 R hE=>by
  unfold Zdl at h;exact xS fol h hE [rZ,rZ,rZ,rZ,rZ,rZ,rZ,rZ,rZ,rZ,rZ,rZ] (aL (leI 0 32) (leI 0 32) (leI 0 32) (leI 0 32) (leI 0 32))
def Zcw.B:Code:=Tryz.f151.body.getD .skip
def Zcw.rs (r:(List Int)×Bool):List CV:=[.agg [zI .u64 4 r.1],oB r.2]
def Zcw.p1 (N:Nat) (F1:Int) (c1_:(Int×Int×(List Int))→Option ((List Int)×Bool)):(Int×Int×(List Int))→Option ((List Int)×Bool):=fun (A1,v2,A7)=> if (decide (v2<4))=true then chk (0≤v2)<| Zbm (Zdl N (zF A7 (zD v2) 0) F1) fun (x8,x9)=> Zbm (Zes N x9 A1 0) fun (x10,x11)=> c1_ (v64 (x8+x11),w64 (v2+1),zN A7 (zD v2) x10) else some (A7,A1 != 0)
def Zcw (N:Nat) (A0_0:List Int) (F1:Int):Option ((List Int)×Bool):= loopN (Zcw.p1 N F1) N (0,0,A0_0)
def Zcw.p1.S (F1 A1 v2:Int) (A7:List Int) (st:LL):S:=mkS 37 [(1,.one (.l (zK .u64 F1))),(2,sA 2),(4,sA 4),(6,.one (.l (zK .u64 A1))),(11,sI v2)] [(2,.cells [zI .u64 4 A7]),(4,.cells [zI .u64 4 (zC 4 0)])] st
theorem Zcw.p1_ok {F1 A1 v2 A7 st r c1_ J1} (h:Zcw.p1 N F1 c1_ (A1,v2,A7)=some r) (hE:En Tryz.f151 g0 w0 (Zcw.rs r) st R) (hc1 : ∀A1 v2 A7,c1_ (A1,v2,A7)=some r→At g0 w0 (Zcw.p1.S F1 A1 v2 A7 st) J1):At g0 w0 (Zcw.p1.S F1 A1 v2 A7 st) (XK zB R (cK Zcw.B [1,1,0,1,0,0] :: .h J1 :: [.b 0,cK Zcw.B [1,1,1]])):=by
 unfold Zcw.p1 at h;refine Zbc h (fun c5 h1=>?_) (fun c5 h2=>?_)
 ·obtain ⟨c6,h3⟩:=Zbe h1;obtain ⟨⟨x8,x9⟩,c7,h4⟩:=Zac h3;obtain ⟨⟨x10,x11⟩,c8,h5⟩:=Zac h4;exact an fol [rZ,cT,rZ,.r [(4,q1 [.one (zK .u64 x8),.one (zK .u64 x9)])],rZ,.r [(3,{rs:=[.one (zK .u64 x10),.one (zK .u64 x11)],m:=4})],rZ,rZ] [1,2,4,6,11] [2,4] (aN c5 c6 (oD c5) (Zdl.snd c7) (Zes.snd c8) c6 (oD c5)) (hc1 (v64 (x8+x11)) (w64 (v2+1)) (zN A7 (zD v2) x10) h5)
 exact xS fol h2 hE [rZ,cF,rZ] c5
theorem Zcw.snd {A0_0:List Int} {F1:Int} {r:(List Int)×Bool} (h:Zcw N A0_0 F1=some r):ZdP zB 151 [.agg [zI .u64 4 A0_0],.one (zK .u64 F1)] (Zcw.rs r):=fun st=>
 sO Zcw.B Tryz.func151 fun g0 w0 R hE=>by
  unfold Zcw at h;exact aq fol [rZ,rZ,rZ] [1,2,4,6,11] [2,4] trivial (At.loop N (At.loopN (fun y:Int×Int×(List Int)=>Zcw.p1.S F1 y.1 y.2.1 y.2.2 st) (fun c J hc y h=>Zcw.p1_ok (A1:=y.1) (v2:=y.2.1) (A7:=y.2.2) h hE (fun A1 v2 A7=>hc (A1,v2,A7))) N (0,0,A0_0) h))
def Zbf.B:Code:=Tryz.f152.body.getD .skip
def Zbf.rs (r:Int):List CV:=[oI r]
def Zbf.p2 (N:Nat) (A5 A6:Int):Option Int:= some (ZaG .or .i64 (ZbR .i64 A5 24) A6)
def Zbf.p1 (N:Nat) (x1 A4:Int):Option Int:= if ((ZaG .and .i64 A4 8388608) != 0)=true then Zbf.p2 N (w64 ((w64 (zS (w64 (x1+7)) 8))+1)) (ZbF .i64 A4 8) else Zbf.p2 N (w64 (zS (w64 (x1+7)) 8)) A4
def Zbf (N:Nat) (A0_0:List Int):Option Int:= Zbm (ZcY N A0_0) fun x1=> if (decide ((w64 (zS (w64 (x1+7)) 8))≤3))=true then Zbm (Zck N A0_0 (w64 (8*(w64 (3-(w64 (zS (w64 (x1+7)) 8))))))) fun x2=> Zbf.p1 N x1 (w64 (zF x2 0 0)) else Zbm (Zbw N A0_0 (w64 (8*(w64 ((w64 (zS (w64 (x1+7)) 8))-3))))) fun x3=> Zbf.p1 N x1 (w64 (zF x3 0 0))
def Zbf.p2.S (A5 A6:Int) (st:LL):S:=mkS 36 [(3,sI A5),(4,sI A6)] [] st
def Zbf.p1.S (x1 A4:Int) (st:LL):S:=mkS 36 [(3,sI (w64 (zS (w64 (x1+7)) 8))),(4,sI A4)] [] st
theorem Zbf.p2_ok {A5 A6 st r} (h:Zbf.p2 N A5 A6=some r) (hE:En Tryz.f152 g0 w0 (Zbf.rs r) st R):At g0 w0 (Zbf.p2.S A5 A6 st) (XK zB R [cK Zbf.B [1,1,1,1,1]]):=by
 unfold Zbf.p2 at h;exact xS fol h hE [rZ] (leI 0 24)
theorem Zbf.p1_ok {x1 A4 st r} (h:Zbf.p1 N x1 A4=some r) (hE:En Tryz.f152 g0 w0 (Zbf.rs r) st R):At g0 w0 (Zbf.p1.S x1 A4 st) (XK zB R [cK Zbf.B [1,1,1,1]]):=by
 unfold Zbf.p1 at h;refine Zbc h (fun c5 h1=>?_) (fun c5 h2=>?_)
 ·exact aq fol [rZ,cT,rZ,rZ,.s 1] [3,4] [] (aI c5 (leI 0 8)) (Zbf.p2_ok h1 hE)
 exact aq fol [rZ,cF,.s 1] [3,4] [] c5 (Zbf.p2_ok h2 hE)
theorem Zbf.snd {A0_0:List Int} {r:Int} (h:Zbf N A0_0=some r):ZdP zB 152 [.agg [zI .u64 4 A0_0]] (Zbf.rs r):=fun st=>
 sO Zbf.B Tryz.func152 fun g0 w0 R hE=>by
  unfold Zbf at h;obtain ⟨x1,c1,h3⟩:=Zac h;let o1:List PS:=[rZ,.r [(1,q1 [oI x1])],rZ,rZ]
  refine Zbc h3 (fun c2 h4=>?_) (fun c2 h5=>?_)
  ·obtain ⟨x2,c3,h6⟩:=Zac h4;exact aq fol (o1++[cT,.r [(4,q1 [.agg [zI .u64 4 x2]])],.s 1]) [3,4] [] (aM (ZcY.snd c1) (neI 8) c2 (Zck.snd c3) (leI 0 0) (ltI 0 4)) (Zbf.p1_ok h6 hE)
  obtain ⟨x3,c4,h7⟩:=Zac h5;exact aq fol (o1++[cF,.r [(4,q1 [.agg [zI .u64 4 x3]])],.s 1]) [3,4] [] (aM (ZcY.snd c1) (neI 8) c2 (Zbw.snd c4) (leI 0 0) (ltI 0 4)) (Zbf.p1_ok h7 hE)
def Zcf.B:Code:=Tryz.f132.body.getD .skip
def Zcf.rs (r:Int):List CV:=[oI r]
def Zcf.p1 (N:Nat) (A17:List Int):Option Int:= Zbm (Zbf N A17) fun x18=> some x18
def Zcf (N:Nat) (A0:Zae) (A1 A2 A3:Int):Option Int:= Zbm (ZcU N A1 A0.Limit) fun (x1,x2)=> Zbm (ZeQ N A0) fun x3=> if (!x3)=true then some A0.Limit else if (!x2)=true then some A0.Limit else Zbm (Zfr N A0 A2 A3) fun x4=> Zbm (ZcR N x1 (v64 (w64 (A0.Interval*A0.Spacing)))) fun (x5,x6)=> Zbm (Zcw N x5 (v64 (x4))) fun (x7,x8)=> chk ((v64 (w64 (A0.Interval*A0.Spacing)))≠0)<| Zbm (ZdM N (v64 (zS (v64 (x6*(v64 (x4)))) (v64 (w64 (A0.Interval*A0.Spacing)))))) fun x9=> Zbm (Zcr N x7 x9) fun (x10,x11)=> Zbm (ZcU N A0.Limit A0.Limit) fun (x12,x13)=> if x8=true then some A0.Limit else if x11=true then some A0.Limit else Zbm (ZdE N x12 x10) fun x14=> if x14=true then some A0.Limit else Zbm (Zdv N x10) fun x15=> if x15=true then Zbm (ZdM N 1) fun x16=> Zcf.p1 N x16 else Zcf.p1 N x10
def Zcf.p1.S (A17:List Int) (st:LL):S:=mkS 94 [(15,sA 15)] [(15,.cells [zI .u64 4 A17])] st
theorem Zcf.p1_ok {A17 st r} (h:Zcf.p1 N A17=some r) (hE:En Tryz.f132 g0 w0 (Zcf.rs r) st R):At g0 w0 (Zcf.p1.S A17 st) (XK zB R [cK Zcf.B [1,1,1,1,1,1,1,1,1,1,1]]):=by
 unfold Zcf.p1 at h;obtain ⟨x18,c19,h1⟩:=Zac h;exact xS fol h1 hE [.r [(1,q1 [oI x18])]] (Zbf.snd c19)
theorem Zcf.snd {A0:Zae} {A1 A2 A3:Int} {r:Int} (h:Zcf N A0 A1 A2 A3=some r):ZdP zB 132 [.agg A0.ls,oI A1,oI A2,oI A3] (Zcf.rs r):=fun st=>
 sO Zcf.B Tryz.func132 fun g0 w0 R hE=>by
  unfold Zcf at h;obtain ⟨⟨x1,x2⟩,c1,h2⟩:=Zac h;obtain ⟨x3,c2,h3⟩:=Zac h2;let o1:List PS:=[rZ,.r [(3,q1 [.agg [zI .u64 4 x1],oB x2])]]
  have t1 {Q:Prop} (q:Q):=aJ (ZcU.snd c1) (ZeQ.snd c2) q;refine Zbc h3 (fun c3 h4=>?_) (fun c3 h5=>?_)
  ·exact xS fol h4 hE (o1++[.r [(1,q1 [oB x3]),(4,wF),(5,wF)],cT,rZ]) (t1 (aK (not_false (Zbt c3)) (not_false (Zbt c3)) (not_false (Zbt c3)) eT))
  let o2:List PS:=o1++[.r [(1,q1 [oB x3]),(6,yF)]]
  have t2 {Q:Prop} (q:Q):=t1 (aK (not_true (Zbu c3)) (not_true (Zbu c3)) (not_true (Zbu c3)) q);refine Zbc h5 (fun c4 h6=>?_) (fun c4 h7=>?_)
  ·exact xS fol h6 hE (o2++[cT,rZ]) (t2 c4)
  obtain ⟨x4,c5,h8⟩:=Zac h7;obtain ⟨⟨x5,x6⟩,c6,h9⟩:=Zac h8;obtain ⟨⟨x7,x8⟩,c7,h10⟩:=Zac h9;obtain ⟨c8,h11⟩:=Zbe h10;obtain ⟨x9,c9,h12⟩:=Zac h11;obtain ⟨⟨x10,x11⟩,c10,h13⟩:=Zac h12;obtain ⟨⟨x12,x13⟩,c11,h14⟩:=Zac h13;let o3:List PS:=o2++[cF,rZ,.r [(3,q1 [oI x4])],.r [(2,q1 [.agg [zI .u64 4 x5],.one (zK .u64 x6)])],.r [(2,q1 [.agg [zI .u64 4 x7],oB x8])],.d {ds:=[(6,q1 [.agg [zI .u64 4 x9]]),(7,q1 [.agg [zI .u64 4 x10],oB x11])],hv:=2048,Hs:=[2048]},.r [(4,q1 [.agg [zI .u64 4 x12],oB x13])]]
  have t3 {Q:Prop} (q:Q):=t2 (aO c4 (Zfr.snd c5) (ZcR.snd c6) (Zcw.snd c7) c8 (ZdM.snd c9) (Zcr.snd c10) (aI (ZcU.snd c11) q));refine Zbc h14 (fun c12 h15=>?_) (fun c12 h16=>?_)
  ·exact xSd fol h15 hE (o3++[.r [(2,wF),(5,wF),(6,wF),(7,wF)],cT,rZ]) (t3 (aN c12 c12 eT eT eT eT eT))
  refine Zbc h16 (fun c13 h17=>?_) (fun c13 h18=>?_)
  ·exact xSd fol h17 hE (o3++[.r [(3,yF),(5,wF),(6,wF),(7,wF)],cT,rZ]) (t3 (aN c12 c12 c13 c13 c13 c13 eT))
  obtain ⟨x14,c14,h19⟩:=Zac h18;let o4:List PS:=o3++[.r [(3,yF),(7,q1 [oB x14]),(8,yF)]]
  have t4 {Q:Prop} (q:Q):=t3 (aO c12 c12 c13 c13 c13 (ZdE.snd c14) c13 q);refine Zbc h19 (fun c15 h20=>?_) (fun c15 h21=>?_)
  ·exact xSd fol h20 hE (o4++[cT,rZ]) (t4 c15)
  obtain ⟨x15,c16,h22⟩:=Zac h21;let o5:List PS:=o4++[cF,.r [(1,q1 [oB x15])]]
  refine Zbc h22 (fun c17 h23=>?_) (fun c17 h24=>?_)
  ·obtain ⟨x16,c18,h25⟩:=Zac h23;exact aqd fol (o5++[cT,.r [(0,q1 [.agg [zI .u64 4 x16]])],.s 1]) [15] [15] (t4 (aK c15 (Zdv.snd c16) c17 (ZdM.snd c18))) (Zcf.p1_ok h25 hE)
  exact aqd fol (o5++[cF,.s 1]) [15] [15] (t4 (aJ c15 (Zdv.snd c16) c17)) (Zcf.p1_ok h24 hE)
def Zfs.B:Code:=Tryz.f105.body.getD .skip
def Zfs.rs (r:Int):List CV:=[oI r]
def Zfs (N:Nat) (A0:Zae) (at_1:ZdV) (A2:Int):Option Int:= if (decide (at_1.Height≤0))=true then some A0.Limit else Zbm (ZdH N A0 at_1.Height) fun x1=> if x1=true then Zbm (Zcf N A0 at_1.Bits at_1.First at_1.Time) fun x2=> some x2 else if (!A0.Easy)=true then some at_1.Bits else if (decide ((w64 (A2-at_1.Time))>(w64 (2*A0.Spacing))))=true then some A0.Limit else some at_1.Hard
theorem Zfs.snd {A0:Zae} {at_1:ZdV} {A2:Int} {r:Int} (h:Zfs N A0 at_1 A2=some r):ZdP zB 105 [.agg A0.ls,.agg at_1.ls,oI A2] (Zfs.rs r):=fun st=>
 sO Zfs.B Tryz.func105 fun g0 w0 R hE=>by
  unfold Zfs at h;refine Zbc h (fun c1 h1=>?_) (fun c1 h2=>?_)
  ·exact xS fol h1 hE [rZ,rZ,cT,rZ] c1
  obtain ⟨x1,c2,h3⟩:=Zac h2;let o1:List PS:=[rZ,rZ,cF,.r [(3,q1 [oB x1])]]
  have t1 {Q:Prop} (q:Q):=aJ c1 (ZdH.snd c2) q;refine Zbc h3 (fun c3 h4=>?_) (fun c3 h5=>?_)
  ·obtain ⟨x2,c4,h6⟩:=Zac h4;exact xS fol h6 hE (o1++[cT,.r [(7,q1 [oI x2])]]) (t1 (aI c3 (Zcf.snd c4)))
  refine Zbc h5 (fun c5 h7=>?_) (fun c5 h8=>?_)
  ·exact xS fol h7 hE (o1++[cF,rZ,cT,rZ]) (t1 (aI c3 c5))
  refine Zbc h8 (fun c6 h9=>?_) (fun c6 h10=>?_)
  ·exact xS fol h9 hE (o1++[cF,rZ,cF,rZ,cT,rZ]) (t1 (aJ c3 c5 c6))
  exact xS fol h10 hE (o1++[cF,rZ,cF,rZ,cF,rZ]) (t1 (aJ c3 c5 c6))
def ZbT.B:Code:=Tryz.f153.body.getD .skip
def ZbT.rs (r:(List Int)):List CV:=[.agg [zI .u64 4 r]]
def ZbT.p1 (N:Nat) (A0_0:List Int) (c1_:(Int×(List Int))→Option (List Int)):(Int×(List Int))→Option (List Int):=fun (v1,A2)=> if (decide (v1<32))=true then chk (0≤v1)<| chk (0≤(w64 (zS v1 8)))<| chk ((w64 (zS v1 8))<4)<| chk (0≤(w64 (8*(zX v1 8))))<| c1_ (w64 (v1+1),zN A2 (zD (w64 (zS v1 8))) (ZaG .or .u64 (zF A2 (zD (w64 (zS v1 8))) 0) (ZbR .u64 (v64 (zF A0_0 (zD v1) 0)) (w64 (8*(zX v1 8)))))) else some A2
def ZbT (N:Nat) (A0_0:List Int):Option (List Int):= loopN (ZbT.p1 N A0_0) N (0,zC 4 0)
def ZbT.p1.S (A0_0:List Int) (v1:Int) (A2:List Int) (st:LL):S:=mkS 25 [(2,sA 2),(3,sA 3),(6,.agg [.l (zI .u8 32 A0_0)]),(7,sI v1)] [(2,.cells [zI .u64 4 (zC 4 0)]),(3,.cells [zI .u64 4 A2])] st
theorem ZbT.p1_ok {A0_0 v1 A2 st r c1_ J1} (h:ZbT.p1 N A0_0 c1_ (v1,A2)=some r) (hE:En Tryz.f153 g0 w0 (ZbT.rs r) st R) (hc1 : ∀v1 A2,c1_ (v1,A2)=some r→At g0 w0 (ZbT.p1.S A0_0 v1 A2 st) J1):At g0 w0 (ZbT.p1.S A0_0 v1 A2 st) (XK zB R (cK ZbT.B [1,1,0,1,0,0] :: .h J1 :: [.b 0,cK ZbT.B [1,1,1]])):=by
 unfold ZbT.p1 at h;refine Zbc h (fun c6 h1=>?_) (fun c6 h2=>?_)
 ·obtain ⟨c7,c8,c9,c10,h3⟩:=ck4 h1;exact ZjR fol [rZ,cT,rZ,.d {ds:=[],hv:=4096,Hs:=[4096]},rZ] [2,3,6,7] [2,3] (aO c6 c7 (oD c6) (neI 8) c8 c9 (neI 8) (aJ c10 c8 c9)) (hc1 (w64 (v1+1)) (zN A2 (zD (w64 (zS v1 8))) (ZaG .or .u64 (zF A2 (zD (w64 (zS v1 8))) 0) (ZbR .u64 (v64 (zF A0_0 (zD v1) 0)) (w64 (8*(zX v1 8)))))) h3)
 exact xS fol h2 hE [rZ,cF,rZ] c6
theorem ZbT.snd {A0_0:List Int} {r:(List Int)} (h:ZbT N A0_0=some r):ZdP zB 153 [.agg [zI .u8 32 A0_0]] (ZbT.rs r):=fun st=>
 sO ZbT.B Tryz.func153 fun g0 w0 R hE=>by
  unfold ZbT at h;exact aq fol [rZ,rZ,rZ] [2,3,6,7] [2,3] trivial (At.loop N (At.loopN (fun y:Int×(List Int)=>ZbT.p1.S A0_0 y.1 y.2 st) (fun c J hc y h=>ZbT.p1_ok (v1:=y.1) (A2:=y.2) h hE (fun v1 A2=>hc (v1,A2))) N (0,zC 4 0) h))
def ZdO.B:Code:=Tryz.f133.body.getD .skip
def ZdO.rs (r:Bool):List CV:=[oB r]
def ZdO (N:Nat) (A0_0 A1_0:List Int):Option Bool:= Zbm (ZbT N A0_0) fun x1=> Zbm (ZdE N A1_0 x1) fun x2=> some (!x2)
theorem ZdO.snd {A0_0 A1_0:List Int} {r:Bool} (h:ZdO N A0_0 A1_0=some r):ZdP zB 133 [.agg [zI .u8 32 A0_0],.agg [zI .u64 4 A1_0]] (ZdO.rs r):=fun st=>
 sO ZdO.B Tryz.func133 fun g0 w0 R hE=>by
  unfold ZdO at h;obtain ⟨x1,c1,h1⟩:=Zac h;obtain ⟨x2,c2,h2⟩:=Zac h1;exact xSd fol h2 hE [rZ,.d {ds:=[(2,q1 [.agg [zI .u64 4 x1]]),(3,q1 [oB x2])],hv:=0,Hs:=[]}] (aI (ZbT.snd c1) (ZdE.snd c2))
def Zew.B:Code:=Tryz.f106.body.getD .skip
def Zew.rs (r:Int):List CV:=[oI r]
def Zew (N:Nat) (A0:Zae) (A1:Zak):Option Int:= Zbm (Zdb N A1) fun x1=> if (!x1)=true then some 1 else Zbm (ZcU N A1.Bits A0.Limit) fun (x2,x3)=> if (!x3)=true then some 4 else Zbm (Zer N A1) fun x4=> Zbm (ZdO N x4 x2) fun x5=> if (!x5)=true then some 4 else some 0
theorem Zew.snd {A0:Zae} {A1:Zak} {r:Int} (h:Zew N A0 A1=some r):ZdP zB 106 [.agg A0.ls,.agg A1.ls] (Zew.rs r):=fun st=>
 sO Zew.B Tryz.func106 fun g0 w0 R hE=>by
  unfold Zew at h;obtain ⟨x1,c1,h1⟩:=Zac h;let o1:List PS:=[rZ,.r [(1,q1 [oB x1])]]
  have t1 {Q:Prop} (q:Q):=aI (Zdb.snd c1) q;refine Zbc h1 (fun c2 h2=>?_) (fun c2 h3=>?_)
  ·exact xS fol h2 hE (o1++[cT,rZ]) (t1 c2)
  obtain ⟨⟨x2,x3⟩,c3,h4⟩:=Zac h3;let o2:List PS:=o1++[cF,.r [(4,q1 [.agg [zI .u64 4 x2],oB x3])]]
  have t2 {Q:Prop} (q:Q):=t1 (aJ c2 (ZcU.snd c3) q);refine Zbc h4 (fun c4 h5=>?_) (fun c4 h6=>?_)
  ·exact xSd fol h5 hE (o2++[.d {ds:=[(3,wF),(4,wF),(5,wF),(6,wF),(7,wF)],hv:=0,Hs:=[]},cT,rZ]) (t2 (aN (not_false (Zbt c4)) (not_false (Zbt c4)) (not_false (Zbt c4)) (not_false (Zbt c4)) (not_false (Zbt c4)) (not_false (Zbt c4)) eT))
  obtain ⟨x4,c5,h7⟩:=Zac h6;obtain ⟨x5,c6,h8⟩:=Zac h7;let o3:List PS:=o2++[.d {ds:=[(4,q1 [.agg [zI .u8 32 x4]]),(6,q1 [oB x5]),(8,yF)],hv:=0,Hs:=[]}]
  have t3 {Q:Prop} (q:Q):=t2 (aO (not_true (Zbu c4)) (not_true (Zbu c4)) (Zer.snd c5) (not_true (Zbu c4)) (not_true (Zbu c4)) (ZdO.snd c6) (not_true (Zbu c4)) (aI (not_true (Zbu c4)) q));refine Zbc h8 (fun c7 h9=>?_) (fun c7 h10=>?_)
  ·exact xSd fol h9 hE (o3++[cT,rZ]) (t3 c7)
  exact xSd fol h10 hE (o3++[cF,rZ]) (t3 c7)
def Zfu.B:Code:=Tryz.f134.body.getD .skip
def Zfu.rs (r:Int):List CV:=[oI r]
def Zfu (N:Nat) (A0:LL):Option Int:= chk (0≤(if (11:Int)<(len A0) then 11 else (len A0)))<| chk ((zD (if (11:Int)<(len A0) then 11 else (len A0)))≤(zL A0))<| Zbm (Zce N (List.take (zD (if (11:Int)<(len A0) then 11 else (len A0))) (List.drop 0 A0))) fun x1=> if ((len x1)==0)=true then some 0 else chk (isI x1=true)<| chk (zL x1<4611686018427387904)<| chk (0≤(w64 (zS (len x1) 2)))<| chk ((w64 (zS (len x1) 2))<(len x1))<| Zde ((Zlo x1)[0+(zD (w64 (zS (len x1) 2)))]?) ZdX fun x2=> some x2
theorem Zfu.snd {A0:LL} {r:Int} (h:Zfu N A0=some r):ZdP zB 134 [.one (L.sl 1 A0)] (Zfu.rs r):=fun st=>
 sO Zfu.B Tryz.func134 fun g0 w0 R hE=>by
  unfold Zfu at h;obtain ⟨c1,c2,h1⟩:=ck2 h;obtain ⟨x1,c3,h2⟩:=Zac h1;let o1:List PS:=[rZ,.r [(5,{rs:=[.row true 1 x1],ns:=[9],m:=1})],rZ]
  have t1 {Q:Prop} (q:Q):=aL c1 (Nat.zero_le (zD (if (11:Int)<(len A0) then 11 else (len A0)))) c2 (Zce.snd c3) q;refine Zbc h2 (fun c4 h3=>?_) (fun c4 h4=>?_)
  ·exact xS fol h3 hE (o1++[cT,rZ]) (t1 c4)
  obtain ⟨c5,c6,c7,c8,h5⟩:=ck4 h4;obtain ⟨x2,c9,h6⟩:=Zdt h5;exact xS fol h6 hE (o1++[cF,.r [(1,{m:=7})],.r [(5,{oe:=[zK .i64 x2]})]]) (t1 (aO c4 z0 (@rfl _ (zL x1):(zL x1)=(zL x1)) c5 c6 slices_Sort_int.snd (neI 2) (aJ c7 c8 c9)))
def ZdW.B:Code:=Tryz.f107.body.getD .skip
def ZdW.rs (r:Bool):List CV:=[oB r]
def ZdW (N:Nat) (A0:Int) (A1:LL):Option Bool:= if ((len A1)==0)=true then some true else Zbm (Zfu N A1) fun x1=> some (decide (A0>x1))
theorem ZdW.snd {A0:Int} {A1:LL} {r:Bool} (h:ZdW N A0 A1=some r):ZdP zB 107 [oI A0,.one (L.sl 1 A1)] (ZdW.rs r):=fun st=>
 sO ZdW.B Tryz.func107 fun g0 w0 R hE=>by
  unfold ZdW at h;refine Zbc h (fun c1 h1=>?_) (fun c1 h2=>?_)
  ·exact xS fol h1 hE [rZ,.r [(4,wF),(5,wF),(6,wF),(7,wF)]] (aL c1 c1 c1 c1 c1)
  obtain ⟨x1,c2,h3⟩:=Zac h2;exact xS fol h3 hE [rZ,.r [(6,q1 [oI x1]),(8,yF)]] (aM c1 c1 c1 (Zfu.snd c2) c1 c1)
def Zex.B:Code:=Tryz.f108.body.getD .skip
def Zex.rs (r:Bool):List CV:=[oB r]
def Zex (N:Nat) (A0 A1 A2:Int):Option Bool:= if (decide (A2≥0))=true then if (decide (A0≤A1))=true then some true else some (decide ((w64 (A0-A1))≤A2)) else some false
theorem Zex.snd {A0 A1 A2:Int} {r:Bool} (h:Zex N A0 A1 A2=some r):ZdP zB 108 [oI A0,oI A1,oI A2] (Zex.rs r):=fun st=>
 sO Zex.B Tryz.func108 fun g0 w0 R hE=>by
  unfold Zex at h;refine Zbc h (fun c1 h1=>?_) (fun c1 h2=>?_)
  ·refine Zbc h1 (fun c2 h3=>?_) (fun c2 h4=>?_)
   ·exact xS fol h3 hE [rZ,.r [(7,wF),(8,wF),(9,wF),(10,wF),(11,wF)]] (aO c1 c1 c1 c1 c2 c2 c2 (aL c2 c2 c1 c2 c1))
   exact xS fol h4 hE [rZ,.r [(12,yF)]] (aO c1 c1 c1 c1 c2 c2 c2 (aL c2 c2 c1 c2 c1))
  exact xS fol h2 hE [rZ,.r [(3,wF),(4,wF),(5,wF),(6,wF),(12,wF),(13,yF)]] (aM c1 c1 c1 c1 c1 c1)
def Zbr.B:Code:=Tryz.f109.body.getD .skip
def Zbr.rs (r:Int):List CV:=[oI r]
def Zbr.p2 (N:Nat) (c1_:(Int×Int)→Option Int) (A0 A4:Int) (A1:LL) (v2:Int):Option Int:= c1_ (A4,w64 (v2+1))
def Zbr.p1 (N:Nat) (A0:Int) (A1:LL) (c1_:(Int×Int)→Option Int):(Int×Int)→Option Int:=fun (F1,v2)=> if (decide (v2<(len A1)))=true then chk (0≤v2)<| Zde (A1[zD v2]?) ZeY fun x3=> if (decide (A0≥x3.Height))=true then Zbr.p2 N c1_ A0 (if x3.Version>F1 then x3.Version else F1) A1 v2 else Zbr.p2 N c1_ A0 F1 A1 v2 else some F1
def Zbr (N:Nat) (A0:Int) (A1:LL):Option Int:= loopN (Zbr.p1 N A0 A1) N ((-2147483648),0)
def Zbr.p2.S (A0 A4:Int) (A1:LL) (v2:Int) (st:LL):S:=mkS 24 [(0,sI A0),(5,sI A4),(8,sV 2 A1),(9,sI (len A1)),(10,sI v2)] [] st
def Zbr.p1.S (A0 F1:Int) (A1:LL) (v2:Int) (st:LL):S:=mkS 24 [(0,sI A0),(5,sI F1),(8,sV 2 A1),(9,sI (len A1)),(10,sI v2)] [] st
theorem Zbr.p2_ok {A0 A4 A1 v2 st r c1_ J1} (h:Zbr.p2 N c1_ A0 A4 A1 v2=some r) (hE:En Tryz.f109 g0 w0 (Zbr.rs r) st R) (hc1 : ∀F1 v2,c1_ (F1,v2)=some r→At g0 w0 (Zbr.p1.S A0 F1 A1 v2 st) J1):At g0 w0 (Zbr.p2.S A0 A4 A1 v2 st) (XK zB R [cK Zbr.B [1,1,0,1,0,0,1,1,1],.h J1,.b 0,cK Zbr.B [1,1,1]]):=by
 unfold Zbr.p2 at h;exact an fol [rZ] [0,5,8,9,10] [] trivial (hc1 A4 (w64 (v2+1)) h)
theorem Zbr.p1_ok {A0 F1 A1 v2 st r c1_ J1} (h:Zbr.p1 N A0 A1 c1_ (F1,v2)=some r) (hE:En Tryz.f109 g0 w0 (Zbr.rs r) st R) (hc1 : ∀F1 v2,c1_ (F1,v2)=some r→At g0 w0 (Zbr.p1.S A0 F1 A1 v2 st) J1):At g0 w0 (Zbr.p1.S A0 F1 A1 v2 st) (XK zB R (cK Zbr.B [1,1,0,1,0,0] :: .h J1 :: [.b 0,cK Zbr.B [1,1,1]])):=by
 unfold Zbr.p1 at h;refine Zbc h (fun c1 h1=>?_) (fun c1 h2=>?_)
 ·obtain ⟨c2,h3⟩:=Zbe h1;obtain ⟨x3,c3,h4⟩:=Zfd h3;let o1:List PS:=[rZ,cT,.r [(1,{oe:=x3.ls})],rZ]
  refine Zbc h4 (fun c4 h5=>?_) (fun c4 h6=>?_)
  ·exact aq fol (o1++[cT,rZ,.s 4]) [0,5,8,9,10] [] (aL c1 c2 (oD c1) c3 c4) (Zbr.p2_ok h5 hE hc1)
  exact aq fol (o1++[cF,.s 4]) [0,5,8,9,10] [] (aL c1 c2 (oD c1) c3 c4) (Zbr.p2_ok h6 hE hc1)
 exact xS fol h2 hE [rZ,cF,rZ] c1
theorem Zbr.snd {A0:Int} {A1:LL} {r:Int} (h:Zbr N A0 A1=some r):ZdP zB 109 [oI A0,.one (L.sl 2 A1)] (Zbr.rs r):=fun st=>
 sO Zbr.B Tryz.func109 fun g0 w0 R hE=>by
  unfold Zbr at h;exact aq fol [rZ,rZ,rZ] [0,5,8,9,10] [] trivial (At.loop N (At.loopN (fun y:Int×Int=>Zbr.p1.S A0 y.1 A1 y.2 st) (fun c J hc y h=>Zbr.p1_ok (F1:=y.1) (v2:=y.2) h hE (fun F1 v2=>hc (F1,v2))) N ((-2147483648),0) h))
def Zct.B:Code:=Tryz.f110.body.getD .skip
def Zct.rs (r:Bool):List CV:=[oB r]
def Zct.p1 (N:Nat) (A0:Int) (A2:LL) (A1_0:List Int) (c1_:Int→Option Bool):Int→Option Bool:=fun v1=> if (decide (v1<(len A2)))=true then chk (0≤v1)<| Zde (A2[zD v1]?) ZeK fun x2=> if (x2.Height==A0)=true then if (!(x2.Id==A1_0))=true then some false else c1_ (w64 (v1+1)) else c1_ (w64 (v1+1)) else some true
def Zct (N:Nat) (A0:Int) (A1_0:List Int) (A2:LL):Option Bool:= loopN (Zct.p1 N A0 A2 A1_0) N 0
def Zct.p1.S (A0:Int) (A2:LL) (v1:Int) (A1_0:List Int) (st:LL):S:=mkS 26 [(0,sI A0),(4,sA 4),(9,sV 33 A2),(10,sI (len A2)),(11,sI v1)] [(4,.cells [zI .u8 32 A1_0])] st
theorem Zct.p1_ok {A0 A2 v1 A1_0 st r c1_ J1} (h:Zct.p1 N A0 A2 A1_0 c1_ v1=some r) (hE:En Tryz.f110 g0 w0 (Zct.rs r) st R) (hc1 : ∀v1,c1_ v1=some r→At g0 w0 (Zct.p1.S A0 A2 v1 A1_0 st) J1):At g0 w0 (Zct.p1.S A0 A2 v1 A1_0 st) (XK zB R (cK Zct.B [1,0,1,0,0] :: .h J1 :: [.b 0,cK Zct.B [1,1]])):=by
 unfold Zct.p1 at h;refine Zbc h (fun c1 h1=>?_) (fun c1 h2=>?_)
 ·obtain ⟨c2,h3⟩:=Zbe h1;obtain ⟨x2,c3,h4⟩:=ZeV h3;let o1:List PS:=[rZ,cT,.r [(1,{oe:=x2.ls})]]
  refine Zbc h4 (fun c4 h5=>?_) (fun c4 h6=>?_)
  ·have t1 {Q:Prop} (q:Q):=aO c1 c2 (oD c1) c3 c4 c4 c4 (aJ c4 c4 q);refine Zbc h5 (fun c5 h7=>?_) (fun c5 h8=>?_)
   ·exact xS fol h7 hE (o1++[rZ,cT,rZ]) (t1 c5)
   exact an fol (o1++[rZ,cF,rZ]) [0,4,9,10,11] [4] (t1 c5) (hc1 (w64 (v1+1)) h8)
  exact an fol (o1++[.r [(5,wF),(6,wF),(7,wF),(8,wF),(9,yF)],cF,rZ]) [0,4,9,10,11] [4] (aO c1 c2 (oD c1) c3 c4 c4 c4 (aJ c4 c4 eF)) (hc1 (w64 (v1+1)) h6)
 exact xS fol h2 hE [rZ,cF,rZ] c1
theorem Zct.snd {A0:Int} {A1_0:List Int} {A2:LL} {r:Bool} (h:Zct N A0 A1_0 A2=some r):ZdP zB 110 [oI A0,.agg [zI .u8 32 A1_0],.one (L.sl 33 A2)] (Zct.rs r):=fun st=>
 sO Zct.B Tryz.func110 fun g0 w0 R hE=>by
  unfold Zct at h;exact aq fol [rZ,rZ] [0,4,9,10,11] [4] trivial (At.loop N (At.loopN (fun y:Int=>Zct.p1.S A0 A2 y A1_0 st) (fun c J hc y h=>Zct.p1_ok h hE (fun v1=>hc v1)) N 0 h))
def ZeP.B:Code:=Tryz.f82.body.getD .skip
def ZeP.rs (r:Int):List CV:=[oI r]
def ZeP (N:Nat) (A0:Zae) (at_1:ZaX) (h_2:Zak) (A3:Int):Option Int:= Zbm (Zdb N h_2) fun x1=> if (!x1)=true then some 1 else if (!(h_2.Prev==at_1.Prev))=true then some 2 else Zbm (Zfs N A0 at_1.Point h_2.Time) fun x2=> if (h_2.Bits != x2)=true then some 3 else Zbm (Zew N A0 h_2) fun x3=> if (x3 != 0)=true then some 4 else Zbm (ZdW N h_2.Time at_1.Times) fun x4=> if (!x4)=true then some 5 else Zbm (Zex N h_2.Time A3 A0.Future) fun x5=> if (!x5)=true then some 6 else Zbm (Zbr N at_1.Point.Height A0.Gates) fun x6=> if (decide (h_2.Version<x6))=true then some 7 else Zbm (Zer N h_2) fun x7=> Zbm (Zct N at_1.Point.Height x7 A0.Checks) fun x8=> if (!x8)=true then some 8 else some 0
theorem ZeP.snd {A0:Zae} {at_1:ZaX} {h_2:Zak} {A3:Int} {r:Int} (h:ZeP N A0 at_1 h_2 A3=some r):ZdP zB 82 [.agg A0.ls,.agg at_1.ls,.agg h_2.ls,oI A3] (ZeP.rs r):=fun st=>
 sO ZeP.B Tryz.func82 fun g0 w0 R hE=>by
  unfold ZeP at h;obtain ⟨x1,c1,h1⟩:=Zac h;let o1:List PS:=[rZ,.r [(1,q1 [oB x1])]]
  have t1 {Q:Prop} (q:Q):=aI (Zdb.snd c1) q;refine Zbc h1 (fun c2 h2=>?_) (fun c2 h3=>?_)
  ·exact xS fol h2 hE (o1++[cT,rZ]) (t1 c2)
  let o2:List PS:=o1++[cF,rZ]
  refine Zbc h3 (fun c3 h4=>?_) (fun c3 h5=>?_)
  ·exact xS fol h4 hE (o2++[cT,rZ]) (t1 (aI c2 c3))
  obtain ⟨x2,c4,h6⟩:=Zac h5;let o3:List PS:=o2++[cF,.d {ds:=[(7,q1 [oI x2])],hv:=0,Hs:=[]}]
  have t2 {Q:Prop} (q:Q):=t1 (aK c2 c3 (Zfs.snd c4) q);refine Zbc h6 (fun c5 h7=>?_) (fun c5 h8=>?_)
  ·exact xSd fol h7 hE (o3++[cT,rZ]) (t2 c5)
  obtain ⟨x3,c6,h9⟩:=Zac h8;let o4:List PS:=o3++[cF,.r [(2,q1 [oI x3])]]
  have t3 {Q:Prop} (q:Q):=t2 (aJ c5 (Zew.snd c6) q);refine Zbc h9 (fun c7 h10=>?_) (fun c7 h11=>?_)
  ·exact xSd fol h10 hE (o4++[cT,rZ]) (t3 c7)
  obtain ⟨x4,c8,h12⟩:=Zac h11;let o5:List PS:=o4++[cF,.r [(4,q1 [oB x4])]]
  have t4 {Q:Prop} (q:Q):=t3 (aJ c7 (ZdW.snd c8) q);refine Zbc h12 (fun c9 h13=>?_) (fun c9 h14=>?_)
  ·exact xSd fol h13 hE (o5++[cT,rZ]) (t4 c9)
  obtain ⟨x5,c10,h15⟩:=Zac h14;let o6:List PS:=o5++[cF,.r [(5,q1 [oB x5])]]
  have t5 {Q:Prop} (q:Q):=t4 (aJ c9 (Zex.snd c10) q);refine Zbc h15 (fun c11 h16=>?_) (fun c11 h17=>?_)
  ·exact xSd fol h16 hE (o6++[cT,rZ]) (t5 c11)
  obtain ⟨x6,c12,h18⟩:=Zac h17;let o7:List PS:=o6++[cF,.d {ds:=[(7,q1 [oI x6])],hv:=0,Hs:=[]}]
  have t6 {Q:Prop} (q:Q):=t5 (aJ c11 (Zbr.snd c12) q);refine Zbc h18 (fun c13 h19=>?_) (fun c13 h20=>?_)
  ·exact xSd fol h19 hE (o7++[cT,rZ]) (t6 c13)
  obtain ⟨x7,c14,h21⟩:=Zac h20;obtain ⟨x8,c15,h22⟩:=Zac h21;let o8:List PS:=o7++[cF,.d {ds:=[(4,q1 [.agg [zI .u8 32 x7]]),(7,q1 [oB x8])],hv:=0,Hs:=[]}]
  have t7 {Q:Prop} (q:Q):=t6 (aK c13 (Zer.snd c14) (Zct.snd c15) q);refine Zbc h22 (fun c16 h23=>?_) (fun c16 h24=>?_)
  ·exact xSd fol h23 hE (o8++[cT,rZ]) (t7 c16)
  exact xSd fol h24 hE (o8++[cF,rZ]) (t7 c16)
def ZaO.B:Code:=Tryz.f56.body.getD .skip
def ZaO.rs (r:Int×Int×Int×LL):List CV:=[oI r.1,oI r.2.1,oI r.2.2.1]
def ZaO.p2 (N:Nat) (i2:Nat) (A2 A12:Int) (A13:Bool) (A1:Zak) (st:LL):Option (Int×Int×Int×LL):= if (!A13)=true then some ((-1),2,5,st) else Zde (st[i2]?) ZbZ fun x14=> chk (0≤A12)<| chk (A12<(len x14.spots))<| Zde (x14.spots[0+(zD A12)]?) ZgG fun x15=> Zbm (ZeP N x14.rules x15 A1 A2) fun x16=> if (x16 != 0)=true then some ((-1),x16,8,st) else if (decide ((len x14.list)≥x14.room))=true then some ((-1),0,6,st) else Zbm (Zeb N x14.rules x15 A1) fun x17=> Zbm (Zbo N (some i2) A1 A12 x17 st) fun (x18,st19)=> some (x18,0,0,st19)
def ZaO.p1 (N:Nat) (i2:Nat) (A2 A7:Int) (A8:Bool) (A1:Zak) (st:LL):Option (Int×Int×Int×LL):= if A8=true then some (A7,0,0,st) else Zde (st[i2]?) ZbZ fun x9=> optM (Zis x9.places (zI .u8 32 A1.Prev)) (fun j10 e=>ZdX [e] fun x11=> ZaO.p2 N i2 A2 x11 true A1 st) ( ZaO.p2 N i2 A2 0 false A1 st)
def ZaO (N:Nat) (A0:Option Nat) (A1:Zak) (A2:Int) (st:LL):Option (Int×Int×Int×LL):= if (Option.isNone A0)=true then some ((-1),0,2,st) else Zbm (Zdb N A1) fun x1=> if (!x1)=true then some ((-1),1,8,st) else Zbm A0 fun i2=> Zde (st[i2]?) ZbZ fun x3=> Zbm (Zer N A1) fun x4=> optM (Zis x3.places (zI .u8 32 x4)) (fun j5 e=>ZdX [e] fun x6=> ZaO.p1 N i2 A2 x6 true A1 st) ( ZaO.p1 N i2 A2 0 false A1 st)
def ZaO.p2.S (i2:Nat) (A2 A12:Int) (A13:Bool) (A1:Zak) (st:LL):S:=mkS 87 [(0,sP (some i2)),(2,sI A2),(4,sA 4),(11,sI A12),(12,.one (.l (xW A13)))] [(4,.cells A1.ls)] st
def ZaO.p1.S (i2:Nat) (A2 A7:Int) (A8:Bool) (A1:Zak) (st:LL):S:=mkS 87 [(0,sP (some i2)),(2,sI A2),(4,sA 4),(9,sI A7),(10,.one (.l (xW A8)))] [(4,.cells A1.ls)] st
theorem ZaO.p2_ok {i2 A2 A12 A13 A1 st r} (h:ZaO.p2 N i2 A2 A12 A13 A1 st=some r) (hE:En Tryz.f56 g0 w0 (ZaO.rs r) r.2.2.2 R):At g0 w0 (ZaO.p2.S i2 A2 A12 A13 A1 st) (XK zB R [cK ZaO.B [1,1,1,1,1]]):=by
 unfold ZaO.p2 at h;refine Zbc h (fun c11 h1=>?_) (fun c11 h2=>?_)
 ·exact xV fol h1 hE [rZ,cT,rZ] c11
 obtain ⟨x14,c12,h3⟩:=ZbO h2;obtain ⟨c13,c14,h4⟩:=ck2 h3;obtain ⟨x15,c15,h5⟩:=Zkn h4;obtain ⟨x16,c16,h6⟩:=Zac h5;let o1:List PS:=[rZ,cF,.d {ds:=[(3,{oc:=x14.lo}),(7,{oc:=x14.lo}),(10,{oc:=x14.lo,oe:=x15.ls}),(13,q1 [oI x16])],hv:=0,Hs:=[]},rZ]
 have t1 {Q:Prop} (q:Q):=aO c11 c12 c12 c13 c14 c15 c12 (aI (ZeP.snd c16) q);refine Zbc h6 (fun c17 h7=>?_) (fun c17 h8=>?_)
 ·exact xVd fol h7 hE (o1++[cT,rZ]) (t1 c17)
 let o2:List PS:=o1++[cF,.d {ds:=[(3,{oc:=x14.lo}),(8,{oc:=x14.lo})],hv:=0,Hs:=[]}]
 refine Zbc h8 (fun c18 h9=>?_) (fun c18 h10=>?_)
 ·exact xVd fol h9 hE (o2++[cT,rZ]) (t1 (aK c17 c12 c12 c18))
 obtain ⟨x17,c19,h11⟩:=Zac h10;obtain ⟨⟨x18,st19⟩,c20,h12⟩:=Zac h11;exact xVd fol h12 hE (o2++[cF,.d {ds:=[(6,{oc:=x14.lo}),(10,{oc:=x14.lo}),(13,{oc:=x14.lo,oe:=x15.ls}),(15,q1 [.agg x17.ls]),(16,{rs:=[oI x18],st:=st19})],hv:=65536,Hs:=[65536]}]) (t1 (aO c17 c12 c12 c18 c12 c12 c13 (aL c14 c15 c12 (Zeb.snd c19) (Zbo.snd c20))))
theorem ZaO.p1_ok {i2 A2 A7 A8 A1 st r} (h:ZaO.p1 N i2 A2 A7 A8 A1 st=some r) (hE:En Tryz.f56 g0 w0 (ZaO.rs r) r.2.2.2 R):At g0 w0 (ZaO.p1.S i2 A2 A7 A8 A1 st) (XK zB R [cK ZaO.B [1,1,1,0,1],cK ZaO.B [1,1,1,1]]):=by
 unfold ZaO.p1 at h;refine Zbc h (fun c8 h13=>?_) (fun c8 h14=>?_)
 ·exact xV fol h13 hE [rZ,cT,rZ] c8
 obtain ⟨x9,c9,h15⟩:=ZbO h14;rcases Zoa h15 with ⟨j10,h19,c10,h16⟩ | ⟨c10,h17⟩
 ·obtain ⟨x11,h20,h18⟩:=Zjh h16;obtain rfl:=ZjZ h20;exact aqd fol [rZ,cF,.d {ds:=[(3,{oc:=x9.lo}),(6,{oc:=x9.lo,oe:=[zK .i64 x11]})],hv:=0,Hs:=[]},.s 1] [0,2,4,11,12] [4] (aK c8 c9 (ZtT c10) c9) (ZaO.p2_ok h18 hE)
 exact aqd fol [rZ,cF,.d {ds:=[(3,{oc:=x9.lo}),(6,{oc:=x9.lo,yes:=false})],hv:=0,Hs:=[]},.s 1] [0,2,4,11,12] [4] (aK c8 c9 c10 c9) (ZaO.p2_ok h17 hE)
theorem ZaO.snd {A0:Option Nat} {A1:Zak} {A2:Int} {st:LL} {r:Int×Int×Int×LL} (h:ZaO N A0 A1 A2 st=some r):Snd zB 56 [.one (zQ A0),.agg A1.ls,oI A2] st (ZaO.rs r) r.2.2.2:=
 sO ZaO.B Tryz.func56 fun g0 w0 R hE=>by
  unfold ZaO at h;refine Zbc h (fun c1 h21=>?_) (fun c1 h22=>?_)
  ·exact xV fol h21 hE [rZ,rZ,cT,rZ] c1
  obtain ⟨x1,c2,h23⟩:=Zac h22;let o3:List PS:=[rZ,rZ,cF,.r [(1,q1 [oB x1])]]
  have t2 {Q:Prop} (q:Q):=aJ c1 (Zdb.snd c2) q;refine Zbc h23 (fun c3 h24=>?_) (fun c3 h25=>?_)
  ·exact xV fol h24 hE (o3++[cT,rZ]) (t2 c3)
  obtain ⟨i2,rfl,h26⟩:=Zac h25;obtain ⟨x3,c5,h27⟩:=ZbO h26;obtain ⟨x4,c6,h28⟩:=Zac h27;rcases Zoa h28 with ⟨j5,h32,c7,h29⟩ | ⟨c7,h30⟩
  ·obtain ⟨x6,h33,h31⟩:=Zjh h29;obtain rfl:=ZjZ h33;exact aqd fol (o3++[cF,.d {ds:=[(3,{oc:=x3.lo}),(5,q1 [.agg [zI .u8 32 x4]]),(6,{oc:=x3.lo,oe:=[zK .i64 x6]})],hv:=0,Hs:=[]},.s 2]) [0,2,4,9,10] [4] (t2 (aL c3 c5 (Zer.snd c6) (ZtT c7) c5)) (ZaO.p1_ok h31 hE)
  exact aqd fol (o3++[cF,.d {ds:=[(3,{oc:=x3.lo}),(5,q1 [.agg [zI .u8 32 x4]]),(6,{oc:=x3.lo,yes:=false})],hv:=0,Hs:=[]},.s 2]) [0,2,4,9,10] [4] (t2 (aL c3 c5 (Zer.snd c6) c7 c5)) (ZaO.p1_ok h30 hE)
def Zef.B:Code:=Tryz.f84.body.getD .skip
def Zef.rs (r:Int):List CV:=[oI r]
def Zef (N:Nat) (A0:Int):Option Int:= some (ZaG .and .i64 A0 (w64 (A0-1)))
theorem Zef.snd {A0:Int} {r:Int} (h:Zef N A0=some r):ZdP zB 84 [oI A0] (Zef.rs r):=fun st=>
 sO Zef.B Tryz.func84 fun g0 w0 R hE=>by
  unfold Zef at h;exact xS fol h hE [rZ,rZ] trivial
def Zev.B:Code:=Tryz.f58.body.getD .skip
def Zev.rs (r:Int):List CV:=[oI r]
def Zev (N:Nat) (h_0:Int):Option Int:= if (decide (h_0<2))=true then some 0 else if ((ZaG .and .i64 h_0 1)==0)=true then Zbm (Zef N h_0) fun x1=> some x1 else Zbm (Zef N (w64 (h_0-1))) fun x2=> Zbm (Zef N x2) fun x3=> some (w64 (x3+1))
theorem Zev.snd {h_0:Int} {r:Int} (h:Zev N h_0=some r):ZdP zB 58 [oI h_0] (Zev.rs r):=fun st=>
 sO Zev.B Tryz.func58 fun g0 w0 R hE=>by
  unfold Zev at h;refine Zbc h (fun c1 h1=>?_) (fun c1 h2=>?_)
  ·exact xS fol h1 hE [rZ,rZ,cT,rZ] c1
  refine Zbc h2 (fun c2 h3=>?_) (fun c2 h4=>?_)
  ·obtain ⟨x1,c3,h5⟩:=Zac h3;exact xS fol h5 hE [rZ,rZ,cF,rZ,cT,.r [(1,q1 [oI x1])]] (aJ c1 c2 (Zef.snd c3))
  obtain ⟨x2,c4,h6⟩:=Zac h4;obtain ⟨x3,c5,h7⟩:=Zac h6;exact xS fol h7 hE [rZ,rZ,cF,rZ,cF,.r [(2,q1 [oI x2]),(3,q1 [oI x3])]] (aK c1 c2 (Zef.snd c4) (Zef.snd c5))
def Zbn.B:Code:=Tryz.f49.body.getD .skip
def Zbn.rs (r:Int):List CV:=[oI r]
def Zbn (N:Nat) (A0:ZaD) (at_1:Int):Option Int:= Zbm (ZbU N A0 at_1) fun (x1,x2)=> if (!x2)=true then some (-1) else some x1.Height
theorem Zbn.snd {A0:ZaD} {at_1:Int} {r:Int} (h:Zbn N A0 at_1=some r):ZdP zB 49 [.one (vN 2 A0.ls),oI at_1] (Zbn.rs r):=fun st=>
 sO Zbn.B Tryz.func49 fun g0 w0 R hE=>by
  unfold Zbn at h;obtain ⟨⟨x1,x2⟩,c1,h1⟩:=Zac h;let o1:List PS:=[rZ,.r [(2,q0 [.agg x1.ls,oB x2])],rZ]
  refine Zbc h1 (fun c2 h2=>?_) (fun c2 h3=>?_)
  ·exact xS fol h2 hE (o1++[cT,rZ]) (aI (ZbU.snd c1) c2)
  exact xS fol h3 hE (o1++[cF,rZ]) (aI (ZbU.snd c1) c2)
def Zav.B:Code:=Tryz.f50.body.getD .skip
def Zav.rs (r:Int):List CV:=[oI r]
def Zav.p2 (N:Nat) (c1_:(Int×Int)→Option Int) (A0:ZaD) (F2 A8 x6 x7:Int):Option Int:= Zbm (Zbn N A0 A8) fun x9=> c1_ (A8,x9)
def Zav.p1 (N:Nat) (A0:ZaD) (F2:Int) (c1_:(Int×Int)→Option Int):(Int×Int)→Option Int:=fun (A2,h_3)=> if (decide (h_3>F2))=true then Zbm (ZbU N A0 A2) fun (x4,x5)=> chk (0≤A2)<| chk (A2<(len A0.leaps))<| Zde (A0.leaps[zD A2]?) ZdX fun x6=> if (x6 != (-1))=true then Zbm (Zbn N A0 x6) fun x7=> if (decide (x7≥F2))=true then Zav.p2 N c1_ A0 F2 x6 x6 x7 else Zav.p2 N c1_ A0 F2 x4.Ahead x6 x7 else Zbm (Zbn N A0 x4.Ahead) fun x10=> c1_ (x4.Ahead,x10) else some A2
def Zav (N:Nat) (A0:ZaD) (at_1 F2:Int):Option Int:= Zbm (Zbn N A0 at_1) fun x1=> if (decide (F2<0))=true then some (-1) else if (decide (F2>x1))=true then some (-1) else loopN (Zav.p1 N A0 F2) N (at_1,x1)
def Zav.p2.S (A0:ZaD) (F2 A8 x6 x7:Int) (st:LL):S:=mkS 55 [(0,.one (.l (vN 2 A0.ls))),(2,sI F2),(10,sI A8),(43,.one (.l (vN 2 A0.ls))),(44,sI x6),(45,sI x7),(46,sI F2),(47,.one (.l (xW (decide (x7≥F2)))))] [] st
def Zav.p1.S (A0:ZaD) (A2 F2 h_3:Int) (st:LL):S:=mkS 55 [(0,.one (.l (vN 2 A0.ls))),(1,sI A2),(2,sI F2),(7,sI h_3)] [] st
theorem Zav.p2_ok {A0 F2 A8 x6 x7 st r c1_ J1} (h:Zav.p2 N c1_ A0 F2 A8 x6 x7=some r) (hE:En Tryz.f50 g0 w0 (Zav.rs r) st R) (hc1 : ∀A2 h_3,c1_ (A2,h_3)=some r→At g0 w0 (Zav.p1.S A0 A2 F2 h_3 st) J1):At g0 w0 (Zav.p2.S A0 F2 A8 x6 x7 st) (XK zB R [cK Zav.B [1,1,1,0,0,0,1,0,1,1,1],.b 1,.h J1,.b 0,cK Zav.B [1,1,1,1]]):=by
 unfold Zav.p2 at h;obtain ⟨x9,c12,h1⟩:=Zac h;exact an fol [.r [(3,q0 [oI x9])]] [0,1,2,7] [] (Zbn.snd c12) (hc1 A8 x9 h1)
theorem Zav.p1_ok {A0 A2 F2 h_3 st r c1_ J1} (h:Zav.p1 N A0 F2 c1_ (A2,h_3)=some r) (hE:En Tryz.f50 g0 w0 (Zav.rs r) st R) (hc1 : ∀A2 h_3,c1_ (A2,h_3)=some r→At g0 w0 (Zav.p1.S A0 A2 F2 h_3 st) J1):At g0 w0 (Zav.p1.S A0 A2 F2 h_3 st) (XK zB R (cK Zav.B [1,1,1,0,0,0] :: .h J1 :: [.b 0,cK Zav.B [1,1,1,1]])):=by
 unfold Zav.p1 at h;refine Zbc h (fun c4 h2=>?_) (fun c4 h3=>?_)
 ·obtain ⟨⟨x4,x5⟩,c5,h4⟩:=Zac h2;obtain ⟨c6,c7,h5⟩:=ck2 h4;obtain ⟨x6,c8,h6⟩:=Zdt h5;let o1:List PS:=[rZ,cT,.r [(2,q0 [.agg x4.ls,oB x5])],rZ,.r [(3,{oe:=A0.ls}),(6,{oe:=[zK .i64 x6]})]]
  have t1 {Q:Prop} (q:Q):=aN c4 (ZbU.snd c5) (eO A0.ls) c6 c7 c8 q;refine Zbc h6 (fun c9 h7=>?_) (fun c9 h8=>?_)
  ·obtain ⟨x7,c10,h9⟩:=Zac h7;let o2:List PS:=o1++[.r [(5,q0 [oI x7])]]
   have t2 {Q:Prop} (q:Q):=t1 (aO c9 c9 c9 (Zbn.snd c10) c9 c9 c9 q);refine Zbc h9 (fun c11 h10=>?_) (fun c11 h11=>?_)
   ·exact aq fol (o2++[cT,rZ,.s 5]) [0,2,10,43,44,45,46,47] [] (t2 c11) (Zav.p2_ok h10 hE hc1)
   exact aq fol (o2++[cF,.s 5]) [0,2,10,43,44,45,46,47] [] (t2 c11) (Zav.p2_ok h11 hE hc1)
  obtain ⟨x10,c13,h12⟩:=Zac h8;exact an fol (o1++[.r [(3,wF),(4,wF),(5,wF),(6,wF),(7,wF),(8,yF)],cF,.r [(3,q0 [oI x10])]]) [0,1,2,7] [] (t1 (aO c9 c9 c9 c9 c9 c9 eF (Zbn.snd c13))) (hc1 x4.Ahead x10 h12)
 exact xS fol h3 hE [rZ,cF,rZ] c4
theorem Zav.snd {A0:ZaD} {at_1 F2:Int} {r:Int} (h:Zav N A0 at_1 F2=some r):ZdP zB 50 [.one (vN 2 A0.ls),oI at_1,oI F2] (Zav.rs r):=fun st=>
 sO Zav.B Tryz.func50 fun g0 w0 R hE=>by
  unfold Zav at h;obtain ⟨x1,c1,h13⟩:=Zac h;let o3:List PS:=[rZ,.r [(2,q0 [oI x1])]]
  have t3 {Q:Prop} (q:Q):=aI (Zbn.snd c1) q;refine Zbc h13 (fun c2 h14=>?_) (fun c2 h15=>?_)
  ·exact xS fol h14 hE (o3++[.r [(3,wF),(4,wF),(5,wF)],cT,rZ]) (t3 (aL c2 c2 c2 c2 eT))
  refine Zbc h15 (fun c3 h16=>?_) (fun c3 h17=>?_)
  ·exact xS fol h16 hE (o3++[.r [(6,yF)],cT,rZ]) (t3 (aL c2 c2 c2 c2 c3))
  exact aq fol (o3++[.r [(6,yF)],cF]) [0,1,2,7] [] (t3 (aL c2 c2 c2 c2 c3)) (At.loop N (At.loopN (fun y:Int×Int=>Zav.p1.S A0 y.1 F2 y.2 st) (fun c J hc y h=>Zav.p1_ok (A2:=y.1) (h_3:=y.2) h hE (fun A2 h_3=>hc (A2,h_3))) N (at_1,x1) h17))
def ZdF.B:Code:=Tryz.f49.body.getD .skip
def ZdF.rs (r:Int×LL):List CV:=[oI r.1]
def ZdF (N:Nat) (A0:Option Nat) (at_1:Int) (st:LL):Option (Int×LL):= Zbm (Zeo N A0 at_1 st) fun (x1,x2,st3)=> if (!x2)=true then some ((-1),st3) else some (x1.Height,st3)
theorem ZdF.snd {A0:Option Nat} {at_1:Int} {st:LL} {r:Int×LL} (h:ZdF N A0 at_1 st=some r):Snd zB 49 [.one (zQ A0),oI at_1] st (ZdF.rs r) r.2:=
 sO ZdF.B Tryz.func49 fun g0 w0 R hE=>by
  unfold ZdF at h;obtain ⟨⟨x1,x2,st3⟩,c1,h1⟩:=Zac h;let o1:List PS:=[rZ,.r [(2,{rs:=[.agg x1.ls,oB x2],st:=st3})],rZ]
  refine Zbc h1 (fun c2 h2=>?_) (fun c2 h3=>?_)
  ·exact xT fol h2 hE (o1++[cT,rZ]) (aI (Zeo.snd c1) c2)
  exact xT fol h3 hE (o1++[cF,rZ]) (aI (Zeo.snd c1) c2)
def ZaP.B:Code:=Tryz.f50.body.getD .skip
def ZaP.rs (r:Int×LL):List CV:=[oI r.1]
def ZaP.p2 (N:Nat) (c1_:((Option Nat)×Int×Int×LL)→Option (Int×LL)) (i26:Nat) (F2 A35 x33 x34:Int) (st25:LL):Option (Int×LL):= Zde (st25[i26]?) Zdp fun x36 x37=> Zbm x36 fun i38=> Zde (st25[i38]?) ZbZ fun x39=> Zbm (Zbn N (ZaD.mk x39 x37) A35) fun x40=> c1_ ((some i26),A35,x40,st25)
def ZaP.p1 (N:Nat) (F2:Int) (c1_:((Option Nat)×Int×Int×LL)→Option (Int×LL)):((Option Nat)×Int×Int×LL)→Option (Int×LL):=fun (A24,A3,A4,st25)=> if (decide (A4>F2))=true then Zbm A24 fun i26=> Zde (st25[i26]?) Zdp fun x27 x28=> Zbm x27 fun i29=> Zde (st25[i29]?) ZbZ fun x30=> Zbm (ZbU N (ZaD.mk x30 x28) A3) fun (x31,x32)=> chk (0≤A3)<| chk (A3<(len x28))<| Zde (x28[0+(zD A3)]?) ZdX fun x33=> if (x33 != (-1))=true then Zbm (Zbn N (ZaD.mk x30 x28) x33) fun x34=> if (decide (x34≥F2))=true then ZaP.p2 N c1_ i26 F2 x33 x33 x34 st25 else ZaP.p2 N c1_ i26 F2 x31.Ahead x33 x34 st25 else Zbm (Zbn N (ZaD.mk x30 x28) x31.Ahead) fun x41=> c1_ ((some i26),x31.Ahead,x41,st25) else some (A3,st25)
def ZaP (N:Nat) (A0:Option Nat) (at_1 F2:Int) (st:LL):Option (Int×LL):= Zbm (ZdF N A0 at_1 st) fun (x1,st2)=> if (decide (F2<0))=true then some ((-1),st2) else if (decide (F2>x1))=true then some ((-1),st2) else loopN (ZaP.p1 N F2) N (A0,at_1,x1,st2)
def ZaP.p2.S (i26:Nat) (F2 A35 x33 x34:Int) (st25:LL):S:=mkS 55 [(0,sP (some i26)),(2,sI F2),(10,sI A35),(43,sP (some i26)),(44,sI x33),(45,sI x34),(46,sI F2),(47,.one (.l (xW (decide (x34≥F2)))))] [] st25
def ZaP.p1.S (A24:Option Nat) (A3 F2 A4:Int) (st25:LL):S:=mkS 55 [(0,sP A24),(1,sI A3),(2,sI F2),(7,sI A4)] [] st25
theorem ZaP.p2_ok {i26 F2 A35 x33 x34 st25 r c1_ J1} (h:ZaP.p2 N c1_ i26 F2 A35 x33 x34 st25=some r) (hE:En Tryz.f50 g0 w0 (ZaP.rs r) r.2 R) (hc1 : ∀A24 A3 A4 st25,c1_ (A24,A3,A4,st25)=some r→At g0 w0 (ZaP.p1.S A24 A3 F2 A4 st25) J1):At g0 w0 (ZaP.p2.S i26 F2 A35 x33 x34 st25) (XK zB R [cK ZaP.B [1,1,1,0,0,0,1,0,1,1,1],.b 1,.h J1,.b 0,cK ZaP.B [1,1,1,1]]):=by
 unfold ZaP.p2 at h;obtain ⟨x36,x37,c35,h1⟩:=Zdf h;obtain ⟨i38,rfl,h2⟩:=Zac h1;obtain ⟨x39,c37,h3⟩:=ZbO h2;obtain ⟨x40,c38,h4⟩:=Zac h3;exact an fol [.r [(3,{rs:=[oI x40],m:=10,cv:=[.one (vN 2 (ZaD.ls (ZaD.mk x39 x37)))]})]] [0,1,2,7] [] (aI (bO 2 c35 ((bC 87 c37 (ZaH.bv x39) (bW bN)):BVs st25 [zQ (some i38),yC true 1 x37] (ZaD.ls (ZaD.mk x39 x37)))) (Zbn.snd c38)) (hc1 (some i26) A35 x40 st25 h4)
theorem ZaP.p1_ok {A24 A3 F2 A4 st25 r c1_ J1} (h:ZaP.p1 N F2 c1_ (A24,A3,A4,st25)=some r) (hE:En Tryz.f50 g0 w0 (ZaP.rs r) r.2 R) (hc1 : ∀A24 A3 A4 st25,c1_ (A24,A3,A4,st25)=some r→At g0 w0 (ZaP.p1.S A24 A3 F2 A4 st25) J1):At g0 w0 (ZaP.p1.S A24 A3 F2 A4 st25) (XK zB R (cK ZaP.B [1,1,1,0,0,0] :: .h J1 :: [.b 0,cK ZaP.B [1,1,1,1]])):=by
 unfold ZaP.p1 at h;refine Zbc h (fun c23 h5=>?_) (fun c23 h6=>?_)
 ·obtain ⟨i26,rfl,h7⟩:=Zac h5;obtain ⟨x27,x28,c25,h8⟩:=Zdf h7;obtain ⟨i29,rfl,h9⟩:=Zac h8;obtain ⟨x30,c27,h10⟩:=ZbO h9;obtain ⟨⟨x31,x32⟩,c28,h11⟩:=Zac h10;obtain ⟨c29,c30,h12⟩:=ck2 h11;obtain ⟨x33,c31,h13⟩:=Zdt h12;let o1:List PS:=[rZ,cT,.r [(2,{rs:=[.agg x31.ls,oB x32],m:=10,cv:=[.one (vN 2 (ZaD.ls (ZaD.mk x30 x28)))]})],rZ,.r [(3,{oc:=[zQ (some i29),yC true 1 x28]}),(6,{oc:=[zQ (some i29),yC true 1 x28],oe:=[zK .i64 x33]})]]
  have t1 {Q:Prop} (q:Q):=aO c23 (bO 2 c25 ((bC 87 c27 (ZaH.bv x30) (bW bN)):BVs st25 [zQ (some i29),yC true 1 x28] (ZaD.ls (ZaD.mk x30 x28)))) (ZbU.snd c28) c25 c29 c30 c31 (aI c25 q);refine Zbc h13 (fun c32 h14=>?_) (fun c32 h15=>?_)
  ·obtain ⟨x34,c33,h16⟩:=Zac h14;let o2:List PS:=o1++[.r [(5,{rs:=[oI x34],m:=10,cv:=[.one (vN 2 (ZaD.ls (ZaD.mk x30 x28)))]})]]
   have t2 {Q:Prop} (q:Q):=t1 (aO c32 c32 c32 (bO 2 c25 ((bC 87 c27 (ZaH.bv x30) (bW bN)):BVs st25 [zQ (some i29),yC true 1 x28] (ZaD.ls (ZaD.mk x30 x28)))) (Zbn.snd c33) c32 c32 (aI c32 q));refine Zbc h16 (fun c34 h17=>?_) (fun c34 h18=>?_)
   ·exact aq fol (o2++[cT,rZ,.s 5]) [0,2,10,43,44,45,46,47] [] (t2 c34) (ZaP.p2_ok h17 hE hc1)
   exact aq fol (o2++[cF,.s 5]) [0,2,10,43,44,45,46,47] [] (t2 c34) (ZaP.p2_ok h18 hE hc1)
  obtain ⟨x41,c39,h19⟩:=Zac h15;exact an fol (o1++[.r [(3,wF),(4,wF),(5,wF),(6,wF),(7,wF),(8,yF)],cF,.r [(3,{rs:=[oI x41],m:=10,cv:=[.one (vN 2 (ZaD.ls (ZaD.mk x30 x28)))]})]]) [0,1,2,7] [] (t1 (aO c32 c32 c32 c32 c32 c32 eF (aI (bO 2 c25 ((bC 87 c27 (ZaH.bv x30) (bW bN)):BVs st25 [zQ (some i29),yC true 1 x28] (ZaD.ls (ZaD.mk x30 x28)))) (Zbn.snd c39)))) (hc1 (some i26) x31.Ahead x41 st25 h19)
 exact xT fol h6 hE [rZ,cF,rZ] c23
theorem ZaP.snd {A0:Option Nat} {at_1 F2:Int} {st:LL} {r:Int×LL} (h:ZaP N A0 at_1 F2 st=some r):Snd zB 50 [.one (zQ A0),oI at_1,oI F2] st (ZaP.rs r) r.2:=
 sO ZaP.B Tryz.func50 fun g0 w0 R hE=>by
  unfold ZaP at h;obtain ⟨⟨x1,st2⟩,c1,h20⟩:=Zac h;let o3:List PS:=[rZ,.r [(2,{rs:=[oI x1],st:=st2})]]
  have t3 {Q:Prop} (q:Q):=aI (ZdF.snd c1) q;refine Zbc h20 (fun c2 h21=>?_) (fun c2 h22=>?_)
  ·exact xT fol h21 hE (o3++[.r [(3,wF),(4,wF),(5,wF)],cT,rZ]) (t3 (aL c2 c2 c2 c2 eT))
  refine Zbc h22 (fun c3 h23=>?_) (fun c3 h24=>?_)
  ·exact xT fol h23 hE (o3++[.r [(6,yF)],cT,rZ]) (t3 (aL c2 c2 c2 c2 c3))
  exact aq fol (o3++[.r [(6,yF)],cF]) [0,1,2,7] [] (t3 (aL c2 c2 c2 c2 c3)) (At.loop N (At.loopN (fun y:(Option Nat)×Int×Int×LL=>ZaP.p1.S y.1 y.2.1 F2 y.2.2.1 y.2.2.2) (fun c J hc y h=>ZaP.p1_ok (A24:=y.1) (A3:=y.2.1) (A4:=y.2.2.1) (st25:=y.2.2.2) h hE (fun A24 A3 A4 st25=>hc (A24,A3,A4,st25))) N (A0,at_1,x1,st2) h24))
def Zcp.B:Code:=Tryz.f32.body.getD .skip
def Zcp.rs (r:Int×Int×Int×LL):List CV:=[oI r.1,oI r.2.1,oI r.2.2.1]
def Zcp.p1 (N:Nat) (x4 x5 x6:Int) (st16:LL):Option (Int×Int×Int×LL):= some (x4,x5,x6,st16)
def Zcp (N:Nat) (A0:Option Nat) (A1:Zak) (A2:Int) (st:LL):Option (Int×Int×Int×LL):= if (Option.isNone A0)=true then some ((-1),0,2,st) else Zbm A0 fun i1=> Zde (st[i1]?) Zdp fun x2 x3=> Zbm (ZaO N x2 A1 A2 st) fun (x4,x5,x6,st7)=> if (x6==0)=true then Zde (st7[i1]?) Zdp fun x8 x9=> if (x4==(len x9))=true then Zbm x8 fun i10=> Zde (st7[i10]?) ZbZ fun x11=> Zbm (Zcu N x11 x4) fun (x12,x13)=> Zbm (Zev N x12.Height) fun x14=> Zbm (Zav N (ZaD.mk x11 x9) x12.Ahead x14) fun x15=> chk (zL (x9++[[zK .i64 x15]])*8≤140737488355328)<| Zcp.p1 N x4 x5 x6 (zN (zN st7 i1 [zQ (some i10),L.gone]) i1 [zQ (some i10),yC true 1 (x9++[[zK .i64 x15]])]) else Zcp.p1 N x4 x5 x6 st7 else some (x4,x5,x6,st7)
def Zcp.p1.S (x4 x5 x6:Int) (st16:LL):S:=mkS 66 [(9,sI x4),(10,sI x5),(11,sI x6)] [] st16
theorem Zcp.p1_ok {x4 x5 x6 st16 r} (h:Zcp.p1 N x4 x5 x6 st16=some r) (hE:En Tryz.f32 g0 w0 (Zcp.rs r) r.2.2.2 R):At g0 w0 (Zcp.p1.S x4 x5 x6 st16) (XK zB R [cK Zcp.B [1,1,1,1]]):=by
 unfold Zcp.p1 at h;exact xV fol h hE [rZ] trivial
theorem Zcp.snd {A0:Option Nat} {A1:Zak} {A2:Int} {st:LL} {r:Int×Int×Int×LL} (h:Zcp N A0 A1 A2 st=some r):Snd zB 32 [.one (zQ A0),.agg A1.ls,oI A2] st (Zcp.rs r) r.2.2.2:=
 sO Zcp.B Tryz.func32 fun g0 w0 R hE=>by
  unfold Zcp at h;refine Zbc h (fun c1 h1=>?_) (fun c1 h2=>?_)
  ·exact xV fol h1 hE [rZ,rZ,cT,rZ] c1
  obtain ⟨i1,rfl,h3⟩:=Zac h2;obtain ⟨x2,x3,c3,h4⟩:=Zdf h3;obtain ⟨⟨x4,x5,x6,st7⟩,c4,h5⟩:=Zac h4;let o1:List PS:=[rZ,rZ,cF,.d {ds:=[(3,{oc:=[zQ x2,yC true 1 x3]}),(6,{rs:=[oI x4,oI x5,oI x6],st:=st7})],hv:=64,Hs:=[64]}]
  have t1 {Q:Prop} (q:Q):=aK c1 c3 (ZaO.snd c4) q;refine Zbc h5 (fun c5 h6=>?_) (fun c5 h7=>?_)
  ·obtain ⟨x8,x9,c6,h8⟩:=Zdf h6;refine Zbc h8 (fun c7 h9=>?_) (fun c7 h10=>?_)
   ·obtain ⟨i10,rfl,h11⟩:=Zac h9;obtain ⟨x11,c9,h12⟩:=ZbO h11;obtain ⟨⟨x12,x13⟩,c10,h13⟩:=Zac h12;obtain ⟨x14,c11,h14⟩:=Zac h13;obtain ⟨x15,c12,h15⟩:=Zac h14;obtain ⟨c13,h16⟩:=Zbe h15;exact aqd fol (o1++[.r [(7,{oc:=[zQ (some i10),yC true 1 x9]})],cT,.r [(3,{oc:=[zQ (some i10),yC true 1 x9]}),(5,{rs:=[.agg x12.ls,oB x13],m:=10,cv:=[.one (vN 87 x11.ls)]})],.d {ds:=[(4,{oc:=[zQ (some i10),yC true 1 x9]}),(10,q1 [oI x14]),(11,{rs:=[oI x15],m:=10,cv:=[.one (vN 2 (ZaD.ls (ZaD.mk x11 x9)))]}),(13,{oe:=[zQ (some i10),yC true 1 x9]}),(16,{oc:=[zQ (some i10),L.gone],mv:=[60]})],hv:=79872,Hs:=[2048,6144,14336,79872]},.s 1]) [9,10,11] [] (t1 (aO c5 c5 c5 c5 c5 c6 c5 (aO c5 c5 c7 c6 (bO 87 c9 (ZaH.bv x11)) (Zcu.snd c10) c6 (aO c6 c6 (Zev.snd c11) (bO 2 c6 ((bC 87 c9 (ZaH.bv x11) (bW bN)):BVs st7 [zQ (some i10),yC true 1 x9] (ZaD.ls (ZaD.mk x11 x9)))) (Zav.snd c12) z0 (eN (zL x9)) (aN c6 z0 (eN (1)) c13 (Zar c6 [zQ (some i10),L.gone]) z0 (eN (zL (x9++[[zK .i64 x15]])))))))) (Zcp.p1_ok h16 hE)
   exact aqd fol (o1++[.r [(7,{oc:=[zQ x8,yC true 1 x9]})],cF,.s 1]) [9,10,11] [] (t1 (aO c5 c5 c5 c5 c5 c6 c5 (aJ c5 c5 c7))) (Zcp.p1_ok h10 hE)
  exact xVd fol h7 hE (o1++[.r [(3,wF),(4,wF),(5,wF),(6,wF),(7,wF),(8,wF),(9,wF),(10,yF)],cF,rZ]) (t1 (aO c5 c5 c5 c5 c5 c5 c5 (aI c5 eF)))
def Zbx.B:Code:=Tryz.f59.body.getD .skip
def Zbx.rs (r:Int):List CV:=[oI r]
def Zbx.p1 (N:Nat) (A0:Zab) (A1_0:List Int) (c1_:Int→Option Int):Int→Option Int:=fun v1=> if (decide (v1<(len A0.Ids)))=true then chk (0≤v1)<| Zde (A0.Ids[zD v1]?) Zhw fun x2=> if (x2==A1_0)=true then some v1 else c1_ (w64 (v1+1)) else some (-1)
def Zbx (N:Nat) (A0:Zab) (A1_0:List Int):Option Int:= loopN (Zbx.p1 N A0 A1_0) N 0
def Zbx.p1.S (A0:Zab) (v1:Int) (A1_0:List Int) (st:LL):S:=mkS 22 [(3,sA 3),(10,sV 32 A0.Ids),(11,sI (len A0.Ids)),(12,sI v1)] [(3,.cells [zI .u8 32 A1_0])] st
theorem Zbx.p1_ok {A0 v1 A1_0 st r c1_ J1} (h:Zbx.p1 N A0 A1_0 c1_ v1=some r) (hE:En Tryz.f59 g0 w0 (Zbx.rs r) st R) (hc1 : ∀v1,c1_ v1=some r→At g0 w0 (Zbx.p1.S A0 v1 A1_0 st) J1):At g0 w0 (Zbx.p1.S A0 v1 A1_0 st) (XK zB R (cK Zbx.B [1,0,1,0,0] :: .h J1 :: [.b 0,cK Zbx.B [1,1]])):=by
 unfold Zbx.p1 at h;refine Zbc h (fun c1 h1=>?_) (fun c1 h2=>?_)
 ·obtain ⟨c2,h3⟩:=Zbe h1;obtain ⟨x2,c3,h4⟩:=ZhP h3;let o1:List PS:=[rZ,cT,.r [(2,{oe:=[zI .u8 32 x2]})],rZ]
  refine Zbc h4 (fun c4 h5=>?_) (fun c4 h6=>?_)
  ·exact xS fol h5 hE (o1++[cT,rZ]) (aL c1 c2 (oD c1) c3 c4)
  exact an fol (o1++[cF,rZ]) [3,10,11,12] [3] (aL c1 c2 (oD c1) c3 c4) (hc1 (w64 (v1+1)) h6)
 exact xS fol h2 hE [rZ,cF,rZ] c1
theorem Zbx.snd {A0:Zab} {A1_0:List Int} {r:Int} (h:Zbx N A0 A1_0=some r):ZdP zB 59 [.one (vN 88 A0.ls),.agg [zI .u8 32 A1_0]] (Zbx.rs r):=fun st=>
 sO Zbx.B Tryz.func59 fun g0 w0 R hE=>by
  unfold Zbx at h;exact aq fol [rZ,.r [(3,{oe:=A0.ls})]] [3,10,11,12] [3] (eO A0.ls) (At.loop N (At.loopN (fun y:Int=>Zbx.p1.S A0 y A1_0 st) (fun c J hc y h=>Zbx.p1_ok h hE (fun v1=>hc v1)) N 0 h))
def Zba.B:Code:=Tryz.f61.body.getD .skip
def Zba.rs (r:LL):List CV:=[.row true 68 r]
def Zba.p1 (N:Nat) (A0:Zab) (c1_:(LL×Int)→Option LL):(LL×Int)→Option LL:=fun (A4,A1)=> if (decide (A1≥0))=true then chk (0≤A1)<| chk (A1<(len A0.List_))<| Zde (A0.List_[zD A1]?) Zep fun x5=> chk (zL ([x5.ls]++A4)*96≤140737488355328)<| chk (A1<(len A0.Ahead))<| Zde (A0.Ahead[zD A1]?) ZdX fun x6=> c1_ ([x5.ls]++A4,x6) else some A4
def Zba (N:Nat) (A0:Zab) (at_1:Int):Option LL:= loopN (Zba.p1 N A0) N ([],at_1)
def Zba.p1.S (A0:Zab) (A4:LL) (A1:Int) (st:LL):S:=mkS 28 [(0,.one (.l (vN 88 A0.ls))),(5,.one (.h (.row 5 0) 68 0 (zL A4))),(6,sI A1)] [(5,.row 0 true 68 A4)] st
theorem Zba.p1_ok {A0 A4 A1 st r c1_ J1} (h:Zba.p1 N A0 c1_ (A4,A1)=some r) (hE:En Tryz.f61 g0 w0 (Zba.rs r) st R) (hc1 : ∀A4 A1,c1_ (A4,A1)=some r→At g0 w0 (Zba.p1.S A0 A4 A1 st) J1):At g0 w0 (Zba.p1.S A0 A4 A1 st) (XK zB R (cK Zba.B [1,1,0,1,0,0] :: .h J1 :: [.b 0,cK Zba.B [1,1,1]])):=by
 unfold Zba.p1 at h;refine Zbc h (fun c8 h1=>?_) (fun c8 h2=>?_)
 ·obtain ⟨c9,c10,h3⟩:=ck2 h1;obtain ⟨x5,c11,h4⟩:=ZeJ h3;obtain ⟨c12,c13,h5⟩:=ck2 h4;obtain ⟨x6,c14,h6⟩:=Zdt h5;exact an fol [rZ,cT,.r [(3,{oe:=A0.ls}),(6,{oe:=x5.ls}),(10,{m:=4})],.r [(3,{oe:=A0.ls}),(6,{oe:=[zK .i64 x6]})]] [0,5,6] [5] (aO c8 (eO A0.ls) c9 c10 c11 z0 (eN (1)) (aN z0 (eN (zL A4)) c12 (eO A0.ls) c9 c13 c14)) (hc1 ([x5.ls]++A4) x6 h6)
 obtain rfl:=Zad h2;exact af fol hE [rZ,cF,rZ] [] 0 [0] (aJ c8 z0 (eN (zL A4)))
theorem Zba.snd {A0:Zab} {at_1:Int} {r:LL} (h:Zba N A0 at_1=some r):ZdP zB 61 [.one (vN 88 A0.ls),oI at_1] (Zba.rs r):=fun st=>
 sO Zba.B Tryz.func61 fun g0 w0 R hE=>by
  unfold Zba at h;exact aq fol [.r [(0,{m:=2})],.r [(0,{m:=1})],rZ] [0,5,6] [5] trivial (At.loop N (At.loopN (fun y:LL×Int=>Zba.p1.S A0 y.1 y.2 st) (fun c J hc y h=>Zba.p1_ok (A4:=y.1) (A1:=y.2) h hE (fun A4 A1=>hc (A4,A1))) N ([],at_1) h))
def Zaw.B:Code:=Tryz.f155.body.getD .skip
def Zaw.rs (r:(List Int)×Bool):List CV:=[.agg [zI .u64 4 r.1],oB r.2]
def Zaw.p2 (N:Nat) (c1_:(Int×Int×(List Int))→Option ((List Int)×Bool)) (F1 F2 A1 A2 A12:Int) (A0_0 A11:List Int):Option ((List Int)×Bool):= chk (0≤A2)<| chk (A2<10)<| c1_ (w64 (zS (w64 ((w64 (A12*F1))+A1)) 4294967296),w64 (A2+1),zN A11 (zD A2) (zX (w64 ((w64 (A12*F1))+A1)) 4294967296))
def Zaw.p4 (N:Nat) (A17:List Int) (c4_:(Int×(List Int))→Option ((List Int)×Bool)):(Int×(List Int))→Option ((List Int)×Bool):=fun (A18,A19)=> if (decide (A18<8))=true then chk (0≤(w64 (zS A18 2)))<| chk ((w64 (zS A18 2))<4)<| chk (0≤A18)<| chk (A18<10)<| chk (0≤(v64 (w64 (32*(zX A18 2)))))<| c4_ (w64 (A18+1),zN A19 (zD (w64 (zS A18 2))) (v64 ((zF A19 (zD (w64 (zS A18 2))) 0)+(ZbR .u64 (v64 (zF A17 (zD A18) 0)) (v64 (w64 (32*(zX A18 2)))))))) else if ((zF A17 8 0)==0)=true then some (A19,(zF A17 9 0)==0) else some (A19,false)
def Zaw.p3 (N:Nat) (F2:Int) (A11:List Int) (c3_:(Int×Int×(List Int))→Option ((List Int)×Bool)):(Int×Int×(List Int))→Option ((List Int)×Bool):=fun (A13,A14,A17)=> if (decide (A14≥0))=true then chk (0≤A14)<| chk (A14<10)<| chk (F2≠0)<| c3_ (zX (w64 ((w64 (A13*4294967296))+(zF A11 (zD A14) 0))) F2,w64 (A14-1),zN A17 (zD A14) (w64 (zS (w64 ((w64 (A13*4294967296))+(zF A11 (zD A14) 0))) F2))) else loopN (Zaw.p4 N A17) N (0,zC 4 0)
def Zaw.p1 (N:Nat) (F1 F2:Int) (A0_0:List Int) (c1_:(Int×Int×(List Int))→Option ((List Int)×Bool)):(Int×Int×(List Int))→Option ((List Int)×Bool):=fun (A1,A2,A11)=> if (decide (A2<10))=true then if (decide (A2<8))=true then chk (0≤(w64 (zS A2 2)))<| chk ((w64 (zS A2 2))<4)<| chk (0≤(v64 (w64 (32*(zX A2 2)))))<| Zaw.p2 N c1_ F1 F2 A1 A2 (w64 (zX (ZbF .u64 (zF A0_0 (zD (w64 (zS A2 2))) 0) (v64 (w64 (32*(zX A2 2))))) 4294967296)) A0_0 A11 else Zaw.p2 N c1_ F1 F2 A1 A2 0 A0_0 A11 else loopN (Zaw.p3 N F2 A11) N (0,9,zC 10 0)
def Zaw (N:Nat) (A0_0:List Int) (F1 F2:Int):Option ((List Int)×Bool):= loopN (Zaw.p1 N F1 F2 A0_0) N (0,0,zC 10 0)
def Zaw.p2.S (F1 F2 A1 A2 A12:Int) (A0_0 A11:List Int) (st:LL):S:=mkS 96 [(1,sI F1),(2,sI F2),(3,sA 3),(6,sA 6),(8,sA 8),(9,sI A1),(10,sI A2),(11,sI A12)] [(3,.cells [zI .u64 4 A0_0]),(6,.cells [zI .u64 4 (zC 4 0)]),(8,.cells [zI .i64 10 A11])] st
def Zaw.p4.S (A18:Int) (A17 A19:List Int) (st:LL):S:=mkS 96 [(6,sA 6),(14,sA 14),(17,sA 17),(18,sI A18)] [(6,.cells [zI .u64 4 (zC 4 0)]),(14,.cells [zI .i64 10 A17]),(17,.cells [zI .u64 4 A19])] st
def Zaw.p3.S (F2 A13 A14:Int) (A11 A17:List Int) (st:LL):S:=mkS 96 [(2,sI F2),(6,sA 6),(8,sA 8),(13,sI A13),(14,sA 14),(15,sI A14)] [(6,.cells [zI .u64 4 (zC 4 0)]),(8,.cells [zI .i64 10 A11]),(14,.cells [zI .i64 10 A17])] st
def Zaw.p1.S (F1 F2 A1 A2:Int) (A0_0 A11:List Int) (st:LL):S:=mkS 96 [(1,sI F1),(2,sI F2),(3,sA 3),(6,sA 6),(8,sA 8),(9,sI A1),(10,sI A2)] [(3,.cells [zI .u64 4 A0_0]),(6,.cells [zI .u64 4 (zC 4 0)]),(8,.cells [zI .i64 10 A11])] st
theorem Zaw.p2_ok {F1 F2 A1 A2 A12 A0_0 A11 st r c1_ J1} (h:Zaw.p2 N c1_ F1 F2 A1 A2 A12 A0_0 A11=some r) (hE:En Tryz.f155 g0 w0 (Zaw.rs r) st R) (hc1 : ∀A1 A2 A11,c1_ (A1,A2,A11)=some r→At g0 w0 (Zaw.p1.S F1 F2 A1 A2 A0_0 A11 st) J1):At g0 w0 (Zaw.p2.S F1 F2 A1 A2 A12 A0_0 A11 st) (XK zB R [cK Zaw.B [1,1,1,0,1,0,0,1,0,0,1,1],.b 1,cK Zaw.B [1,1,1,0,1,0,0,1,1],.h J1,.b 0,cK Zaw.B [1,1,1,1]]):=by
 unfold Zaw.p2 at h;obtain ⟨c49,c50,h1⟩:=ck2 h;exact an fol [rZ,rZ,rZ,rZ] [1,2,3,6,8,9,10] [3,6,8] (aK (neI 4294967296) c49 c50 (neI 4294967296)) (hc1 (w64 (zS (w64 ((w64 (A12*F1))+A1)) 4294967296)) (w64 (A2+1)) (zN A11 (zD A2) (zX (w64 ((w64 (A12*F1))+A1)) 4294967296)) h1)
theorem Zaw.p4_ok {A18 A17 A19 st r c4_ J4} (h:Zaw.p4 N A17 c4_ (A18,A19)=some r) (hE:En Tryz.f155 g0 w0 (Zaw.rs r) st R) (hc4 : ∀A18 A19,c4_ (A18,A19)=some r→At g0 w0 (Zaw.p4.S A18 A17 A19 st) J4):At g0 w0 (Zaw.p4.S A18 A17 A19 st) (XK zB R (cK Zaw.B [1,1,1,1,1,1,1,1,0,1,0,0] :: .h J4 :: [.b 4,cK Zaw.B [1,1,1,1,1,1,1,1,1]])):=by
 unfold Zaw.p4 at h;refine Zbc h (fun c80 h2=>?_) (fun c80 h3=>?_)
 ·obtain ⟨c81,c82,c83,c84,c85,h4⟩:=ck5 h2;exact ZjR fol [rZ,cT,.d {ds:=[],hv:=131072,Hs:=[131072]},rZ] [6,14,17,18] [6,14,17] (aO c80 (neI 2) (neI 2) c81 c82 c83 c84 (aK (neI 2) c85 c81 c82)) (hc4 (w64 (A18+1)) (zN A19 (zD (w64 (zS A18 2))) (v64 ((zF A19 (zD (w64 (zS A18 2))) 0)+(ZbR .u64 (v64 (zF A17 (zD A18) 0)) (v64 (w64 (32*(zX A18 2)))))))) h4)
 refine Zbc h3 (fun c86 h5=>?_) (fun c86 h6=>?_)
 ·exact xSd fol h5 hE [rZ,cF,.d {ds:=[],hv:=512,Hs:=[512]}] (aI c80 (ix 8 10 (aI c86 (ix 9 10 (aI c86 (ix 9 10 (aM c86 c86 c86 c86 c86 c86)))))))
 exact xSd fol h6 hE [rZ,cF,.d {ds:=[(5,wF),(6,wF),(7,wF),(8,yF)],hv:=512,Hs:=[512]}] (aI c80 (ix 8 10 (aO c86 c86 c86 c86 c86 c86 c86 c86)))
theorem Zaw.p3_ok {F2 A13 A14 A11 A17 st r c3_ J3} (h:Zaw.p3 N F2 A11 c3_ (A13,A14,A17)=some r) (hE:En Tryz.f155 g0 w0 (Zaw.rs r) st R) (hc3 : ∀A13 A14 A17,c3_ (A13,A14,A17)=some r→At g0 w0 (Zaw.p3.S F2 A13 A14 A11 A17 st) J3):At g0 w0 (Zaw.p3.S F2 A13 A14 A11 A17 st) (XK zB R (cK Zaw.B [1,1,1,1,1,1,0,1,0,0] :: .h J3 :: [.b 2,cK Zaw.B [1,1,1,1,1,1,1]])):=by
 unfold Zaw.p3 at h;refine Zbc h (fun c69 h7=>?_) (fun c69 h8=>?_)
 ·obtain ⟨c70,c71,c72,h9⟩:=ck3 h7;exact an fol [rZ,cT,rZ,rZ,rZ,rZ] [2,6,8,13,14,15] [6,8,14] (aN c69 c70 c71 c72 c70 c71 c72) (hc3 (zX (w64 ((w64 (A13*4294967296))+(zF A11 (zD A14) 0))) F2) (w64 (A14-1)) (zN A17 (zD A14) (w64 (zS (w64 ((w64 (A13*4294967296))+(zF A11 (zD A14) 0))) F2))) h9)
 exact aq fol [rZ,cF,rZ,rZ] [6,14,17,18] [6,14,17] c69 (At.loop N (At.loopN (fun y:Int×(List Int)=>Zaw.p4.S y.1 A17 y.2 st) (fun c J hc y h=>Zaw.p4_ok (A18:=y.1) (A19:=y.2) h hE (fun A18 A19=>hc (A18,A19))) N (0,zC 4 0) h8))
theorem Zaw.p1_ok {F1 F2 A1 A2 A0_0 A11 st r c1_ J1} (h:Zaw.p1 N F1 F2 A0_0 c1_ (A1,A2,A11)=some r) (hE:En Tryz.f155 g0 w0 (Zaw.rs r) st R) (hc1 : ∀A1 A2 A11,c1_ (A1,A2,A11)=some r→At g0 w0 (Zaw.p1.S F1 F2 A1 A2 A0_0 A11 st) J1):At g0 w0 (Zaw.p1.S F1 F2 A1 A2 A0_0 A11 st) (XK zB R (cK Zaw.B [1,1,1,0,1,0,0] :: .h J1 :: [.b 0,cK Zaw.B [1,1,1,1]])):=by
 unfold Zaw.p1 at h;refine Zbc h (fun c44 h10=>?_) (fun c44 h11=>?_)
 ·refine Zbc h10 (fun c45 h12=>?_) (fun c45 h13=>?_)
  ·obtain ⟨c46,c47,c48,h14⟩:=ck3 h12;exact aq fol [rZ,cT,rZ,rZ,cT,rZ,.s 6] [1,2,3,6,8,9,10,11] [3,6,8] (aO c44 c45 (neI 2) c46 c47 (neI 2) c48 (neI 4294967296)) (Zaw.p2_ok h14 hE hc1)
  exact aq fol [rZ,cT,rZ,rZ,cF,.s 6] [1,2,3,6,8,9,10,11] [3,6,8] (aI c44 c45) (Zaw.p2_ok h13 hE hc1)
 exact aq fol [rZ,cF,rZ,rZ,rZ] [2,6,8,13,14,15] [6,8,14] c44 (At.loop N (At.loopN (fun y:Int×Int×(List Int)=>Zaw.p3.S F2 y.1 y.2.1 A11 y.2.2 st) (fun c J hc y h=>Zaw.p3_ok (A13:=y.1) (A14:=y.2.1) (A17:=y.2.2) h hE (fun A13 A14 A17=>hc (A13,A14,A17))) N (0,9,zC 10 0) h11))
theorem Zaw.snd {A0_0:List Int} {F1 F2:Int} {r:(List Int)×Bool} (h:Zaw N A0_0 F1 F2=some r):ZdP zB 155 [.agg [zI .u64 4 A0_0],oI F1,oI F2] (Zaw.rs r):=fun st=>
 sO Zaw.B Tryz.func155 fun g0 w0 R hE=>by
  unfold Zaw at h;exact aq fol [rZ,rZ,rZ,rZ] [1,2,3,6,8,9,10] [3,6,8] trivial (At.loop N (At.loopN (fun y:Int×Int×(List Int)=>Zaw.p1.S F1 F2 y.1 y.2.1 A0_0 y.2.2 st) (fun c J hc y h=>Zaw.p1_ok (A1:=y.1) (A2:=y.2.1) (A11:=y.2.2) h hE (fun A1 A2 A11=>hc (A1,A2,A11))) N (0,0,zC 10 0) h))
def Zay.B:Code:=Tryz.f156.body.getD .skip
def Zay.rs (r:Int):List CV:=[oI r]
def Zay.p2 (N:Nat) (c1_:(Int×Int)→Option Int) (A4 A2:Int) (A0_0:List Int):Option Int:= c1_ (A4,w64 (A2+1))
def Zay.p4 (N:Nat) (A8 A9:Int):Option Int:= some (w64 ((w64 (A8*16777216))+A9))
def Zay.p3 (N:Nat) (A1 A7:Int):Option Int:= if (decide (A7≥8388608))=true then Zay.p4 N (w64 (A1+1)) (w64 (zS A7 256)) else Zay.p4 N A1 A7
def Zay.p1 (N:Nat) (A0_0:List Int) (c1_:(Int×Int)→Option Int):(Int×Int)→Option Int:=fun (A1,A2)=> if (decide (A2<32))=true then Zbm (Zaq N A0_0 (w64 ((-8)*A2))) fun x3=> if (decide ((zX (zF x3 0 0) 256)>0))=true then Zay.p2 N c1_ (w64 (A2+1)) A2 A0_0 else Zay.p2 N c1_ A1 A2 A0_0 else Zbm (Zaq N A0_0 (w64 (8*(w64 (3-A1))))) fun x5=> if (decide (A1>3))=true then Zbm (Zaq N A0_0 (w64 ((-8)*(w64 (A1-3))))) fun x6=> Zay.p3 N A1 (w64 (zX (zF x6 0 0) 16777216)) else Zay.p3 N A1 (w64 (zX (zF x5 0 0) 16777216))
def Zay (N:Nat) (A0_0:List Int):Option Int:= loopN (Zay.p1 N A0_0) N (0,0)
def Zay.p2.S (A4 A2:Int) (A0_0:List Int) (st:LL):S:=mkS 49 [(1,sA 1),(3,sI A4),(4,sI A2)] [(1,.cells [zI .u64 4 A0_0])] st
def Zay.p4.S (A8 A9:Int) (st:LL):S:=mkS 49 [(3,sI A8),(6,sI A9)] [] st
def Zay.p3.S (A1 A7:Int) (st:LL):S:=mkS 49 [(3,sI A1),(6,sI A7)] [] st
def Zay.p1.S (A1 A2:Int) (A0_0:List Int) (st:LL):S:=mkS 49 [(1,sA 1),(3,sI A1),(4,sI A2)] [(1,.cells [zI .u64 4 A0_0])] st
theorem Zay.p2_ok {A4 A2 A0_0 st r c1_ J1} (h:Zay.p2 N c1_ A4 A2 A0_0=some r) (hE:En Tryz.f156 g0 w0 (Zay.rs r) st R) (hc1 : ∀A1 A2,c1_ (A1,A2)=some r→At g0 w0 (Zay.p1.S A1 A2 A0_0 st) J1):At g0 w0 (Zay.p2.S A4 A2 A0_0 st) (XK zB R [cK Zay.B [1,1,0,1,0,0,1,1],.h J1,.b 0,cK Zay.B [1,1,1]]):=by
 unfold Zay.p2 at h;exact an fol [rZ] [1,3,4] [1] trivial (hc1 A4 (w64 (A2+1)) h)
theorem Zay.p4_ok {A8 A9 st r} (h:Zay.p4 N A8 A9=some r) (hE:En Tryz.f156 g0 w0 (Zay.rs r) st R):At g0 w0 (Zay.p4.S A8 A9 st) (XK zB R [cK Zay.B [1,1,1,1,1,1]]):=by
 unfold Zay.p4 at h;exact xS fol h hE [rZ] trivial
theorem Zay.p3_ok {A1 A7 st r} (h:Zay.p3 N A1 A7=some r) (hE:En Tryz.f156 g0 w0 (Zay.rs r) st R):At g0 w0 (Zay.p3.S A1 A7 st) (XK zB R [cK Zay.B [1,1,1,1,1]]):=by
 unfold Zay.p3 at h;refine Zbc h (fun c7 h1=>?_) (fun c7 h2=>?_)
 ·exact aq fol [rZ,cT,rZ,rZ,.s 1] [3,6] [] (aI c7 (neI 256)) (Zay.p4_ok h1 hE)
 exact aq fol [rZ,cF,.s 1] [3,6] [] c7 (Zay.p4_ok h2 hE)
theorem Zay.p1_ok {A1 A2 A0_0 st r c1_ J1} (h:Zay.p1 N A0_0 c1_ (A1,A2)=some r) (hE:En Tryz.f156 g0 w0 (Zay.rs r) st R) (hc1 : ∀A1 A2,c1_ (A1,A2)=some r→At g0 w0 (Zay.p1.S A1 A2 A0_0 st) J1):At g0 w0 (Zay.p1.S A1 A2 A0_0 st) (XK zB R (cK Zay.B [1,1,0,1,0,0] :: .h J1 :: [.b 0,cK Zay.B [1,1,1]])):=by
 unfold Zay.p1 at h;refine Zbc h (fun c1 h3=>?_) (fun c1 h4=>?_)
 ·obtain ⟨x3,c2,h5⟩:=Zac h3;let o1:List PS:=[rZ,cT,.r [(3,q1 [.agg [zI .u64 4 x3]])],rZ]
  have t1 {Q:Prop} (q:Q):=aJ c1 (Zaq.snd c2) (ix 0 4 (aI (neI 256) q));refine Zbc h5 (fun c3 h6=>?_) (fun c3 h7=>?_)
  ·exact aq fol (o1++[cT,rZ,.s 4]) [1,3,4] [1] (t1 c3) (Zay.p2_ok h6 hE hc1)
  exact aq fol (o1++[cF,.s 4]) [1,3,4] [1] (t1 c3) (Zay.p2_ok h7 hE hc1)
 obtain ⟨x5,c4,h8⟩:=Zac h4;let o2:List PS:=[rZ,cF,.r [(4,q1 [.agg [zI .u64 4 x5]])],rZ]
 have t2 {Q:Prop} (q:Q):=aJ c1 (Zaq.snd c4) (ix 0 4 (aI (neI 16777216) q));refine Zbc h8 (fun c5 h9=>?_) (fun c5 h10=>?_)
 ·obtain ⟨x6,c6,h11⟩:=Zac h9;exact aq fol (o2++[cT,.r [(4,q1 [.agg [zI .u64 4 x6]])],.s 1]) [3,6] [] (t2 (aJ c5 (Zaq.snd c6) (ix 0 4 (neI 16777216)))) (Zay.p3_ok h11 hE)
 exact aq fol (o2++[cF,.s 1]) [3,6] [] (t2 c5) (Zay.p3_ok h10 hE)
theorem Zay.snd {A0_0:List Int} {r:Int} (h:Zay N A0_0=some r):ZdP zB 156 [.agg [zI .u64 4 A0_0]] (Zay.rs r):=fun st=>
 sO Zay.B Tryz.func156 fun g0 w0 R hE=>by
  unfold Zay at h;exact aq fol [rZ,rZ,rZ] [1,3,4] [1] trivial (At.loop N (At.loopN (fun y:Int×Int=>Zay.p1.S y.1 y.2 A0_0 st) (fun c J hc y h=>Zay.p1_ok (A1:=y.1) (A2:=y.2) h hE (fun A1 A2=>hc (A1,A2))) N (0,0) h))
def ZaA.B:Code:=Tryz.f136.body.getD .skip
def ZaA.rs (r:Int):List CV:=[oI r]
def ZaA.p3 (N:Nat) (A11:List Int):Option Int:= Zbm (Zay N A11) fun x12=> some x12
def ZaA.p2 (N:Nat) (A0:Zae) (A5:Int) (x1:List Int):Option Int:= Zbm (Zaw N x1 A5 (w64 (A0.Interval*A0.Spacing))) fun (x6,x7)=> Zbm (Zdc N A0.Limit A0.Limit) fun (x8,x9)=> if (!x7)=true then some A0.Limit else Zbm (ZbI N x8 x6) fun x10=> if x10=true then some A0.Limit else if (x6==(zC 4 0))=true then ZaA.p3 N [1,0,0,0] else ZaA.p3 N x6
def ZaA.p1 (N:Nat) (A0:Zae) (A4:Int) (x1:List Int):Option Int:= if (decide (A4>(w64 ((w64 (A0.Interval*A0.Spacing))*4))))=true then ZaA.p2 N A0 (w64 ((w64 (A0.Interval*A0.Spacing))*4)) x1 else ZaA.p2 N A0 A4 x1
def ZaA (N:Nat) (A0:Zae) (A1 A2 A3:Int):Option Int:= Zbm (Zdc N A1 A0.Limit) fun (x1,x2)=> Zbm (ZdY N A0) fun x3=> if (!x3)=true then some A0.Limit else if (!x2)=true then some A0.Limit else if (decide ((w64 (A3-A2))<(w64 (zS (w64 (A0.Interval*A0.Spacing)) 4))))=true then ZaA.p1 N A0 (w64 (zS (w64 (A0.Interval*A0.Spacing)) 4)) x1 else ZaA.p1 N A0 (w64 (A3-A2)) x1
def ZaA.p3.S (A11:List Int) (st:LL):S:=mkS 83 [(13,sA 13)] [(13,.cells [zI .u64 4 A11])] st
def ZaA.p2.S (A0:Zae) (A5:Int) (x1:List Int) (st:LL):S:=mkS 83 [(4,sA 4),(9,sA 9),(11,sI (w64 (A0.Interval*A0.Spacing))),(12,sI A5)] [(4,.cells A0.ls),(9,.cells [zI .u64 4 x1])] st
def ZaA.p1.S (A0:Zae) (A4:Int) (x1:List Int) (st:LL):S:=mkS 83 [(4,sA 4),(9,sA 9),(11,sI (w64 (A0.Interval*A0.Spacing))),(12,sI A4)] [(4,.cells A0.ls),(9,.cells [zI .u64 4 x1])] st
theorem ZaA.p3_ok {A11 st r} (h:ZaA.p3 N A11=some r) (hE:En Tryz.f136 g0 w0 (ZaA.rs r) st R):At g0 w0 (ZaA.p3.S A11 st) (XK zB R [cK ZaA.B [1,1,1,1,1,1,1,1,1,1,1]]):=by
 unfold ZaA.p3 at h;obtain ⟨x12,c13,h1⟩:=Zac h;exact xS fol h1 hE [.r [(1,q1 [oI x12])]] (Zay.snd c13)
theorem ZaA.p2_ok {A0 A5 x1 st r} (h:ZaA.p2 N A0 A5 x1=some r) (hE:En Tryz.f136 g0 w0 (ZaA.rs r) st R):At g0 w0 (ZaA.p2.S A0 A5 x1 st) (XK zB R [cK ZaA.B [1,1,1,1,1,1,1]]):=by
 unfold ZaA.p2 at h;obtain ⟨⟨x6,x7⟩,c7,h2⟩:=Zac h;obtain ⟨⟨x8,x9⟩,c8,h3⟩:=Zac h2;let o1:List PS:=[.r [(3,q1 [.agg [zI .u64 4 x6],oB x7])],.r [(4,q1 [.agg [zI .u64 4 x8],oB x9])]]
 have t1 {Q:Prop} (q:Q):=aJ (Zaw.snd c7) (Zdc.snd c8) q;refine Zbc h3 (fun c9 h4=>?_) (fun c9 h5=>?_)
 ·exact xS fol h4 hE (o1++[.r [(3,wF),(4,wF),(5,wF)],cT,rZ]) (t1 (aL (not_false (Zbt c9)) (not_false (Zbt c9)) (not_false (Zbt c9)) (not_false (Zbt c9)) eT))
 obtain ⟨x10,c10,h6⟩:=Zac h5;let o2:List PS:=o1++[.r [(5,q1 [oB x10]),(6,yF)]]
 have t2 {Q:Prop} (q:Q):=t1 (aM (not_true (Zbu c9)) (not_true (Zbu c9)) (not_true (Zbu c9)) (ZbI.snd c10) (not_true (Zbu c9)) q);refine Zbc h6 (fun c11 h7=>?_) (fun c11 h8=>?_)
 ·exact xS fol h7 hE (o2++[cT,rZ]) (t2 c11)
 refine Zbc h8 (fun c12 h9=>?_) (fun c12 h10=>?_)
 ·exact aq fol (o2++[cF,rZ,cT,.r [(0,{m:=3})],.s 1]) [13] [13] (t2 (aI c11 c12)) (ZaA.p3_ok h9 hE)
 exact aq fol (o2++[cF,rZ,cF,.s 1]) [13] [13] (t2 (aI c11 c12)) (ZaA.p3_ok h10 hE)
theorem ZaA.p1_ok {A0 A4 x1 st r} (h:ZaA.p1 N A0 A4 x1=some r) (hE:En Tryz.f136 g0 w0 (ZaA.rs r) st R):At g0 w0 (ZaA.p1.S A0 A4 x1 st) (XK zB R [cK ZaA.B [1,1,1,1,1,1]]):=by
 unfold ZaA.p1 at h;refine Zbc h (fun c6 h11=>?_) (fun c6 h12=>?_)
 ·exact aq fol [rZ,cT,rZ,.s 1] [4,9,11,12] [4,9] c6 (ZaA.p2_ok h11 hE)
 exact aq fol [rZ,cF,.s 1] [4,9,11,12] [4,9] c6 (ZaA.p2_ok h12 hE)
theorem ZaA.snd {A0:Zae} {A1 A2 A3:Int} {r:Int} (h:ZaA N A0 A1 A2 A3=some r):ZdP zB 136 [.agg A0.ls,oI A1,oI A2,oI A3] (ZaA.rs r):=fun st=>
 sO ZaA.B Tryz.func136 fun g0 w0 R hE=>by
  unfold ZaA at h;obtain ⟨⟨x1,x2⟩,c1,h13⟩:=Zac h;obtain ⟨x3,c2,h14⟩:=Zac h13;let o3:List PS:=[rZ,.r [(3,q1 [.agg [zI .u64 4 x1],oB x2])]]
  have t3 {Q:Prop} (q:Q):=aJ (Zdc.snd c1) (ZdY.snd c2) q;refine Zbc h14 (fun c3 h15=>?_) (fun c3 h16=>?_)
  ·exact xS fol h15 hE (o3++[.r [(1,q1 [oB x3]),(4,wF),(5,wF)],cT,rZ]) (t3 (aK (not_false (Zbt c3)) (not_false (Zbt c3)) (not_false (Zbt c3)) eT))
  let o4:List PS:=o3++[.r [(1,q1 [oB x3]),(6,yF)]]
  have t4 {Q:Prop} (q:Q):=t3 (aK (not_true (Zbu c3)) (not_true (Zbu c3)) (not_true (Zbu c3)) q);refine Zbc h16 (fun c4 h17=>?_) (fun c4 h18=>?_)
  ·exact xS fol h17 hE (o4++[cT,rZ]) (t4 c4)
  refine Zbc h18 (fun c5 h19=>?_) (fun c5 h20=>?_)
  ·exact aq fol (o4++[cF,rZ,rZ,rZ,cT,rZ,.s 1]) [4,9,11,12] [4,9] (t4 (aK c4 (neI 4) c5 (neI 4))) (ZaA.p1_ok h19 hE)
  exact aq fol (o4++[cF,rZ,rZ,rZ,cF,.s 1]) [4,9,11,12] [4,9] (t4 (aJ c4 (neI 4) c5)) (ZaA.p1_ok h20 hE)
def ZcO.B:Code:=Tryz.f114.body.getD .skip
def ZcO.rs (r:Int):List CV:=[oI r]
def ZcO.p1 (N:Nat) (A2 A3 A5 A6:Int) (A0:Zae):Option Int:= if (!A0.Easy)=true then some A2 else if (decide ((w64 (A6-A3))>(w64 (2*A0.Spacing))))=true then some A0.Limit else some A5
def ZcO (N:Nat) (A0:Zae) (A1 A2 A3 A4 A5 A6:Int):Option Int:= if (decide (A1≤0))=true then some A0.Limit else if (decide (A0.Interval>0))=true then chk (A0.Interval≠0)<| if ((zX A1 A0.Interval)==0)=true then Zbm (ZaA N A0 A2 A4 A3) fun x1=> some x1 else ZcO.p1 N A2 A3 A5 A6 A0 else ZcO.p1 N A2 A3 A5 A6 A0
def ZcO.p1.S (A2 A3 A5 A6:Int) (A0:Zae) (st:LL):S:=mkS 48 [(2,sI A2),(3,sI A3),(5,sI A5),(6,sI A6),(7,sA 7)] [(7,.cells A0.ls)] st
theorem ZcO.p1_ok {A2 A3 A5 A6 A0 st r} (h:ZcO.p1 N A2 A3 A5 A6 A0=some r) (hE:En Tryz.f114 g0 w0 (ZcO.rs r) st R):At g0 w0 (ZcO.p1.S A2 A3 A5 A6 A0 st) (XK zB R [cK ZcO.B [1,1,1]]):=by
 unfold ZcO.p1 at h;refine Zbc h (fun c6 h1=>?_) (fun c6 h2=>?_)
 ·exact xS fol h1 hE [rZ,cT,rZ] c6
 refine Zbc h2 (fun c7 h3=>?_) (fun c7 h4=>?_)
 ·exact xS fol h3 hE [rZ,cF,rZ,cT,rZ] (aI c6 c7)
 exact xS fol h4 hE [rZ,cF,rZ,cF,rZ] (aI c6 c7)
theorem ZcO.snd {A0:Zae} {A1 A2 A3 A4 A5 A6:Int} {r:Int} (h:ZcO N A0 A1 A2 A3 A4 A5 A6=some r):ZdP zB 114 [.agg A0.ls,oI A1,oI A2,oI A3,oI A4,oI A5,oI A6] (ZcO.rs r):=fun st=>
 sO ZcO.B Tryz.func114 fun g0 w0 R hE=>by
  unfold ZcO at h;refine Zbc h (fun c1 h5=>?_) (fun c1 h6=>?_)
  ·exact xS fol h5 hE [rZ,rZ,cT,rZ] c1
  let o1:List PS:=[rZ,rZ,cF]
  refine Zbc h6 (fun c2 h7=>?_) (fun c2 h8=>?_)
  ·obtain ⟨c3,h9⟩:=Zbe h7;refine Zbc h9 (fun c4 h10=>?_) (fun c4 h11=>?_)
   ·obtain ⟨x1,c5,h12⟩:=Zac h10;exact xS fol h12 hE (o1++[rZ,cT,.r [(4,q1 [oI x1])]]) (aO c1 c2 c2 c2 c2 c3 c2 (aJ c2 c4 (ZaA.snd c5)))
   exact aq fol (o1++[rZ,cF,.s 1]) [2,3,5,6,7] [7] (aO c1 c2 c2 c2 c2 c3 c2 (aI c2 c4)) (ZcO.p1_ok h11 hE)
  exact aq fol (o1++[.r [(4,wF),(5,wF),(6,wF),(7,wF),(8,wF),(9,yF)],cF,.s 1]) [2,3,5,6,7] [7] (aO c1 c2 c2 c2 c2 c2 c2 eF) (ZcO.p1_ok h8 hE)
def ZaE.B:Code:=Tryz.f85.body.getD .skip
def ZaE.rs (r:Int):List CV:=[oI r]
def ZaE.p4 (N:Nat) (c1_:(Int×Int×Int)→Option Int) (A2:Int) (A1:LL) (A7 A8 v4:Int) (A0:Zae) (x1:Zak):Option Int:= c1_ (A7,A8,w64 (v4+1))
def ZaE.p3 (N:Nat) (c1_:(Int×Int×Int)→Option Int) (A2:Int) (A1:LL) (A7 A3:Int) (A6:Bool) (v4:Int) (A0:Zae) (x1 x5:Zak):Option Int:= if (!A0.Easy)=true then ZaE.p4 N c1_ A2 A1 A7 x5.Bits v4 A0 x1 else if (x5.Bits != A0.Limit)=true then ZaE.p4 N c1_ A2 A1 A7 x5.Bits v4 A0 x1 else if A6=true then ZaE.p4 N c1_ A2 A1 A7 x5.Bits v4 A0 x1 else ZaE.p4 N c1_ A2 A1 A7 A3 v4 A0 x1
def ZaE.p2 (N:Nat) (c1_:(Int×Int×Int)→Option Int) (A2:Int) (A1:LL) (F2 A3:Int) (A6:Bool) (v4:Int) (A0:Zae) (x1 x5:Zak):Option Int:= if A6=true then ZaE.p3 N c1_ A2 A1 x5.Time A3 A6 v4 A0 x1 x5 else ZaE.p3 N c1_ A2 A1 F2 A3 A6 v4 A0 x1 x5
def ZaE.p1 (N:Nat) (A2:Int) (A1:LL) (A0:Zae) (x1:Zak) (c1_:(Int×Int×Int)→Option Int):(Int×Int×Int)→Option Int:=fun (F2,A3,v4)=> if (decide (v4<(len A1)))=true then chk (0≤v4)<| Zde (A1[zD v4]?) Zep fun x5=> if (decide (A0.Interval>0))=true then chk (A0.Interval≠0)<| ZaE.p2 N c1_ A2 A1 F2 A3 ((zX v4 A0.Interval)==0) v4 A0 x1 x5 else ZaE.p2 N c1_ A2 A1 F2 A3 false v4 A0 x1 x5 else Zbm (ZcO N A0 (len A1) x1.Bits x1.Time F2 A3 A2) fun x9=> some x9
def ZaE (N:Nat) (A0:Zae) (A1:LL) (A2:Int):Option Int:= if ((len A1)==0)=true then some A0.Limit else chk (0≤(w64 ((len A1)-1)))<| chk ((w64 ((len A1)-1))<(len A1))<| Zde (A1[zD (w64 ((len A1)-1))]?) Zep fun x1=> loopN (ZaE.p1 N A2 A1 A0 x1) N (0,A0.Limit,0)
def ZaE.p4.S (A2:Int) (A1:LL) (A7 A8 v4:Int) (A0:Zae) (x1:Zak) (st:LL):S:=mkS 73 [(2,sI A2),(3,sA 3),(7,sI (len A1)),(8,sA 8),(9,sI A7),(10,sI A8),(27,sV 68 A1),(28,sI (len A1)),(29,sI v4)] [(3,.cells A0.ls),(8,.cells x1.ls)] st
def ZaE.p3.S (A2:Int) (A1:LL) (A7 A3:Int) (A6:Bool) (v4:Int) (A0:Zae) (x1 x5:Zak) (st:LL):S:=mkS 73 [(2,sI A2),(3,sA 3),(7,sI (len A1)),(8,sA 8),(9,sI A7),(10,sI A3),(12,sA 12),(13,.one (.l (xW A6))),(27,sV 68 A1),(28,sI (len A1)),(29,sI v4)] [(3,.cells A0.ls),(8,.cells x1.ls),(12,.cells x5.ls)] st
def ZaE.p2.S (A2:Int) (A1:LL) (F2 A3:Int) (A6:Bool) (v4:Int) (A0:Zae) (x1 x5:Zak) (st:LL):S:=mkS 73 [(2,sI A2),(3,sA 3),(7,sI (len A1)),(8,sA 8),(9,sI F2),(10,sI A3),(12,sA 12),(13,.one (.l (xW A6))),(27,sV 68 A1),(28,sI (len A1)),(29,sI v4)] [(3,.cells A0.ls),(8,.cells x1.ls),(12,.cells x5.ls)] st
def ZaE.p1.S (A2:Int) (A1:LL) (F2 A3 v4:Int) (A0:Zae) (x1:Zak) (st:LL):S:=mkS 73 [(2,sI A2),(3,sA 3),(7,sI (len A1)),(8,sA 8),(9,sI F2),(10,sI A3),(27,sV 68 A1),(28,sI (len A1)),(29,sI v4)] [(3,.cells A0.ls),(8,.cells x1.ls)] st
theorem ZaE.p4_ok {A2 A1 A7 A8 v4 A0 x1 st r c1_ J1} (h:ZaE.p4 N c1_ A2 A1 A7 A8 v4 A0 x1=some r) (hE:En Tryz.f85 g0 w0 (ZaE.rs r) st R) (hc1 : ∀F2 A3 v4,c1_ (F2,A3,v4)=some r→At g0 w0 (ZaE.p1.S A2 A1 F2 A3 v4 A0 x1 st) J1):At g0 w0 (ZaE.p4.S A2 A1 A7 A8 v4 A0 x1 st) (XK zB R [cK ZaE.B [1,1,1,1,1,1,0,1,0,0,1,1,1],.h J1,.b 0,cK ZaE.B [1,1,1,1,1,1,1]]):=by
 unfold ZaE.p4 at h;exact an fol [rZ] [2,3,7,8,9,10,27,28,29] [3,8] trivial (hc1 A7 A8 (w64 (v4+1)) h)
theorem ZaE.p3_ok {A2 A1 A7 A3 A6 v4 A0 x1 x5 st r c1_ J1} (h:ZaE.p3 N c1_ A2 A1 A7 A3 A6 v4 A0 x1 x5=some r) (hE:En Tryz.f85 g0 w0 (ZaE.rs r) st R) (hc1 : ∀F2 A3 v4,c1_ (F2,A3,v4)=some r→At g0 w0 (ZaE.p1.S A2 A1 F2 A3 v4 A0 x1 st) J1):At g0 w0 (ZaE.p3.S A2 A1 A7 A3 A6 v4 A0 x1 x5 st) (XK zB R [cK ZaE.B [1,1,1,1,1,1,0,1,0,0,1,1,0,0,1,1,1],.b 1,cK ZaE.B [1,1,1,1,1,1,0,1,0,0,1,1,1],.h J1,.b 0,cK ZaE.B [1,1,1,1,1,1,1]]):=by
 unfold ZaE.p3 at h;refine Zbc h (fun c11 h1=>?_) (fun c11 h2=>?_)
 ·exact aq fol [.r [(4,wF),(5,wF),(6,wF),(7,wF),(8,wF),(11,wF)],cT,rZ,.s 4] [2,3,7,8,9,10,27,28,29] [3,8] (aO (not_false (Zbt c11)) (not_false (Zbt c11)) (not_false (Zbt c11)) (not_false (Zbt c11)) (not_false (Zbt c11)) (not_false (Zbt c11)) eT (aI eT eT)) (ZaE.p4_ok h1 hE hc1)
 have t1 {Q:Prop} (q:Q):=aN (not_true (Zbu c11)) (not_true (Zbu c11)) (not_true (Zbu c11)) (not_true (Zbu c11)) (not_true (Zbu c11)) (not_true (Zbu c11)) q;refine Zbc h2 (fun c12 h3=>?_) (fun c12 h4=>?_)
 ·exact aq fol [.r [(9,yF),(11,wF)],cT,rZ,.s 4] [2,3,7,8,9,10,27,28,29] [3,8] (t1 (aJ c12 c12 eT)) (ZaE.p4_ok h3 hE hc1)
 let o1:List PS:=[.r [(9,yF),(12,yF)]]
 refine Zbc h4 (fun c13 h5=>?_) (fun c13 h6=>?_)
 ·exact aq fol (o1++[cT,rZ,.s 4]) [2,3,7,8,9,10,27,28,29] [3,8] (t1 (aJ c12 c12 c13)) (ZaE.p4_ok h5 hE hc1)
 exact aq fol (o1++[cF,.s 4]) [2,3,7,8,9,10,27,28,29] [3,8] (t1 (aJ c12 c12 c13)) (ZaE.p4_ok h6 hE hc1)
theorem ZaE.p2_ok {A2 A1 F2 A3 A6 v4 A0 x1 x5 st r c1_ J1} (h:ZaE.p2 N c1_ A2 A1 F2 A3 A6 v4 A0 x1 x5=some r) (hE:En Tryz.f85 g0 w0 (ZaE.rs r) st R) (hc1 : ∀F2 A3 v4,c1_ (F2,A3,v4)=some r→At g0 w0 (ZaE.p1.S A2 A1 F2 A3 v4 A0 x1 st) J1):At g0 w0 (ZaE.p2.S A2 A1 F2 A3 A6 v4 A0 x1 x5 st) (XK zB R [cK ZaE.B [1,1,1,1,1,1,0,1,0,0,1,1,0,0,1,1],.b 1,cK ZaE.B [1,1,1,1,1,1,0,1,0,0,1,1,1],.h J1,.b 0,cK ZaE.B [1,1,1,1,1,1,1]]):=by
 unfold ZaE.p2 at h;refine Zbc h (fun c10 h7=>?_) (fun c10 h8=>?_)
 ·exact aq fol [rZ,cT,rZ,.s 6] [2,3,7,8,9,10,12,13,27,28,29] [3,8,12] c10 (ZaE.p3_ok h7 hE hc1)
 exact aq fol [rZ,cF,.s 6] [2,3,7,8,9,10,12,13,27,28,29] [3,8,12] c10 (ZaE.p3_ok h8 hE hc1)
theorem ZaE.p1_ok {A2 A1 F2 A3 v4 A0 x1 st r c1_ J1} (h:ZaE.p1 N A2 A1 A0 x1 c1_ (F2,A3,v4)=some r) (hE:En Tryz.f85 g0 w0 (ZaE.rs r) st R) (hc1 : ∀F2 A3 v4,c1_ (F2,A3,v4)=some r→At g0 w0 (ZaE.p1.S A2 A1 F2 A3 v4 A0 x1 st) J1):At g0 w0 (ZaE.p1.S A2 A1 F2 A3 v4 A0 x1 st) (XK zB R (cK ZaE.B [1,1,1,1,1,1,0,1,0,0] :: .h J1 :: [.b 0,cK ZaE.B [1,1,1,1,1,1,1]])):=by
 unfold ZaE.p1 at h;refine Zbc h (fun c5 h9=>?_) (fun c5 h10=>?_)
 ·obtain ⟨c6,h11⟩:=Zbe h9;obtain ⟨x5,c7,h12⟩:=ZeJ h11;let o2:List PS:=[rZ,cT,.r [(2,{oe:=x5.ls})]]
  refine Zbc h12 (fun c8 h13=>?_) (fun c8 h14=>?_)
  ·obtain ⟨c9,h15⟩:=Zbe h13;exact aq fol (o2++[rZ,.s 6]) [2,3,7,8,9,10,12,13,27,28,29] [3,8,12] (aO c5 c6 (oD c5) c7 c8 c8 c8 (aK c8 c9 c8 c8)) (ZaE.p2_ok h15 hE hc1)
  exact aq fol (o2++[.r [(4,wF),(5,wF),(6,wF),(7,wF),(8,wF),(9,yF)],.s 6]) [2,3,7,8,9,10,12,13,27,28,29] [3,8,12] (aO c5 c6 (oD c5) c7 c8 c8 c8 (aJ c8 c8 c8)) (ZaE.p2_ok h14 hE hc1)
 obtain ⟨x9,c14,h16⟩:=Zac h10;exact xS fol h16 hE [rZ,cF,.r [(9,q1 [oI x9])]] (aI c5 (ZcO.snd c14))
theorem ZaE.snd {A0:Zae} {A1:LL} {A2:Int} {r:Int} (h:ZaE N A0 A1 A2=some r):ZdP zB 85 [.agg A0.ls,.one (L.sl 68 A1),oI A2] (ZaE.rs r):=fun st=>
 sO ZaE.B Tryz.func85 fun g0 w0 R hE=>by
  unfold ZaE at h;refine Zbc h (fun c1 h17=>?_) (fun c1 h18=>?_)
  ·exact xS fol h17 hE [rZ,rZ,rZ,cT,rZ] c1
  obtain ⟨c2,c3,h19⟩:=ck2 h18;obtain ⟨x1,c4,h20⟩:=ZeJ h19;exact aq fol [rZ,rZ,rZ,cF,.r [(4,{oe:=x1.ls})],rZ,rZ,rZ] [2,3,7,8,9,10,27,28,29] [3,8] (aK c1 c2 c3 c4) (At.loop N (At.loopN (fun y:Int×Int×Int=>ZaE.p1.S A2 A1 y.1 y.2.1 y.2.2 A0 x1 st) (fun c J hc y h=>ZaE.p1_ok (F2:=y.1) (A3:=y.2.1) (v4:=y.2.2) h hE (fun F2 A3 v4=>hc (F2,A3,v4))) N (0,A0.Limit,0) h20))
def Zch.B:Code:=Tryz.f115.body.getD .skip
def Zch.rs (r:(List Int)):List CV:=[.agg [zI .u64 4 r]]
def Zch.p1 (N:Nat) (A0_0:List Int) (c1_:(Int×(List Int))→Option (List Int)):(Int×(List Int))→Option (List Int):=fun (A1,A3)=> if (decide (A1≥0))=true then Zbm (Zaq N A3 8) fun x4=> chk (0≤A1)<| chk (A1<32)<| c1_ (w64 (A1-1),zN x4 0 (v64 ((zF x4 0 0)+(v64 (zF A0_0 (zD A1) 0))))) else some A3
def Zch (N:Nat) (A0_0:List Int):Option (List Int):= loopN (Zch.p1 N A0_0) N (31,zC 4 0)
def Zch.p1.S (A1:Int) (A0_0 A3:List Int) (st:LL):S:=mkS 21 [(1,sA 1),(2,sA 2),(3,sA 3),(4,sI A1)] [(1,.cells [zI .u8 32 A0_0]),(2,.cells [zI .u64 4 (zC 4 0)]),(3,.cells [zI .u64 4 A3])] st
theorem Zch.p1_ok {A1 A0_0 A3 st r c1_ J1} (h:Zch.p1 N A0_0 c1_ (A1,A3)=some r) (hE:En Tryz.f115 g0 w0 (Zch.rs r) st R) (hc1 : ∀A1 A3,c1_ (A1,A3)=some r→At g0 w0 (Zch.p1.S A1 A0_0 A3 st) J1):At g0 w0 (Zch.p1.S A1 A0_0 A3 st) (XK zB R (cK Zch.B [1,1,0,1,0,0] :: .h J1 :: [.b 0,cK Zch.B [1,1,1]])):=by
 unfold Zch.p1 at h;refine Zbc h (fun c5 h1=>?_) (fun c5 h2=>?_)
 ·obtain ⟨x4,c6,h3⟩:=Zac h1;obtain ⟨c7,c8,h4⟩:=ck2 h3;exact ZjR fol [rZ,cT,.r [(1,q1 [.agg [zI .u64 4 x4]])],.d {ds:=[],hv:=256,Hs:=[256]},rZ] [1,2,3,4] [1,2,3] (aJ c5 (Zaq.snd c6) (ix 0 4 (aK c7 c8 (leI 0 0) (ltI 0 4)))) (hc1 (w64 (A1-1)) (zN x4 0 (v64 ((zF x4 0 0)+(v64 (zF A0_0 (zD A1) 0))))) h4)
 exact xS fol h2 hE [rZ,cF,rZ] c5
theorem Zch.snd {A0_0:List Int} {r:(List Int)} (h:Zch N A0_0=some r):ZdP zB 115 [.agg [zI .u8 32 A0_0]] (Zch.rs r):=fun st=>
 sO Zch.B Tryz.func115 fun g0 w0 R hE=>by
  unfold Zch at h;exact aq fol [rZ,rZ,rZ] [1,2,3,4] [1,2,3] trivial (At.loop N (At.loopN (fun y:Int×(List Int)=>Zch.p1.S y.1 A0_0 y.2 st) (fun c J hc y h=>Zch.p1_ok (A1:=y.1) (A3:=y.2) h hE (fun A1 A3=>hc (A1,A3))) N (31,zC 4 0) h))
def Zek.B:Code:=Tryz.f86.body.getD .skip
def Zek.rs (r:Bool):List CV:=[oB r]
def Zek (N:Nat) (A0:Zae) (A1:Zak):Option Bool:= Zbm (Zdc N A1.Bits A0.Limit) fun (x1,x2)=> if x2=true then Zbm (Zdy N A1) fun x3=> Zbm (Zch N x3) fun x4=> Zbm (ZbI N x1 x4) fun x5=> some (!x5) else some false
theorem Zek.snd {A0:Zae} {A1:Zak} {r:Bool} (h:Zek N A0 A1=some r):ZdP zB 86 [.agg A0.ls,.agg A1.ls] (Zek.rs r):=fun st=>
 sO Zek.B Tryz.func86 fun g0 w0 R hE=>by
  unfold Zek at h;obtain ⟨⟨x1,x2⟩,c1,h1⟩:=Zac h;let o1:List PS:=[rZ,.r [(4,q1 [.agg [zI .u64 4 x1],oB x2])]]
  refine Zbc h1 (fun c2 h2=>?_) (fun c2 h3=>?_)
  ·obtain ⟨x3,c3,h4⟩:=Zac h2;obtain ⟨x4,c4,h5⟩:=Zac h4;obtain ⟨x5,c5,h6⟩:=Zac h5;exact xSd fol h6 hE (o1++[.d {ds:=[(4,q1 [.agg [zI .u8 32 x3]]),(5,q1 [.agg [zI .u64 4 x4]]),(6,q1 [oB x5])],hv:=0,Hs:=[]}]) (aO (Zdc.snd c1) c2 c2 c2 (Zdy.snd c3) c2 (Zch.snd c4) (aK c2 (ZbI.snd c5) c2 c2))
  exact xSd fol h3 hE (o1++[.d {ds:=[(2,wF),(3,wF),(4,wF),(5,wF),(6,wF),(7,wF),(8,yF)],hv:=0,Hs:=[]}]) (aO (Zdc.snd c1) c2 c2 c2 c2 c2 c2 c2)
def ZcP.B:Code:=Tryz.f88.body.getD .skip
def ZcP.rs (r:LL):List CV:=[.row true 1 r]
def ZcP.p1 (N:Nat) (A0:LL) (c1_:(LL×Int)→Option LL):(LL×Int)→Option LL:=fun (A3,A1)=> if (decide (A1≥0))=true then if (decide ((len A3)<11))=true then chk (0≤A1)<| chk (A1<(len A0))<| Zde (A0[zD A1]?) ZdX fun x4=> chk (zL (A3++[[zK .i64 x4]])*8≤140737488355328)<| c1_ (A3++[[zK .i64 x4]],w64 (A1-1)) else some A3 else some A3
def ZcP (N:Nat) (A0:LL):Option LL:= loopN (ZcP.p1 N A0) N ([],w64 ((len A0)-1))
def ZcP.p1.S (A0 A3:LL) (A1:Int) (st:LL):S:=mkS 25 [(0,sV 1 A0),(3,.one (.h (.row 3 0) 1 0 (zL A3))),(4,sI A1)] [(3,.row 0 true 1 A3)] st
theorem ZcP.p1_ok {A0 A3 A1 st r c1_ J1} (h:ZcP.p1 N A0 c1_ (A3,A1)=some r) (hE:En Tryz.f88 g0 w0 (ZcP.rs r) st R) (hc1 : ∀A3 A1,c1_ (A3,A1)=some r→At g0 w0 (ZcP.p1.S A0 A3 A1 st) J1):At g0 w0 (ZcP.p1.S A0 A3 A1 st) (XK zB R (cK ZcP.B [1,1,0,1,0,0] :: .h J1 :: [.b 0,cK ZcP.B [1,1,1]])):=by
 unfold ZcP.p1 at h;refine Zbc h (fun c6 h1=>?_) (fun c6 h2=>?_)
 ·refine Zbc h1 (fun c7 h3=>?_) (fun c7 h4=>?_)
  ·obtain ⟨c8,c9,h5⟩:=ck2 h3;obtain ⟨x4,c10,h6⟩:=Zdt h5;obtain ⟨c11,h7⟩:=Zbe h6;exact an fol [rZ,cT,.r [(4,{oe:=[zK .i64 x4]})],rZ] [0,3,4] [3] (aO c6 c6 c6 c6 c7 c8 c9 (aM c10 z0 (eN (zL A3)) z0 (eN (1)) c11)) (hc1 (A3++[[zK .i64 x4]]) (w64 (A1-1)) h7)
  obtain rfl:=Zad h4;exact af fol hE [rZ,cF,rZ] [] 0 [0] (aN c6 c6 c6 c6 c7 z0 (eN (zL A3)))
 obtain rfl:=Zad h2;exact af fol hE [.r [(3,wF),(4,wF),(5,wF),(6,yF)],cF,rZ] [] 0 [0] (aN c6 c6 c6 c6 eF z0 (eN (zL A3)))
theorem ZcP.snd {A0:LL} {r:LL} (h:ZcP N A0=some r):ZdP zB 88 [.one (L.sl 1 A0)] (ZcP.rs r):=fun st=>
 sO ZcP.B Tryz.func88 fun g0 w0 R hE=>by
  unfold ZcP at h;exact aq fol [.r [(0,{m:=2})],.r [(0,{m:=1})],rZ] [0,3,4] [3] trivial (At.loop N (At.loopN (fun y:LL×Int=>ZcP.p1.S A0 y.1 y.2 st) (fun c J hc y h=>ZcP.p1_ok (A3:=y.1) (A1:=y.2) h hE (fun A3 A1=>hc (A3,A1))) N ([],w64 ((len A0)-1)) h))
def ZaQ.B:Code:=Tryz.f87.body.getD .skip
def ZaQ.rs (r:Int):List CV:=[oI r]
def ZaQ.p4 (N:Nat) (c2_:(Int×Int×Int)→Option Int) (c1_:Int→Option Int) (A0:LL) (A1 A7 A10 A4:Int):Option Int:= c2_ (A7,A10,w64 (A4+1))
def ZaQ.p3 (N:Nat) (c2_:(Int×Int×Int)→Option Int) (c1_:Int→Option Int) (A0:LL) (A1 A7 A3 A4:Int):Option Int:= chk (0≤A4)<| chk (A4<(len A0))<| Zde (A0[zD A4]?) ZdX fun x8=> chk (0≤A1)<| chk (A1<(len A0))<| Zde (A0[zD A1]?) ZdX fun x9=> if (x8==x9)=true then ZaQ.p4 N c2_ c1_ A0 A1 A7 (w64 (A3+1)) A4 else ZaQ.p4 N c2_ c1_ A0 A1 A7 A3 A4
def ZaQ.p2 (N:Nat) (c1_:Int→Option Int) (A0:LL) (A1:Int) (c2_:(Int×Int×Int)→Option Int):(Int×Int×Int)→Option Int:=fun (A2,A3,A4)=> if (decide (A4<(if (11:Int)<(len A0) then 11 else (len A0))))=true then chk (0≤A4)<| chk (A4<(len A0))<| Zde (A0[zD A4]?) ZdX fun x5=> chk (0≤A1)<| chk (A1<(len A0))<| Zde (A0[zD A1]?) ZdX fun x6=> if (decide (x5<x6))=true then ZaQ.p3 N c2_ c1_ A0 A1 (w64 (A2+1)) A3 A4 else ZaQ.p3 N c2_ c1_ A0 A1 A2 A3 A4 else if (decide (A2≤(w64 (zS (if (11:Int)<(len A0) then 11 else (len A0)) 2))))=true then if (decide ((w64 (zS (if (11:Int)<(len A0) then 11 else (len A0)) 2))<(w64 (A2+A3))))=true then chk (0≤A1)<| chk (A1<(len A0))<| Zde (A0[zD A1]?) ZdX fun x11=> some x11 else c1_ (w64 (A1+1)) else c1_ (w64 (A1+1))
def ZaQ.p1 (N:Nat) (A0:LL) (c1_:Int→Option Int):Int→Option Int:=fun A1=> if (decide (A1<(if (11:Int)<(len A0) then 11 else (len A0))))=true then loopN (ZaQ.p2 N c1_ A0 A1) N (0,0,0) else some 0
def ZaQ (N:Nat) (A0:LL):Option Int:= loopN (ZaQ.p1 N A0) N 0
def ZaQ.p4.S (A0:LL) (A1 A7 A10 A4:Int) (st:LL):S:=mkS 59 [(0,sV 1 A0),(3,sI (if (11:Int)<(len A0) then 11 else (len A0))),(4,sI A1),(5,sI A7),(6,sI A10),(7,sI A4)] [] st
def ZaQ.p3.S (A0:LL) (A1 A7 A3 A4:Int) (st:LL):S:=mkS 59 [(0,sV 1 A0),(3,sI (if (11:Int)<(len A0) then 11 else (len A0))),(4,sI A1),(5,sI A7),(6,sI A3),(7,sI A4)] [] st
def ZaQ.p2.S (A0:LL) (A1 A2 A3 A4:Int) (st:LL):S:=mkS 59 [(0,sV 1 A0),(3,sI (if (11:Int)<(len A0) then 11 else (len A0))),(4,sI A1),(5,sI A2),(6,sI A3),(7,sI A4)] [] st
def ZaQ.p1.S (A0:LL) (A1:Int) (st:LL):S:=mkS 59 [(0,sV 1 A0),(3,sI (if (11:Int)<(len A0) then 11 else (len A0))),(4,sI A1)] [] st
theorem ZaQ.p4_ok {A0 A1 A7 A10 A4 st r c2_ c1_ J2 J1} (h:ZaQ.p4 N c2_ c1_ A0 A1 A7 A10 A4=some r) (hE:En Tryz.f87 g0 w0 (ZaQ.rs r) st R) (hc2 : ∀A2 A3 A4,c2_ (A2,A3,A4)=some r→At g0 w0 (ZaQ.p2.S A0 A1 A2 A3 A4 st) J2) (hc1 : ∀A1,c1_ A1=some r→At g0 w0 (ZaQ.p1.S A0 A1 st) J1):At g0 w0 (ZaQ.p4.S A0 A1 A7 A10 A4 st) (XK zB R [cK ZaQ.B [1,1,0,1,0,0,1,0,0,1,1,0,1,0,0,1,1],.h J2,.b 2,cK ZaQ.B [1,1,0,1,0,0,1,0,0,1,1,1],.b 1,cK ZaQ.B [1,1,0,1,0,0,1,1],.h J1,.b 0,cK ZaQ.B [1,1,1]]):=by
 unfold ZaQ.p4 at h;exact an fol [rZ] [0,3,4,5,6,7] [] trivial (hc2 A7 A10 (w64 (A4+1)) h)
theorem ZaQ.p3_ok {A0 A1 A7 A3 A4 st r c2_ c1_ J2 J1} (h:ZaQ.p3 N c2_ c1_ A0 A1 A7 A3 A4=some r) (hE:En Tryz.f87 g0 w0 (ZaQ.rs r) st R) (hc2 : ∀A2 A3 A4,c2_ (A2,A3,A4)=some r→At g0 w0 (ZaQ.p2.S A0 A1 A2 A3 A4 st) J2) (hc1 : ∀A1,c1_ A1=some r→At g0 w0 (ZaQ.p1.S A0 A1 st) J1):At g0 w0 (ZaQ.p3.S A0 A1 A7 A3 A4 st) (XK zB R [cK ZaQ.B [1,1,0,1,0,0,1,0,0,1,1,0,1,0,0,1,0,0,1],.b 3,cK ZaQ.B [1,1,0,1,0,0,1,0,0,1,1,0,1,0,0,1,1],.h J2,.b 2,cK ZaQ.B [1,1,0,1,0,0,1,0,0,1,1,1],.b 1,cK ZaQ.B [1,1,0,1,0,0,1,1],.h J1,.b 0,cK ZaQ.B [1,1,1]]):=by
 unfold ZaQ.p3 at h;obtain ⟨c10,c11,h1⟩:=ck2 h;obtain ⟨x8,c12,h2⟩:=Zdt h1;obtain ⟨c13,c14,h3⟩:=ck2 h2;obtain ⟨x9,c15,h4⟩:=Zdt h3;let o1:List PS:=[.d {ds:=[(3,{oe:=[zK .i64 x8]}),(7,{oe:=[zK .i64 x9]})],hv:=0,Hs:=[]}]
 refine Zbc h4 (fun c16 h5=>?_) (fun c16 h6=>?_)
 ·exact aqd fol (o1++[cT,rZ,.s 9]) [0,3,4,5,6,7] [] (aN c10 c11 c12 c13 c14 c15 c16) (ZaQ.p4_ok h5 hE hc2 hc1)
 exact aqd fol (o1++[cF,.s 9]) [0,3,4,5,6,7] [] (aN c10 c11 c12 c13 c14 c15 c16) (ZaQ.p4_ok h6 hE hc2 hc1)
theorem ZaQ.p2_ok {A0 A1 A2 A3 A4 st r c1_ c2_ J1 J2} (h:ZaQ.p2 N c1_ A0 A1 c2_ (A2,A3,A4)=some r) (hE:En Tryz.f87 g0 w0 (ZaQ.rs r) st R) (hc1 : ∀A1,c1_ A1=some r→At g0 w0 (ZaQ.p1.S A0 A1 st) J1) (hc2 : ∀A2 A3 A4,c2_ (A2,A3,A4)=some r→At g0 w0 (ZaQ.p2.S A0 A1 A2 A3 A4 st) J2):At g0 w0 (ZaQ.p2.S A0 A1 A2 A3 A4 st) (XK zB R (cK ZaQ.B [1,1,0,1,0,0,1,0,0,1,1,0,1,0,0] :: .h J2 :: [.b 2,cK ZaQ.B [1,1,0,1,0,0,1,0,0,1,1,1],.b 1,cK ZaQ.B [1,1,0,1,0,0,1,1],.h J1,.b 0,cK ZaQ.B [1,1,1]])):=by
 unfold ZaQ.p2 at h;refine Zbc h (fun c2 h7=>?_) (fun c2 h8=>?_)
 ·obtain ⟨c3,c4,h9⟩:=ck2 h7;obtain ⟨x5,c5,h10⟩:=Zdt h9;obtain ⟨c6,c7,h11⟩:=ck2 h10;obtain ⟨x6,c8,h12⟩:=Zdt h11;let o2:List PS:=[rZ,cT,.d {ds:=[(3,{oe:=[zK .i64 x5]}),(7,{oe:=[zK .i64 x6]})],hv:=0,Hs:=[]}]
  refine Zbc h12 (fun c9 h13=>?_) (fun c9 h14=>?_)
  ·exact aqd fol (o2++[cT,rZ,.s 11]) [0,3,4,5,6,7] [] (aO c2 c3 c4 c5 c6 c7 c8 c9) (ZaQ.p3_ok h13 hE hc2 hc1)
  exact aqd fol (o2++[cF,.s 11]) [0,3,4,5,6,7] [] (aO c2 c3 c4 c5 c6 c7 c8 c9) (ZaQ.p3_ok h14 hE hc2 hc1)
 refine Zbc h8 (fun c17 h15=>?_) (fun c17 h16=>?_)
 ·have t1 {Q:Prop} (q:Q):=aO c2 (neI 2) c17 c17 (neI 2) c17 c17 (aK c17 c17 c17 q);refine Zbc h15 (fun c18 h17=>?_) (fun c18 h18=>?_)
  ·obtain ⟨c19,c20,h19⟩:=ck2 h17;obtain ⟨x11,c21,h20⟩:=Zdt h19;exact xS fol h20 hE [rZ,cF,rZ,cT,.r [(3,{oe:=[zK .i64 x11]})]] (t1 (aK c18 c19 c20 c21))
  exact an fol [rZ,cF,rZ,cF,rZ] [0,3,4] [] (t1 c18) (hc1 (w64 (A1+1)) h18)
 exact an fol [rZ,cF,.r [(5,wF),(6,wF),(7,wF),(8,wF),(9,wF),(10,wF),(11,yF)],cF,rZ] [0,3,4] [] (aO c2 (neI 2) c17 c17 c17 c17 c17 (aJ c17 c17 eF)) (hc1 (w64 (A1+1)) h16)
theorem ZaQ.p1_ok {A0 A1 st r c1_ J1} (h:ZaQ.p1 N A0 c1_ A1=some r) (hE:En Tryz.f87 g0 w0 (ZaQ.rs r) st R) (hc1 : ∀A1,c1_ A1=some r→At g0 w0 (ZaQ.p1.S A0 A1 st) J1):At g0 w0 (ZaQ.p1.S A0 A1 st) (XK zB R (cK ZaQ.B [1,1,0,1,0,0] :: .h J1 :: [.b 0,cK ZaQ.B [1,1,1]])):=by
 unfold ZaQ.p1 at h;refine Zbc h (fun c1 h21=>?_) (fun c1 h22=>?_)
 ·exact aq fol [rZ,cT,rZ,rZ,rZ] [0,3,4,5,6,7] [] c1 (At.loop N (At.loopN (fun y:Int×Int×Int=>ZaQ.p2.S A0 A1 y.1 y.2.1 y.2.2 st) (fun c J hc y h=>ZaQ.p2_ok (A2:=y.1) (A3:=y.2.1) (A4:=y.2.2) h hE hc1 (fun A2 A3 A4=>hc (A2,A3,A4))) N (0,0,0) h21))
 exact xS fol h22 hE [rZ,cF,rZ] c1
theorem ZaQ.snd {A0:LL} {r:Int} (h:ZaQ N A0=some r):ZdP zB 87 [.one (L.sl 1 A0)] (ZaQ.rs r):=fun st=>
 sO ZaQ.B Tryz.func87 fun g0 w0 R hE=>by
  unfold ZaQ at h;exact aq fol [rZ,rZ,rZ] [0,3,4] [] trivial (At.loop N (At.loopN (fun y:Int=>ZaQ.p1.S A0 y st) (fun c J hc y h=>ZaQ.p1_ok h hE (fun A1=>hc A1)) N 0 h))
def Zau.B:Code:=Tryz.f60.body.getD .skip
def Zau.rs (r:Int):List CV:=[oI r]
def Zau.p6 (N:Nat) (A1:LL) (A0:Zae) (h_2:Zak) (c6_:Int→Option Int):Int→Option Int:=fun v21=> if (decide (v21<(len A0.Checks)))=true then chk (0≤v21)<| Zde (A0.Checks[zD v21]?) ZeK fun x22=> if (x22.Height==(len A1))=true then Zbm (Zdy N h_2) fun x23=> if (!(x22.Id==x23))=true then some 8 else c6_ (w64 (v21+1)) else c6_ (w64 (v21+1)) else some 0
def Zau.p5 (N:Nat) (A1:LL) (A0:Zae) (h_2:Zak) (c5_:Int→Option Int):Int→Option Int:=fun v19=> if (decide (v19<(len A0.Gates)))=true then chk (0≤v19)<| Zde (A0.Gates[zD v19]?) ZeY fun x20=> if (decide (x20.Height≤(len A1)))=true then if (decide (h_2.Version<x20.Version))=true then some 7 else c5_ (w64 (v19+1)) else c5_ (w64 (v19+1)) else loopN (Zau.p6 N A1 A0 h_2) N 0
def Zau.p4 (N:Nat) (A1:LL) (A0:Zae) (h_2:Zak):Option Int:= loopN (Zau.p5 N A1 A0 h_2) N 0
def Zau.p3 (N:Nat) (A3:Int) (A1:LL) (A0:Zae) (h_2:Zak):Option Int:= if (decide (A0.Future<0))=true then some 6 else if (decide (h_2.Time>A3))=true then if (decide ((w64 (h_2.Time-A3))>A0.Future))=true then some 6 else Zau.p4 N A1 A0 h_2 else Zau.p4 N A1 A0 h_2
def Zau.p2 (N:Nat) (A3:Int) (A1:LL) (A0:Zae) (h_2:Zak) (c2_:(LL×Int)→Option Int):(LL×Int)→Option Int:=fun (A15,v6)=> if (decide (v6<(len A1)))=true then chk (0≤v6)<| Zde (A1[zD v6]?) Zep fun x16=> chk (zL (A15++[[zK .i64 x16.Time]])*8≤140737488355328)<| c2_ (A15++[[zK .i64 x16.Time]],w64 (v6+1)) else if (decide ((len A1)>0))=true then Zbm (ZcP N A15) fun x17=> chk (ZeB x17=true)<| Zbm (ZaQ N x17) fun x18=> if (decide (h_2.Time≤x18))=true then some 5 else Zau.p3 N A3 A1 A0 h_2 else Zau.p3 N A3 A1 A0 h_2
def Zau.p1 (N:Nat) (A1:LL) (A3:Int) (A0:Zae) (h_2:Zak):Option Int:= Zbm (ZaE N A0 A1 h_2.Time) fun x4=> if (h_2.Bits != x4)=true then some 3 else Zbm (Zek N A0 h_2) fun x5=> if (!x5)=true then some 4 else loopN (Zau.p2 N A3 A1 A0 h_2) N ([],0)
def Zau (N:Nat) (A0:Zae) (A1:LL) (h_2:Zak) (A3:Int):Option Int:= Zbm (Zdu N h_2) fun x1=> if (!x1)=true then some 1 else if (decide ((len A1)>0))=true then chk (0≤(w64 ((len A1)-1)))<| chk ((w64 ((len A1)-1))<(len A1))<| Zde (A1[zD (w64 ((len A1)-1))]?) Zep fun x2=> Zbm (Zdy N x2) fun x3=> if (!(h_2.Prev==x3))=true then some 2 else Zau.p1 N A1 A3 A0 h_2 else Zau.p1 N A1 A3 A0 h_2
def Zau.p6.S (A1:LL) (A0:Zae) (v21:Int) (h_2:Zak) (st:LL):S:=mkS 125 [(6,sA 6),(9,sI (len A1)),(107,sV 33 A0.Checks),(108,sI (len A0.Checks)),(109,sI v21)] [(6,.cells h_2.ls)] st
def Zau.p5.S (A1:LL) (A0:Zae) (v19:Int) (h_2:Zak) (st:LL):S:=mkS 125 [(4,sA 4),(6,sA 6),(9,sI (len A1)),(88,sV 2 A0.Gates),(89,sI (len A0.Gates)),(90,sI v19)] [(4,.cells A0.ls),(6,.cells h_2.ls)] st
def Zau.p4.S (A1:LL) (A0:Zae) (h_2:Zak) (st:LL):S:=mkS 125 [(4,sA 4),(6,sA 6),(9,sI (len A1))] [(4,.cells A0.ls),(6,.cells h_2.ls)] st
def Zau.p3.S (A3:Int) (A1:LL) (A0:Zae) (h_2:Zak) (st:LL):S:=mkS 125 [(3,sI A3),(4,sA 4),(6,sA 6),(9,sI (len A1))] [(4,.cells A0.ls),(6,.cells h_2.ls)] st
def Zau.p2.S (A3:Int) (A1 A15:LL) (v6:Int) (A0:Zae) (h_2:Zak) (st:LL):S:=mkS 125 [(3,sI A3),(4,sA 4),(6,sA 6),(9,sI (len A1)),(10,.one (.h (.row 10 0) 1 0 (zL A15))),(47,sV 68 A1),(48,sI (len A1)),(49,sI v6)] [(4,.cells A0.ls),(6,.cells h_2.ls),(10,.row 0 true 1 A15)] st
def Zau.p1.S (A1:LL) (A3:Int) (A0:Zae) (h_2:Zak) (st:LL):S:=mkS 125 [(1,sV 68 A1),(3,sI A3),(4,sA 4),(6,sA 6),(9,sI (len A1))] [(4,.cells A0.ls),(6,.cells h_2.ls)] st
theorem Zau.p6_ok {A1 A0 v21 h_2 st r c6_ J6} (h:Zau.p6 N A1 A0 h_2 c6_ v21=some r) (hE:En Tryz.f60 g0 w0 (Zau.rs r) st R) (hc6 : ∀v21,c6_ v21=some r→At g0 w0 (Zau.p6.S A1 A0 v21 h_2 st) J6):At g0 w0 (Zau.p6.S A1 A0 v21 h_2 st) (XK zB R (cK Zau.B [1,1,1,1,1,1,1,1,1,1,1,0,1,0,0] :: .h J6 :: [.b 4,cK Zau.B [1,1,1,1,1,1,1,1,1,1,1,1]])):=by
 unfold Zau.p6 at h;refine Zbc h (fun c53 h1=>?_) (fun c53 h2=>?_)
 ·obtain ⟨c54,h3⟩:=Zbe h1;obtain ⟨x22,c55,h4⟩:=ZeV h3;let o1:List PS:=[rZ,cT,.r [(1,{oe:=x22.ls})]]
  have t1 {Q:Prop} (q:Q):=aL c53 c54 (oD c53) c55 q;refine Zbc h4 (fun c56 h5=>?_) (fun c56 h6=>?_)
  ·obtain ⟨x23,c57,h7⟩:=Zac h5;let o2:List PS:=o1++[.d {ds:=[(8,q1 [.agg [zI .u8 32 x23]])],hv:=0,Hs:=[]}]
   have t2 {Q:Prop} (q:Q):=t1 (aO c56 c56 c56 c56 (Zdy.snd c57) c56 c56 q);refine Zbc h7 (fun c58 h8=>?_) (fun c58 h9=>?_)
   ·exact xSd fol h8 hE (o2++[cT,rZ]) (t2 c58)
   exact ZjR fol (o2++[cF,rZ]) [6,9,107,108,109] [6] (t2 c58) (hc6 (w64 (v21+1)) h9)
  exact ZjR fol (o1++[.d {ds:=[(5,wF),(6,wF),(7,wF),(8,wF),(9,wF),(10,yF)],hv:=0,Hs:=[]},cF,rZ]) [6,9,107,108,109] [6] (t1 (aN c56 c56 c56 c56 c56 c56 eF)) (hc6 (w64 (v21+1)) h6)
 exact xS fol h2 hE [rZ,cF,rZ] c53
theorem Zau.p5_ok {A1 A0 v19 h_2 st r c5_ J5} (h:Zau.p5 N A1 A0 h_2 c5_ v19=some r) (hE:En Tryz.f60 g0 w0 (Zau.rs r) st R) (hc5 : ∀v19,c5_ v19=some r→At g0 w0 (Zau.p5.S A1 A0 v19 h_2 st) J5):At g0 w0 (Zau.p5.S A1 A0 v19 h_2 st) (XK zB R (cK Zau.B [1,1,1,1,1,1,1,1,1,1,0,1,0,0] :: .h J5 :: [.b 2,cK Zau.B [1,1,1,1,1,1,1,1,1,1,1]])):=by
 unfold Zau.p5 at h;refine Zbc h (fun c48 h10=>?_) (fun c48 h11=>?_)
 ·obtain ⟨c49,h12⟩:=Zbe h10;obtain ⟨x20,c50,h13⟩:=Zfd h12;let o3:List PS:=[rZ,cT,.r [(1,{oe:=x20.ls})]]
  have t3 {Q:Prop} (q:Q):=aL c48 c49 (oD c48) c50 q;refine Zbc h13 (fun c51 h14=>?_) (fun c51 h15=>?_)
  ·refine Zbc h14 (fun c52 h16=>?_) (fun c52 h17=>?_)
   ·exact xS fol h16 hE (o3++[rZ,cT,rZ]) (t3 (aN c51 c51 c51 c51 c51 c51 c52))
   exact an fol (o3++[rZ,cF,rZ]) [4,6,9,88,89,90] [4,6] (t3 (aN c51 c51 c51 c51 c51 c51 c52)) (hc5 (w64 (v19+1)) h17)
  exact an fol (o3++[.r [(5,wF),(6,wF),(7,wF),(8,wF),(9,wF),(10,yF)],cF,rZ]) [4,6,9,88,89,90] [4,6] (t3 (aN c51 c51 c51 c51 c51 c51 eF)) (hc5 (w64 (v19+1)) h15)
 exact aq fol [rZ,cF,rZ] [6,9,107,108,109] [6] c48 (At.loop N (At.loopN (fun y:Int=>Zau.p6.S A1 A0 y h_2 st) (fun c J hc y h=>Zau.p6_ok h hE (fun v21=>hc v21)) N 0 h11))
theorem Zau.p4_ok {A1 A0 h_2 st r} (h:Zau.p4 N A1 A0 h_2=some r) (hE:En Tryz.f60 g0 w0 (Zau.rs r) st R):At g0 w0 (Zau.p4.S A1 A0 h_2 st) (XK zB R [cK Zau.B [1,1,1,1,1,1,1,1,1,1]]):=by
 unfold Zau.p4 at h;exact aq fol [rZ] [4,6,9,88,89,90] [4,6] trivial (At.loop N (At.loopN (fun y:Int=>Zau.p5.S A1 A0 y h_2 st) (fun c J hc y h=>Zau.p5_ok h hE (fun v19=>hc v19)) N 0 h))
theorem Zau.p3_ok {A3 A1 A0 h_2 st r} (h:Zau.p3 N A3 A1 A0 h_2=some r) (hE:En Tryz.f60 g0 w0 (Zau.rs r) st R):At g0 w0 (Zau.p3.S A3 A1 A0 h_2 st) (XK zB R [cK Zau.B [1,1,1,1,1,1,1,1,1]]):=by
 unfold Zau.p3 at h;refine Zbc h (fun c45 h18=>?_) (fun c45 h19=>?_)
 ·exact xS fol h18 hE [.r [(4,wF),(5,wF),(6,wF),(7,wF),(8,wF),(16,wF)],cT,rZ] (aO c45 c45 c45 c45 c45 c45 c45 eT)
 have t4 {Q:Prop} (q:Q):=aM c45 c45 c45 c45 c45 q;refine Zbc h19 (fun c46 h20=>?_) (fun c46 h21=>?_)
 ·have t5 {Q:Prop} (q:Q):=t4 (aO c46 c46 c46 c46 c46 c46 c46 (aK c45 c46 c45 q));refine Zbc h20 (fun c47 h22=>?_) (fun c47 h23=>?_)
  ·exact xS fol h22 hE [.r [(17,yF)],cT,rZ] (t5 c47)
  exact aq fol [.r [(17,yF)],cF,.s 1] [4,6,9] [4,6] (t5 c47) (Zau.p4_ok h23 hE)
 exact aq fol [.r [(9,wF),(10,wF),(11,wF),(12,wF),(13,wF),(14,wF),(15,wF),(16,yF),(17,yF)],cF,.s 1] [4,6,9] [4,6] (t4 (aO c46 c46 c46 c46 c46 c46 c46 (aK c45 c46 c45 eF))) (Zau.p4_ok h21 hE)
theorem Zau.p2_ok {A3 A1 A15 v6 A0 h_2 st r c2_ J2} (h:Zau.p2 N A3 A1 A0 h_2 c2_ (A15,v6)=some r) (hE:En Tryz.f60 g0 w0 (Zau.rs r) st R) (hc2 : ∀A15 v6,c2_ (A15,v6)=some r→At g0 w0 (Zau.p2.S A3 A1 A15 v6 A0 h_2 st) J2):At g0 w0 (Zau.p2.S A3 A1 A15 v6 A0 h_2 st) (XK zB R (cK Zau.B [1,1,1,1,1,1,1,0,1,0,0] :: .h J2 :: [.b 0,cK Zau.B [1,1,1,1,1,1,1,1]])):=by
 unfold Zau.p2 at h;refine Zbc h (fun c36 h24=>?_) (fun c36 h25=>?_)
 ·obtain ⟨c37,h26⟩:=Zbe h24;obtain ⟨x16,c38,h27⟩:=ZeJ h26;obtain ⟨c39,h28⟩:=Zbe h27;exact an fol [rZ,cT,.r [(1,{oe:=x16.ls})],rZ,rZ] [3,4,6,9,10,47,48,49] [4,6,10] (aO c36 c37 (oD c36) c38 z0 (eN (zL A15)) z0 (aI (eN (1)) c39)) (hc2 (A15++[[zK .i64 x16.Time]]) (w64 (v6+1)) h28)
 refine Zbc h25 (fun c40 h29=>?_) (fun c40 h30=>?_)
 ·obtain ⟨x17,c41,h31⟩:=Zac h29;obtain ⟨c42,h32⟩:=Zbe h31;obtain ⟨x18,c43,h33⟩:=Zac h32;let o4:List PS:=[rZ,cF,.d {ds:=[(6,{rs:=[.row true 1 x17],ns:=[65],m:=2}),(7,{rs:=[oI x18],m:=2})],hv:=64,Hs:=[64]}]
  have t6 {Q:Prop} (q:Q):=aO c36 c40 c40 c40 c40 c40 c40 (aO z0 (eN (zL A15)) c42 (ZcP.snd c41) c40 z0 (eN (zL x17)) (aK (ZaQ.snd c43) c40 c40 q));refine Zbc h33 (fun c44 h34=>?_) (fun c44 h35=>?_)
  ·exact xSd fol h34 hE (o4++[cT,rZ]) (t6 c44)
  exact aqd fol (o4++[cF,.s 1]) [3,4,6,9] [4,6] (t6 c44) (Zau.p3_ok h35 hE)
 exact aqd fol [rZ,cF,.d {ds:=[(3,wF),(4,wF),(5,wF),(6,wF),(7,wF),(8,wF),(9,yF)],hv:=0,Hs:=[]},cF,.s 1] [3,4,6,9] [4,6] (aO c36 c40 c40 c40 c40 c40 c40 (aI c40 eF)) (Zau.p3_ok h30 hE)
theorem Zau.p1_ok {A1 A3 A0 h_2 st r} (h:Zau.p1 N A1 A3 A0 h_2=some r) (hE:En Tryz.f60 g0 w0 (Zau.rs r) st R):At g0 w0 (Zau.p1.S A1 A3 A0 h_2 st) (XK zB R [cK Zau.B [1,1,1,1]]):=by
 unfold Zau.p1 at h;obtain ⟨x4,c9,h36⟩:=Zac h;let o5:List PS:=[.d {ds:=[(6,q1 [oI x4])],hv:=0,Hs:=[]}]
 have t7 {Q:Prop} (q:Q):=aI (ZaE.snd c9) q;refine Zbc h36 (fun c10 h37=>?_) (fun c10 h38=>?_)
 ·exact xSd fol h37 hE (o5++[cT,rZ]) (t7 c10)
 obtain ⟨x5,c11,h39⟩:=Zac h38;let o6:List PS:=o5++[cF,.r [(2,q1 [oB x5])]]
 refine Zbc h39 (fun c12 h40=>?_) (fun c12 h41=>?_)
 ·exact xSd fol h40 hE (o6++[cT,rZ]) (t7 (aJ c10 (Zek.snd c11) c12))
 exact aqd fol (o6++[cF,.r [(0,{m:=1})],rZ]) [3,4,6,9,10,47,48,49] [4,6,10] (t7 (aJ c10 (Zek.snd c11) c12)) (At.loop N (At.loopN (fun y:LL×Int=>Zau.p2.S A3 A1 y.1 y.2 A0 h_2 st) (fun c J hc y h=>Zau.p2_ok (A15:=y.1) (v6:=y.2) h hE (fun A15 v6=>hc (A15,v6))) N ([],0) h41))
theorem Zau.snd {A0:Zae} {A1:LL} {h_2:Zak} {A3:Int} {r:Int} (h:Zau N A0 A1 h_2 A3=some r):ZdP zB 60 [.agg A0.ls,.one (L.sl 68 A1),.agg h_2.ls,oI A3] (Zau.rs r):=fun st=>
 sO Zau.B Tryz.func60 fun g0 w0 R hE=>by
  unfold Zau at h;obtain ⟨x1,c1,h42⟩:=Zac h;let o7:List PS:=[rZ,rZ,.r [(1,q1 [oB x1])]]
  have t8 {Q:Prop} (q:Q):=aI (Zdu.snd c1) q;refine Zbc h42 (fun c2 h43=>?_) (fun c2 h44=>?_)
  ·exact xS fol h43 hE (o7++[cT,rZ]) (t8 c2)
  refine Zbc h44 (fun c3 h45=>?_) (fun c3 h46=>?_)
  ·obtain ⟨c4,c5,h47⟩:=ck2 h45;obtain ⟨x2,c6,h48⟩:=ZeJ h47;obtain ⟨x3,c7,h49⟩:=Zac h48;let o8:List PS:=o7++[cF,.d {ds:=[(9,{oe:=x2.ls}),(10,q1 [.agg [zI .u8 32 x3]])],hv:=0,Hs:=[]}]
   have t9 {Q:Prop} (q:Q):=t8 (aO c2 c3 c3 c3 c3 c3 c3 (aO c4 c5 c3 c6 c3 (Zdy.snd c7) c3 (aI c3 q)));refine Zbc h49 (fun c8 h50=>?_) (fun c8 h51=>?_)
   ·exact xSd fol h50 hE (o8++[cT,rZ]) (t9 c8)
   exact aqd fol (o8++[cF,.s 1]) [1,3,4,6,9] [4,6] (t9 c8) (Zau.p1_ok h51 hE)
  exact aqd fol (o7++[cF,.d {ds:=[(3,wF),(4,wF),(5,wF),(6,wF),(7,wF),(8,wF),(9,wF),(10,wF),(11,wF),(12,yF)],hv:=0,Hs:=[]},cF,.s 1]) [1,3,4,6,9] [4,6] (t8 (aO c2 c3 c3 c3 c3 c3 c3 (aL c3 c3 c3 c3 eF))) (Zau.p1_ok h46 hE)
def Zbp.B:Code:=Tryz.f59.body.getD .skip
def Zbp.rs (r:Int×LL):List CV:=[oI r.1]
def Zbp.p1 (N:Nat) (i1:Nat) (x2:Zab) (A1_0:List Int) (st:LL) (c1_:Int→Option (Int×LL)):Int→Option (Int×LL):=fun v3=> if (decide (v3<(len x2.Ids)))=true then chk (0≤v3)<| Zde (st[i1]?) Zbb fun x4=> Zde (x4.Ids[0+(zD v3)]?) Zhw fun x5=> if (x5==A1_0)=true then some (v3,st) else c1_ (w64 (v3+1)) else some ((-1),st)
def Zbp (N:Nat) (A0:Option Nat) (A1_0:List Int) (st:LL):Option (Int×LL):= Zbm A0 fun i1=> Zde (st[i1]?) Zbb fun x2=> loopN (Zbp.p1 N i1 x2 A1_0 st) N 0
def Zbp.p1.S (i1:Nat) (x2:Zab) (v3:Int) (A1_0:List Int) (st:LL):S:=mkS 22 [(3,sA 3),(10,.one (.h (.mem (.obj i1) 84 0) 32 0 (zL x2.Ids))),(11,sI (len x2.Ids)),(12,sI v3)] [(3,.cells [zI .u8 32 A1_0])] st
theorem Zbp.p1_ok {i1 x2 v3 A1_0 st r c1_ J1} (h:Zbp.p1 N i1 x2 A1_0 st c1_ v3=some r) (hE:En Tryz.f59 g0 w0 (Zbp.rs r) r.2 R) (hc1 : ∀v3,c1_ v3=some r→At g0 w0 (Zbp.p1.S i1 x2 v3 A1_0 st) J1):At g0 w0 (Zbp.p1.S i1 x2 v3 A1_0 st) (XK zB R (cK Zbp.B [1,0,1,0,0] :: .h J1 :: [.b 0,cK Zbp.B [1,1]])):=by
 unfold Zbp.p1 at h;refine Zbc h (fun c3 h1=>?_) (fun c3 h2=>?_)
 ·obtain ⟨c4,h3⟩:=Zbe h1;obtain ⟨x4,c5,h4⟩:=Zbd h3;obtain ⟨x5,c6,h5⟩:=ZhP h4;let o1:List PS:=[rZ,cT,.r [(2,{oc:=x4.lo,oe:=[zI .u8 32 x5]})],rZ]
  refine Zbc h5 (fun c7 h6=>?_) (fun c7 h7=>?_)
  ·exact xT fol h6 hE (o1++[cT,rZ]) (aM c3 c4 (oD c3) c6 c5 c7)
  exact an fol (o1++[cF,rZ]) [3,10,11,12] [3] (aM c3 c4 (oD c3) c6 c5 c7) (hc1 (w64 (v3+1)) h7)
 exact xT fol h2 hE [rZ,cF,rZ] c3
theorem Zbp.snd {A0:Option Nat} {A1_0:List Int} {st:LL} {r:Int×LL} (h:Zbp N A0 A1_0 st=some r):Snd zB 59 [.one (zQ A0),.agg [zI .u8 32 A1_0]] st (Zbp.rs r) r.2:=
 sO Zbp.B Tryz.func59 fun g0 w0 R hE=>by
  unfold Zbp at h;obtain ⟨i1,rfl,h8⟩:=Zac h;obtain ⟨x2,c2,h9⟩:=Zbd h8;exact aq fol [rZ,.r [(3,{oc:=x2.lo})]] [3,10,11,12] [3] c2 (At.loop N (At.loopN (fun y:Int=>Zbp.p1.S i1 x2 y A1_0 st) (fun c J hc y h=>Zbp.p1_ok h hE (fun v3=>hc v3)) N 0 h9))
def ZeX.B:Code:=Tryz.f62.body.getD .skip
def ZeX.rs (r:(List Int)):List CV:=[.agg [zI .u64 4 r]]
def ZeX (N:Nat) (A0_0 A1_0:List Int):Option (List Int):= Zbm (Zbq N A0_0 A1_0) fun (x1,x2)=> if x2=true then Zbm (Zdz N ) fun x3=> some x3 else some x1
theorem ZeX.snd {A0_0 A1_0:List Int} {r:(List Int)} (h:ZeX N A0_0 A1_0=some r):ZdP zB 62 [.agg [zI .u64 4 A0_0],.agg [zI .u64 4 A1_0]] (ZeX.rs r):=fun st=>
 sO ZeX.B Tryz.func62 fun g0 w0 R hE=>by
  unfold ZeX at h;obtain ⟨⟨x1,x2⟩,c1,h1⟩:=Zac h;let o1:List PS:=[rZ,.r [(2,q1 [.agg [zI .u64 4 x1],oB x2])],rZ]
  refine Zbc h1 (fun c2 h2=>?_) (fun c2 h3=>?_)
  ·obtain ⟨x3,c3,h4⟩:=Zac h2;exact xS fol h4 hE (o1++[cT,.r [(0,q1 [.agg [zI .u64 4 x3]])]]) (aJ (Zbq.snd c1) c2 (Zdz.snd c3))
  exact xS fol h3 hE (o1++[cF,rZ]) (aI (Zbq.snd c1) c2)
def Zdr.B:Code:=Tryz.f33.body.getD .skip
def Zdr.rs (r:Int×Int×Int×LL):List CV:=[oI r.1,oI r.2.1,oI r.2.2.1]
def Zdr (N:Nat) (A0:Option Nat) (A1:Zak) (A2:Int) (st:LL):Option (Int×Int×Int×LL):= Zbm (Zdu N A1) fun x1=> if (!x1)=true then some ((-1),1,8,st) else Zbm (Zdy N A1) fun x2=> Zbm (Zbp N A0 x2 st) fun (x3,st4)=> if (decide (x3≥0))=true then some (x3,0,0,st4) else Zbm (Zbp N A0 A1.Prev st4) fun (x5,st6)=> if (decide (x5<0))=true then some ((-1),2,5,st6) else Zbm A0 fun i7=> Zde (st6[i7]?) Zbb fun x8=> Zbm (Zba N x8 x5) fun x9=> chk (ZeB x9=true)<| Zbm (Zau N x8.Rules x9 A1 A2) fun x10=> if (decide (x10>0))=true then some ((-1),x10,8,st6) else if (decide ((len x8.List_)≥x8.Room))=true then some ((-1),0,6,st6) else chk (zL (x8.List_++[A1.ls])*96≤140737488355328)<| chk (zL (x8.Ids++[[zI .u8 32 x2]])*32≤140737488355328)<| chk (0≤x5)<| chk (x5<(len x8.Works))<| Zde (x8.Works[0+(zD x5)]?) Zgp fun x11=> Zbm (ZcL N A1.Bits) fun x12=> Zbm (ZeX N x11 x12) fun x13=> chk (zL (x8.Works++[[zI .u64 4 x13]])*32≤140737488355328)<| chk (zL (x8.Ahead++[[zK .i64 x5]])*8≤140737488355328)<| some (w64 ((len (x8.List_++[A1.ls]))-1),0,0,zN (zN (zN (zN (zN (zN (zN (zN st6 i7 (gs x8.lo 15)) i7 (Zab.lo {x8 with List_:=x8.List_++[A1.ls]})) i7 (gs (Zab.lo {x8 with List_:=x8.List_++[A1.ls]}) 16)) i7 (Zab.lo {x8 with List_:=x8.List_++[A1.ls],Ids:=x8.Ids++[[zI .u8 32 x2]]})) i7 (gs (Zab.lo {x8 with List_:=x8.List_++[A1.ls],Ids:=x8.Ids++[[zI .u8 32 x2]]}) 18)) i7 (Zab.lo {x8 with List_:=x8.List_++[A1.ls],Ids:=x8.Ids++[[zI .u8 32 x2]],Works:=x8.Works++[[zI .u64 4 x13]]})) i7 (gs (Zab.lo {x8 with List_:=x8.List_++[A1.ls],Ids:=x8.Ids++[[zI .u8 32 x2]],Works:=x8.Works++[[zI .u64 4 x13]]}) 17)) i7 (Zab.lo (Zab.mk x8.Rules (x8.List_++[A1.ls]) (x8.Ids++[[zI .u8 32 x2]]) (x8.Ahead++[[zK .i64 x5]]) (x8.Works++[[zI .u64 4 x13]]) x8.Room)))
theorem Zdr.snd {A0:Option Nat} {A1:Zak} {A2:Int} {st:LL} {r:Int×Int×Int×LL} (h:Zdr N A0 A1 A2 st=some r):Snd zB 33 [.one (zQ A0),.agg A1.ls,oI A2] st (Zdr.rs r) r.2.2.2:=
 sO Zdr.B Tryz.func33 fun g0 w0 R hE=>by
  unfold Zdr at h;obtain ⟨x1,c1,h1⟩:=Zac h;let o1:List PS:=[rZ,.r [(1,q1 [oB x1])]]
  have t1 {Q:Prop} (q:Q):=aI (Zdu.snd c1) q;refine Zbc h1 (fun c2 h2=>?_) (fun c2 h3=>?_)
  ·exact xV fol h2 hE (o1++[cT,rZ]) (t1 c2)
  obtain ⟨x2,c3,h4⟩:=Zac h3;obtain ⟨⟨x3,st4⟩,c4,h5⟩:=Zac h4;let o2:List PS:=o1++[cF,.r [(2,q1 [.agg [zI .u8 32 x2]]),(3,{rs:=[oI x3],st:=st4})],rZ]
  have t2 {Q:Prop} (q:Q):=t1 (aK c2 (Zdy.snd c3) (Zbp.snd c4) q);refine Zbc h5 (fun c5 h6=>?_) (fun c5 h7=>?_)
  ·exact xV fol h6 hE (o2++[cT,rZ]) (t2 c5)
  obtain ⟨⟨x5,st6⟩,c6,h8⟩:=Zac h7;let o3:List PS:=o2++[cF,.r [(3,{rs:=[oI x5],st:=st6})],rZ]
  have t3 {Q:Prop} (q:Q):=t2 (aJ c5 (Zbp.snd c6) q);refine Zbc h8 (fun c7 h9=>?_) (fun c7 h10=>?_)
  ·exact xV fol h9 hE (o3++[cT,rZ]) (t3 c7)
  obtain ⟨i7,rfl,h11⟩:=Zac h10;obtain ⟨x8,c9,h12⟩:=Zbd h11;obtain ⟨x9,c10,h13⟩:=Zac h12;obtain ⟨c11,h14⟩:=Zbe h13;obtain ⟨x10,c12,h15⟩:=Zac h14;let o4:List PS:=o3++[cF,.d {ds:=[(3,{oc:=x8.lo}),(6,{rs:=[.row true 68 x9],ns:=[34],m:=10,cv:=[.one (vN 88 x8.ls)]}),(9,{rs:=[oI x10],m:=2})],hv:=64,Hs:=[64]},rZ]
  have t4 {Q:Prop} (q:Q):=t3 (aO c7 c9 c9 (bO 88 c9 (Zab.bv x8)) c11 (Zba.snd c10) z0 (aJ (eN (zL x9)) (Zau.snd c12) q));refine Zbc h15 (fun c13 h16=>?_) (fun c13 h17=>?_)
  ·exact xVd fol h16 hE (o4++[cT,rZ]) (t4 c13)
  let o5:List PS:=o4++[cF,.d {ds:=[(3,{oc:=x8.lo}),(8,{oc:=x8.lo})],hv:=0,Hs:=[]}]
  refine Zbc h17 (fun c14 h18=>?_) (fun c14 h19=>?_)
  ·exact xVd fol h18 hE (o5++[cT,rZ]) (t4 (aK c13 c9 c9 c14))
  obtain ⟨c15,c16,c17,c18,h20⟩:=ck4 h19;obtain ⟨x11,c19,h21⟩:=ZhQ h20;obtain ⟨x12,c20,h22⟩:=Zac h21;obtain ⟨x13,c21,h23⟩:=Zac h22;obtain ⟨c22,c23,h24⟩:=ck2 h23;exact xVd fol h24 hE (o5++[cF,.d {ds:=[(4,{oc:=x8.lo}),(7,{oe:=x8.lo}),(10,{oc:=gs x8.lo 15,mv:=[58]})],hv:=1216,Hs:=[64,192,1216]},.d {ds:=[(4,{oc:=Zab.lo {x8 with List_:=x8.List_++[A1.ls]}}),(6,q1 [.agg [zI .u8 32 x2]]),(8,{oe:=Zab.lo {x8 with List_:=x8.List_++[A1.ls]}}),(11,{oc:=gs (Zab.lo {x8 with List_:=x8.List_++[A1.ls]}) 16,mv:=[69]})],hv:=2432,Hs:=[128,384,2432]},.d {ds:=[(4,{oc:=Zab.lo {x8 with List_:=x8.List_++[A1.ls],Ids:=x8.Ids++[[zI .u8 32 x2]]}}),(8,{oc:=Zab.lo {x8 with List_:=x8.List_++[A1.ls],Ids:=x8.Ids++[[zI .u8 32 x2]]}}),(11,{oc:=Zab.lo {x8 with List_:=x8.List_++[A1.ls],Ids:=x8.Ids++[[zI .u8 32 x2]]},oe:=[zI .u64 4 x11]}),(14,q1 [.agg [zI .u64 4 x12]]),(15,q1 [.agg [zI .u64 4 x13]]),(17,{oe:=Zab.lo {x8 with List_:=x8.List_++[A1.ls],Ids:=x8.Ids++[[zI .u8 32 x2]]}}),(20,{oc:=gs (Zab.lo {x8 with List_:=x8.List_++[A1.ls],Ids:=x8.Ids++[[zI .u8 32 x2]]}) 18,mv:=[89]})],hv:=1245184,Hs:=[65536,196608,1245184]},.r [(4,{oc:=Zab.lo {x8 with List_:=x8.List_++[A1.ls],Ids:=x8.Ids++[[zI .u8 32 x2]],Works:=x8.Works++[[zI .u64 4 x13]]}}),(7,{oe:=Zab.lo {x8 with List_:=x8.List_++[A1.ls],Ids:=x8.Ids++[[zI .u8 32 x2]],Works:=x8.Works++[[zI .u64 4 x13]]}}),(10,{oc:=gs (Zab.lo {x8 with List_:=x8.List_++[A1.ls],Ids:=x8.Ids++[[zI .u8 32 x2]],Works:=x8.Works++[[zI .u64 4 x13]]}) 17,mv:=[99]})],.r [(3,{oc:=Zab.lo (Zab.mk x8.Rules (x8.List_++[A1.ls]) (x8.Ids++[[zI .u8 32 x2]]) (x8.Ahead++[[zK .i64 x5]]) (x8.Works++[[zI .u64 4 x13]]) x8.Room)})]]) (t4 (aO c13 c9 c9 c14 c9 c9 z0 (aO (eN (zL x8.List_)) c9 z0 (eN (1)) c15 (Zar c9 (gs x8.lo 15)) z0 (aO (eN (zL (x8.List_++[A1.ls]))) (Zar (Zar c9 (gs x8.lo 15)) (Zab.lo {x8 with List_:=x8.List_++[A1.ls]})) (Zar (Zar c9 (gs x8.lo 15)) (Zab.lo {x8 with List_:=x8.List_++[A1.ls]})) (Zdy.snd c3) z0 (eN (zL x8.Ids)) (Zar (Zar c9 (gs x8.lo 15)) (Zab.lo {x8 with List_:=x8.List_++[A1.ls]})) (aO z0 (eN (1)) c16 (Zar (Zar (Zar c9 (gs x8.lo 15)) (Zab.lo {x8 with List_:=x8.List_++[A1.ls]})) (gs (Zab.lo {x8 with List_:=x8.List_++[A1.ls]}) 16)) z0 (eN (zL (x8.Ids++[[zI .u8 32 x2]]))) (Zar (Zar (Zar (Zar c9 (gs x8.lo 15)) (Zab.lo {x8 with List_:=x8.List_++[A1.ls]})) (gs (Zab.lo {x8 with List_:=x8.List_++[A1.ls]}) 16)) (Zab.lo {x8 with List_:=x8.List_++[A1.ls],Ids:=x8.Ids++[[zI .u8 32 x2]]})) (aO (Zar (Zar (Zar (Zar c9 (gs x8.lo 15)) (Zab.lo {x8 with List_:=x8.List_++[A1.ls]})) (gs (Zab.lo {x8 with List_:=x8.List_++[A1.ls]}) 16)) (Zab.lo {x8 with List_:=x8.List_++[A1.ls],Ids:=x8.Ids++[[zI .u8 32 x2]]})) (Zar (Zar (Zar (Zar c9 (gs x8.lo 15)) (Zab.lo {x8 with List_:=x8.List_++[A1.ls]})) (gs (Zab.lo {x8 with List_:=x8.List_++[A1.ls]}) 16)) (Zab.lo {x8 with List_:=x8.List_++[A1.ls],Ids:=x8.Ids++[[zI .u8 32 x2]]})) c17 c18 c19 (Zar (Zar (Zar (Zar c9 (gs x8.lo 15)) (Zab.lo {x8 with List_:=x8.List_++[A1.ls]})) (gs (Zab.lo {x8 with List_:=x8.List_++[A1.ls]}) 16)) (Zab.lo {x8 with List_:=x8.List_++[A1.ls],Ids:=x8.Ids++[[zI .u8 32 x2]]})) (ZcL.snd c20) (aO (ZeX.snd c21) z0 (eN (zL x8.Works)) (Zar (Zar (Zar (Zar c9 (gs x8.lo 15)) (Zab.lo {x8 with List_:=x8.List_++[A1.ls]})) (gs (Zab.lo {x8 with List_:=x8.List_++[A1.ls]}) 16)) (Zab.lo {x8 with List_:=x8.List_++[A1.ls],Ids:=x8.Ids++[[zI .u8 32 x2]]})) z0 (eN (1)) c22 (aO (Zar (Zar (Zar (Zar (Zar c9 (gs x8.lo 15)) (Zab.lo {x8 with List_:=x8.List_++[A1.ls]})) (gs (Zab.lo {x8 with List_:=x8.List_++[A1.ls]}) 16)) (Zab.lo {x8 with List_:=x8.List_++[A1.ls],Ids:=x8.Ids++[[zI .u8 32 x2]]})) (gs (Zab.lo {x8 with List_:=x8.List_++[A1.ls],Ids:=x8.Ids++[[zI .u8 32 x2]]}) 18)) z0 (eN (zL (x8.Works++[[zI .u64 4 x13]]))) (Zar (Zar (Zar (Zar (Zar (Zar c9 (gs x8.lo 15)) (Zab.lo {x8 with List_:=x8.List_++[A1.ls]})) (gs (Zab.lo {x8 with List_:=x8.List_++[A1.ls]}) 16)) (Zab.lo {x8 with List_:=x8.List_++[A1.ls],Ids:=x8.Ids++[[zI .u8 32 x2]]})) (gs (Zab.lo {x8 with List_:=x8.List_++[A1.ls],Ids:=x8.Ids++[[zI .u8 32 x2]]}) 18)) (Zab.lo {x8 with List_:=x8.List_++[A1.ls],Ids:=x8.Ids++[[zI .u8 32 x2]],Works:=x8.Works++[[zI .u64 4 x13]]})) z0 (eN (zL x8.Ahead)) (Zar (Zar (Zar (Zar (Zar (Zar c9 (gs x8.lo 15)) (Zab.lo {x8 with List_:=x8.List_++[A1.ls]})) (gs (Zab.lo {x8 with List_:=x8.List_++[A1.ls]}) 16)) (Zab.lo {x8 with List_:=x8.List_++[A1.ls],Ids:=x8.Ids++[[zI .u8 32 x2]]})) (gs (Zab.lo {x8 with List_:=x8.List_++[A1.ls],Ids:=x8.Ids++[[zI .u8 32 x2]]}) 18)) (Zab.lo {x8 with List_:=x8.List_++[A1.ls],Ids:=x8.Ids++[[zI .u8 32 x2]],Works:=x8.Works++[[zI .u64 4 x13]]})) (aN z0 (eN (1)) c23 (Zar (Zar (Zar (Zar (Zar (Zar (Zar c9 (gs x8.lo 15)) (Zab.lo {x8 with List_:=x8.List_++[A1.ls]})) (gs (Zab.lo {x8 with List_:=x8.List_++[A1.ls]}) 16)) (Zab.lo {x8 with List_:=x8.List_++[A1.ls],Ids:=x8.Ids++[[zI .u8 32 x2]]})) (gs (Zab.lo {x8 with List_:=x8.List_++[A1.ls],Ids:=x8.Ids++[[zI .u8 32 x2]]}) 18)) (Zab.lo {x8 with List_:=x8.List_++[A1.ls],Ids:=x8.Ids++[[zI .u8 32 x2]],Works:=x8.Works++[[zI .u64 4 x13]]})) (gs (Zab.lo {x8 with List_:=x8.List_++[A1.ls],Ids:=x8.Ids++[[zI .u8 32 x2]],Works:=x8.Works++[[zI .u64 4 x13]]}) 17)) z0 (eN (zL (x8.Ahead++[[zK .i64 x5]]))) (Zar (Zar (Zar (Zar (Zar (Zar (Zar (Zar c9 (gs x8.lo 15)) (Zab.lo {x8 with List_:=x8.List_++[A1.ls]})) (gs (Zab.lo {x8 with List_:=x8.List_++[A1.ls]}) 16)) (Zab.lo {x8 with List_:=x8.List_++[A1.ls],Ids:=x8.Ids++[[zI .u8 32 x2]]})) (gs (Zab.lo {x8 with List_:=x8.List_++[A1.ls],Ids:=x8.Ids++[[zI .u8 32 x2]]}) 18)) (Zab.lo {x8 with List_:=x8.List_++[A1.ls],Ids:=x8.Ids++[[zI .u8 32 x2]],Works:=x8.Works++[[zI .u64 4 x13]]})) (gs (Zab.lo {x8 with List_:=x8.List_++[A1.ls],Ids:=x8.Ids++[[zI .u8 32 x2]],Works:=x8.Works++[[zI .u64 4 x13]]}) 17)) (Zab.lo (Zab.mk x8.Rules (x8.List_++[A1.ls]) (x8.Ids++[[zI .u8 32 x2]]) (x8.Ahead++[[zK .i64 x5]]) (x8.Works++[[zI .u64 4 x13]]) x8.Room))))))))))))
def ZaB.B:Code:=Tryz.f19.body.getD .skip
def ZaB.rs (r:Int×LL):List CV:=[oI r.1]
def ZaB.p2 (N:Nat) (i4:Nat) (at_1 A3:Int) (st2:LL):Option (Int×LL):= Zde (st2[i4]?) Zca fun x8 x9=> Zde (x9[0+(zD at_1)]?) Zcz fun x10=> Zbm (Zbh N (some i4) at_1 (zN st2 i4 [zQ x8,yC true 3 (zN x9 (0+(zD at_1)) (ZaS.ls {x10 with verdict:=A3}))])) fun st11=> some (0,st11)
def ZaB.p1 (N:Nat) (m_0:Option Nat) (at_1 A3:Int) (st2:LL):Option (Int×LL):= Zbm m_0 fun i4=> Zde (st2[i4]?) Zca fun x5 x6=> chk (0≤at_1)<| chk (at_1<(len x6))<| Zde (x6[0+(zD at_1)]?) Zcz fun x7=> if (x7.verdict != 0)=true then if (x7.verdict != A3)=true then some (1,st2) else ZaB.p2 N i4 at_1 A3 st2 else ZaB.p2 N i4 at_1 A3 st2
def ZaB (N:Nat) (m_0:Option Nat) (at_1:Int) (A2:Bool) (st:LL):Option (Int×LL):= Zbm (ZbW N m_0 at_1 st) fun (x1,st2)=> if (x1 != 0)=true then some (x1,st2) else if A2=true then ZaB.p1 N m_0 at_1 1 st2 else ZaB.p1 N m_0 at_1 2 st2
def ZaB.p2.S (i4:Nat) (at_1 A3:Int) (st2:LL):S:=mkS 43 [(0,sP (some i4)),(1,sI at_1),(8,sI A3),(9,.one (.eadr (.mem (.obj i4) 1 0) 3 (0+(zD at_1)) 0))] [] st2
def ZaB.p1.S (m_0:Option Nat) (at_1 A3:Int) (st2:LL):S:=mkS 43 [(0,sP m_0),(1,sI at_1),(8,sI A3)] [] st2
theorem ZaB.p2_ok {i4 at_1 A3 st2 r} (h:ZaB.p2 N i4 at_1 A3 st2=some r) (hE:En Tryz.f19 g0 w0 (ZaB.rs r) r.2 R):At g0 w0 (ZaB.p2.S i4 at_1 A3 st2) (XK zB R [cK ZaB.B [1,1,1,1,1,1]]):=by
 unfold ZaB.p2 at h;obtain ⟨x8,x9,c11,h1⟩:=ZbP h;obtain ⟨x10,c12,h2⟩:=Zcs h1;obtain ⟨st11,c13,h3⟩:=Zac h2;exact xT fol h3 hE [.r [(4,{oc:=[zQ x8,yC true 3 x9],oe:=x10.ls,yes:=false})],.r [(2,{st:=st11})],rZ] (aJ c12 c11 (Zbh.snd c13))
theorem ZaB.p1_ok {m_0 at_1 A3 st2 r} (h:ZaB.p1 N m_0 at_1 A3 st2=some r) (hE:En Tryz.f19 g0 w0 (ZaB.rs r) r.2 R):At g0 w0 (ZaB.p1.S m_0 at_1 A3 st2) (XK zB R [cK ZaB.B [1,1,1,1]]):=by
 unfold ZaB.p1 at h;obtain ⟨i4,rfl,h4⟩:=Zac h;obtain ⟨x5,x6,c5,h5⟩:=ZbP h4;obtain ⟨c6,c7,h6⟩:=ck2 h5;obtain ⟨x7,c8,h7⟩:=Zcs h6;let o1:List PS:=[.r [(3,{oc:=[zQ x5,yC true 3 x6]})]]
 refine Zbc h7 (fun c9 h8=>?_) (fun c9 h9=>?_)
 ·let o2:List PS:=o1++[.r [(3,{oc:=[zQ x5,yC true 3 x6],oe:=x7.ls}),(9,{oc:=[zQ x5,yC true 3 x6],oe:=x7.ls})]]
  have t1 {Q:Prop} (q:Q):=aO c5 c6 c7 c8 c5 c9 c9 (aO c9 c9 c8 c5 c9 c9 c9 q);refine Zbc h8 (fun c10 h10=>?_) (fun c10 h11=>?_)
  ·exact xT fol h10 hE (o2++[cT,rZ]) (t1 c10)
  exact aq fol (o2++[cF,.s 1]) [0,1,8,9] [] (t1 c10) (ZaB.p2_ok h11 hE)
 exact aq fol (o1++[.r [(3,{oc:=[zQ x5,yC true 3 x6],oe:=x7.ls}),(6,wF),(7,wF),(8,wF),(9,wF),(10,wF),(11,wF),(12,yF)],cF,.s 1]) [0,1,8,9] [] (aO c5 c6 c7 c8 c5 c9 c9 (aM c9 c9 c9 c9 c9 eF)) (ZaB.p2_ok h9 hE)
theorem ZaB.snd {m_0:Option Nat} {at_1:Int} {A2:Bool} {st:LL} {r:Int×LL} (h:ZaB N m_0 at_1 A2 st=some r):Snd zB 19 [.one (zQ m_0),oI at_1,oB A2] st (ZaB.rs r) r.2:=
 sO ZaB.B Tryz.func19 fun g0 w0 R hE=>by
  unfold ZaB at h;obtain ⟨⟨x1,st2⟩,c1,h12⟩:=Zac h;let o3:List PS:=[rZ,.r [(2,{rs:=[oI x1],st:=st2})],rZ]
  have t2 {Q:Prop} (q:Q):=aI (ZbW.snd c1) q;refine Zbc h12 (fun c2 h13=>?_) (fun c2 h14=>?_)
  ·exact xT fol h13 hE (o3++[cT,rZ]) (t2 c2)
  refine Zbc h14 (fun c3 h15=>?_) (fun c3 h16=>?_)
  ·exact aq fol (o3++[cF,rZ,rZ,cT,rZ,.s 1]) [0,1,8] [] (t2 (aI c2 c3)) (ZaB.p1_ok h15 hE)
  exact aq fol (o3++[cF,rZ,rZ,cF,.s 1]) [0,1,8] [] (t2 (aI c2 c3)) (ZaB.p1_ok h16 hE)
def Zez.B:Code:=Tryz.f63.body.getD .skip
def Zez.rs (r:Int):List CV:=[oI r]
def Zez (N:Nat) (A0:Zab) (at_1:Int):Option Int:= if (decide (at_1<0))=true then some 5 else if (decide (at_1≥(len A0.List_)))=true then some 5 else if (at_1==0)=true then some 1 else some 0
theorem Zez.snd {A0:Zab} {at_1:Int} {r:Int} (h:Zez N A0 at_1=some r):ZdP zB 63 [.one (vN 88 A0.ls),oI at_1] (Zez.rs r):=fun st=>
 sO Zez.B Tryz.func63 fun g0 w0 R hE=>by
  unfold Zez at h;refine Zbc h (fun c1 h1=>?_) (fun c1 h2=>?_)
  ·exact xS fol h1 hE [rZ,.r [(3,wF),(4,wF),(5,wF),(6,wF),(7,wF),(8,wF),(9,wF)],cT,rZ] (aO c1 c1 c1 c1 c1 c1 c1 (aI c1 eT))
  let o1:List PS:=[rZ,.r [(7,{oe:=A0.ls}),(10,yF)]]
  have t1 {Q:Prop} (q:Q):=aO c1 c1 c1 c1 c1 (eO A0.ls) c1 (aJ c1 c1 q);refine Zbc h2 (fun c2 h3=>?_) (fun c2 h4=>?_)
  ·exact xS fol h3 hE (o1++[cT,rZ]) (t1 c2)
  refine Zbc h4 (fun c3 h5=>?_) (fun c3 h6=>?_)
  ·exact xS fol h5 hE (o1++[cF,rZ,cT,rZ]) (t1 (aI c2 c3))
  exact xS fol h6 hE (o1++[cF,rZ,cF,rZ]) (t1 (aI c2 c3))
def Zdi.B:Code:=Tryz.f63.body.getD .skip
def Zdi.rs (r:Int×LL):List CV:=[oI r.1]
def Zdi (N:Nat) (A0:Option Nat) (at_1:Int) (st:LL):Option (Int×LL):= if (decide (at_1<0))=true then some (5,st) else Zbm A0 fun i1=> Zde (st[i1]?) Zbb fun x2=> if (decide (at_1≥(len x2.List_)))=true then some (5,st) else if (at_1==0)=true then some (1,st) else some (0,st)
theorem Zdi.snd {A0:Option Nat} {at_1:Int} {st:LL} {r:Int×LL} (h:Zdi N A0 at_1 st=some r):Snd zB 63 [.one (zQ A0),oI at_1] st (Zdi.rs r) r.2:=
 sO Zdi.B Tryz.func63 fun g0 w0 R hE=>by
  unfold Zdi at h;refine Zbc h (fun c1 h1=>?_) (fun c1 h2=>?_)
  ·exact xT fol h1 hE [rZ,.r [(3,wF),(4,wF),(5,wF),(6,wF),(7,wF),(8,wF),(9,wF)],cT,rZ] (aO c1 c1 c1 c1 c1 c1 c1 (aI c1 eT))
  obtain ⟨i1,rfl,h3⟩:=Zac h2;obtain ⟨x2,c3,h4⟩:=Zbd h3;let o1:List PS:=[rZ,.r [(7,{oc:=x2.lo}),(10,yF)]]
  have t1 {Q:Prop} (q:Q):=aO c1 c1 c1 c1 c1 c3 c1 (aJ c1 c1 q);refine Zbc h4 (fun c4 h5=>?_) (fun c4 h6=>?_)
  ·exact xT fol h5 hE (o1++[cT,rZ]) (t1 c4)
  refine Zbc h6 (fun c5 h7=>?_) (fun c5 h8=>?_)
  ·exact xT fol h7 hE (o1++[cF,rZ,cT,rZ]) (t1 (aI c4 c5))
  exact xT fol h8 hE (o1++[cF,rZ,cF,rZ]) (t1 (aI c4 c5))
def ZaZ.B:Code:=Tryz.f34.body.getD .skip
def ZaZ.rs (r:Int×LL):List CV:=[oI r.1]
def ZaZ.p1 (N:Nat) (m_0:Option Nat) (A2 A3:Int) (st2:LL):Option (Int×LL):= Zbm m_0 fun i4=> chk (0≤A2)<| chk (A2<600)<| Zde (st2[i4]?) Zco fun x5=> if (decide ((zF x5.Said (zD A2) 0)>0))=true then if ((zF x5.Said (zD A2) 0) != A3)=true then some (1,st2) else some (0,zN st2 i4 (ZaF.ls {x5 with Said:=zN x5.Said (zD A2) A3})) else some (0,zN st2 i4 (ZaF.ls {x5 with Said:=zN x5.Said (zD A2) A3}))
def ZaZ (N:Nat) (m_0 A1:Option Nat) (A2:Int) (A3:Bool) (st:LL):Option (Int×LL):= Zbm (Zdi N A1 A2 st) fun (x1,st2)=> if (decide (x1>0))=true then some (x1,st2) else if A3=true then ZaZ.p1 N m_0 A2 1 st2 else ZaZ.p1 N m_0 A2 2 st2
def ZaZ.p1.S (m_0:Option Nat) (A2 A3:Int) (st2:LL):S:=mkS 41 [(0,sP m_0),(2,sI A2),(10,sI A3)] [] st2
theorem ZaZ.p1_ok {m_0 A2 A3 st2 r} (h:ZaZ.p1 N m_0 A2 A3 st2=some r) (hE:En Tryz.f34 g0 w0 (ZaZ.rs r) r.2 R):At g0 w0 (ZaZ.p1.S m_0 A2 A3 st2) (XK zB R [cK ZaZ.B [1,1,1,1,1]]):=by
 unfold ZaZ.p1 at h;obtain ⟨i4,rfl,h1⟩:=Zac h;obtain ⟨c5,c6,h2⟩:=ck2 h1;obtain ⟨x5,c7,h3⟩:=ZcS h2;refine Zbc h3 (fun c8 h4=>?_) (fun c8 h5=>?_)
 ·let o1:List PS:=[.r [(5,{oc:=x5.ls}),(13,{oc:=x5.ls})]]
  have t1 {Q:Prop} (q:Q):=aO c5 c6 c7 c8 c8 c8 c8 (aO c8 c5 c6 c8 c7 c8 c8 (aI c8 q));refine Zbc h4 (fun c9 h6=>?_) (fun c9 h7=>?_)
  ·exact xT fol h6 hE (o1++[cT,rZ]) (t1 c9)
  exact xT fol h7 hE (o1++[cF,.r [(6,{oc:=x5.ls})],rZ]) (t1 (aK c9 c5 c6 c7))
 exact xT fol h5 hE [.r [(5,{oc:=x5.ls}),(8,wF),(9,wF),(10,wF),(11,wF),(12,wF),(13,wF),(14,wF),(15,wF),(16,yF)],cF,.r [(6,{oc:=x5.ls})],rZ] (aO c5 c6 c7 c8 c8 c8 c8 (aO c8 c8 c8 c8 c8 eF c5 (aI c6 c7)))
theorem ZaZ.snd {m_0 A1:Option Nat} {A2:Int} {A3:Bool} {st:LL} {r:Int×LL} (h:ZaZ N m_0 A1 A2 A3 st=some r):Snd zB 34 [.one (zQ m_0),.one (zQ A1),oI A2,oB A3] st (ZaZ.rs r) r.2:=
 sO ZaZ.B Tryz.func34 fun g0 w0 R hE=>by
  unfold ZaZ at h;obtain ⟨⟨x1,st2⟩,c1,h8⟩:=Zac h;let o2:List PS:=[rZ,.r [(2,{rs:=[oI x1],st:=st2})],rZ]
  have t2 {Q:Prop} (q:Q):=aI (Zdi.snd c1) q;refine Zbc h8 (fun c2 h9=>?_) (fun c2 h10=>?_)
  ·exact xT fol h9 hE (o2++[cT,rZ]) (t2 c2)
  refine Zbc h10 (fun c3 h11=>?_) (fun c3 h12=>?_)
  ·exact aq fol (o2++[cF,rZ,rZ,cT,rZ,.s 1]) [0,2,10] [] (t2 (aI c2 c3)) (ZaZ.p1_ok h11 hE)
  exact aq fol (o2++[cF,rZ,rZ,cF,.s 1]) [0,2,10] [] (t2 (aI c2 c3)) (ZaZ.p1_ok h12 hE)
def ZaR.B:Code:=Tryz.f35.body.getD .skip
def ZaR.rs (r:Int×LL):List CV:=[oI r.1]
def ZaR.p1 (N:Nat) (x1:Int) (st5:LL):Option (Int×LL):= some (x1,st5)
def ZaR (N:Nat) (m_0 A1:Option Nat) (A2:Int) (st:LL):Option (Int×LL):= Zbm (Zdi N A1 A2 st) fun (x1,st2)=> if (x1==0)=true then Zbm m_0 fun i3=> chk (0≤A2)<| chk (A2<600)<| Zde (st2[i3]?) Zco fun x4=> ZaR.p1 N x1 (zN st2 i3 (ZaF.ls {x4 with Out:=zN x4.Out (zD A2) true})) else ZaR.p1 N x1 st2
def ZaR.p1.S (x1:Int) (st5:LL):S:=mkS 19 [(7,sI x1)] [] st5
theorem ZaR.p1_ok {x1 st5 r} (h:ZaR.p1 N x1 st5=some r) (hE:En Tryz.f35 g0 w0 (ZaR.rs r) r.2 R):At g0 w0 (ZaR.p1.S x1 st5) (XK zB R [cK ZaR.B [1,1,1]]):=by
 unfold ZaR.p1 at h;exact xT fol h hE [rZ] trivial
theorem ZaR.snd {m_0 A1:Option Nat} {A2:Int} {st:LL} {r:Int×LL} (h:ZaR N m_0 A1 A2 st=some r):Snd zB 35 [.one (zQ m_0),.one (zQ A1),oI A2] st (ZaR.rs r) r.2:=
 sO ZaR.B Tryz.func35 fun g0 w0 R hE=>by
  unfold ZaR at h;obtain ⟨⟨x1,st2⟩,c1,h1⟩:=Zac h;let o1:List PS:=[rZ,.r [(2,{rs:=[oI x1],st:=st2})],rZ]
  refine Zbc h1 (fun c2 h2=>?_) (fun c2 h3=>?_)
  ·obtain ⟨i3,rfl,h4⟩:=Zac h2;obtain ⟨c4,c5,h5⟩:=ck2 h4;obtain ⟨x4,c6,h6⟩:=ZcS h5;exact aq fol (o1++[cT,.r [(5,{oc:=x4.ls})],.s 1]) [7] [] (aL (Zdi.snd c1) c2 c4 c5 c6) (ZaR.p1_ok h6 hE)
  exact aq fol (o1++[cF,.s 1]) [7] [] (aI (Zdi.snd c1) c2) (ZaR.p1_ok h3 hE)
def ZcK.B:Code:=Tryz.f26.body.getD .skip
def ZcK.rs (r:Bool):List CV:=[oB r]
def ZcK (N:Nat) (A0:ZaD) (at_1 A2:Int):Option Bool:= Zbm (Zbn N A0 at_1) fun x1=> if (decide (x1≥0))=true then Zbm (Zav N A0 A2 x1) fun x2=> some (x2==at_1) else some false
theorem ZcK.snd {A0:ZaD} {at_1 A2:Int} {r:Bool} (h:ZcK N A0 at_1 A2=some r):ZdP zB 26 [.one (vN 2 A0.ls),oI at_1,oI A2] (ZcK.rs r):=fun st=>
 sO ZcK.B Tryz.func26 fun g0 w0 R hE=>by
  unfold ZcK at h;obtain ⟨x1,c1,h1⟩:=Zac h;let o1:List PS:=[rZ,.r [(2,q0 [oI x1])]]
  refine Zbc h1 (fun c2 h2=>?_) (fun c2 h3=>?_)
  ·obtain ⟨x2,c3,h4⟩:=Zac h2;exact xS fol h4 hE (o1++[.r [(6,q0 [oI x2])]]) (aO (Zbn.snd c1) c2 c2 c2 c2 (Zav.snd c3) c2 (aI c2 c2))
  exact xS fol h3 hE (o1++[.r [(3,wF),(4,wF),(5,wF),(6,wF),(7,wF),(8,wF),(9,yF)]]) (aO (Zbn.snd c1) c2 c2 c2 c2 c2 c2 c2)
def Zam.B:Code:=Tryz.f23.body.getD .skip
def Zam.rs (r:Int×LL):List CV:=[oI r.1]
def Zam.p2 (N:Nat) (c1_:(Int×LL)→Option (Int×LL)) (i3:Nat) (at_1:Int) (x5:LL) (v6:Int) (st36:LL):Option (Int×LL):= c1_ (w64 (v6+1),st36)
def Zam.p1 (N:Nat) (i3:Nat) (at_1:Int) (x5:LL) (c1_:(Int×LL)→Option (Int×LL)):(Int×LL)→Option (Int×LL):=fun (v6,st22)=> if (decide (v6<(len x5)))=true then Zde (st22[i3]?) Zca fun x23 x24=> chk (0≤v6)<| chk (v6<(len x24))<| Zbm x23 fun i25=> Zde (st22[i25]?) Zdp fun x26 x27=> Zbm x26 fun i28=> Zde (st22[i28]?) ZbZ fun x29=> Zbm (ZcK N (ZaD.mk x29 x27) v6 at_1) fun x30=> if x30=true then Zde (x24[0+(zD v6)]?) Zcz fun x31=> Zde ((zN x24 (0+(zD v6)) (ZaS.ls {x31 with out:=false}))[0+(zD v6)]?) Zcz fun x32=> if (x32.verdict==2)=true then Zam.p2 N c1_ i3 at_1 x5 v6 (zN (zN st22 i3 [zQ (some i25),yC true 3 (zN x24 (0+(zD v6)) (ZaS.ls {x31 with out:=false}))]) i3 [zQ (some i25),yC true 3 (zN (zN x24 (0+(zD v6)) (ZaS.ls {x31 with out:=false})) (0+(zD v6)) (ZaS.ls {x32 with verdict:=0}))]) else Zam.p2 N c1_ i3 at_1 x5 v6 (zN st22 i3 [zQ (some i25),yC true 3 (zN x24 (0+(zD v6)) (ZaS.ls {x31 with out:=false}))]) else Zbm (ZcK N (ZaD.mk x29 x27) at_1 v6) fun x33=> if x33=true then Zde (x24[0+(zD v6)]?) Zcz fun x34=> Zde ((zN x24 (0+(zD v6)) (ZaS.ls {x34 with out:=false}))[0+(zD v6)]?) Zcz fun x35=> if (x35.verdict==2)=true then Zam.p2 N c1_ i3 at_1 x5 v6 (zN (zN st22 i3 [zQ (some i25),yC true 3 (zN x24 (0+(zD v6)) (ZaS.ls {x34 with out:=false}))]) i3 [zQ (some i25),yC true 3 (zN (zN x24 (0+(zD v6)) (ZaS.ls {x34 with out:=false})) (0+(zD v6)) (ZaS.ls {x35 with verdict:=0}))]) else Zam.p2 N c1_ i3 at_1 x5 v6 (zN st22 i3 [zQ (some i25),yC true 3 (zN x24 (0+(zD v6)) (ZaS.ls {x34 with out:=false}))]) else Zam.p2 N c1_ i3 at_1 x5 v6 st22 else Zbm (Zbh N (some i3) 1 st22) fun st37=> some (0,st37)
def Zam (N:Nat) (m_0:Option Nat) (at_1:Int) (st:LL):Option (Int×LL):= Zbm (ZbW N m_0 at_1 st) fun (x1,st2)=> if (x1 != 0)=true then some (x1,st2) else Zbm m_0 fun i3=> Zde (st2[i3]?) Zca fun x4 x5=> loopN (Zam.p1 N i3 at_1 x5) N (0,st2)
def Zam.p2.S (i3:Nat) (at_1:Int) (x5:LL) (v6:Int) (st36:LL):S:=mkS 58 [(0,sP (some i3)),(1,sI at_1),(18,sI (len x5)),(19,sI v6)] [] st36
def Zam.p1.S (i3:Nat) (at_1:Int) (x5:LL) (v6:Int) (st22:LL):S:=mkS 58 [(0,sP (some i3)),(1,sI at_1),(18,sI (len x5)),(19,sI v6)] [] st22
theorem Zam.p2_ok {i3 at_1 x5 v6 st36 r c1_ J1} (h:Zam.p2 N c1_ i3 at_1 x5 v6 st36=some r) (hE:En Tryz.f23 g0 w0 (Zam.rs r) r.2 R) (hc1 : ∀v6 st22,c1_ (v6,st22)=some r→At g0 w0 (Zam.p1.S i3 at_1 x5 v6 st22) J1):At g0 w0 (Zam.p2.S i3 at_1 x5 v6 st36) (XK zB R [cK Zam.B [1,1,0,1,0,0,1,1,1],.h J1,.b 0,cK Zam.B [1,1,1]]):=by
 unfold Zam.p2 at h;exact an fol [rZ] [0,1,18,19] [] trivial (hc1 (w64 (v6+1)) st36 h)
theorem Zam.p1_ok {i3 at_1 x5 v6 st22 r c1_ J1} (h:Zam.p1 N i3 at_1 x5 c1_ (v6,st22)=some r) (hE:En Tryz.f23 g0 w0 (Zam.rs r) r.2 R) (hc1 : ∀v6 st22,c1_ (v6,st22)=some r→At g0 w0 (Zam.p1.S i3 at_1 x5 v6 st22) J1):At g0 w0 (Zam.p1.S i3 at_1 x5 v6 st22) (XK zB R (cK Zam.B [1,1,0,1,0,0] :: .h J1 :: [.b 0,cK Zam.B [1,1,1]])):=by
 unfold Zam.p1 at h;refine Zbc h (fun c24 h1=>?_) (fun c24 h2=>?_)
 ·obtain ⟨x23,x24,c25,h3⟩:=ZbP h1;obtain ⟨c26,c27,h4⟩:=ck2 h3;obtain ⟨i25,rfl,h5⟩:=Zac h4;obtain ⟨x26,x27,c29,h6⟩:=Zdf h5;obtain ⟨i28,rfl,h7⟩:=Zac h6;obtain ⟨x29,c31,h8⟩:=ZbO h7;obtain ⟨x30,c32,h9⟩:=Zac h8;let o1:List PS:=[rZ,cT,rZ,.r [(3,{oc:=[zQ (some i25),yC true 3 x24]})]]
  have t1 {Q:Prop} (q:Q):=aO c24 c25 c26 c27 c25 (bO 2 c29 ((bC 87 c31 (ZaH.bv x29) (bW bN)):BVs st22 [zQ (some i28),yC true 1 x27] (ZaD.ls (ZaD.mk x29 x27)))) (ZcK.snd c32) q;refine Zbc h9 (fun c33 h10=>?_) (fun c33 h11=>?_)
  ·obtain ⟨x31,c34,h12⟩:=Zcs h10;obtain ⟨x32,c35,h13⟩:=Zcs h12;let o2:List PS:=o1++[.r [(3,{oc:=[zQ (some i25),yC true 3 x24]}),(6,{rs:=[oB x30],m:=10,cv:=[.one (vN 2 (ZaD.ls (ZaD.mk x29 x27)))]}),(8,wF),(9,wF),(10,wF),(11,wF),(12,wF),(13,wF),(14,wF)],cT,.r [(3,{oc:=[zQ (some i25),yC true 3 x24],oe:=x31.ls,yes:=false})],.r [(3,{oc:=[zQ (some i25),yC true 3 (zN x24 (0+(zD v6)) (ZaS.ls {x31 with out:=false}))],oe:=x32.ls})]]
   have t2 {Q:Prop} (q:Q):=t1 (aO c33 c33 c33 c33 c33 c33 c33 (aN c33 eT c34 c25 c35 (Zar c25 [zQ (some i25),yC true 3 (zN x24 (0+(zD v6)) (ZaS.ls {x31 with out:=false}))]) q));refine Zbc h13 (fun c36 h14=>?_) (fun c36 h15=>?_)
   ·exact aq fol (o2++[cT,.r [(3,{oc:=[zQ (some i25),yC true 3 (zN x24 (0+(zD v6)) (ZaS.ls {x31 with out:=false}))],oe:=x32.ls,yes:=false})],.s 4]) [0,1,18,19] [] (t2 (aJ c36 c35 (Zar c25 [zQ (some i25),yC true 3 (zN x24 (0+(zD v6)) (ZaS.ls {x31 with out:=false}))]))) (Zam.p2_ok h14 hE hc1)
   exact aq fol (o2++[cF,.s 4]) [0,1,18,19] [] (t2 c36) (Zam.p2_ok h15 hE hc1)
  obtain ⟨x33,c37,h16⟩:=Zac h11;let o3:List PS:=o1++[.r [(3,{oc:=[zQ (some i25),yC true 3 x24]}),(6,{rs:=[oB x30],m:=10,cv:=[.one (vN 2 (ZaD.ls (ZaD.mk x29 x27)))]}),(11,{oc:=[zQ (some i25),yC true 3 x24]}),(14,{rs:=[oB x33],m:=10,cv:=[.one (vN 2 (ZaD.ls (ZaD.mk x29 x27)))]}),(15,yF)]]
  have t3 {Q:Prop} (q:Q):=t1 (aO c33 c33 c33 c33 c25 c33 c33 (aL c33 (bO 2 c29 ((bC 87 c31 (ZaH.bv x29) (bW bN)):BVs st22 [zQ (some i28),yC true 1 x27] (ZaD.ls (ZaD.mk x29 x27)))) (ZcK.snd c37) c33 q));refine Zbc h16 (fun c38 h17=>?_) (fun c38 h18=>?_)
  ·obtain ⟨x34,c39,h19⟩:=Zcs h17;obtain ⟨x35,c40,h20⟩:=Zcs h19;let o4:List PS:=o3++[cT,.r [(3,{oc:=[zQ (some i25),yC true 3 x24],oe:=x34.ls,yes:=false})],.r [(3,{oc:=[zQ (some i25),yC true 3 (zN x24 (0+(zD v6)) (ZaS.ls {x34 with out:=false}))],oe:=x35.ls})]]
   have t4 {Q:Prop} (q:Q):=t3 (aM c38 c39 c25 c40 (Zar c25 [zQ (some i25),yC true 3 (zN x24 (0+(zD v6)) (ZaS.ls {x34 with out:=false}))]) q);refine Zbc h20 (fun c41 h21=>?_) (fun c41 h22=>?_)
   ·exact aq fol (o4++[cT,.r [(3,{oc:=[zQ (some i25),yC true 3 (zN x24 (0+(zD v6)) (ZaS.ls {x34 with out:=false}))],oe:=x35.ls,yes:=false})],.s 4]) [0,1,18,19] [] (t4 (aJ c41 c40 (Zar c25 [zQ (some i25),yC true 3 (zN x24 (0+(zD v6)) (ZaS.ls {x34 with out:=false}))]))) (Zam.p2_ok h21 hE hc1)
   exact aq fol (o4++[cF,.s 4]) [0,1,18,19] [] (t4 c41) (Zam.p2_ok h22 hE hc1)
  exact aq fol (o3++[cF,.s 4]) [0,1,18,19] [] (t3 c38) (Zam.p2_ok h18 hE hc1)
 obtain ⟨st37,c42,h23⟩:=Zac h2;exact xT fol h23 hE [rZ,cF,.r [(1,{st:=st37})],rZ] (aI c24 (Zbh.snd c42))
theorem Zam.snd {m_0:Option Nat} {at_1:Int} {st:LL} {r:Int×LL} (h:Zam N m_0 at_1 st=some r):Snd zB 23 [.one (zQ m_0),oI at_1] st (Zam.rs r) r.2:=
 sO Zam.B Tryz.func23 fun g0 w0 R hE=>by
  unfold Zam at h;obtain ⟨⟨x1,st2⟩,c1,h24⟩:=Zac h;let o5:List PS:=[rZ,.r [(2,{rs:=[oI x1],st:=st2})],rZ]
  refine Zbc h24 (fun c2 h25=>?_) (fun c2 h26=>?_)
  ·exact xT fol h25 hE (o5++[cT,rZ]) (aI (ZbW.snd c1) c2)
  obtain ⟨i3,rfl,h27⟩:=Zac h26;obtain ⟨x4,x5,c4,h28⟩:=ZbP h27;exact aq fol (o5++[cF,.r [(3,{oc:=[zQ x4,yC true 3 x5]})]]) [0,1,18,19] [] (aJ (ZbW.snd c1) c2 c4) (At.loop N (At.loopN (fun y:Int×LL=>Zam.p1.S i3 at_1 x5 y.1 y.2) (fun c J hc y h=>Zam.p1_ok (v6:=y.1) (st22:=y.2) h hE (fun v6 st22=>hc (v6,st22))) N (0,st2) h28))
def ZaN.B:Code:=Tryz.f70.body.getD .skip
def ZaN.rs (r:LL):List CV:=[.row true 1 r]
def ZaN.p1 (N:Nat) (A0:Zab) (c1_:(LL×Int)→Option LL):(LL×Int)→Option LL:=fun (A3,A1)=> if (decide (A1≥0))=true then chk (zL ([[zK .i64 A1]]++A3)*8≤140737488355328)<| chk (0≤A1)<| chk (A1<(len A0.Ahead))<| Zde (A0.Ahead[zD A1]?) ZdX fun x4=> c1_ ([[zK .i64 A1]]++A3,x4) else some A3
def ZaN (N:Nat) (A0:Zab) (at_1:Int):Option LL:= loopN (ZaN.p1 N A0) N ([],at_1)
def ZaN.p1.S (A0:Zab) (A3:LL) (A1:Int) (st:LL):S:=mkS 22 [(0,.one (.l (vN 88 A0.ls))),(5,.one (.h (.row 5 0) 1 0 (zL A3))),(6,sI A1)] [(5,.row 0 true 1 A3)] st
theorem ZaN.p1_ok {A0 A3 A1 st r c1_ J1} (h:ZaN.p1 N A0 c1_ (A3,A1)=some r) (hE:En Tryz.f70 g0 w0 (ZaN.rs r) st R) (hc1 : ∀A3 A1,c1_ (A3,A1)=some r→At g0 w0 (ZaN.p1.S A0 A3 A1 st) J1):At g0 w0 (ZaN.p1.S A0 A3 A1 st) (XK zB R (cK ZaN.B [1,1,0,1,0,0] :: .h J1 :: [.b 0,cK ZaN.B [1,1,1]])):=by
 unfold ZaN.p1 at h;refine Zbc h (fun c6 h1=>?_) (fun c6 h2=>?_)
 ·obtain ⟨c7,c8,c9,h3⟩:=ck3 h1;obtain ⟨x4,c10,h4⟩:=Zdt h3;exact an fol [rZ,cT,.r [(4,{m:=4})],.r [(3,{oe:=A0.ls}),(6,{oe:=[zK .i64 x4]})]] [0,5,6] [5] (aO c6 z0 (eN (1)) z0 (eN (zL A3)) c7 (eO A0.ls) (aJ c8 c9 c10)) (hc1 ([[zK .i64 A1]]++A3) x4 h4)
 obtain rfl:=Zad h2;exact af fol hE [rZ,cF,rZ] [] 0 [0] (aJ c6 z0 (eN (zL A3)))
theorem ZaN.snd {A0:Zab} {at_1:Int} {r:LL} (h:ZaN N A0 at_1=some r):ZdP zB 70 [.one (vN 88 A0.ls),oI at_1] (ZaN.rs r):=fun st=>
 sO ZaN.B Tryz.func70 fun g0 w0 R hE=>by
  unfold ZaN at h;exact aq fol [.r [(0,{m:=2})],.r [(0,{m:=1})],rZ] [0,5,6] [5] trivial (At.loop N (At.loopN (fun y:LL×Int=>ZaN.p1.S A0 y.1 y.2 st) (fun c J hc y h=>ZaN.p1_ok (A3:=y.1) (A1:=y.2) h hE (fun A3 A1=>hc (A3,A1))) N ([],at_1) h))
def ZcD.B:Code:=Tryz.f64.body.getD .skip
def ZcD.rs (r:Bool):List CV:=[oB r]
def ZcD.p1 (N:Nat) (A1:Int) (x1:LL) (c1_:Int→Option Bool):Int→Option Bool:=fun v2=> if (decide (v2<(len x1)))=true then chk (0≤v2)<| Zde (x1[0+(zD v2)]?) ZdX fun x3=> if (x3==A1)=true then some true else c1_ (w64 (v2+1)) else some false
def ZcD (N:Nat) (A0:Zab) (A1 A2:Int):Option Bool:= Zbm (ZaN N A0 A2) fun x1=> chk (ZeB x1=true)<| loopN (ZcD.p1 N A1 x1) N 0
def ZcD.p1.S (A1:Int) (x1:LL) (v2:Int) (st:LL):S:=mkS 21 [(1,sI A1),(11,.one (.h (.row 11 0) 1 0 (zL x1))),(12,sI (len x1)),(13,sI v2)] [(11,.row 0 true 1 x1)] st
theorem ZcD.p1_ok {A1 x1 v2 st r c1_ J1} (h:ZcD.p1 N A1 x1 c1_ v2=some r) (hE:En Tryz.f64 g0 w0 (ZcD.rs r) st R) (hc1 : ∀v2,c1_ v2=some r→At g0 w0 (ZcD.p1.S A1 x1 v2 st) J1):At g0 w0 (ZcD.p1.S A1 x1 v2 st) (XK zB R (cK ZcD.B [1,0,1,0,0] :: .h J1 :: [.b 0,cK ZcD.B [1,1]])):=by
 unfold ZcD.p1 at h;refine Zbc h (fun c3 h1=>?_) (fun c3 h2=>?_)
 ·obtain ⟨c4,h3⟩:=Zbe h1;obtain ⟨x3,c5,h4⟩:=Zdt h3;let o1:List PS:=[rZ,cT,.r [(1,{oe:=[zK .i64 x3]})],rZ]
  refine Zbc h4 (fun c6 h5=>?_) (fun c6 h6=>?_)
  ·exact xS fol h5 hE (o1++[cT,rZ]) (aL c3 c4 (oD c3) c5 c6)
  exact an fol (o1++[cF,rZ]) [1,11,12,13] [11] (aL c3 c4 (oD c3) c5 c6) (hc1 (w64 (v2+1)) h6)
 exact xS fol h2 hE [rZ,cF,rZ] c3
theorem ZcD.snd {A0:Zab} {A1 A2:Int} {r:Bool} (h:ZcD N A0 A1 A2=some r):ZdP zB 64 [.one (vN 88 A0.ls),oI A1,oI A2] (ZcD.rs r):=fun st=>
 sO ZcD.B Tryz.func64 fun g0 w0 R hE=>by
  unfold ZcD at h;obtain ⟨x1,c1,h7⟩:=Zac h;obtain ⟨c2,h8⟩:=Zbe h7;exact aq fol [rZ,.r [(2,{rs:=[.row true 1 x1],ns:=[11],m:=10})]] [1,11,12,13] [11] (aI c2 (ZaN.snd c1)) (At.loop N (At.loopN (fun y:Int=>ZcD.p1.S A1 x1 y st) (fun c J hc y h=>ZcD.p1_ok h hE (fun v2=>hc v2)) N 0 h8))
def Zap.B:Code:=Tryz.f36.body.getD .skip
def Zap.rs (r:Int×LL):List CV:=[oI r.1]
def Zap.p2 (N:Nat) (c1_:((Option Nat)×Int×LL)→Option (Int×LL)) (A25:Option Nat) (i3:Nat) (A2:Int) (x4:Zab) (v5:Int) (st24:LL):Option (Int×LL):= c1_ (A25,w64 (v5+1),st24)
def Zap.p1 (N:Nat) (i3:Nat) (A2:Int) (x4:Zab) (c1_:((Option Nat)×Int×LL)→Option (Int×LL)):((Option Nat)×Int×LL)→Option (Int×LL):=fun (A15,v5,st16)=> if (decide (v5<(len x4.List_)))=true then Zde (st16[i3]?) Zbb fun x17=> Zbm (ZcD N x17 v5 A2) fun x18=> if x18=true then Zbm A15 fun i19=> chk (0≤v5)<| chk (v5<600)<| Zde (st16[i19]?) Zco fun x20=> if ((zF x20.Said (zD v5) 0)==2)=true then Zap.p2 N c1_ (some i19) i3 A2 x4 v5 (zN (zN st16 i19 (ZaF.ls {x20 with Out:=zN x20.Out (zD v5) false})) i19 (ZaF.ls (ZaF.mk (zN x20.Said (zD v5) 0) (zN x20.Out (zD v5) false)))) else Zap.p2 N c1_ (some i19) i3 A2 x4 v5 (zN st16 i19 (ZaF.ls {x20 with Out:=zN x20.Out (zD v5) false})) else Zbm (ZcD N x17 A2 v5) fun x21=> if x21=true then Zbm A15 fun i22=> chk (0≤v5)<| chk (v5<600)<| Zde (st16[i22]?) Zco fun x23=> if ((zF x23.Said (zD v5) 0)==2)=true then Zap.p2 N c1_ (some i22) i3 A2 x4 v5 (zN (zN st16 i22 (ZaF.ls {x23 with Out:=zN x23.Out (zD v5) false})) i22 (ZaF.ls (ZaF.mk (zN x23.Said (zD v5) 0) (zN x23.Out (zD v5) false)))) else Zap.p2 N c1_ (some i22) i3 A2 x4 v5 (zN st16 i22 (ZaF.ls {x23 with Out:=zN x23.Out (zD v5) false})) else Zap.p2 N c1_ A15 i3 A2 x4 v5 st16 else some (0,st16)
def Zap (N:Nat) (m_0 A1:Option Nat) (A2:Int) (st:LL):Option (Int×LL):= Zbm (Zdi N A1 A2 st) fun (x1,st2)=> if (decide (x1>0))=true then some (x1,st2) else Zbm A1 fun i3=> Zde (st2[i3]?) Zbb fun x4=> loopN (Zap.p1 N i3 A2 x4) N (m_0,0,st2)
def Zap.p2.S (A25:Option Nat) (i3:Nat) (A2:Int) (x4:Zab) (v5:Int) (st24:LL):S:=mkS 51 [(0,sP A25),(1,sP (some i3)),(2,sI A2),(19,sI (len x4.List_)),(20,sI v5)] [] st24
def Zap.p1.S (A15:Option Nat) (i3:Nat) (A2:Int) (x4:Zab) (v5:Int) (st16:LL):S:=mkS 51 [(0,sP A15),(1,sP (some i3)),(2,sI A2),(19,sI (len x4.List_)),(20,sI v5)] [] st16
theorem Zap.p2_ok {A25 i3 A2 x4 v5 st24 r c1_ J1} (h:Zap.p2 N c1_ A25 i3 A2 x4 v5 st24=some r) (hE:En Tryz.f36 g0 w0 (Zap.rs r) r.2 R) (hc1 : ∀A15 v5 st16,c1_ (A15,v5,st16)=some r→At g0 w0 (Zap.p1.S A15 i3 A2 x4 v5 st16) J1):At g0 w0 (Zap.p2.S A25 i3 A2 x4 v5 st24) (XK zB R [cK Zap.B [1,1,1,0,1,0,0,1,1,1],.h J1,.b 0,cK Zap.B [1,1,1,1]]):=by
 unfold Zap.p2 at h;exact an fol [rZ] [0,1,2,19,20] [] trivial (hc1 A25 (w64 (v5+1)) st24 h)
theorem Zap.p1_ok {A15 i3 A2 x4 v5 st16 r c1_ J1} (h:Zap.p1 N i3 A2 x4 c1_ (A15,v5,st16)=some r) (hE:En Tryz.f36 g0 w0 (Zap.rs r) r.2 R) (hc1 : ∀A15 v5 st16,c1_ (A15,v5,st16)=some r→At g0 w0 (Zap.p1.S A15 i3 A2 x4 v5 st16) J1):At g0 w0 (Zap.p1.S A15 i3 A2 x4 v5 st16) (XK zB R (cK Zap.B [1,1,1,0,1,0,0] :: .h J1 :: [.b 0,cK Zap.B [1,1,1,1]])):=by
 unfold Zap.p1 at h;refine Zbc h (fun c21 h1=>?_) (fun c21 h2=>?_)
 ·obtain ⟨x17,c22,h3⟩:=Zbd h1;obtain ⟨x18,c23,h4⟩:=Zac h3;let o1:List PS:=[rZ,cT,rZ]
  have t1 {Q:Prop} (q:Q):=aK c21 (bO 88 c22 (Zab.bv x17)) (ZcD.snd c23) q;refine Zbc h4 (fun c24 h5=>?_) (fun c24 h6=>?_)
  ·obtain ⟨i19,rfl,h7⟩:=Zac h5;obtain ⟨c26,c27,h8⟩:=ck2 h7;obtain ⟨x20,c28,h9⟩:=ZcS h8;let o2:List PS:=o1++[.r [(3,{rs:=[oB x18],m:=10,cv:=[.one (vN 88 x17.ls)]}),(5,wF),(6,wF),(7,wF),(8,wF)],cT,.r [(5,{oc:=x20.ls})],.r [(5,{oc:=ZaF.ls {x20 with Out:=zN x20.Out (zD v5) false}})]]
   have t2 {Q:Prop} (q:Q):=t1 (aO c24 c24 c24 c24 c24 eT c26 (aM c27 c28 c26 c27 (Zar c28 (ZaF.ls {x20 with Out:=zN x20.Out (zD v5) false})) q));refine Zbc h9 (fun c29 h10=>?_) (fun c29 h11=>?_)
   ·exact aq fol (o2++[cT,.r [(5,{oc:=ZaF.ls {x20 with Out:=zN x20.Out (zD v5) false}})],.s 4]) [0,1,2,19,20] [] (t2 (aK c29 c26 c27 (Zar c28 (ZaF.ls {x20 with Out:=zN x20.Out (zD v5) false})))) (Zap.p2_ok h10 hE hc1)
   exact aq fol (o2++[cF,.s 4]) [0,1,2,19,20] [] (t2 c29) (Zap.p2_ok h11 hE hc1)
  obtain ⟨x21,c30,h12⟩:=Zac h6;let o3:List PS:=o1++[.r [(3,{rs:=[oB x18],m:=10,cv:=[.one (vN 88 x17.ls)]}),(8,{rs:=[oB x21],m:=10,cv:=[.one (vN 88 x17.ls)]}),(9,yF)]]
  have t3 {Q:Prop} (q:Q):=t1 (aO c24 c24 c24 c24 (bO 88 c22 (Zab.bv x17)) (ZcD.snd c30) c24 q);refine Zbc h12 (fun c31 h13=>?_) (fun c31 h14=>?_)
  ·obtain ⟨i22,rfl,h15⟩:=Zac h13;obtain ⟨c33,c34,h16⟩:=ck2 h15;obtain ⟨x23,c35,h17⟩:=ZcS h16;let o4:List PS:=o3++[cT,.r [(5,{oc:=x23.ls})],.r [(5,{oc:=ZaF.ls {x23 with Out:=zN x23.Out (zD v5) false}})]]
   have t4 {Q:Prop} (q:Q):=t3 (aO c31 c33 c34 c35 c33 c34 (Zar c35 (ZaF.ls {x23 with Out:=zN x23.Out (zD v5) false})) q);refine Zbc h17 (fun c36 h18=>?_) (fun c36 h19=>?_)
   ·exact aq fol (o4++[cT,.r [(5,{oc:=ZaF.ls {x23 with Out:=zN x23.Out (zD v5) false}})],.s 4]) [0,1,2,19,20] [] (t4 (aK c36 c33 c34 (Zar c35 (ZaF.ls {x23 with Out:=zN x23.Out (zD v5) false})))) (Zap.p2_ok h18 hE hc1)
   exact aq fol (o4++[cF,.s 4]) [0,1,2,19,20] [] (t4 c36) (Zap.p2_ok h19 hE hc1)
  exact aq fol (o3++[cF,.s 4]) [0,1,2,19,20] [] (t3 c31) (Zap.p2_ok h14 hE hc1)
 exact xT fol h2 hE [rZ,cF,rZ] c21
theorem Zap.snd {m_0 A1:Option Nat} {A2:Int} {st:LL} {r:Int×LL} (h:Zap N m_0 A1 A2 st=some r):Snd zB 36 [.one (zQ m_0),.one (zQ A1),oI A2] st (Zap.rs r) r.2:=
 sO Zap.B Tryz.func36 fun g0 w0 R hE=>by
  unfold Zap at h;obtain ⟨⟨x1,st2⟩,c1,h20⟩:=Zac h;let o5:List PS:=[rZ,.r [(2,{rs:=[oI x1],st:=st2})],rZ]
  refine Zbc h20 (fun c2 h21=>?_) (fun c2 h22=>?_)
  ·exact xT fol h21 hE (o5++[cT,rZ]) (aI (Zdi.snd c1) c2)
  obtain ⟨i3,rfl,h23⟩:=Zac h22;obtain ⟨x4,c4,h24⟩:=Zbd h23;exact aq fol (o5++[cF,.r [(3,{oc:=x4.lo})]]) [0,1,2,19,20] [] (aJ (Zdi.snd c1) c2 c4) (At.loop N (At.loopN (fun y:(Option Nat)×Int×LL=>Zap.p1.S y.1 i3 A2 x4 y.2.1 y.2.2) (fun c J hc y h=>Zap.p1_ok (A15:=y.1) (v5:=y.2.1) (st16:=y.2.2) h hE (fun A15 v5 st16=>hc (A15,v5,st16))) N (m_0,0,st2) h24))
def ZbD.B:Code:=Tryz.f12.body.getD .skip
def ZbD.rs (r:Bool×LL):List CV:=[oB r.1]
def ZbD.p1 (N:Nat) (st45:LL):Option (Bool×LL):= some (true,st45)
def ZbD (N:Nat) (A0:Option Nat) (A1:ZbJ) (st:LL):Option (Bool×LL):= if (A1.Kind==0)=true then Zbm A0 fun i1=> Zde (st[i1]?) ZbG fun x2 x3 x4 x5=> Zbm (Zcp N x2 A1.Header A1.Now st) fun (x6,x7,x8,st9)=> Zde (st9[i1]?) ZbG fun x10 x11 x12 x13=> Zbm (Zdr N x12 A1.Header A1.Now st9) fun (x14,x15,x16,st17)=> ZbD.p1 N st17 else if (A1.Kind==1)=true then Zbm A0 fun i18=> Zde (st[i18]?) ZbG fun x19 x20 x21 x22=> Zbm (ZaB N x20 A1.N A1.Right st) fun (x23,st24)=> chk (eqO (st24[i18]?) (some [zQ x19,zQ x20,zQ x21,zQ x22])=true)<| Zbm (ZaZ N x22 x21 A1.N A1.Right st24) fun (x25,st26)=> some (x23==x25,st26) else if (A1.Kind==2)=true then Zbm A0 fun i27=> Zde (st[i27]?) ZbG fun x28 x29 x30 x31=> Zbm (ZbE N x29 A1.N st) fun (x32,st33)=> chk (eqO (st33[i27]?) (some [zQ x28,zQ x29,zQ x30,zQ x31])=true)<| Zbm (ZaR N x31 x30 A1.N st33) fun (x34,st35)=> some (x32==x34,st35) else if (A1.Kind==3)=true then Zbm A0 fun i36=> Zde (st[i36]?) ZbG fun x37 x38 x39 x40=> Zbm (Zam N x38 A1.N st) fun (x41,st42)=> chk (eqO (st42[i36]?) (some [zQ x37,zQ x38,zQ x39,zQ x40])=true)<| Zbm (Zap N x40 x39 A1.N st42) fun (x43,st44)=> some (x41==x43,st44) else ZbD.p1 N st
def ZbD.p1.S (st45:LL):S:=mkS 94 [] [] st45
theorem ZbD.p1_ok {st45 r} (h:ZbD.p1 N st45=some r) (hE:En Tryz.f12 g0 w0 (ZbD.rs r) r.2 R):At g0 w0 (ZbD.p1.S st45) (XK zB R [cK ZbD.B [1,1]]):=by
 unfold ZbD.p1 at h;exact xT fol h hE [rZ] trivial
theorem ZbD.snd {A0:Option Nat} {A1:ZbJ} {st:LL} {r:Bool×LL} (h:ZbD N A0 A1 st=some r):Snd zB 12 [.one (zQ A0),.agg A1.ls] st (ZbD.rs r) r.2:=
 sO ZbD.B Tryz.func12 fun g0 w0 R hE=>by
  unfold ZbD at h;let o1:List PS:=[rZ,rZ,rZ]
  refine Zbc h (fun c1 h1=>?_) (fun c1 h2=>?_)
  ·obtain ⟨i1,rfl,h3⟩:=Zac h1;obtain ⟨x2,x3,x4,x5,c3,h4⟩:=ZbS h3;obtain ⟨⟨x6,x7,x8,st9⟩,c4,h5⟩:=Zac h4;obtain ⟨x10,x11,x12,x13,c5,h6⟩:=ZbS h5;obtain ⟨⟨x14,x15,x16,st17⟩,c6,h7⟩:=Zac h6;exact aqd fol (o1++[cT,.d {ds:=[(3,{oc:=(qla x2 x3 x4 x5)}),(8,{rs:=[oI x6,oI x7,oI x8],st:=st9})],hv:=256,Hs:=[256]},.d {ds:=[(3,{oc:=(qla x10 x11 x12 x13)}),(8,{rs:=[oI x14,oI x15,oI x16],st:=st17})],hv:=256,Hs:=[256]},.s 1]) [] [] (aL c1 c3 (Zcp.snd c4) c5 (Zdr.snd c6)) (ZbD.p1_ok h7 hE)
  let o2:List PS:=o1++[cF,rZ]
  refine Zbc h2 (fun c7 h8=>?_) (fun c7 h9=>?_)
  ·obtain ⟨i18,rfl,h10⟩:=Zac h8;obtain ⟨x19,x20,x21,x22,c9,h11⟩:=ZbS h10;obtain ⟨⟨x23,st24⟩,c10,h12⟩:=Zac h11;obtain ⟨c11,h13⟩:=Zbe h12;obtain ⟨⟨x25,st26⟩,c12,h14⟩:=Zac h13;exact xTd fol h14 hE (o2++[cT,.d {ds:=[(3,{oc:=(qla x19 x20 x21 x22)}),(8,{rs:=[oI x23],st:=st24}),(12,{oc:=(qla x19 x20 x21 x22)}),(16,{oc:=(qla x19 x20 x21 x22)}),(21,{rs:=[oI x25],st:=st26})],hv:=2097408,Hs:=[256,2097408]}]) (aO c1 c7 c9 (ZaB.snd c10) c9 (ZfI c11) c9 (aI (ZfI c11) (ZaZ.snd c12)))
  refine Zbc h9 (fun c13 h15=>?_) (fun c13 h16=>?_)
  ·obtain ⟨i27,rfl,h17⟩:=Zac h15;obtain ⟨x28,x29,x30,x31,c15,h18⟩:=ZbS h17;obtain ⟨⟨x32,st33⟩,c16,h19⟩:=Zac h18;obtain ⟨c17,h20⟩:=Zbe h19;obtain ⟨⟨x34,st35⟩,c18,h21⟩:=Zac h20;exact xTd fol h21 hE (o2++[cF,rZ,cT,.d {ds:=[(3,{oc:=(qla x28 x29 x30 x31)}),(6,{rs:=[oI x32],st:=st33}),(10,{oc:=(qla x28 x29 x30 x31)}),(14,{oc:=(qla x28 x29 x30 x31)}),(17,{rs:=[oI x34],st:=st35})],hv:=131136,Hs:=[64,131136]}]) (aO c1 c7 c13 c15 (ZbE.snd c16) c15 (ZfI c17) (aJ c15 (ZfI c17) (ZaR.snd c18)))
  refine Zbc h16 (fun c19 h22=>?_) (fun c19 h23=>?_)
  ·obtain ⟨i36,rfl,h24⟩:=Zac h22;obtain ⟨x37,x38,x39,x40,c21,h25⟩:=ZbS h24;obtain ⟨⟨x41,st42⟩,c22,h26⟩:=Zac h25;obtain ⟨c23,h27⟩:=Zbe h26;obtain ⟨⟨x43,st44⟩,c24,h28⟩:=Zac h27;exact xTd fol h28 hE (o2++[cF,rZ,cF,rZ,cT,.d {ds:=[(3,{oc:=(qla x37 x38 x39 x40)}),(6,{rs:=[oI x41],st:=st42}),(10,{oc:=(qla x37 x38 x39 x40)}),(14,{oc:=(qla x37 x38 x39 x40)}),(17,{rs:=[oI x43],st:=st44})],hv:=131136,Hs:=[64,131136]}]) (aO c1 c7 c13 c19 c21 (Zam.snd c22) c21 (aK (ZfI c23) c21 (ZfI c23) (Zap.snd c24)))
  exact aq fol (o2++[cF,rZ,cF,rZ,cF,.s 1]) [] [] (aK c1 c7 c13 c19) (ZbD.p1_ok h23 hE)
def ZcZ.B:Code:=Tryz.f20.body.getD .skip
def ZcZ.rs (r:Int×Bool×LL):List CV:=[oI r.1,oB r.2.1]
def ZcZ (N:Nat) (m_0:Option Nat) (at_1:Int) (st:LL):Option (Int×Bool×LL):= Zbm (ZbA N m_0 at_1 st) fun (x1,st2)=> if (!x1)=true then some (0,false,st2) else Zbm m_0 fun i3=> Zde (st2[i3]?) Zca fun x4 x5=> chk (0≤at_1)<| chk (at_1<(len x5))<| Zde (x5[0+(zD at_1)]?) Zcz fun x6=> some (x6.verdict,x6.out,st2)
theorem ZcZ.snd {m_0:Option Nat} {at_1:Int} {st:LL} {r:Int×Bool×LL} (h:ZcZ N m_0 at_1 st=some r):Snd zB 20 [.one (zQ m_0),oI at_1] st (ZcZ.rs r) r.2.2:=
 sO ZcZ.B Tryz.func20 fun g0 w0 R hE=>by
  unfold ZcZ at h;obtain ⟨⟨x1,st2⟩,c1,h1⟩:=Zac h;let o1:List PS:=[rZ,.r [(2,{rs:=[oB x1],st:=st2})]]
  refine Zbc h1 (fun c2 h2=>?_) (fun c2 h3=>?_)
  ·exact xU fol h2 hE (o1++[cT,rZ]) (aI (ZbA.snd c1) c2)
  obtain ⟨i3,rfl,h4⟩:=Zac h3;obtain ⟨x4,x5,c4,h5⟩:=ZbP h4;obtain ⟨c5,c6,h6⟩:=ck2 h5;obtain ⟨x6,c7,h7⟩:=Zcs h6;exact xUd fol h7 hE (o1++[cF,.d {ds:=[(3,{oc:=[zQ x4,yC true 3 x5]}),(7,{oc:=[zQ x4,yC true 3 x5],oe:=x6.ls}),(11,{oc:=[zQ x4,yC true 3 x5]}),(15,{oc:=[zQ x4,yC true 3 x5],oe:=x6.ls})],hv:=0,Hs:=[]}]) (aO (ZbA.snd c1) c2 c4 c5 c6 c7 c4 (aL c4 c5 c6 c7 c4))
def ZcE.B:Code:=Tryz.f25.body.getD .skip
def ZcE.rs (r:Bool×LL):List CV:=[oB r.1]
def ZcE (N:Nat) (m_0:Option Nat) (at_1:Int) (st:LL):Option (Bool×LL):= Zbm m_0 fun i1=> chk (0≤at_1)<| chk (at_1<600)<| Zde (st[i1]?) Zco fun x2=> if (zF x2.Out (zD at_1) false)=true then some (true,st) else some ((zF x2.Said (zD at_1) 0)==2,st)
theorem ZcE.snd {m_0:Option Nat} {at_1:Int} {st:LL} {r:Bool×LL} (h:ZcE N m_0 at_1 st=some r):Snd zB 25 [.one (zQ m_0),oI at_1] st (ZcE.rs r) r.2:=
 sO ZcE.B Tryz.func25 fun g0 w0 R hE=>by
  unfold ZcE at h;obtain ⟨i1,rfl,h1⟩:=Zac h;obtain ⟨c2,c3,h2⟩:=ck2 h1;obtain ⟨x2,c4,h3⟩:=ZcS h2;refine Zbc h3 (fun c5 h4=>?_) (fun c5 h5=>?_)
  ·exact xT fol h4 hE [rZ,.r [(5,{oc:=x2.ls}),(7,wF),(8,wF),(9,wF),(10,wF),(11,wF),(12,wF),(13,wF)]] (aO c2 c3 c4 c5 c5 c5 c5 (aK c5 c5 c5 c5))
  exact xT fol h5 hE [rZ,.r [(5,{oc:=x2.ls}),(12,{oc:=x2.ls}),(14,yF)]] (aO c2 c3 c4 c5 c5 c5 c5 (aN c5 c2 c3 c5 c4 c5 c5))
def Zbj.B:Code:=Tryz.f45.body.getD .skip
def Zbj.rs (r:Bool×LL):List CV:=[oB r.1]
def Zbj.p1 (N:Nat) (m_0:Option Nat) (A2:Int) (x3:LL) (c1_:(Int×LL)→Option (Bool×LL)):(Int×LL)→Option (Bool×LL):=fun (v4,st8)=> if (decide (v4<(len x3)))=true then chk (0≤v4)<| Zde (x3[0+(zD v4)]?) ZdX fun x9=> if (x9 != A2)=true then Zbm (ZcE N m_0 x9 st8) fun (x10,st11)=> if x10=true then some (true,st11) else c1_ (w64 (v4+1),st11) else c1_ (w64 (v4+1),st8) else some (false,st8)
def Zbj (N:Nat) (m_0 A1:Option Nat) (A2:Int) (st:LL):Option (Bool×LL):= if (decide (A2<0))=true then some (false,st) else Zbm A1 fun i1=> Zde (st[i1]?) Zbb fun x2=> if (decide (A2≥(len x2.List_)))=true then some (false,st) else Zbm (ZaN N x2 A2) fun x3=> chk (ZeB x3=true)<| loopN (Zbj.p1 N m_0 A2 x3) N (0,st)
def Zbj.p1.S (m_0:Option Nat) (A2:Int) (x3:LL) (v4:Int) (st8:LL):S:=mkS 37 [(0,sP m_0),(2,sI A2),(22,.one (.h (.row 22 0) 1 0 (zL x3))),(23,sI (len x3)),(24,sI v4)] [(22,.row 0 true 1 x3)] st8
theorem Zbj.p1_ok {m_0 A2 x3 v4 st8 r c1_ J1} (h:Zbj.p1 N m_0 A2 x3 c1_ (v4,st8)=some r) (hE:En Tryz.f45 g0 w0 (Zbj.rs r) r.2 R) (hc1 : ∀v4 st8,c1_ (v4,st8)=some r→At g0 w0 (Zbj.p1.S m_0 A2 x3 v4 st8) J1):At g0 w0 (Zbj.p1.S m_0 A2 x3 v4 st8) (XK zB R (cK Zbj.B [1,1,0,1,0,0] :: .h J1 :: [.b 0,cK Zbj.B [1,1,1]])):=by
 unfold Zbj.p1 at h;refine Zbc h (fun c13 h1=>?_) (fun c13 h2=>?_)
 ·obtain ⟨c14,h3⟩:=Zbe h1;obtain ⟨x9,c15,h4⟩:=Zdt h3;let o1:List PS:=[rZ,cT,.r [(1,{oe:=[zK .i64 x9]})]]
  have t1 {Q:Prop} (q:Q):=aL c13 c14 (oD c13) c15 q;refine Zbc h4 (fun c16 h5=>?_) (fun c16 h6=>?_)
  ·obtain ⟨⟨x10,st11⟩,c17,h7⟩:=Zac h5;let o2:List PS:=o1++[.r [(6,{rs:=[oB x10],st:=st11})]]
   have t2 {Q:Prop} (q:Q):=t1 (aM c16 c16 c16 (ZcE.snd c17) c16 q);refine Zbc h7 (fun c18 h8=>?_) (fun c18 h9=>?_)
   ·exact xT fol h8 hE (o2++[cT,rZ]) (t2 c18)
   exact an fol (o2++[cF,rZ]) [0,2,22,23,24] [22] (t2 c18) (hc1 (w64 (v4+1)) st11 h9)
  exact an fol (o1++[.r [(4,wF),(5,wF),(6,wF),(7,yF)],cF,rZ]) [0,2,22,23,24] [22] (t1 (aL c16 c16 c16 c16 eF)) (hc1 (w64 (v4+1)) st8 h6)
 exact xT fol h2 hE [rZ,cF,rZ] c13
theorem Zbj.snd {m_0 A1:Option Nat} {A2:Int} {st:LL} {r:Bool×LL} (h:Zbj N m_0 A1 A2 st=some r):Snd zB 45 [.one (zQ m_0),.one (zQ A1),oI A2] st (Zbj.rs r) r.2:=
 sO Zbj.B Tryz.func45 fun g0 w0 R hE=>by
  unfold Zbj at h;refine Zbc h (fun c1 h10=>?_) (fun c1 h11=>?_)
  ·exact xT fol h10 hE [rZ,.r [(3,wF),(4,wF),(5,wF),(6,wF),(7,wF),(8,wF),(9,wF)],cT,rZ] (aO c1 c1 c1 c1 c1 c1 c1 (aI c1 eT))
  obtain ⟨i1,rfl,h12⟩:=Zac h11;obtain ⟨x2,c3,h13⟩:=Zbd h12;let o3:List PS:=[rZ,.r [(7,{oc:=x2.lo}),(10,yF)]]
  refine Zbc h13 (fun c4 h14=>?_) (fun c4 h15=>?_)
  ·exact xT fol h14 hE (o3++[cT,rZ]) (aO c1 c1 c1 c1 c1 c3 c1 (aJ c1 c1 c4))
  obtain ⟨x3,c5,h16⟩:=Zac h15;obtain ⟨c6,h17⟩:=Zbe h16;exact aq fol (o3++[cF,.r [(2,{rs:=[.row true 1 x3],ns:=[22],m:=10,cv:=[.one (vN 88 x2.ls)]})]]) [0,2,22,23,24] [22] (aO c1 c1 c1 c1 c1 c3 c1 (aM c1 c1 c4 (bO 88 c3 (Zab.bv x2)) c6 (ZaN.snd c5))) (At.loop N (At.loopN (fun y:Int×LL=>Zbj.p1.S m_0 A2 x3 y.1 y.2) (fun c J hc y h=>Zbj.p1_ok (v4:=y.1) (st8:=y.2) h hE (fun v4 st8=>hc (v4,st8))) N (0,st) h17))
def ZcF.B:Code:=Tryz.f27.body.getD .skip
def ZcF.rs (r:Bool×LL):List CV:=[oB r.1]
def ZcF (N:Nat) (m_0 A1:Option Nat) (A2:Int) (st:LL):Option (Bool×LL):= if (decide (A2≥0))=true then Zbm A1 fun i1=> Zde (st[i1]?) Zbb fun x2=> if (decide (A2<(len x2.List_)))=true then Zbm (ZcE N m_0 A2 st) fun (x3,st4)=> if x3=true then some (true,st4) else Zbm (Zbj N m_0 (some i1) A2 st4) fun (x5,st6)=> some (x5,st6) else some (false,st) else some (false,st)
theorem ZcF.snd {m_0 A1:Option Nat} {A2:Int} {st:LL} {r:Bool×LL} (h:ZcF N m_0 A1 A2 st=some r):Snd zB 27 [.one (zQ m_0),.one (zQ A1),oI A2] st (ZcF.rs r) r.2:=
 sO ZcF.B Tryz.func27 fun g0 w0 R hE=>by
  unfold ZcF at h;refine Zbc h (fun c1 h1=>?_) (fun c1 h2=>?_)
  ·obtain ⟨i1,rfl,h3⟩:=Zac h1;obtain ⟨x2,c3,h4⟩:=Zbd h3;have t1 {Q:Prop} (q:Q):=aO c1 c1 c1 c1 c1 c3 c1 (aJ c1 c1 q);refine Zbc h4 (fun c4 h5=>?_) (fun c4 h6=>?_)
   ·obtain ⟨⟨x3,st4⟩,c5,h7⟩:=Zac h5;have t2 {Q:Prop} (q:Q):=t1 (aM c4 c4 c4 (ZcE.snd c5) c4 q);refine Zbc h7 (fun c6 h8=>?_) (fun c6 h9=>?_)
    ·exact xT fol h8 hE [rZ,.r [(7,{oc:=x2.lo}),(14,{rs:=[oB x3],st:=st4}),(16,wF),(17,wF),(18,wF),(19,wF)]] (t2 (aN c6 c6 c6 c6 c4 c6 c4))
    obtain ⟨⟨x5,st6⟩,c7,h10⟩:=Zac h9;exact xT fol h10 hE [rZ,.r [(7,{oc:=x2.lo}),(14,{rs:=[oB x3],st:=st4}),(19,{rs:=[oB x5],st:=st6}),(20,yF)]] (t2 (aO c6 c6 c6 c6 (Zbj.snd c7) c4 c6 c4))
   exact xT fol h6 hE [rZ,.r [(7,{oc:=x2.lo}),(12,wF),(13,wF),(14,wF),(15,wF),(20,wF),(21,yF)]] (t1 (aM c4 c4 c4 c4 c4 c4))
  exact xT fol h2 hE [rZ,.r [(3,wF),(4,wF),(5,wF),(6,wF),(7,wF),(8,wF),(9,wF),(10,yF),(12,wF),(13,wF),(14,wF),(15,wF),(20,wF),(21,yF)]] (aO c1 c1 c1 c1 c1 c1 c1 (aN c1 eF eF eF eF eF eF))
def ZcM.B:Code:=Tryz.f18.body.getD .skip
def ZcM.rs (r:Bool×LL):List CV:=[oB r.1]
def ZcM (N:Nat) (m_0:Option Nat) (at_1:Int) (st:LL):Option (Bool×LL):= Zbm (ZbA N m_0 at_1 st) fun (x1,st2)=> if x1=true then Zbm m_0 fun i3=> Zde (st2[i3]?) Zca fun x4 x5=> chk (0≤at_1)<| chk (at_1<(len x5))<| Zde (x5[0+(zD at_1)]?) Zcz fun x6=> some (x6.child,st2) else some (false,st2)
theorem ZcM.snd {m_0:Option Nat} {at_1:Int} {st:LL} {r:Bool×LL} (h:ZcM N m_0 at_1 st=some r):Snd zB 18 [.one (zQ m_0),oI at_1] st (ZcM.rs r) r.2:=
 sO ZcM.B Tryz.func18 fun g0 w0 R hE=>by
  unfold ZcM at h;obtain ⟨⟨x1,st2⟩,c1,h1⟩:=Zac h;refine Zbc h1 (fun c2 h2=>?_) (fun c2 h3=>?_)
  ·obtain ⟨i3,rfl,h4⟩:=Zac h2;obtain ⟨x4,x5,c4,h5⟩:=ZbP h4;obtain ⟨c5,c6,h6⟩:=ck2 h5;obtain ⟨x6,c7,h7⟩:=Zcs h6;exact xT fol h7 hE [rZ,.r [(2,{rs:=[oB x1],st:=st2}),(7,{oc:=[zQ x4,yC true 3 x5]}),(11,{oc:=[zQ x4,yC true 3 x5],oe:=x6.ls})]] (aO (ZbA.snd c1) c2 c2 c2 c2 c4 c2 (aO c2 c5 c6 c2 c2 c7 c4 c2))
  exact xT fol h3 hE [rZ,.r [(2,{rs:=[oB x1],st:=st2}),(4,wF),(5,wF),(6,wF),(7,wF),(8,wF),(9,wF),(10,wF),(11,wF),(12,yF)]] (aO (ZbA.snd c1) c2 c2 c2 c2 c2 c2 (aJ c2 c2 c2))
def Zbi.B:Code:=Tryz.f46.body.getD .skip
def Zbi.rs (r:Bool×LL):List CV:=[oB r.1]
def Zbi.p1 (N:Nat) (x3 st:LL) (c1_:((Option Nat)×Int)→Option (Bool×LL)):((Option Nat)×Int)→Option (Bool×LL):=fun (A8,v4)=> if (decide (v4<(len x3)))=true then chk (0≤v4)<| Zde (x3[0+(zD v4)]?) ZdX fun x9=> Zbm A8 fun i10=> chk (0≤x9)<| chk (x9<600)<| Zde (st[i10]?) Zco fun x11=> if ((zF x11.Said (zD x9) 0) != 1)=true then some (false,st) else if (zF x11.Out (zD x9) false)=true then some (false,st) else c1_ ((some i10),w64 (v4+1)) else some (true,st)
def Zbi (N:Nat) (m_0 A1:Option Nat) (A2:Int) (st:LL):Option (Bool×LL):= if (decide (A2<0))=true then some (false,st) else Zbm A1 fun i1=> Zde (st[i1]?) Zbb fun x2=> if (decide (A2≥(len x2.List_)))=true then some (false,st) else Zbm (ZaN N x2 A2) fun x3=> chk (ZeB x3=true)<| loopN (Zbi.p1 N x3 st) N (m_0,0)
def Zbi.p1.S (A8:Option Nat) (x3:LL) (v4:Int) (st:LL):S:=mkS 44 [(0,sP A8),(22,.one (.h (.row 22 0) 1 0 (zL x3))),(23,sI (len x3)),(24,sI v4)] [(22,.row 0 true 1 x3)] st
theorem Zbi.p1_ok {A8 x3 v4 st r c1_ J1} (h:Zbi.p1 N x3 st c1_ (A8,v4)=some r) (hE:En Tryz.f46 g0 w0 (Zbi.rs r) r.2 R) (hc1 : ∀A8 v4,c1_ (A8,v4)=some r→At g0 w0 (Zbi.p1.S A8 x3 v4 st) J1):At g0 w0 (Zbi.p1.S A8 x3 v4 st) (XK zB R (cK Zbi.B [1,1,0,1,0,0] :: .h J1 :: [.b 0,cK Zbi.B [1,1,1]])):=by
 unfold Zbi.p1 at h;refine Zbc h (fun c16 h1=>?_) (fun c16 h2=>?_)
 ·obtain ⟨c17,h3⟩:=Zbe h1;obtain ⟨x9,c18,h4⟩:=Zdt h3;obtain ⟨i10,rfl,h5⟩:=Zac h4;obtain ⟨c20,c21,h6⟩:=ck2 h5;obtain ⟨x11,c22,h7⟩:=ZcS h6;let o1:List PS:=[rZ,cT,.r [(1,{oe:=[zK .i64 x9]})]]
  have t1 {Q:Prop} (q:Q):=aO c16 c17 (oD c16) c18 c20 c21 c22 q;refine Zbc h7 (fun c23 h8=>?_) (fun c23 h9=>?_)
  ·exact xT fol h8 hE (o1++[.r [(5,{oc:=x11.ls}),(8,wF),(9,wF),(10,wF),(11,wF),(12,wF),(13,wF)],cT,rZ]) (t1 (aO c23 c23 c23 c23 c23 c23 c23 eT))
  let o2:List PS:=o1++[.r [(5,{oc:=x11.ls}),(13,{oc:=x11.ls}),(14,yF)]]
  have t2 {Q:Prop} (q:Q):=t1 (aO c23 c23 c23 c23 c23 c20 c21 (aK c23 c22 c23 q));refine Zbc h9 (fun c24 h10=>?_) (fun c24 h11=>?_)
  ·exact xT fol h10 hE (o2++[cT,rZ]) (t2 c24)
  exact an fol (o2++[cF,rZ]) [0,22,23,24] [22] (t2 c24) (hc1 (some i10) (w64 (v4+1)) h11)
 exact xT fol h2 hE [rZ,cF,rZ] c16
theorem Zbi.snd {m_0 A1:Option Nat} {A2:Int} {st:LL} {r:Bool×LL} (h:Zbi N m_0 A1 A2 st=some r):Snd zB 46 [.one (zQ m_0),.one (zQ A1),oI A2] st (Zbi.rs r) r.2:=
 sO Zbi.B Tryz.func46 fun g0 w0 R hE=>by
  unfold Zbi at h;refine Zbc h (fun c1 h12=>?_) (fun c1 h13=>?_)
  ·exact xT fol h12 hE [rZ,.r [(3,wF),(4,wF),(5,wF),(6,wF),(7,wF),(8,wF),(9,wF)],cT,rZ] (aO c1 c1 c1 c1 c1 c1 c1 (aI c1 eT))
  obtain ⟨i1,rfl,h14⟩:=Zac h13;obtain ⟨x2,c3,h15⟩:=Zbd h14;let o3:List PS:=[rZ,.r [(7,{oc:=x2.lo}),(10,yF)]]
  refine Zbc h15 (fun c4 h16=>?_) (fun c4 h17=>?_)
  ·exact xT fol h16 hE (o3++[cT,rZ]) (aO c1 c1 c1 c1 c1 c3 c1 (aJ c1 c1 c4))
  obtain ⟨x3,c5,h18⟩:=Zac h17;obtain ⟨c6,h19⟩:=Zbe h18;exact aq fol (o3++[cF,.r [(2,{rs:=[.row true 1 x3],ns:=[22],m:=10,cv:=[.one (vN 88 x2.ls)]})]]) [0,22,23,24] [22] (aO c1 c1 c1 c1 c1 c3 c1 (aM c1 c1 c4 (bO 88 c3 (Zab.bv x2)) c6 (ZaN.snd c5))) (At.loop N (At.loopN (fun y:(Option Nat)×Int=>Zbi.p1.S y.1 x3 y.2 st) (fun c J hc y h=>Zbi.p1_ok (A8:=y.1) (v4:=y.2) h hE (fun A8 v4=>hc (A8,v4))) N (m_0,0) h19))
def ZcN.B:Code:=Tryz.f92.body.getD .skip
def ZcN.rs (r:(List Int)):List CV:=[.agg [zI .u64 4 r]]
def ZcN (N:Nat) (A0:Zab) (at_1:Int):Option (List Int):= chk (0≤at_1)<| chk (at_1<(len A0.Works))<| Zde (A0.Works[zD at_1]?) Zgp fun x1=> some x1
theorem ZcN.snd {A0:Zab} {at_1:Int} {r:(List Int)} (h:ZcN N A0 at_1=some r):ZdP zB 92 [.one (vN 88 A0.ls),oI at_1] (ZcN.rs r):=fun st=>
 sO ZcN.B Tryz.func92 fun g0 w0 R hE=>by
  unfold ZcN at h;obtain ⟨c1,c2,h1⟩:=ck2 h;obtain ⟨x1,c3,h2⟩:=ZhQ h1;exact xS fol h2 hE [rZ,.r [(3,{oe:=A0.ls}),(6,{oe:=[zI .u64 4 x1]})]] (aK (eO A0.ls) c1 c2 c3)
def Zdg.B:Code:=Tryz.f71.body.getD .skip
def Zdg.rs (r:Bool):List CV:=[oB r]
def Zdg (N:Nat) (A0:Zab) (A1 A2:Int):Option Bool:= Zbm (ZcN N A0 A1) fun x1=> Zbm (ZcN N A0 A2) fun x2=> Zbm (ZbI N x2 x1) fun x3=> if x3=true then some true else if (x1==x2)=true then some (decide (A1<A2)) else some false
theorem Zdg.snd {A0:Zab} {A1 A2:Int} {r:Bool} (h:Zdg N A0 A1 A2=some r):ZdP zB 71 [.one (vN 88 A0.ls),oI A1,oI A2] (Zdg.rs r):=fun st=>
 sO Zdg.B Tryz.func71 fun g0 w0 R hE=>by
  unfold Zdg at h;obtain ⟨x1,c1,h1⟩:=Zac h;obtain ⟨x2,c2,h2⟩:=Zac h1;obtain ⟨x3,c3,h3⟩:=Zac h2;let o1:List PS:=[rZ,.r [(2,q0 [.agg [zI .u64 4 x1]])],.r [(2,q0 [.agg [zI .u64 4 x2]])]]
  have t1 {Q:Prop} (q:Q):=aK (ZcN.snd c1) (ZcN.snd c2) (ZbI.snd c3) q;refine Zbc h3 (fun c4 h4=>?_) (fun c4 h5=>?_)
  ·exact xS fol h4 hE (o1++[.r [(2,q1 [oB x3]),(4,wF),(5,wF),(6,wF),(7,wF),(11,wF)]]) (t1 (aM c4 c4 c4 c4 c4 c4))
  refine Zbc h5 (fun c5 h6=>?_) (fun c5 h7=>?_)
  ·exact xS fol h6 hE (o1++[.r [(2,q1 [oB x3]),(12,yF)]]) (t1 (aO c4 c4 c4 c4 c5 c5 c5 (aJ c4 c5 c4)))
  exact xS fol h7 hE (o1++[.r [(2,q1 [oB x3]),(8,wF),(9,wF),(10,wF),(11,yF),(12,yF)]]) (t1 (aO c4 c4 c4 c4 c5 c5 c5 (aJ c4 c5 c4)))
def ZaJ.B:Code:=Tryz.f47.body.getD .skip
def ZaJ.rs (r:Int×LL):List CV:=[oI r.1]
def ZaJ.p2 (N:Nat) (c1_:(Int×Int×LL)→Option (Int×LL)) (m_0:Option Nat) (i1:Nat) (A15:Int) (x2:Zab) (v4:Int) (st12:LL):Option (Int×LL):= c1_ (A15,w64 (v4+1),st12)
def ZaJ.p1 (N:Nat) (m_0:Option Nat) (i1:Nat) (x2:Zab) (c1_:(Int×Int×LL)→Option (Int×LL)):(Int×Int×LL)→Option (Int×LL):=fun (A3,v4,st10)=> if (decide (v4<(len x2.List_)))=true then Zbm (Zbi N m_0 (some i1) v4 st10) fun (x11,st12)=> if x11=true then Zde (st12[i1]?) Zbb fun x13=> Zbm (Zdg N x13 v4 A3) fun x14=> if x14=true then ZaJ.p2 N c1_ m_0 i1 v4 x2 v4 st12 else ZaJ.p2 N c1_ m_0 i1 A3 x2 v4 st12 else ZaJ.p2 N c1_ m_0 i1 A3 x2 v4 st12 else some (A3,st10)
def ZaJ (N:Nat) (m_0 A1:Option Nat) (st:LL):Option (Int×LL):= Zbm A1 fun i1=> Zde (st[i1]?) Zbb fun x2=> loopN (ZaJ.p1 N m_0 i1 x2) N (0,0,st)
def ZaJ.p2.S (m_0:Option Nat) (i1:Nat) (A15:Int) (x2:Zab) (v4:Int) (st12:LL):S:=mkS 28 [(0,sP m_0),(1,sP (some i1)),(5,sI A15),(11,sI (len x2.List_)),(12,sI v4)] [] st12
def ZaJ.p1.S (m_0:Option Nat) (i1:Nat) (A3:Int) (x2:Zab) (v4:Int) (st10:LL):S:=mkS 28 [(0,sP m_0),(1,sP (some i1)),(5,sI A3),(11,sI (len x2.List_)),(12,sI v4)] [] st10
theorem ZaJ.p2_ok {m_0 i1 A15 x2 v4 st12 r c1_ J1} (h:ZaJ.p2 N c1_ m_0 i1 A15 x2 v4 st12=some r) (hE:En Tryz.f47 g0 w0 (ZaJ.rs r) r.2 R) (hc1 : ∀A3 v4 st10,c1_ (A3,v4,st10)=some r→At g0 w0 (ZaJ.p1.S m_0 i1 A3 x2 v4 st10) J1):At g0 w0 (ZaJ.p2.S m_0 i1 A15 x2 v4 st12) (XK zB R [cK ZaJ.B [1,1,0,1,0,0,1,1,1],.h J1,.b 0,cK ZaJ.B [1,1,1]]):=by
 unfold ZaJ.p2 at h;exact an fol [rZ] [0,1,5,11,12] [] trivial (hc1 A15 (w64 (v4+1)) st12 h)
theorem ZaJ.p1_ok {m_0 i1 A3 x2 v4 st10 r c1_ J1} (h:ZaJ.p1 N m_0 i1 x2 c1_ (A3,v4,st10)=some r) (hE:En Tryz.f47 g0 w0 (ZaJ.rs r) r.2 R) (hc1 : ∀A3 v4 st10,c1_ (A3,v4,st10)=some r→At g0 w0 (ZaJ.p1.S m_0 i1 A3 x2 v4 st10) J1):At g0 w0 (ZaJ.p1.S m_0 i1 A3 x2 v4 st10) (XK zB R (cK ZaJ.B [1,1,0,1,0,0] :: .h J1 :: [.b 0,cK ZaJ.B [1,1,1]])):=by
 unfold ZaJ.p1 at h;refine Zbc h (fun c9 h1=>?_) (fun c9 h2=>?_)
 ·obtain ⟨⟨x11,st12⟩,c10,h3⟩:=Zac h1;let o1:List PS:=[rZ,cT,rZ]
  have t1 {Q:Prop} (q:Q):=aJ c9 (Zbi.snd c10) q;refine Zbc h3 (fun c11 h4=>?_) (fun c11 h5=>?_)
  ·obtain ⟨x13,c12,h6⟩:=Zbd h4;obtain ⟨x14,c13,h7⟩:=Zac h6;let o2:List PS:=o1++[.r [(3,{rs:=[oB x11],st:=st12}),(8,{rs:=[oB x14],m:=10,cv:=[.one (vN 88 x13.ls)]})]]
   have t2 {Q:Prop} (q:Q):=t1 (aO c11 c11 c11 c11 (bO 88 c12 (Zab.bv x13)) (Zdg.snd c13) c11 q);refine Zbc h7 (fun c14 h8=>?_) (fun c14 h9=>?_)
   ·exact aq fol (o2++[cT,rZ,.s 4]) [0,1,5,11,12] [] (t2 c14) (ZaJ.p2_ok h8 hE hc1)
   exact aq fol (o2++[cF,.s 4]) [0,1,5,11,12] [] (t2 c14) (ZaJ.p2_ok h9 hE hc1)
  exact aq fol (o1++[.r [(3,{rs:=[oB x11],st:=st12}),(5,wF),(6,wF),(7,wF),(8,wF),(9,yF)],cF,.s 4]) [0,1,5,11,12] [] (t1 (aM c11 c11 c11 c11 c11 eF)) (ZaJ.p2_ok h5 hE hc1)
 exact xT fol h2 hE [rZ,cF,rZ] c9
theorem ZaJ.snd {m_0 A1:Option Nat} {st:LL} {r:Int×LL} (h:ZaJ N m_0 A1 st=some r):Snd zB 47 [.one (zQ m_0),.one (zQ A1)] st (ZaJ.rs r) r.2:=
 sO ZaJ.B Tryz.func47 fun g0 w0 R hE=>by
  unfold ZaJ at h;obtain ⟨i1,rfl,h10⟩:=Zac h;obtain ⟨x2,c2,h11⟩:=Zbd h10;exact aq fol [rZ,rZ,.r [(3,{oc:=x2.lo})]] [0,1,5,11,12] [] c2 (At.loop N (At.loopN (fun y:Int×Int×LL=>ZaJ.p1.S m_0 i1 y.1 x2 y.2.1 y.2.2) (fun c J hc y h=>ZaJ.p1_ok (A3:=y.1) (v4:=y.2.1) (st10:=y.2.2) h hE (fun A3 v4 st10=>hc (A3,v4,st10))) N (0,0,st) h11))
def Zdm.B:Code:=Tryz.f38.body.getD .skip
def Zdm.rs (r:Bool×LL):List CV:=[oB r.1]
def Zdm (N:Nat) (A0:Int) (A1_0:Option Nat) (st:LL):Option (Bool×LL):= Zbm (ZbX N A1_0 A0 st) fun (x1,st2)=> some (!x1,st2)
theorem Zdm.snd {A0:Int} {A1_0:Option Nat} {st:LL} {r:Bool×LL} (h:Zdm N A0 A1_0 st=some r):Snd zB 38 [oI A0,.one (vN 1 [zQ A1_0])] st (Zdm.rs r) r.2:=
 sO Zdm.B Tryz.func38 fun g0 w0 R hE=>by
  unfold Zdm at h;obtain ⟨⟨x1,st2⟩,c1,h1⟩:=Zac h;exact xT fol h1 hE [rZ,.r [(0,{m:=2}),(2,{rs:=[oB x1],st:=st2})]] (ZbX.snd c1)
def Zaf.B:Code:=Tryz.f37.body.getD .skip
def Zaf.rs (r:Int×LL):List CV:=[oI r.1]
def Zaf.p2 (N:Nat) (c1_:(Int×Int×LL)→Option (Int×LL)) (i3:Nat) (A1_0_0:Option Nat) (A30:Int) (x5:LL) (v7:Int) (st21:LL):Option (Int×LL):= c1_ (A30,w64 (v7+1),st21)
def Zaf.p1 (N:Nat) (i3:Nat) (A1_0_0:Option Nat) (x5:LL) (c1_:(Int×Int×LL)→Option (Int×LL)):(Int×Int×LL)→Option (Int×LL):=fun (A6,v7,st19)=> if (decide (v7<(len x5)))=true then Zbm (Zdm N v7 A1_0_0 st19) fun (x20,st21)=> if x20=true then Zde (st21[i3]?) Zca fun x22 x23=> Zbm x22 fun i24=> Zde (st21[i24]?) Zdp fun x25 x26=> Zbm x25 fun i27=> Zde (st21[i27]?) ZbZ fun x28=> Zbm (Zcj N (ZaD.mk x28 x26) v7 A6) fun x29=> if x29=true then Zaf.p2 N c1_ i3 A1_0_0 v7 x5 v7 st21 else Zaf.p2 N c1_ i3 A1_0_0 A6 x5 v7 st21 else Zaf.p2 N c1_ i3 A1_0_0 A6 x5 v7 st21 else some (A6,st19)
def Zaf (N:Nat) (m_0 A1_0_0:Option Nat) (st:LL):Option (Int×LL):= Zbm (ZbA N m_0 0 st) fun (x1,st2)=> if (!x1)=true then some ((-1),st2) else Zbm m_0 fun i3=> Zde (st2[i3]?) Zca fun x4 x5=> loopN (Zaf.p1 N i3 A1_0_0 x5) N ((-1),0,st2)
def Zaf.p2.S (i3:Nat) (A1_0_0:Option Nat) (A30:Int) (x5:LL) (v7:Int) (st21:LL):S:=mkS 34 [(0,sP (some i3)),(1,.one (.l (L.fn 38 0 [vN 1 [zQ A1_0_0]]))),(5,sI A30),(15,sI (len x5)),(16,sI v7)] [] st21
def Zaf.p1.S (i3:Nat) (A1_0_0:Option Nat) (A6:Int) (x5:LL) (v7:Int) (st19:LL):S:=mkS 34 [(0,sP (some i3)),(1,.one (.l (L.fn 38 0 [vN 1 [zQ A1_0_0]]))),(5,sI A6),(15,sI (len x5)),(16,sI v7)] [] st19
theorem Zaf.p2_ok {i3 A1_0_0 A30 x5 v7 st21 r c1_ J1} (h:Zaf.p2 N c1_ i3 A1_0_0 A30 x5 v7 st21=some r) (hE:En Tryz.f37 g0 w0 (Zaf.rs r) r.2 R) (hc1 : ∀A6 v7 st19,c1_ (A6,v7,st19)=some r→At g0 w0 (Zaf.p1.S i3 A1_0_0 A6 x5 v7 st19) J1):At g0 w0 (Zaf.p2.S i3 A1_0_0 A30 x5 v7 st21) (XK zB R [cK Zaf.B [1,1,1,0,1,0,0,1,1,1],.h J1,.b 0,cK Zaf.B [1,1,1,1]]):=by
 unfold Zaf.p2 at h;exact an fol [rZ] [0,1,5,15,16] [] trivial (hc1 A30 (w64 (v7+1)) st21 h)
theorem Zaf.p1_ok {i3 A1_0_0 A6 x5 v7 st19 r c1_ J1} (h:Zaf.p1 N i3 A1_0_0 x5 c1_ (A6,v7,st19)=some r) (hE:En Tryz.f37 g0 w0 (Zaf.rs r) r.2 R) (hc1 : ∀A6 v7 st19,c1_ (A6,v7,st19)=some r→At g0 w0 (Zaf.p1.S i3 A1_0_0 A6 x5 v7 st19) J1):At g0 w0 (Zaf.p1.S i3 A1_0_0 A6 x5 v7 st19) (XK zB R (cK Zaf.B [1,1,1,0,1,0,0] :: .h J1 :: [.b 0,cK Zaf.B [1,1,1,1]])):=by
 unfold Zaf.p1 at h;refine Zbc h (fun c15 h1=>?_) (fun c15 h2=>?_)
 ·obtain ⟨⟨x20,st21⟩,c16,h3⟩:=Zac h1;let o1:List PS:=[rZ,cT,rZ]
  have t1 {Q:Prop} (q:Q):=aJ c15 (Zdm.snd c16) q;refine Zbc h3 (fun c17 h4=>?_) (fun c17 h5=>?_)
  ·obtain ⟨x22,x23,c18,h6⟩:=ZbP h4;obtain ⟨i24,rfl,h7⟩:=Zac h6;obtain ⟨x25,x26,c20,h8⟩:=Zdf h7;obtain ⟨i27,rfl,h9⟩:=Zac h8;obtain ⟨x28,c22,h10⟩:=ZbO h9;obtain ⟨x29,c23,h11⟩:=Zac h10;let o2:List PS:=o1++[.r [(2,{rs:=[oB x20],st:=st21,m:=5}),(7,{oc:=[zQ (some i24),yC true 3 x23]}),(10,{rs:=[oB x29],m:=10,cv:=[.one (vN 2 (ZaD.ls (ZaD.mk x28 x26)))]})]]
   have t2 {Q:Prop} (q:Q):=t1 (aO c17 c17 c17 c17 c18 c17 c17 (aL c17 (bO 2 c20 ((bC 87 c22 (ZaH.bv x28) (bW bN)):BVs st21 [zQ (some i27),yC true 1 x26] (ZaD.ls (ZaD.mk x28 x26)))) (Zcj.snd c23) c17 q));refine Zbc h11 (fun c24 h12=>?_) (fun c24 h13=>?_)
   ·exact aq fol (o2++[cT,rZ,.s 4]) [0,1,5,15,16] [] (t2 c24) (Zaf.p2_ok h12 hE hc1)
   exact aq fol (o2++[cF,.s 4]) [0,1,5,15,16] [] (t2 c24) (Zaf.p2_ok h13 hE hc1)
  exact aq fol (o1++[.r [(2,{rs:=[oB x20],st:=st21,m:=5}),(4,wF),(5,wF),(6,wF),(7,wF),(8,wF),(9,wF),(10,wF),(11,yF)],cF,.s 4]) [0,1,5,15,16] [] (t1 (aO c17 c17 c17 c17 c17 c17 c17 (aI c17 eF))) (Zaf.p2_ok h5 hE hc1)
 exact xT fol h2 hE [rZ,cF,rZ] c15
theorem Zaf.snd {m_0 A1_0_0:Option Nat} {st:LL} {r:Int×LL} (h:Zaf N m_0 A1_0_0 st=some r):Snd zB 37 [.one (zQ m_0),.one (L.fn 38 0 [vN 1 [zQ A1_0_0]])] st (Zaf.rs r) r.2:=
 sO Zaf.B Tryz.func37 fun g0 w0 R hE=>by
  unfold Zaf at h;obtain ⟨⟨x1,st2⟩,c1,h14⟩:=Zac h;let o3:List PS:=[rZ,rZ,.r [(1,{rs:=[oB x1],st:=st2})]]
  refine Zbc h14 (fun c2 h15=>?_) (fun c2 h16=>?_)
  ·exact xT fol h15 hE (o3++[cT,rZ]) (aI (ZbA.snd c1) c2)
  obtain ⟨i3,rfl,h17⟩:=Zac h16;obtain ⟨x4,x5,c4,h18⟩:=ZbP h17;exact aq fol (o3++[cF,.r [(3,{oc:=[zQ x4,yC true 3 x5]})]]) [0,1,5,15,16] [] (aJ (ZbA.snd c1) c2 c4) (At.loop N (At.loopN (fun y:Int×Int×LL=>Zaf.p1.S i3 A1_0_0 y.1 x5 y.2.1 y.2.2) (fun c J hc y h=>Zaf.p1_ok (A6:=y.1) (v7:=y.2.1) (st19:=y.2.2) h hE (fun A6 v7 st19=>hc (A6,v7,st19))) N ((-1),0,st2) h18))
def Zda.B:Code:=Tryz.f14.body.getD .skip
def Zda.rs (r:Int×LL):List CV:=[oI r.1]
def Zda (N:Nat) (m_0:Option Nat) (st:LL):Option (Int×LL):= Zbm (Zaf N m_0 m_0 st) fun (x1,st2)=> some (x1,st2)
theorem Zda.snd {m_0:Option Nat} {st:LL} {r:Int×LL} (h:Zda N m_0 st=some r):Snd zB 14 [.one (zQ m_0)] st (Zda.rs r) r.2:=
 sO Zda.B Tryz.func14 fun g0 w0 R hE=>by
  unfold Zda at h;obtain ⟨⟨x1,st2⟩,c1,h1⟩:=Zac h;exact xT fol h1 hE [.r [(0,{m:=2})],.r [(0,{m:=2}),(2,{rs:=[oI x1],st:=st2})]] (Zaf.snd c1)
def ZaI.B:Code:=Tryz.f48.body.getD .skip
def ZaI.rs (r:Int×LL):List CV:=[oI r.1]
def ZaI.p2 (N:Nat) (c1_:(Int×Int×LL)→Option (Int×LL)) (m_0:Option Nat) (i1:Nat) (A15:Int) (x2:Zab) (v4:Int) (st12:LL):Option (Int×LL):= c1_ (A15,w64 (v4+1),st12)
def ZaI.p1 (N:Nat) (m_0:Option Nat) (i1:Nat) (x2:Zab) (c1_:(Int×Int×LL)→Option (Int×LL)):(Int×Int×LL)→Option (Int×LL):=fun (A3,v4,st10)=> if (decide (v4<(len x2.List_)))=true then Zbm (ZcF N m_0 (some i1) v4 st10) fun (x11,st12)=> if (!x11)=true then Zde (st12[i1]?) Zbb fun x13=> Zbm (Zdg N x13 v4 A3) fun x14=> if x14=true then ZaI.p2 N c1_ m_0 i1 v4 x2 v4 st12 else ZaI.p2 N c1_ m_0 i1 A3 x2 v4 st12 else ZaI.p2 N c1_ m_0 i1 A3 x2 v4 st12 else some (A3,st10)
def ZaI (N:Nat) (m_0 A1:Option Nat) (st:LL):Option (Int×LL):= Zbm A1 fun i1=> Zde (st[i1]?) Zbb fun x2=> loopN (ZaI.p1 N m_0 i1 x2) N (0,0,st)
def ZaI.p2.S (m_0:Option Nat) (i1:Nat) (A15:Int) (x2:Zab) (v4:Int) (st12:LL):S:=mkS 29 [(0,sP m_0),(1,sP (some i1)),(5,sI A15),(11,sI (len x2.List_)),(12,sI v4)] [] st12
def ZaI.p1.S (m_0:Option Nat) (i1:Nat) (A3:Int) (x2:Zab) (v4:Int) (st10:LL):S:=mkS 29 [(0,sP m_0),(1,sP (some i1)),(5,sI A3),(11,sI (len x2.List_)),(12,sI v4)] [] st10
theorem ZaI.p2_ok {m_0 i1 A15 x2 v4 st12 r c1_ J1} (h:ZaI.p2 N c1_ m_0 i1 A15 x2 v4 st12=some r) (hE:En Tryz.f48 g0 w0 (ZaI.rs r) r.2 R) (hc1 : ∀A3 v4 st10,c1_ (A3,v4,st10)=some r→At g0 w0 (ZaI.p1.S m_0 i1 A3 x2 v4 st10) J1):At g0 w0 (ZaI.p2.S m_0 i1 A15 x2 v4 st12) (XK zB R [cK ZaI.B [1,1,0,1,0,0,1,1,1],.h J1,.b 0,cK ZaI.B [1,1,1]]):=by
 unfold ZaI.p2 at h;exact an fol [rZ] [0,1,5,11,12] [] trivial (hc1 A15 (w64 (v4+1)) st12 h)
theorem ZaI.p1_ok {m_0 i1 A3 x2 v4 st10 r c1_ J1} (h:ZaI.p1 N m_0 i1 x2 c1_ (A3,v4,st10)=some r) (hE:En Tryz.f48 g0 w0 (ZaI.rs r) r.2 R) (hc1 : ∀A3 v4 st10,c1_ (A3,v4,st10)=some r→At g0 w0 (ZaI.p1.S m_0 i1 A3 x2 v4 st10) J1):At g0 w0 (ZaI.p1.S m_0 i1 A3 x2 v4 st10) (XK zB R (cK ZaI.B [1,1,0,1,0,0] :: .h J1 :: [.b 0,cK ZaI.B [1,1,1]])):=by
 unfold ZaI.p1 at h;refine Zbc h (fun c9 h1=>?_) (fun c9 h2=>?_)
 ·obtain ⟨⟨x11,st12⟩,c10,h3⟩:=Zac h1;let o1:List PS:=[rZ,cT,rZ]
  have t1 {Q:Prop} (q:Q):=aJ c9 (ZcF.snd c10) q;refine Zbc h3 (fun c11 h4=>?_) (fun c11 h5=>?_)
  ·obtain ⟨x13,c12,h6⟩:=Zbd h4;obtain ⟨x14,c13,h7⟩:=Zac h6;let o2:List PS:=o1++[.r [(3,{rs:=[oB x11],st:=st12}),(9,{rs:=[oB x14],m:=10,cv:=[.one (vN 88 x13.ls)]})]]
   have t2 {Q:Prop} (q:Q):=t1 (aO (not_false (Zbt c11)) (not_false (Zbt c11)) (not_false (Zbt c11)) (not_false (Zbt c11)) (bO 88 c12 (Zab.bv x13)) (Zdg.snd c13) (not_false (Zbt c11)) q);refine Zbc h7 (fun c14 h8=>?_) (fun c14 h9=>?_)
   ·exact aq fol (o2++[cT,rZ,.s 4]) [0,1,5,11,12] [] (t2 c14) (ZaI.p2_ok h8 hE hc1)
   exact aq fol (o2++[cF,.s 4]) [0,1,5,11,12] [] (t2 c14) (ZaI.p2_ok h9 hE hc1)
  exact aq fol (o1++[.r [(3,{rs:=[oB x11],st:=st12}),(6,wF),(7,wF),(8,wF),(9,wF),(10,yF)],cF,.s 4]) [0,1,5,11,12] [] (t1 (aM (not_true (Zbu c11)) (not_true (Zbu c11)) (not_true (Zbu c11)) (not_true (Zbu c11)) (not_true (Zbu c11)) eF)) (ZaI.p2_ok h5 hE hc1)
 exact xT fol h2 hE [rZ,cF,rZ] c9
theorem ZaI.snd {m_0 A1:Option Nat} {st:LL} {r:Int×LL} (h:ZaI N m_0 A1 st=some r):Snd zB 48 [.one (zQ m_0),.one (zQ A1)] st (ZaI.rs r) r.2:=
 sO ZaI.B Tryz.func48 fun g0 w0 R hE=>by
  unfold ZaI at h;obtain ⟨i1,rfl,h10⟩:=Zac h;obtain ⟨x2,c2,h11⟩:=Zbd h10;exact aq fol [rZ,rZ,.r [(3,{oc:=x2.lo})]] [0,1,5,11,12] [] c2 (At.loop N (At.loopN (fun y:Int×Int×LL=>ZaI.p1.S m_0 i1 y.1 x2 y.2.1 y.2.2) (fun c J hc y h=>ZaI.p1_ok (A3:=y.1) (v4:=y.2.1) (st10:=y.2.2) h hE (fun A3 v4 st10=>hc (A3,v4,st10))) N (0,0,st) h11))
end Go.Dn.F
end
