import Derived.Test.YthiibbfaabjpgaaGreatDoorFbb
set_option linter.all false
open Go.Dn.L renaming ptr->zN
open Go.Proofs.Tryz renaming prog->zC
open Option renaming isNone->xX
noncomputable section
set_option maxRecDepth 100000
namespace Go.Dn.F
open Go.Proofs
variable {N:Nat} {g0:G} {w0:World} {R:Exit->Act->World->Prop}
def Zah.B:Code:=Tryz.f61.body.getD .skip
def Zah.rs (r:Int×LL):List CV:=[oI r.1]
def Zah.p2 (N:Nat) (c1_:(Int×Int×LL)->Option (Int×LL)) (i3:Nat) (A1_0_0:Option Nat) (A30:Int) (x5:LL) (v7:Int) (st21:LL):Option (Int×LL):= c1_ (A30,w64 (v7+1),st21)
def Zah.p1 (N:Nat) (i3:Nat) (A1_0_0:Option Nat) (x5:LL) (c1_:(Int×Int×LL)->Option (Int×LL)):(Int×Int×LL)->Option (Int×LL):=fun (A6,v7,st19)=> if (decide (v7<(len x5)))=true then Zbb (Zdk N v7 A1_0_0 st19) fun (x20,st21)=> if x20=true then ZcO (st21[i3]?) Zdu fun x22 x23=> Zbb x22 fun i24=> ZcO (st21[i24]?) ZbO fun x25 x26=> Zbb x25 fun i27=> ZcO (st21[i27]?) Zbt fun x28=> Zbb (ZbE N (Zat.mk x28 x26) v7 A6) fun x29=> if x29=true then Zah.p2 N c1_ i3 A1_0_0 v7 x5 v7 st21 else Zah.p2 N c1_ i3 A1_0_0 A6 x5 v7 st21 else Zah.p2 N c1_ i3 A1_0_0 A6 x5 v7 st21 else some (A6,st19)
def Zah (N:Nat) (m_0 A1_0_0:Option Nat) (st:LL):Option (Int×LL):= Zbb (Zdd N m_0 0 st) fun (x1,st2)=> if (!x1)=true then some ((-1),st2) else Zbb m_0 fun i3=> ZcO (st2[i3]?) Zdu fun x4 x5=> loopN (Zah.p1 N i3 A1_0_0 x5) N ((-1),0,st2)
def Zah.S2 (i3:Nat) (A1_0_0:Option Nat) (A30:Int) (x5:LL) (v7:Int) (st21:LL):S:=mkS 34 [(0,sP (some i3)),(1,.one (.l (L.fn 62 0 [L.bx 1 [zN A1_0_0]]))),(5,sI A30),(15,sI (len x5)),(16,sI v7)] [] st21
def Zah.S1 (i3:Nat) (A1_0_0:Option Nat) (A6:Int) (x5:LL) (v7:Int) (st19:LL):S:=mkS 34 [(0,sP (some i3)),(1,.one (.l (L.fn 62 0 [L.bx 1 [zN A1_0_0]]))),(5,sI A6),(15,sI (len x5)),(16,sI v7)] [] st19
def Zah.k2 {i3 A1_0_0 A30 x5 v7 st21 r c1_ J1} (h:Zah.p2 N c1_ i3 A1_0_0 A30 x5 v7 st21=some r) (hE:En Tryz.f61 g0 w0 (Zah.rs r) r.2 R) (hc1 : ∀A6 v7 st19,c1_ (A6,v7,st19)=some r->At g0 w0 (Zah.S1 i3 A1_0_0 A6 x5 v7 st19) J1):At g0 w0 (Zah.S2 i3 A1_0_0 A30 x5 v7 st21) (XK zC R [cK Zah.B [1,1,1,0,1,0,0,1,1,1],.h J1,.b 0,cK Zah.B [1,1,1,1]]):=by
 unfold Zah.p2 at h;exact an [rZ] trivial (hc1 A30 (w64 (v7+1)) st21 h)
def Zah.k1 {i3 A1_0_0 A6 x5 v7 st19 r c1_ J1} (h:Zah.p1 N i3 A1_0_0 x5 c1_ (A6,v7,st19)=some r) (hE:En Tryz.f61 g0 w0 (Zah.rs r) r.2 R) (hc1 : ∀A6 v7 st19,c1_ (A6,v7,st19)=some r->At g0 w0 (Zah.S1 i3 A1_0_0 A6 x5 v7 st19) J1):At g0 w0 (Zah.S1 i3 A1_0_0 A6 x5 v7 st19) (XK zC R (cK Zah.B [1,1,1,0,1,0,0] :: .h J1 :: [.b 0,cK Zah.B [1,1,1,1]])):=by
 unfold Zah.p1 at h;refine Zbd h (fun c15 h=>?_) (fun c15 h=>?_)
 ·obtain ⟨⟨x20,st21⟩,c16,h⟩:=Zab h;let o1:List PS:=[rZ,cT,rZ]
  have t1 {Q:Prop} (q:Q):=aJ c15 (Zdk.s c16) q;refine Zbd h (fun c17 h=>?_) (fun c17 h=>?_)
  ·obtain ⟨x22,x23,c18,h⟩:=Zdx h;obtain ⟨i24,rfl,h⟩:=Zab h;obtain ⟨x25,x26,c20,h⟩:=Zbs h;obtain ⟨i27,rfl,h⟩:=Zab h;obtain ⟨x28,c22,h⟩:=Zbi h;obtain ⟨x29,c23,h⟩:=Zab h;let o2:List PS:=o1++[.r [(2,{rs:=[oB x20],st:=st21,m:=5}),(7,{oc:=[zN (some i24),L.own true 3 x23]}),(10,{rs:=[oB x29],m:=10,cv:=[.one (L.bx 2 (Zat.ls (Zat.mk x28 x26)))]})]]
   have t2 {Q:Prop} (q:Q):=t1 (aO c17 c17 c17 c17 c18 c17 c17 (aL c17 (bO 2 c20 ((bC 87 c22 (ZaG.bv x28) (bW bN)):BVs st21 [zN (some i27),L.own true 1 x26] (Zat.ls (Zat.mk x28 x26)))) (ZbE.s c23) c17 q));exact Zbd h (fun c24 h=>aq (o2++[cT,rZ,.s 4]) (t2 c24) (Zah.k2 h hE hc1)) fun c24 h=>aq (o2++[cF,.s 4]) (t2 c24) (Zah.k2 h hE hc1)
  exact aq (o1++[.r [(2,{rs:=[oB x20],st:=st21,m:=5}),(4,wF),(5,wF),(6,wF),(7,wF),(8,wF),(9,wF),(10,wF),(11,yF)],cF,.s 4]) (t1 (aO c17 c17 c17 c17 c17 c17 c17 (aI c17 eF))) (Zah.k2 h hE hc1)
 exact xT h hE [rZ,cF,rZ] c15
def Zah.s {m_0 A1_0_0:Option Nat} {st:LL} {r:Int×LL} (h:Zah N m_0 A1_0_0 st=some r):Snd zC 61 [.one (zN m_0),.one (L.fn 62 0 [L.bx 1 [zN A1_0_0]])] st (Zah.rs r) r.2:=
 sO Zah.B Tryz.func61 fun g0 w0 R hE=>by
  unfold Zah at h;obtain ⟨⟨x1,st2⟩,c1,h⟩:=Zab h;let o3:List PS:=[rZ,rZ,.r [(1,{rs:=[oB x1],st:=st2})]]
  refine Zbd h (fun c2 h=>xT h hE (o3++[cT,rZ]) (aI (Zdd.s c1) c2)) fun c2 h=>?_;obtain ⟨i3,rfl,h⟩:=Zab h;obtain ⟨x4,x5,c4,h⟩:=Zdx h;exact aq (o3++[cF,.r [(3,{oc:=[zN x4,L.own true 3 x5]})]]) (aJ (Zdd.s c1) c2 c4) (At.loop N (At.loopN (fun y:Int×Int×LL=>Zah.S1 i3 A1_0_0 y.1 x5 y.2.1 y.2.2) (fun c J hc y h=>Zah.k1 (A6:=y.1) (v7:=y.2.1) (st19:=y.2.2) h hE (fun A6 v7 st19=>hc (A6,v7,st19))) N ((-1),0,st2) h))
def ZdD.B:Code:=Tryz.f31.body.getD .skip
def ZdD.rs (r:Int×LL):List CV:=[oI r.1]
def ZdD (N:Nat) (m_0:Option Nat) (st:LL):Option (Int×LL):= Zbb (Zah N m_0 m_0 st) fun (x1,st2)=> some (x1,st2)
def ZdD.s {m_0:Option Nat} {st:LL} {r:Int×LL} (h:ZdD N m_0 st=some r):Snd zC 31 [.one (zN m_0)] st (ZdD.rs r) r.2:=
 sO ZdD.B Tryz.func31 fun g0 w0 R hE=>by
  unfold ZdD at h;obtain ⟨⟨x1,st2⟩,c1,h⟩:=Zab h;exact xT h hE [.r [(0,{m:=2})],.r [(0,{m:=2}),(2,{rs:=[oI x1],st:=st2})]] (Zah.s c1)
def ZdJ.B:Code:=Tryz.f8.body.getD .skip
def ZdJ.rs (r:Int×LL):List CV:=[oI r.1]
def ZdJ (N:Nat) (A0:Option Nat) (st:LL):Option (Int×LL):= if (xX A0)=true then some ((-1),st) else Zbb A0 fun i1=> ZcO (st[i1]?) Zct fun x2 x3 x4 x5=> Zbb (ZdD N x3 st) fun (x6,st7)=> some (x6,st7)
def ZdJ.s {A0:Option Nat} {st:LL} {r:Int×LL} (h:ZdJ N A0 st=some r):Snd zC 8 [.one (zN A0)] st (ZdJ.rs r) r.2:=
 sO ZdJ.B Tryz.func8 fun g0 w0 R hE=>by
  unfold ZdJ at h;refine Zbd h (fun c1 h=>xT h hE [rZ,rZ,cT,rZ] c1) fun c1 h=>?_;obtain ⟨i1,rfl,h⟩:=Zab h;obtain ⟨x2,x3,x4,x5,c3,h⟩:=Zcj h;obtain ⟨⟨x6,st7⟩,c4,h⟩:=Zab h;exact xT h hE [rZ,rZ,cF,.r [(3,{oc:=(qla x2 x3 x4 x5)}),(4,{rs:=[oI x6],st:=st7})]] (aJ c1 c3 (ZdD.s c4))
def ZdI.B:Code:=Tryz.f9.body.getD .skip
def ZdI.rs (r:(Option Nat)×LL):List CV:=[.one (zN r.1)]
def ZdI (N:Nat) (A0:Option Nat) (st:LL):Option ((Option Nat)×LL):= if (xX A0)=true then some (none,st) else Zbb A0 fun i1=> ZcO (st[i1]?) Zct fun x2 x3 x4 x5=> some (x2,st)
def ZdI.s {A0:Option Nat} {st:LL} {r:(Option Nat)×LL} (h:ZdI N A0 st=some r):Snd zC 9 [.one (zN A0)] st (ZdI.rs r) r.2:=
 sO ZdI.B Tryz.func9 fun g0 w0 R hE=>by
  unfold ZdI at h;refine Zbd h (fun c1 h=>xT h hE [rZ,rZ,cT,rZ] c1) fun c1 h=>?_;obtain ⟨i1,rfl,h⟩:=Zab h;obtain ⟨x2,x3,x4,x5,c3,h⟩:=Zcj h;exact xT h hE [rZ,rZ,cF,.r [(3,{oc:=(qla x2 x3 x4 x5)})]] (aI c1 c3)
def ZdP.B:Code:=Tryz.f35.body.getD .skip
def ZdP.rs (r:LL):List CV:=[.row true 1 r]
def ZdP (N:Nat) (A0:ZbM):Option LL:= Zbb (ZbI N A0.list) fun x1=> some x1
def ZdP.s {A0:ZbM} {r:LL} (h:ZdP N A0=some r):ZdW zC 35 [.one (L.bx 2 A0.ls)] (ZdP.rs r):=fun st=>
 sO ZdP.B Tryz.func35 fun g0 w0 R hE=>by
  unfold ZdP at h;obtain ⟨x1,c1,h⟩:=Zab h;obtain rfl:=Zac h;exact af hE [.r [(0,{m:=2})],rZ,cF,.r [(3,{oe:=A0.ls}),(4,{rs:=[.row true 1 x1],ns:=[9],m:=1})]] [] 0 [0] (aL eF (eO A0.ls) (ZbI.s c1) z0 (eN (List.length x1)))
def Zdl.B:Code:=Tryz.f15.body.getD .skip
def Zdl.rs (r:LL×LL):List CV:=[.row true 1 r.1]
def Zdl (N:Nat) (A0:Option Nat) (st:LL):Option (LL×LL):= if (xX A0)=true then some ([],st) else Zbb A0 fun i1=> ZcO (st[i1]?) Zct fun x2 x3 x4 x5=> Zbb x4 fun i6=> ZcO (st[i6]?) ZbO fun x7 x8=> Zbb x7 fun i9=> ZcO (st[i9]?) ZbO fun x10 x11=> Zbb x10 fun i12=> ZcO (st[i12]?) Zbt fun x13=> Zbb (ZdP N (ZbM.mk (Zat.mk x13 x11) x8)) fun x14=> chk (Zes x14=true)<| some (x14,st)
def Zdl.s {A0:Option Nat} {st:LL} {r:LL×LL} (h:Zdl N A0 st=some r):Snd zC 15 [.one (zN A0)] st (Zdl.rs r) r.2:=
 sO Zdl.B Tryz.func15 fun g0 w0 R hE=>by
  unfold Zdl at h;refine Zbd h (fun c1 h=>?_) (fun c1 h=>?_)
  ·obtain rfl:=Zac h;exact af hE [.r [(0,{m:=2})],rZ,cT,.r [(0,{m:=2})]] [] 0 [0] c1
  obtain ⟨i1,rfl,h⟩:=Zab h;obtain ⟨x2,x3,x4,x5,c3,h⟩:=Zcj h;obtain ⟨i6,rfl,h⟩:=Zab h;obtain ⟨x7,x8,c5,h⟩:=Zbs h;obtain ⟨i9,rfl,h⟩:=Zab h;obtain ⟨x10,x11,c7,h⟩:=Zbs h;obtain ⟨i12,rfl,h⟩:=Zab h;obtain ⟨x13,c9,h⟩:=Zbi h;obtain ⟨x14,c10,h⟩:=Zab h;obtain ⟨c11,h⟩:=Zba h;obtain rfl:=Zac h;let u6:=ZbM.ls (ZbM.mk (Zat.mk x13 x11) x8);exact af hE [.r [(0,{m:=2})],rZ,cF,.r [(3,{oc:=(qla x2 x3 (some i6) x5)}),(4,{rs:=[.row true 1 x14],ns:=[9],m:=10,cv:=[.one (L.bx 2 u6)]})]] [] 0 [0] (aN c1 c3 (bO 2 c5 ((bC 2 c7 ((bC 87 c9 (ZaG.bv x13) (bW bN)):BVs st [zN (some i12),L.own true 1 x11] (Zat.ls (Zat.mk x13 x11))) (bW bN)):BVs st [zN (some i9),L.own true 1 x8] u6)) c11 (ZdP.s c10) z0 (eN (List.length x14)))
def Zaw.B:Code:=Tryz.f3.body.getD .skip
def Zaw.rs (r:Bool×LL):List CV:=[oB r.1]
def Zaw.p2 (N:Nat) (c1_:(Int×LL)->Option (Bool×LL)) (x4:Option Nat) (A1:LL) (v6:Int) (st94:LL):Option (Bool×LL):= c1_ (w64 (v6+1),st94)
def Zaw.p3 (N:Nat) (i95:Nat) (x98:Int) (x107:Zad) (c3_:(Int×LL)->Option (Bool×LL)):(Int×LL)->Option (Bool×LL):=fun (v108,st139)=> if (decide (v108<(len x107.List_)))=true then if (v108 != x98)=true then ZcO (st139[i95]?) Zbh fun x140 x141=> Zbb (ZdI N x140 st139) fun (x142,st143)=> Zbb x142 fun i144=> ZcO (st143[i144]?) ZbO fun x145 x146=> Zbb x145 fun i147=> ZcO (st143[i147]?) Zbt fun x148=> Zbb (ZbE N (Zat.mk x148 x146) x98 v108) fun x149=> if (!x149)=true then some (false,st143) else c3_ (w64 (v108+1),st143) else c3_ (w64 (v108+1),st139) else ZcO (st139[i95]?) Zbh fun x150 x151=> Zbb (ZaF N x150 st139) fun (x152,st153)=> if (x152==0)=true then ZcO (st153[i95]?) Zbh fun x154 x155=> Zbb (Zcx N x154 st153) fun (x156,st157)=> if (x156==0)=true then ZcO (st157[i95]?) Zbh fun x158 x159=> Zbb (Zca N x158 st157) fun (x160,st161)=> if (x160==0)=true then ZcO (st161[i95]?) Zbh fun x162 x163=> Zbb (ZcF N x162 st161) fun (x164,st165)=> if ((len x164)==1)=true then ZcO (st165[i95]?) Zbh fun x166 x167=> Zbb (Zdl N x166 st165) fun (x168,st169)=> some ((len x168)==1,st169) else some (false,st165) else some (false,st161) else some (false,st157) else some (false,st153)
def Zaw.p1 (N:Nat) (x4:Option Nat) (A1:LL) (c1_:(Int×LL)->Option (Bool×LL)):(Int×LL)->Option (Bool×LL):=fun (v6,st88)=> if (decide (v6<(len A1)))=true then chk (0<=v6)<| ZcO (A1[Int.toNat v6]?) Zed fun x89=> if (x89.Kind==0)=true then Zbb (Zdb N x4 x89 st88) fun (x90,st91)=> Zaw.p2 N c1_ x4 A1 v6 st91 else if (decide (x89.Kind>3))=true then Zbb (Zdb N x4 x89 st88) fun (x92,st93)=> Zaw.p2 N c1_ x4 A1 v6 st93 else Zaw.p2 N c1_ x4 A1 v6 st88 else Zbb x4 fun i95=> ZcO (st88[i95]?) Zbh fun x96 x97=> Zbb (ZdJ N x96 st88) fun (x98,st99)=> ZcO (st99[i95]?) Zbh fun x100 x101=> Zbb x101 fun i102=> ZcO (st99[i102]?) Zcs fun x103 x104 x105=> Zbb x103 fun i106=> ZcO (st99[i106]?) ZbS fun x107=> loopN (Zaw.p3 N i95 x98 x107) N (0,st99)
def Zaw (N:Nat) (A0:Zae) (A1 st:LL):Option (Bool×LL):= Zbb (Zeq N st) fun (x1,st2)=> if (!x1)=true then some (false,st2) else Zbb (Zch N A0 A1) fun x3=> if x3=true then some (true,st2) else Zbb (Zep N A0 st2) fun (x4,st5)=> loopN (Zaw.p1 N x4 A1) N (0,st5)
def Zaw.S2 (x4:Option Nat) (A1:LL) (v6:Int) (st94:LL):S:=mkS 109 [(5,sP x4),(17,sV 72 A1),(18,sI (len A1)),(19,sI v6)] [] st94
def Zaw.S3 (i95:Nat) (x98:Int) (x107:Zad) (v108:Int) (st139:LL):S:=mkS 109 [(5,sP (some i95)),(8,sI x98),(50,sI (len x107.List_)),(51,sI v108)] [] st139
def Zaw.S1 (x4:Option Nat) (A1:LL) (v6:Int) (st88:LL):S:=mkS 109 [(5,sP x4),(17,sV 72 A1),(18,sI (len A1)),(19,sI v6)] [] st88
def Zaw.k2 {x4 A1 v6 st94 r c1_ J1} (h:Zaw.p2 N c1_ x4 A1 v6 st94=some r) (hE:En Tryz.f3 g0 w0 (Zaw.rs r) r.2 R) (hc1 : ∀v6 st88,c1_ (v6,st88)=some r->At g0 w0 (Zaw.S1 x4 A1 v6 st88) J1):At g0 w0 (Zaw.S2 x4 A1 v6 st94) (XK zC R [cK Zaw.B [1,1,1,1,0,1,0,0,1,1,1],.h J1,.b 0,cK Zaw.B [1,1,1,1,1]]):=by
 unfold Zaw.p2 at h;exact an [rZ] trivial (hc1 (w64 (v6+1)) st94 h)
def Zaw.k3 {i95 x98 x107 v108 st139 r c3_ J3} (h:Zaw.p3 N i95 x98 x107 c3_ (v108,st139)=some r) (hE:En Tryz.f3 g0 w0 (Zaw.rs r) r.2 R) (hc3 : ∀v108 st139,c3_ (v108,st139)=some r->At g0 w0 (Zaw.S3 i95 x98 x107 v108 st139) J3):At g0 w0 (Zaw.S3 i95 x98 x107 v108 st139) (XK zC R (cK Zaw.B [1,1,1,1,1,1,0,1,0,0] :: .h J3 :: [.b 2,cK Zaw.B [1,1,1,1,1,1,1]])):=by
 unfold Zaw.p3 at h;refine Zbd h (fun c108 h=>?_) (fun c108 h=>?_)
 ·let o1:List PS:=[rZ,cT,rZ]
  refine Zbd h (fun c109 h=>?_) (fun c109 h=>?_)
  ·obtain ⟨x140,x141,c110,h⟩:=Zbl h;obtain ⟨⟨x142,st143⟩,c111,h⟩:=Zab h;obtain ⟨i144,rfl,h⟩:=Zab h;obtain ⟨x145,x146,c113,h⟩:=Zbs h;obtain ⟨i147,rfl,h⟩:=Zab h;obtain ⟨x148,c115,h⟩:=Zbi h;obtain ⟨x149,c116,h⟩:=Zab h;let o2:List PS:=o1++[.r [(7,{oc:=[zN x140,zN x141]}),(8,{rs:=[.one (zN (some i144))],st:=st143}),(11,{rs:=[oB x149],m:=10,cv:=[.one (L.bx 2 (Zat.ls (Zat.mk x148 x146)))]})]]
   have t1 {Q:Prop} (q:Q):=aO c108 c109 c109 c109 c109 c110 c109 (aO (ZdI.s c111) c109 c109 c109 (bO 2 c113 ((bC 87 c115 (ZaG.bv x148) (bW bN)):BVs st143 [zN (some i147),L.own true 1 x146] (Zat.ls (Zat.mk x148 x146)))) (ZbE.s c116) c109 (aI c109 q));exact Zbd h (fun c117 h=>xT h hE (o2++[cT,rZ]) (t1 c117)) fun c117 h=>an (o2++[cF,rZ]) (t1 c117) (hc3 (w64 (v108+1)) st143 h)
  exact an (o1++[.r [(4,wF),(5,wF),(6,wF),(7,wF),(8,wF),(9,wF),(10,wF),(11,wF),(12,wF),(13,yF)],cF,rZ]) (aO c108 c109 c109 c109 c109 c109 c109 (aL c109 c109 c109 c109 eF)) (hc3 (w64 (v108+1)) st139 h)
 obtain ⟨x150,x151,c118,h⟩:=Zbl h;obtain ⟨⟨x152,st153⟩,c119,h⟩:=Zab h;let o3:List PS:=[rZ,cF]
 have t2 {Q:Prop} (q:Q):=aK c108 c118 (ZaF.s c119) q;refine Zbd h (fun c120 h=>?_) (fun c120 h=>?_)
 ·obtain ⟨x154,x155,c121,h⟩:=Zbl h;obtain ⟨⟨x156,st157⟩,c122,h⟩:=Zab h;have t3 {Q:Prop} (q:Q):=t2 (aO c120 c120 c120 c120 c121 c120 (Zcx.s c122) (aJ c120 c120 q));refine Zbd h (fun c123 h=>?_) (fun c123 h=>?_)
  ·obtain ⟨x158,x159,c124,h⟩:=Zbl h;obtain ⟨⟨x160,st161⟩,c125,h⟩:=Zab h;have t4 {Q:Prop} (q:Q):=t3 (aO c123 c123 c123 c123 c124 c123 (Zca.s c125) (aJ c123 c123 q));refine Zbd h (fun c126 h=>?_) (fun c126 h=>?_)
   ·obtain ⟨x162,x163,c127,h⟩:=Zbl h;obtain ⟨⟨x164,st165⟩,c128,h⟩:=Zab h;have t5 {Q:Prop} (q:Q):=t4 (aO c126 c126 c126 c126 c127 c126 (ZcF.s c128) (aK c126 c126 c126 q));refine Zbd h (fun c129 h=>?_) (fun c129 h=>?_)
    ·obtain ⟨x166,x167,c130,h⟩:=Zbl h;obtain ⟨⟨x168,st169⟩,c131,h⟩:=Zab h;exact xT h hE (o3++[.r [(3,{oc:=[zN x150,zN x151]}),(4,{rs:=[oI x152],st:=st153}),(10,{oc:=[zN x154,zN x155]}),(11,{rs:=[oI x156],st:=st157}),(18,{oc:=[zN x158,zN x159]}),(19,{rs:=[oI x160],st:=st161}),(26,{oc:=[zN x162,zN x163]}),(27,{rs:=[.row true 1 x164],st:=st165,ns:=[96]}),(35,{oc:=[zN x166,zN x167]}),(36,{rs:=[.row true 1 x168],st:=st169,ns:=[105]})]]) (t5 (aO c129 c129 c129 c129 c130 c129 (Zdl.s c131) (aJ c129 c129 c129)))
    exact xT h hE (o3++[.r [(3,{oc:=[zN x150,zN x151]}),(4,{rs:=[oI x152],st:=st153}),(10,{oc:=[zN x154,zN x155]}),(11,{rs:=[oI x156],st:=st157}),(18,{oc:=[zN x158,zN x159]}),(19,{rs:=[oI x160],st:=st161}),(26,{oc:=[zN x162,zN x163]}),(27,{rs:=[.row true 1 x164],st:=st165,ns:=[96]}),(32,wF),(33,wF),(34,wF),(35,wF),(36,wF),(37,wF),(38,wF),(39,yF)]]) (t5 (aO c129 c129 c129 c129 c129 c129 c129 c129))
   exact xT h hE (o3++[.r [(3,{oc:=[zN x150,zN x151]}),(4,{rs:=[oI x152],st:=st153}),(10,{oc:=[zN x154,zN x155]}),(11,{rs:=[oI x156],st:=st157}),(18,{oc:=[zN x158,zN x159]}),(19,{rs:=[oI x160],st:=st161}),(23,wF),(24,wF),(25,wF),(26,wF),(27,wF),(28,wF),(29,wF),(30,yF),(32,wF),(33,wF),(34,wF),(35,wF),(36,wF),(37,wF),(38,wF),(39,yF)]]) (t4 (aO c126 c126 c126 c126 c126 c126 c126 (aO c126 eF eF eF eF eF eF (aI eF eF))))
  exact xT h hE (o3++[.r [(3,{oc:=[zN x150,zN x151]}),(4,{rs:=[oI x152],st:=st153}),(10,{oc:=[zN x154,zN x155]}),(11,{rs:=[oI x156],st:=st157}),(15,wF),(16,wF),(17,wF),(18,wF),(19,wF),(20,wF),(21,yF),(23,wF),(24,wF),(25,wF),(26,wF),(27,wF),(28,wF),(29,wF),(30,yF),(32,wF),(33,wF),(34,wF),(35,wF),(36,wF),(37,wF),(38,wF),(39,yF)]]) (t3 (aO c123 c123 c123 c123 c123 c123 c123 (aO eF eF eF eF eF eF eF (aO eF eF eF eF eF eF eF (aI eF eF)))))
 exact xT h hE (o3++[.r [(3,{oc:=[zN x150,zN x151]}),(4,{rs:=[oI x152],st:=st153}),(7,wF),(8,wF),(9,wF),(10,wF),(11,wF),(12,wF),(13,yF),(15,wF),(16,wF),(17,wF),(18,wF),(19,wF),(20,wF),(21,yF),(23,wF),(24,wF),(25,wF),(26,wF),(27,wF),(28,wF),(29,wF),(30,yF),(32,wF),(33,wF),(34,wF),(35,wF),(36,wF),(37,wF),(38,wF),(39,yF)]]) (t2 (aO c120 c120 c120 c120 c120 c120 c120 (aO eF eF eF eF eF eF eF (aO eF eF eF eF eF eF eF (aO eF eF eF eF eF eF eF (aI eF eF))))))
def Zaw.k1 {x4 A1 v6 st88 r c1_ J1} (h:Zaw.p1 N x4 A1 c1_ (v6,st88)=some r) (hE:En Tryz.f3 g0 w0 (Zaw.rs r) r.2 R) (hc1 : ∀v6 st88,c1_ (v6,st88)=some r->At g0 w0 (Zaw.S1 x4 A1 v6 st88) J1):At g0 w0 (Zaw.S1 x4 A1 v6 st88) (XK zC R (cK Zaw.B [1,1,1,1,0,1,0,0] :: .h J1 :: [.b 0,cK Zaw.B [1,1,1,1,1]])):=by
 unfold Zaw.p1 at h;refine Zbd h (fun c69 h=>?_) (fun c69 h=>?_)
 ·obtain ⟨c70,h⟩:=Zba h;obtain ⟨x89,c71,h⟩:=ZfS h;let o4:List PS:=[rZ,cT,.r [(1,{oe:=x89.ls})]]
  have t6 {Q:Prop} (q:Q):=aL c69 c70 (oD c69) c71 q;refine Zbd h (fun c72 h=>?_) (fun c72 h=>?_)
  ·obtain ⟨⟨x90,st91⟩,c73,h⟩:=Zab h;exact aq (o4++[.r [(4,wF),(5,wF),(6,wF)],cT,.r [(2,{rs:=[oB x90],st:=st91})],.s 4]) (t6 (aM c72 c72 c72 c72 eT (Zdb.s c73))) (Zaw.k2 h hE hc1)
  refine Zbd h (fun c74 h=>?_) (fun c74 h=>?_)
  ·obtain ⟨⟨x92,st93⟩,c75,h⟩:=Zab h;exact aq (o4++[.r [(7,yF)],cT,.r [(2,{rs:=[oB x92],st:=st93})],.s 4]) (t6 (aM c72 c72 c72 c72 c74 (Zdb.s c75))) (Zaw.k2 h hE hc1)
  exact aq (o4++[.r [(7,yF)],cF,.s 4]) (t6 (aL c72 c72 c72 c72 c74)) (Zaw.k2 h hE hc1)
 obtain ⟨i95,rfl,h⟩:=Zab h;obtain ⟨x96,x97,c77,h⟩:=Zbl h;obtain ⟨⟨x98,st99⟩,c78,h⟩:=Zab h;obtain ⟨x100,x101,c79,h⟩:=Zbl h;obtain ⟨i102,rfl,h⟩:=Zab h;obtain ⟨x103,x104,x105,c81,h⟩:=Zde h;obtain ⟨i106,rfl,h⟩:=Zab h;obtain ⟨x107,c83,h⟩:=Zcg h;exact aq [rZ,cF,.r [(3,{oc:=[zN x96,zN x97]}),(4,{rs:=[oI x98],st:=st99})],.r [(3,{oc:=[zN x100,zN (some i102)]}),(6,{oc:=[zN (some i106),zN x104,L.own true 1 x105]}),(9,{oc:=x107.lo})]] (aM c69 c77 (ZdJ.s c78) c79 c81 c83) (At.loop N (At.loopN (fun y:Int×LL=>Zaw.S3 i95 x98 x107 y.1 y.2) (fun c J hc y h=>Zaw.k3 (v108:=y.1) (st139:=y.2) h hE (fun v108 st139=>hc (v108,st139))) N (0,st99) h))
def Zaw.s {A0:Zae} {A1:LL} {st:LL} {r:Bool×LL} (h:Zaw N A0 A1 st=some r):Snd zC 3 [.agg A0.ls,.one (L.sl 72 A1)] st (Zaw.rs r) r.2:=
 sO Zaw.B Tryz.func3 fun g0 w0 R hE=>by
  unfold Zaw at h;obtain ⟨⟨x1,st2⟩,c1,h⟩:=Zab h;let o5:List PS:=[rZ,.r [(0,{rs:=[oB x1],st:=st2})]]
  have t7 {Q:Prop} (q:Q):=aI (Zeq.s c1) q;refine Zbd h (fun c2 h=>xT h hE (o5++[cT,rZ]) (t7 c2)) fun c2 h=>?_;obtain ⟨x3,c3,h⟩:=Zab h;let o6:List PS:=o5++[cF,.r [(2,q1 [oB x3])]]
  refine Zbd h (fun c4 h=>xT h hE (o6++[cT,rZ]) (t7 (aJ c2 (Zch.s c3) c4))) fun c4 h=>?_;obtain ⟨⟨x4,st5⟩,c5,h⟩:=Zab h;exact aq (o6++[cF,.r [(1,{rs:=[.one (zN x4)],st:=st5})],rZ]) (t7 (aK c2 (Zch.s c3) c4 (Zep.s c5))) (At.loop N (At.loopN (fun y:Int×LL=>Zaw.S1 x4 A1 y.1 y.2) (fun c J hc y h=>Zaw.k1 (v6:=y.1) (st88:=y.2) h hE (fun v6 st88=>hc (v6,st88))) N (0,st5) h))
end Go.Dn.F
end
