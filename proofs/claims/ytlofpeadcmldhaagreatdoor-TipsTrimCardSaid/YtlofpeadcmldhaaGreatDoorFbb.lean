import Derived.Test.YtlofpeadcmldhaaGreatDoorFba
set_option linter.all false
open Go.Dn.L renaming bx→xN,ptr→yM,own→yR,int→zJ
open Go.Proofs.Tryz renaming prog→zF
open Int renaming toNat→zE
open List renaming length→zK,set→zS,take→vF,replicate→zC
noncomputable section
set_option maxRecDepth 100000
namespace Go.Dn.F
open Go.Proofs
variable {N:Nat} {g0:G} {w0:World} {R:Exit→Act→World→Prop}
def Zaw.B:Code:=Tryz.f28.body.getD .skip
def Zaw.rs (r:Int×LL):List CV:=[oI r.1]
def Zaw.p2 (N:Nat) (c1_:((Option Nat)×Int×Int×LL)→Option (Int×LL)) (i26:Nat) (height_2 next_35 x33 x34:Int) (st25:LL):Option (Int×LL):=
 ZcI (st25[i26]?) Zbk fun x36 x37=>
 Zbs x36 fun i38=>
 ZcI (st25[i38]?) ZaY fun x39=>
 Zbs (ZaM N (Zao.mk x39 x37) next_35) fun x40=>
 c1_ ((some i26),next_35,x40,st25)
def Zaw.p1 (N:Nat) (height_2:Int) (c1_:((Option Nat)×Int×Int×LL)→Option (Int×LL)):((Option Nat)×Int×Int×LL)→Option (Int×LL):=fun (t_24,at_3,h_4,st25)=>
 if (decide (h_4>height_2))=true then
  Zbs t_24 fun i26=>
  ZcI (st25[i26]?) Zbk fun x27 x28=>
  Zbs x27 fun i29=>
  ZcI (st25[i29]?) ZaY fun x30=>
  Zbs (ZbE N (Zao.mk x30 x28) at_3) fun (x31,x32)=>
  chk (0≤at_3)<|
  chk (at_3<(len x28))<|
  ZcI (x28[0+(zE at_3)]?) ZcQ fun x33=>
  if (x33 != (-1))=true then
   Zbs (ZaM N (Zao.mk x30 x28) x33) fun x34=>
   if (decide (x34≥height_2))=true then
    Zaw.p2 N c1_ i26 height_2 x33 x33 x34 st25
   else
   Zaw.p2 N c1_ i26 height_2 x31.Ahead x33 x34 st25
  else
  Zbs (ZaM N (Zao.mk x30 x28) x31.Ahead) fun x41=>
  c1_ ((some i26),x31.Ahead,x41,st25)
 else
 some (at_3,st25)
def Zaw (N:Nat) (t_0:Option Nat) (at_1 height_2:Int) (st:LL):Option (Int×LL):=
 Zbs (Zco N t_0 at_1 st) fun (x1,st2)=>
 if (decide (height_2<0))=true then
  some ((-1),st2)
 else
 if (decide (height_2>x1))=true then
  some ((-1),st2)
 else
 loopN (Zaw.p1 N height_2) N (t_0,at_1,x1,st2)
def Zaw.p2.S (i26:Nat) (height_2 next_35 x33 x34:Int) (st25:LL):S:=mkS 55 [(0,sP (some i26)),(2,sI height_2),(10,sI next_35),(43,sP (some i26)),(44,sI x33),(45,sI x34),(46,sI height_2),(47,.one (.l (L.bool (decide (x34≥height_2)))))] [] st25
def Zaw.p1.S (t_24:Option Nat) (at_3 height_2 h_4:Int) (st25:LL):S:=mkS 55 [(0,sP t_24),(1,sI at_3),(2,sI height_2),(7,sI h_4)] [] st25
theorem Zaw.p2_ok {i26 height_2 next_35 x33 x34 st25 r c1_ J1} (h:Zaw.p2 N c1_ i26 height_2 next_35 x33 x34 st25=some r) (hE:En Tryz.f28 g0 w0 (Zaw.rs r) r.2 R) (hc1 : ∀t_24 at_3 h_4 st25,c1_ (t_24,at_3,h_4,st25)=some r→At g0 w0 (Zaw.p1.S t_24 at_3 height_2 h_4 st25) J1):At g0 w0 (Zaw.p2.S i26 height_2 next_35 x33 x34 st25) (XK zF R [.c (Zcb Zaw.B [1,1,1,0,0,0,1,0,1,1,1]),.b 1,.h J1,.b 0,.c (Zcb Zaw.B [1,1,1,1])]):=by
 unfold Zaw.p2 at h
 obtain ⟨x36,x37,c35,h1⟩:=ZaX h
 obtain ⟨i38,rfl,h2⟩:=Zae h1
 obtain ⟨x39,c37,h3⟩:=ZaP h2
 obtain ⟨x40,c38,h4⟩:=Zae h3
 exact an fol [.r [(3,{rs:=[oI x40],m:=10,cv:=[.one (xN 2 (Zao.ls (Zao.mk x39 x37)))]})]] [0,1,2,7] [] (aI (bO 2 c35 ((bC 87 c37 (Zau.bv x39) (bW bN)):BVs st25 [yM (some i38),yR true 1 x37] (Zao.ls (Zao.mk x39 x37)))) (ZaM.snd c38)) (hc1 (some i26) next_35 x40 st25 h4)
theorem Zaw.p1_ok {t_24 at_3 height_2 h_4 st25 r c1_ J1} (h:Zaw.p1 N height_2 c1_ (t_24,at_3,h_4,st25)=some r) (hE:En Tryz.f28 g0 w0 (Zaw.rs r) r.2 R) (hc1 : ∀t_24 at_3 h_4 st25,c1_ (t_24,at_3,h_4,st25)=some r→At g0 w0 (Zaw.p1.S t_24 at_3 height_2 h_4 st25) J1):At g0 w0 (Zaw.p1.S t_24 at_3 height_2 h_4 st25) (XK zF R (.c (Zcb Zaw.B [1,1,1,0,0,0]) :: .h J1 :: [.b 0,.c (Zcb Zaw.B [1,1,1,1])])):=by
 unfold Zaw.p1 at h
 refine Zbi h (fun c23 h5=>?_) (fun c23 h6=>?_)
 ·obtain ⟨i26,rfl,h7⟩:=Zae h5
  obtain ⟨x27,x28,c25,h8⟩:=ZaX h7
  obtain ⟨i29,rfl,h9⟩:=Zae h8
  obtain ⟨x30,c27,h10⟩:=ZaP h9
  obtain ⟨⟨x31,x32⟩,c28,h11⟩:=Zae h10
  obtain ⟨c29,c30,h12⟩:=ck2 h11
  obtain ⟨x33,c31,h13⟩:=Zck h12
  let o1:List PS:=[.r [],.c true,.r [(2,{rs:=[.agg x31.ls,oB x32],m:=10,cv:=[.one (xN 2 (Zao.ls (Zao.mk x30 x28)))]})],.r [],.r [(3,{oc:=[yM (some i29),yR true 1 x28]}),(6,{oc:=[yM (some i29),yR true 1 x28],oe:=[zJ .i64 x33]})]]
  have t1 {Q:Prop} (q:Q):=aO c23 (bO 2 c25 ((bC 87 c27 (Zau.bv x30) (bW bN)):BVs st25 [yM (some i29),yR true 1 x28] (Zao.ls (Zao.mk x30 x28)))) (ZbE.snd c28) c25 c29 c30 c31 (aI c25 q)
  refine Zbi h13 (fun c32 h14=>?_) (fun c32 h15=>?_)
  ·obtain ⟨x34,c33,h16⟩:=Zae h14
   let o2:List PS:=o1 ++ [.r [(5,{rs:=[oI x34],m:=10,cv:=[.one (xN 2 (Zao.ls (Zao.mk x30 x28)))]})]]
   have t2 {Q:Prop} (q:Q):=t1 (aO c32 c32 c32 (bO 2 c25 ((bC 87 c27 (Zau.bv x30) (bW bN)):BVs st25 [yM (some i29),yR true 1 x28] (Zao.ls (Zao.mk x30 x28)))) (ZaM.snd c33) c32 c32 (aI c32 q))
   refine Zbi h16 (fun c34 h17=>?_) (fun c34 h18=>?_)
   ·exact aq fol (o2 ++ [.c true,.r [],.s 5]) [0,2,10,43,44,45,46,47] [] (t2 c34) (Zaw.p2_ok h17 hE hc1)
   ·exact aq fol (o2 ++ [.c false,.s 5]) [0,2,10,43,44,45,46,47] [] (t2 c34) (Zaw.p2_ok h18 hE hc1)
  ·obtain ⟨x41,c39,h19⟩:=Zae h15
   exact an fol (o1 ++ [.r [(3,wF),(4,wF),(5,wF),(6,wF),(7,wF),(8,yF)],.c false,.r [(3,{rs:=[oI x41],m:=10,cv:=[.one (xN 2 (Zao.ls (Zao.mk x30 x28)))]})]]) [0,1,2,7] [] (t1 (aO c32 c32 c32 c32 c32 c32 eF (aI (bO 2 c25 ((bC 87 c27 (Zau.bv x30) (bW bN)):BVs st25 [yM (some i29),yR true 1 x28] (Zao.ls (Zao.mk x30 x28)))) (ZaM.snd c39)))) (hc1 (some i26) x31.Ahead x41 st25 h19)
 ·obtain rfl:=Zab h6
  exact af fol hE [.r [],.c false,.r []] [] 0 [] c23
theorem Zaw.snd {t_0:Option Nat} {at_1 height_2:Int} {st:LL} {r:Int×LL} (h:Zaw N t_0 at_1 height_2 st=some r):Snd zF 28 [.one (yM t_0),oI at_1,oI height_2] st (Zaw.rs r) r.2:=
 sO Zaw.B Tryz.func28 fun g0 w0 R hE=>by
  unfold Zaw at h
  obtain ⟨⟨x1,st2⟩,c1,h20⟩:=Zae h
  let o3:List PS:=[.r [],.r [(2,{rs:=[oI x1],st:=st2})]]
  have t3 {Q:Prop} (q:Q):=aI (Zco.snd c1) q
  refine Zbi h20 (fun c2 h21=>?_) (fun c2 h22=>?_)
  ·obtain rfl:=Zab h21
   exact af fol hE (o3 ++ [.r [(3,wF),(4,wF),(5,wF)],.c true,.r []]) [] 0 [] (t3 (aL c2 c2 c2 c2 eT))
  ·refine Zbi h22 (fun c3 h23=>?_) (fun c3 h24=>?_)
   ·obtain rfl:=Zab h23
    exact af fol hE (o3 ++ [.r [(6,yF)],.c true,.r []]) [] 0 [] (t3 (aL c2 c2 c2 c2 c3))
   ·exact aq fol (o3 ++ [.r [(6,yF)],.c false]) [0,1,2,7] [] (t3 (aL c2 c2 c2 c2 c3)) (At.loop N (At.loopN (fun y:(Option Nat)×Int×Int×LL=>Zaw.p1.S y.1 y.2.1 height_2 y.2.2.1 y.2.2.2) (fun c J hc y h=>Zaw.p1_ok (t_24:=y.1) (at_3:=y.2.1) (h_4:=y.2.2.1) (st25:=y.2.2.2) h hE (fun t_24 at_3 h_4 st25=>hc (t_24,at_3,h_4,st25))) N (t_0,at_1,x1,st2) h24))
def Zbq.B:Code:=Tryz.f9.body.getD .skip
def Zbq.rs (r:Int×Int×Int×LL):List CV:=[oI r.1,oI r.2.1,oI r.2.2.1]
def Zbq.p1 (N:Nat) (x4 x5 x6:Int) (st16:LL):Option (Int×Int×Int×LL):=
 some (x4,x5,x6,st16)
def Zbq (N:Nat) (t_0:Option Nat) (h_1:Zap) (now_2:Int) (st:LL):Option (Int×Int×Int×LL):=
 if (Option.isNone t_0)=true then
  some ((-1),0,2,st)
 else
 Zbs t_0 fun i1=>
 ZcI (st[i1]?) Zbk fun x2 x3=>
 Zbs (Zav N x2 h_1 now_2 st) fun (x4,x5,x6,st7)=>
 if (x6==0)=true then
  ZcI (st7[i1]?) Zbk fun x8 x9=>
  if (x4==(len x9))=true then
   Zbs x8 fun i10=>
   ZcI (st7[i10]?) ZaY fun x11=>
   Zbs (Zbv N x11 x4) fun (x12,x13)=>
   Zbs (ZcY N x12.Height) fun x14=>
   Zbs (Zaq N (Zao.mk x11 x9) x12.Ahead x14) fun x15=>
   chk (zK (x9 ++ [[zJ .i64 x15]])*8≤140737488355328)<|
   Zbq.p1 N x4 x5 x6 (zS (zS st7 i1 [yM (some i10),L.gone]) i1 [yM (some i10),yR true 1 (x9 ++ [[zJ .i64 x15]])])
  else
  Zbq.p1 N x4 x5 x6 st7
 else
 some (x4,x5,x6,st7)
def Zbq.p1.S (x4 x5 x6:Int) (st16:LL):S:=mkS 66 [(9,sI x4),(10,sI x5),(11,sI x6)] [] st16
theorem Zbq.p1_ok {x4 x5 x6 st16 r} (h:Zbq.p1 N x4 x5 x6 st16=some r) (hE:En Tryz.f9 g0 w0 (Zbq.rs r) r.2.2.2 R):At g0 w0 (Zbq.p1.S x4 x5 x6 st16) (XK zF R [.c (Zcb Zbq.B [1,1,1,1])]):=by
 unfold Zbq.p1 at h
 obtain rfl:=Zab h
 exact af fol hE [.r []] [] 0 [] trivial
theorem Zbq.snd {t_0:Option Nat} {h_1:Zap} {now_2:Int} {st:LL} {r:Int×Int×Int×LL} (h:Zbq N t_0 h_1 now_2 st=some r):Snd zF 9 [.one (yM t_0),.agg h_1.ls,oI now_2] st (Zbq.rs r) r.2.2.2:=
 sO Zbq.B Tryz.func9 fun g0 w0 R hE=>by
  unfold Zbq at h
  refine Zbi h (fun c1 h1=>?_) (fun c1 h2=>?_)
  ·obtain rfl:=Zab h1
   exact af fol hE [.r [],.r [],.c true,.r []] [] 0 [] c1
  ·obtain ⟨i1,rfl,h3⟩:=Zae h2
   obtain ⟨x2,x3,c3,h4⟩:=ZaX h3
   obtain ⟨⟨x4,x5,x6,st7⟩,c4,h5⟩:=Zae h4
   let o1:List PS:=[.r [],.r [],.c false,.d {ds:=[(3,{oc:=[yM x2,yR true 1 x3]}),(6,{rs:=[oI x4,oI x5,oI x6],st:=st7})],hv:=64,Hs:=[64]}]
   have t1 {Q:Prop} (q:Q):=aK c1 c3 (Zav.snd c4) q
   refine Zbi h5 (fun c5 h6=>?_) (fun c5 h7=>?_)
   ·obtain ⟨x8,x9,c6,h8⟩:=ZaX h6
    refine Zbi h8 (fun c7 h9=>?_) (fun c7 h10=>?_)
    ·obtain ⟨i10,rfl,h11⟩:=Zae h9
     obtain ⟨x11,c9,h12⟩:=ZaP h11
     obtain ⟨⟨x12,x13⟩,c10,h13⟩:=Zae h12
     obtain ⟨x14,c11,h14⟩:=Zae h13
     obtain ⟨x15,c12,h15⟩:=Zae h14
     obtain ⟨c13,h16⟩:=ZaU h15
     exact aqd fol (o1 ++ [.r [(7,{oc:=[yM (some i10),yR true 1 x9]})],.c true,.r [(3,{oc:=[yM (some i10),yR true 1 x9]}),(5,{rs:=[.agg x12.ls,oB x13],m:=10,cv:=[.one (xN 87 x11.ls)]})],.d {ds:=[(4,{oc:=[yM (some i10),yR true 1 x9]}),(10,q1 [oI x14]),(11,{rs:=[oI x15],m:=10,cv:=[.one (xN 2 (Zao.ls (Zao.mk x11 x9)))]}),(13,{oe:=[yM (some i10),yR true 1 x9]}),(16,{oc:=[yM (some i10),L.gone],mv:=[60]})],hv:=79872,Hs:=[2048,6144,14336,79872]},.s 1]) [9,10,11] [] (t1 (aO c5 c5 c5 c5 c5 c6 c5 (aO c5 c5 c7 c6 (bO 87 c9 (Zau.bv x11)) (Zbv.snd c10) c6 (aO c6 c6 (ZcY.snd c11) (bO 2 c6 ((bC 87 c9 (Zau.bv x11) (bW bN)):BVs st7 [yM (some i10),yR true 1 x9] (Zao.ls (Zao.mk x11 x9)))) (Zaq.snd c12) z0 (eN (zK x9)) (aN c6 z0 (eN (1)) c13 (ZaJ c6 [yM (some i10),L.gone]) z0 (eN (zK (x9 ++ [[zJ .i64 x15]])))))))) (Zbq.p1_ok h16 hE)
    ·exact aqd fol (o1 ++ [.r [(7,{oc:=[yM x8,yR true 1 x9]})],.c false,.s 1]) [9,10,11] [] (t1 (aO c5 c5 c5 c5 c5 c6 c5 (aJ c5 c5 c7))) (Zbq.p1_ok h10 hE)
   ·obtain rfl:=Zab h7
    exact afd fol hE (o1 ++ [.r [(3,wF),(4,wF),(5,wF),(6,wF),(7,wF),(8,wF),(9,wF),(10,yF)],.c false,.r []]) [] 0 [] (t1 (aO c5 c5 c5 c5 c5 c5 c5 (aI c5 eF)))
def Zcc.B:Code:=Tryz.f13.body.getD .skip
def Zcc.rs (r:LL):List CV:=[.row true 1 r]
def Zcc (N:Nat) (s_0:ZaQ):Option LL:=
 Zbs (ZaV N s_0.list) fun x1=>
 some x1
theorem Zcc.snd {s_0:ZaQ} {r:LL} (h:Zcc N s_0=some r):Zdh zF 13 [.one (xN 2 s_0.ls)] (Zcc.rs r):=fun st=>
 sO Zcc.B Tryz.func13 fun g0 w0 R hE=>by
  unfold Zcc at h
  obtain ⟨x1,c1,h1⟩:=Zae h
  obtain rfl:=Zab h1
  exact af fol hE [.r [(0,{m:=2})],.r [],.c false,.r [(3,{oe:=s_0.ls}),(4,{rs:=[.row true 1 x1],ns:=[9],m:=1})]] [] 0 [0] (aL eF (eO s_0.ls) (ZaV.snd c1) z0 (eN (zK x1)))
def ZcD.B:Code:=Tryz.f16.body.getD .skip
def ZcD.rs (r:Bool×LL):List CV:=[oB r.1]
def ZcD (N:Nat) (t_0:Option Nat) (x_1 y_2:Int) (st:LL):Option (Bool×LL):=
 if (!(Option.isNone t_0))=true then
  Zbs t_0 fun i1=>
  ZcI (st[i1]?) Zbk fun x2 x3=>
  Zbs x2 fun i4=>
  ZcI (st[i4]?) ZaY fun x5=>
  Zbs (Zbp N x5 x_1 y_2) fun x6=>
  some (x6,st)
 else
 some (false,st)
theorem ZcD.snd {t_0:Option Nat} {x_1 y_2:Int} {st:LL} {r:Bool×LL} (h:ZcD N t_0 x_1 y_2 st=some r):Snd zF 16 [.one (yM t_0),oI x_1,oI y_2] st (ZcD.rs r) r.2:=
 sO ZcD.B Tryz.func16 fun g0 w0 R hE=>by
  unfold ZcD at h
  refine Zbi h (fun c1 h1=>?_) (fun c1 h2=>?_)
  ·obtain ⟨i1,rfl,h3⟩:=Zae h1
   obtain ⟨x2,x3,c3,h4⟩:=ZaX h3
   obtain ⟨i4,rfl,h5⟩:=Zae h4
   obtain ⟨x5,c5,h6⟩:=ZaP h5
   obtain ⟨x6,c6,h7⟩:=Zae h6
   obtain rfl:=Zab h7
   exact af fol hE [.r [],.r [(6,{oc:=[yM (some i4),yR true 1 x3]}),(9,{rs:=[oB x6],m:=10,cv:=[.one (xN 87 x5.ls)]})]] [] 0 [] (aO eT eT eT eT c3 eT eT (aK eT (bO 87 c5 (Zau.bv x5)) (Zbp.snd c6) eT))
  ·obtain rfl:=Zab h2
   exact af fol hE [.r [],.r [(3,wF),(4,wF),(5,wF),(6,wF),(7,wF),(8,wF),(9,wF),(10,yF)]] [] 0 [] (aO c1 c1 c1 c1 c1 c1 c1 c1)
def ZbT.B:Code:=Tryz.f36.body.getD .skip
def ZbT.rs (r:Bool):List CV:=[oB r]
def ZbT (N:Nat) (x_0:Int) (a_1_0:Zao) (a_2_0:Int):Option Bool:=
 Zbs (Zba N a_1_0 a_2_0 x_0) fun x1=>
 some x1
theorem ZbT.snd {x_0:Int} {a_1_0:Zao} {a_2_0:Int} {r:Bool} (h:ZbT N x_0 a_1_0 a_2_0=some r):Zdh zF 36 [oI x_0,.one (xN 1 [xN 2 [xN 2 a_1_0.ls,L.gone]]),.one (xN 1 [zJ .i64 a_2_0])] (ZbT.rs r):=fun st=>
 sO ZbT.B Tryz.func36 fun g0 w0 R hE=>by
  unfold ZbT at h
  obtain ⟨x1,c1,h1⟩:=Zae h
  obtain rfl:=Zab h1
  exact afd fol hE [.r [],.d {ds:=[(0,{m:=2}),(3,{oe:=[xN 2 a_1_0.ls,L.gone]}),(4,{m:=2}),(6,q0 [oB x1])],hv:=64,Hs:=[64]}] [] 0 [] (aI (eO [xN 2 a_1_0.ls,L.gone]) (Zba.snd c1))
def Zal.B:Code:=Tryz.f64.body.getD .skip
def Zal.rs (r:Int):List CV:=[oI r]
def Zal.p1 (N:Nat) (s_0:LL) (f_1_0_0:Zao) (f_1_1_0:Int) (c1_:Int→Option Int):Int→Option Int:=fun v1=>
 if (decide (v1<(len s_0)))=true then
  chk (0≤v1)<|
  ZcI (s_0[zE v1]?) ZcQ fun x2=>
  Zbs (ZbT N x2 f_1_0_0 f_1_1_0) fun x3=>
  if x3=true then
   some v1
  else
  c1_ (w64 (v1+1))
 else
 some (-1)
def Zal (N:Nat) (s_0:LL) (f_1_0_0:Zao) (f_1_1_0:Int):Option Int:=
 loopN (Zal.p1 N s_0 f_1_0_0 f_1_1_0) N 0
def Zal.p1.S (s_0:LL) (f_1_0_0:Zao) (f_1_1_0 v1:Int) (st:LL):S:=mkS 19 [(0,sV 1 s_0),(1,.one (.l (L.fn 36 0 [xN 1 [xN 2 [xN 2 f_1_0_0.ls,L.gone]],xN 1 [zJ .i64 f_1_1_0]]))),(7,sI (len s_0)),(8,sI v1)] [] st
theorem Zal.p1_ok {s_0 f_1_0_0 f_1_1_0 v1 st r c1_ J1} (h:Zal.p1 N s_0 f_1_0_0 f_1_1_0 c1_ v1=some r) (hE:En Tryz.f64 g0 w0 (Zal.rs r) st R) (hc1 : ∀v1,c1_ v1=some r→At g0 w0 (Zal.p1.S s_0 f_1_0_0 f_1_1_0 v1 st) J1):At g0 w0 (Zal.p1.S s_0 f_1_0_0 f_1_1_0 v1 st) (XK zF R (.c (Zcb Zal.B [1,0,1,0,0]) :: .h J1 :: [.b 0,.c (Zcb Zal.B [1,1])])):=by
 unfold Zal.p1 at h
 refine Zbi h (fun c1 h1=>?_) (fun c1 h2=>?_)
 ·obtain ⟨c2,h3⟩:=ZaU h1
  obtain ⟨x2,c3,h4⟩:=Zck h3
  obtain ⟨x3,c4,h5⟩:=Zae h4
  let o1:List PS:=[.r [],.c true,.r [],.r [(4,{oe:=[zJ .i64 x2]}),(5,{rs:=[oB x3],st:=st,m:=5})]]
  have t1 {Q:Prop} (q:Q):=aM c1 c2 (oD c1) c3 (ZbT.snd c4 st) q
  refine Zbi h5 (fun c5 h6=>?_) (fun c5 h7=>?_)
  ·obtain rfl:=Zab h6
   exact af fol hE (o1 ++ [.c true,.r []]) [] 0 [] (t1 c5)
  ·exact an fol (o1 ++ [.c false,.r []]) [0,1,7,8] [] (t1 c5) (hc1 (w64 (v1+1)) h7)
 ·obtain rfl:=Zab h2
  exact af fol hE [.r [],.c false,.r []] [] 0 [] c1
theorem Zal.snd {s_0:LL} {f_1_0_0:Zao} {f_1_1_0:Int} {r:Int} (h:Zal N s_0 f_1_0_0 f_1_1_0=some r):Zdh zF 64 [.one (L.sl 1 s_0),.one (L.fn 36 0 [xN 1 [xN 2 [xN 2 f_1_0_0.ls,L.gone]],xN 1 [zJ .i64 f_1_1_0]])] (Zal.rs r):=fun st=>
 sO Zal.B Tryz.func64 fun g0 w0 R hE=>by
  unfold Zal at h
  exact aq fol [.r [],.r []] [0,1,7,8] [] trivial (At.loop N (At.loopN (fun y:Int=>Zal.p1.S s_0 f_1_0_0 f_1_1_0 y st) (fun c J hc y h=>Zal.p1_ok h hE (fun v1=>hc v1)) N 0 h))
def Zaa.B:Code:=Tryz.f35.body.getD .skip
def Zaa.rs (r:LL):List CV:=[.row true 1 r]
def Zaa.p2 (N:Nat) (c1_:(Int×Int×LL)→Option LL) (s_0:LL) (del_1_0_0:Zao) (del_1_1_0 i_12 j_3:Int) (s_11:LL):Option LL:=
 c1_ (i_12,w64 (j_3+1),s_11)
def Zaa.p1 (N:Nat) (s_0:LL) (del_1_0_0:Zao) (del_1_1_0:Int) (c1_:(Int×Int×LL)→Option LL):(Int×Int×LL)→Option LL:=fun (i_2,j_3,s_8)=>
 if (decide (j_3<(len s_0)))=true then
  chk (0≤j_3)<|
  ZcI (s_8[0+(zE j_3)]?) ZcQ fun x9=>
  Zbs (ZbT N x9 del_1_0_0 del_1_1_0) fun x10=>
  if (!x10)=true then
   chk (0≤i_2)<|
   chk (i_2<(len s_0))<|
   Zaa.p2 N c1_ s_0 del_1_0_0 del_1_1_0 (w64 (i_2+1)) j_3 (zS s_8 (0+(zE i_2)) [zJ .i64 x9])
  else
  Zaa.p2 N c1_ s_0 del_1_0_0 del_1_1_0 i_2 j_3 s_8
 else
 chk (0≤i_2)<|
 chk ((zE i_2)≤(zK s_0))<|
 chk ((0+(zE i_2))+((zK s_0)-(zE i_2))=zK s_8)<|
 chk ((0+(zE i_2))≤(zK (vF (0+(zE i_2)) s_8++zC ((zK s_0)-(zE i_2)) [zJ .i64 0])))<|
 chk ((zE i_2)≤(zK (vF (0+(zE i_2)) s_8++zC ((zK s_0)-(zE i_2)) [zJ .i64 0])))<|
 some (vF (zE i_2) (vF (0+(zE i_2)) s_8++zC ((zK s_0)-(zE i_2)) [zJ .i64 0]))
def Zaa (N:Nat) (s_0:LL) (del_1_0_0:Zao) (del_1_1_0:Int):Option LL:=
 Zbs (Zal N s_0 del_1_0_0 del_1_1_0) fun x1=>
 if (x1==(-1))=true then
  some s_0
 else
 loopN (Zaa.p1 N s_0 del_1_0_0 del_1_1_0) N (x1,w64 (x1+1),s_0)
def Zaa.p2.S (s_0:LL) (del_1_0_0:Zao) (del_1_1_0 i_12 j_3:Int) (s_11 st:LL):S:=mkS 42 [(0,.one (.h (.row 0 0) 1 0 (zK s_0))),(1,.one (.l (L.fn 36 0 [xN 1 [xN 2 [xN 2 del_1_0_0.ls,L.gone]],xN 1 [zJ .i64 del_1_1_0]]))),(5,sI i_12),(6,sI j_3)] [(0,.row 0 true 1 s_11)] st
def Zaa.p1.S (s_0:LL) (del_1_0_0:Zao) (del_1_1_0 i_2 j_3:Int) (s_8 st:LL):S:=mkS 42 [(0,.one (.h (.row 0 0) 1 0 (zK s_0))),(1,.one (.l (L.fn 36 0 [xN 1 [xN 2 [xN 2 del_1_0_0.ls,L.gone]],xN 1 [zJ .i64 del_1_1_0]]))),(5,sI i_2),(6,sI j_3)] [(0,.row 0 true 1 s_8)] st
theorem Zaa.p2_ok {s_0 del_1_0_0 del_1_1_0 i_12 j_3 s_11 st r c1_ J1} (h:Zaa.p2 N c1_ s_0 del_1_0_0 del_1_1_0 i_12 j_3 s_11=some r) (hE:En Tryz.f35 g0 w0 (Zaa.rs r) st R) (hc1 : ∀i_2 j_3 s_8,c1_ (i_2,j_3,s_8)=some r→At g0 w0 (Zaa.p1.S s_0 del_1_0_0 del_1_1_0 i_2 j_3 s_8 st) J1):At g0 w0 (Zaa.p2.S s_0 del_1_0_0 del_1_1_0 i_12 j_3 s_11 st) (XK zF R [.c (Zcb Zaa.B [1,1,1,0,1,0,0,1,1]),.h J1,.b 0,.c (Zcb Zaa.B [1,1,1,1])]):=by
 unfold Zaa.p2 at h
 exact an fol [.r []] [0,1,5,6] [0] trivial (hc1 i_12 (w64 (j_3+1)) s_11 h)
theorem Zaa.p1_ok {s_0 del_1_0_0 del_1_1_0 i_2 j_3 s_8 st r c1_ J1} (h:Zaa.p1 N s_0 del_1_0_0 del_1_1_0 c1_ (i_2,j_3,s_8)=some r) (hE:En Tryz.f35 g0 w0 (Zaa.rs r) st R) (hc1 : ∀i_2 j_3 s_8,c1_ (i_2,j_3,s_8)=some r→At g0 w0 (Zaa.p1.S s_0 del_1_0_0 del_1_1_0 i_2 j_3 s_8 st) J1):At g0 w0 (Zaa.p1.S s_0 del_1_0_0 del_1_1_0 i_2 j_3 s_8 st) (XK zF R (.c (Zcb Zaa.B [1,1,1,0,1,0,0]) :: .h J1 :: [.b 0,.c (Zcb Zaa.B [1,1,1,1])])):=by
 unfold Zaa.p1 at h
 refine Zbi h (fun c15 h1=>?_) (fun c15 h2=>?_)
 ·obtain ⟨c16,h3⟩:=ZaU h1
  obtain ⟨x9,c17,h4⟩:=Zck h3
  obtain ⟨x10,c18,h5⟩:=Zae h4
  let o1:List PS:=[.r [],.c true,.r [(3,{oe:=[zJ .i64 x9]})],.r [(2,{rs:=[oB x10],st:=st,m:=5})]]
  have t1 {Q:Prop} (q:Q):=aM c15 c16 (oD c15) c17 (ZbT.snd c18 st) q
  refine Zbi h5 (fun c19 h6=>?_) (fun c19 h7=>?_)
  ·obtain ⟨c20,c21,h8⟩:=ck2 h6
   exact aq fol (o1 ++ [.c true,.r [],.r [],.s 4]) [0,1,5,6] [0] (t1 (aJ c19 c20 c21)) (Zaa.p2_ok h8 hE hc1)
  ·exact aq fol (o1 ++ [.c false,.s 4]) [0,1,5,6] [0] (t1 c19) (Zaa.p2_ok h7 hE hc1)
 ·obtain ⟨c22,c23,c24,c25,c26,h9⟩:=ck5 h2
  obtain rfl:=Zab h9
  exact af fol hE [.r [],.c false,.r [],.r [(2,{m:=9})]] [] 2 [0] (aO c15 c22 c23 (Nat.le_refl (zK s_0)) c24 c22 (Nat.zero_le (zE i_2)) (aJ c25 z0 c26))
theorem Zaa.snd {s_0:LL} {del_1_0_0:Zao} {del_1_1_0:Int} {r:LL} (h:Zaa N s_0 del_1_0_0 del_1_1_0=some r):Zdh zF 35 [.row true 1 s_0,.one (L.fn 36 0 [xN 1 [xN 2 [xN 2 del_1_0_0.ls,L.gone]],xN 1 [zJ .i64 del_1_1_0]])] (Zaa.rs r):=fun st=>
 sO Zaa.B Tryz.func35 fun g0 w0 R hE=>by
  unfold Zaa at h
  obtain ⟨x1,c1,h10⟩:=Zae h
  let o2:List PS:=[.r [(0,{m:=2})],.r [(2,{rs:=[oI x1],m:=2})],.r []]
  have t2 {Q:Prop} (q:Q):=aK z0 (eN (zK s_0)) (Zal.snd c1) q
  refine Zbi h10 (fun c2 h11=>?_) (fun c2 h12=>?_)
  ·obtain rfl:=Zab h11
   exact af fol hE (o2 ++ [.c true,.r []]) [] 0 [0] (t2 (aJ c2 z0 (eN (zK s_0))))
  ·exact aq fol (o2 ++ [.c false,.r []]) [0,1,5,6] [0] (t2 c2) (At.loop N (At.loopN (fun y:Int×Int×LL=>Zaa.p1.S s_0 del_1_0_0 del_1_1_0 y.1 y.2.1 y.2.2 st) (fun c J hc y h=>Zaa.p1_ok (i_2:=y.1) (j_3:=y.2.1) (s_8:=y.2.2) h hE (fun i_2 j_3 s_8=>hc (i_2,j_3,s_8))) N (x1,w64 (x1+1),s_0) h12))
def Zcw.B:Code:=Tryz.f15.body.getD .skip
def Zcw.rs (r:Int×LL):List CV:=[oI r.1]
def Zcw (N:Nat) (s_0:Option Nat) (at_1:Int) (st:LL):Option (Int×LL):=
 Zbs (Zcf N s_0 at_1 st) fun (x1,st2)=>
 if (!x1)=true then
  some (0,st2)
 else
 Zbs s_0 fun i3=>
 ZcI (st2[i3]?) Zbk fun x4 x5=>
 Zbs x4 fun i6=>
 ZcI ((zS st2 i3 [yM (some i6),L.gone])[i6]?) Zbk fun x7 x8=>
 Zbs x7 fun i9=>
 ZcI ((zS st2 i3 [yM (some i6),L.gone])[i9]?) ZaY fun x10=>
 Zbs (Zaa N x5 (Zao.mk x10 x8) at_1) fun x11=>
 chk (isI x11=true)<|
 some (w64 ((len x5)-(len x11)),zS (zS st2 i3 [yM (some i6),L.gone]) i3 [yM (some i6),yR true 1 x11])
theorem Zcw.snd {s_0:Option Nat} {at_1:Int} {st:LL} {r:Int×LL} (h:Zcw N s_0 at_1 st=some r):Snd zF 15 [.one (yM s_0),oI at_1] st (Zcw.rs r) r.2:=
 sO Zcw.B Tryz.func15 fun g0 w0 R hE=>by
  unfold Zcw at h
  obtain ⟨⟨x1,st2⟩,c1,h1⟩:=Zae h
  let o1:List PS:=[.r [(0,{m:=2}),(1,{m:=2})],.r [(0,{m:=2}),(1,{m:=2}),(2,{rs:=[oB x1],st:=st2})]]
  refine Zbi h1 (fun c2 h2=>?_) (fun c2 h3=>?_)
  ·obtain rfl:=Zab h2
   exact af fol hE (o1 ++ [.c true,.r []]) [] 0 [] (aI (Zcf.snd c1) c2)
  ·obtain ⟨i3,rfl,h4⟩:=Zae h3
   obtain ⟨x4,x5,c4,h5⟩:=ZaX h4
   obtain ⟨i6,rfl,h6⟩:=Zae h5
   obtain ⟨x7,x8,c6,h7⟩:=ZaX h6
   obtain ⟨i9,rfl,h8⟩:=Zae h7
   obtain ⟨x10,c8,h9⟩:=ZaP h8
   obtain ⟨x11,c9,h10⟩:=Zae h9
   obtain ⟨c10,h11⟩:=ZaU h10
   obtain rfl:=Zab h11
   exact afd fol hE (o1 ++ [.c false,.r [(0,{m:=2}),(3,{oc:=[yM (some i6),yR true 1 x5]})],.d {ds:=[(0,{m:=2}),(1,{m:=2}),(4,{oc:=[yM (some i6),yR true 1 x5]}),(6,{oe:=[yM (some i6),yR true 1 x5],rs:=[.row true 1 x11],m:=16,cv:=[.one (L.fn 36 0 [xN 1 [xN 2 [xN 2 (Zao.ls (Zao.mk x10 x8)),L.gone]],xN 1 [zJ .i64 at_1]])]}),(9,{oc:=[yM (some i6),L.gone],mv:=[21]})],hv:=576,Hs:=[64,576]},.r [(1,{m:=2}),(4,{oc:=[yM (some i6),yR true 1 x11]})]]) [] 0 [] (aO (Zcf.snd c1) c2 c4 c4 z0 (eN (zK x5)) c4 (aN ((BVx.bx _ _ _ _ _ (BVx.obj _ _ _ _ _ _ (ZaJ c4 [yM (some i6),L.gone]) (BVx.obj _ _ _ _ _ _ c6 (BVx.of _ _ ((bC 87 c8 (Zau.bv x10) (bW bN)):BVs (zS st2 i3 [yM (some i6),L.gone]) [yM (some i9),yR true 1 x8] (Zao.ls (Zao.mk x10 x8)))) rfl rfl (BVx.gone _ _ (BVx.of [] [] BVs.nil))) rfl rfl (BVx.of [] [] BVs.nil)) (BVx.bx _ _ _ _ _ (BVx.pl _ _ _ rfl (BVx.of [] [] BVs.nil)) (BVx.of [] [] BVs.nil))):BVx (zS st2 i3 [yM (some i6),L.gone]) [xN 1 [yM (some i3)],xN 1 [zJ .i64 at_1]] [xN 1 [xN 2 [xN 2 (Zao.ls (Zao.mk x10 x8)),L.gone]],xN 1 [zJ .i64 at_1]]) c10 (Zaa.snd c9) (ZaJ c4 [yM (some i6),L.gone]) z0 (eN (zK x11)) (ZaJ (ZaJ c4 [yM (some i6),L.gone]) [yM (some i6),yR true 1 x11])))
def ZcA.B:Code:=Tryz.f14.body.getD .skip
def ZcA.rs (r:Bool×LL):List CV:=[oB r.1]
def ZcA (N:Nat) (s_0:Option Nat) (at_1:Int) (st:LL):Option (Bool×LL):=
 Zbs (Zcf N s_0 at_1 st) fun (x1,st2)=>
 if (!x1)=true then
  some (false,st2)
 else
 Zbs s_0 fun i3=>
 ZcI (st2[i3]?) Zbk fun x4 x5=>
 Zbs x4 fun i6=>
 ZcI (st2[i6]?) Zbk fun x7 x8=>
 Zbs x7 fun i9=>
 ZcI (st2[i9]?) ZaY fun x10=>
 Zbs (ZbQ N (ZaQ.mk (Zao.mk x10 x8) x5) at_1) fun (x11,x12)=>
 some (x12,st2)
theorem ZcA.snd {s_0:Option Nat} {at_1:Int} {st:LL} {r:Bool×LL} (h:ZcA N s_0 at_1 st=some r):Snd zF 14 [.one (yM s_0),oI at_1] st (ZcA.rs r) r.2:=
 sO ZcA.B Tryz.func14 fun g0 w0 R hE=>by
  unfold ZcA at h
  obtain ⟨⟨x1,st2⟩,c1,h1⟩:=Zae h
  let o1:List PS:=[.r [],.r [(2,{rs:=[oB x1],st:=st2})]]
  refine Zbi h1 (fun c2 h2=>?_) (fun c2 h3=>?_)
  ·obtain rfl:=Zab h2
   exact af fol hE (o1 ++ [.c true,.r []]) [] 0 [] (aI (Zcf.snd c1) c2)
  ·obtain ⟨i3,rfl,h4⟩:=Zae h3
   obtain ⟨x4,x5,c4,h5⟩:=ZaX h4
   obtain ⟨i6,rfl,h6⟩:=Zae h5
   obtain ⟨x7,x8,c6,h7⟩:=ZaX h6
   obtain ⟨i9,rfl,h8⟩:=Zae h7
   obtain ⟨x10,c8,h9⟩:=ZaP h8
   obtain ⟨⟨x11,x12⟩,c9,h10⟩:=Zae h9
   obtain rfl:=Zab h10
   exact af fol hE (o1 ++ [.c false,.r [(2,{rs:=[oI x11,oB x12],m:=10,cv:=[.one (xN 2 (ZaQ.ls (ZaQ.mk (Zao.mk x10 x8) x5)))]})],.r []]) [] 0 [] (aK (Zcf.snd c1) c2 (bO 2 c4 ((bC 2 c6 ((bC 87 c8 (Zau.bv x10) (bW bN)):BVs st2 [yM (some i9),yR true 1 x8] (Zao.ls (Zao.mk x10 x8))) (bW bN)):BVs st2 [yM (some i6),yR true 1 x5] (ZaQ.ls (ZaQ.mk (Zao.mk x10 x8) x5)))) (ZbQ.snd c9))
def Zay.B:Code:=Tryz.f4.body.getD .skip
def Zay.rs (r:Bool×LL):List CV:=[oB r.1]
def Zay.p2 (N:Nat) (at_3:Int) (i75:Nat) (x83 x93:LL) (c2_:((Option Nat)×Int×LL)→Option (Bool×LL)):((Option Nat)×Int×LL)→Option (Bool×LL):=fun (t_108,v94,st109)=>
 if (decide (v94<(len x93)))=true then
  chk (0≤v94)<|
  ZcI (x93[0+(zE v94)]?) ZcQ fun x110=>
  chk (v94<(len x83))<|
  ZcI (x83[0+(zE v94)]?) ZcQ fun x111=>
  if (x110 != x111)=true then
   some (false,st109)
  else
  Zbs t_108 fun i112=>
  ZcI (st109[i112]?) Zbk fun x113 x114=>
  Zbs x113 fun i115=>
  ZcI (st109[i115]?) ZaY fun x116=>
  Zbs (Zba N (Zao.mk x116 x114) at_3 x110) fun x117=>
  if x117=true then
   if (decide (at_3≥0))=true then
    Zbs (Zci N (some i112) st109) fun (x118,st119)=>
    if (decide (at_3<x118))=true then
     some (false,st119)
    else
    c2_ ((some i112),w64 (v94+1),st119)
   else
   c2_ ((some i112),w64 (v94+1),st109)
  else
  c2_ ((some i112),w64 (v94+1),st109)
 else
 Zbs (ZcA N (some i75) at_3 st109) fun (x120,st121)=>
 if (!x120)=true then
  some (true,st121)
 else
 chk (0≤(w64 ((len x93)-1)))<|
 chk ((w64 ((len x93)-1))<(len x93))<|
 ZcI (x93[0+(zE (w64 ((len x93)-1)))]?) ZcQ fun x122=>
 some (x122==at_3,st121)
def Zay.p1 (N:Nat) (places_2:LL) (at_3:Int) (x4:Option Nat) (acts_1:LL) (c1_:(Int×LL)→Option (Bool×LL)):(Int×LL)→Option (Bool×LL):=fun (v7,st65)=>
 if (decide (v7<(len acts_1)))=true then
  chk (0≤v7)<|
  ZcI (acts_1[zE v7]?) ZcC fun x66=>
  Zbs (Zbq N x4 x66.Header x66.Now st65) fun (x67,x68,x69,st70)=>
  c1_ (w64 (v7+1),st70)
 else
 Zbs (ZdY N x4 st65) fun (x71,st72)=>
 Zbs (ZaF N x71 places_2 st72) fun (x73,st74)=>
 Zbs x71 fun i75=>
 ZcI (st74[i75]?) Zbk fun x76 x77=>
 Zbs x76 fun i78=>
 ZcI (st74[i78]?) Zbk fun x79 x80=>
 Zbs x79 fun i81=>
 ZcI (st74[i81]?) ZaY fun x82=>
 Zbs (Zcc N (ZaQ.mk (Zao.mk x82 x80) x77)) fun x83=>
 chk (ZdC x83=true)<|
 Zbs (Zcw N (some i75) at_3 st74) fun (x84,st85)=>
 ZcI (st85[i75]?) Zbk fun x86 x87=>
 Zbs x86 fun i88=>
 ZcI (st85[i88]?) Zbk fun x89 x90=>
 Zbs x89 fun i91=>
 ZcI (st85[i91]?) ZaY fun x92=>
 Zbs (Zcc N (ZaQ.mk (Zao.mk x92 x90) x87)) fun x93=>
 chk (ZdC x93=true)<|
 if ((w64 ((len x93)+x84)) != (len x83))=true then
  some (false,st85)
 else
 loopN (Zay.p2 N at_3 i75 x83 x93) N (x4,0,st85)
def Zay (N:Nat) (p_0:Zaj) (acts_1 places_2:LL) (at_3:Int) (st:LL):Option (Bool×LL):=
 Zbs (ZcL N st) fun (x1,st2)=>
 if (!x1)=true then
  some (false,st2)
 else
 Zbs (Zbw N p_0 acts_1) fun x3=>
 if x3=true then
  some (true,st2)
 else
 if (decide ((len places_2)>20))=true then
  some (true,st2)
 else
 Zbs (ZdN N p_0 100 st2) fun (x4,x5,st6)=>
 loopN (Zay.p1 N places_2 at_3 x4 acts_1) N (0,st6)
def Zay.p2.S (at_3:Int) (t_108:Option Nat) (i75:Nat) (x83 x93:LL) (v94:Int) (st109:LL):S:=mkS 113 [(3,sI at_3),(9,sP t_108),(13,sP (some i75)),(14,.one (.h (.row 52 0) 1 0 (zK x83))),(16,.one (.h (.row 57 0) 1 0 (zK x93))),(66,sI (len x93)),(67,sI v94)] [(52,.row 0 true 1 x83),(57,.row 0 true 1 x93)] st109
def Zay.p1.S (places_2:LL) (at_3:Int) (x4:Option Nat) (acts_1:LL) (v7:Int) (st65:LL):S:=mkS 113 [(2,sV 1 places_2),(3,sI at_3),(9,sP x4),(33,sV 71 acts_1),(34,sI (len acts_1)),(35,sI v7)] [] st65
theorem Zay.p2_ok {at_3 t_108 i75 x83 x93 v94 st109 r c2_ J2} (h:Zay.p2 N at_3 i75 x83 x93 c2_ (t_108,v94,st109)=some r) (hE:En Tryz.f4 g0 w0 (Zay.rs r) r.2 R) (hc2 : ∀t_108 v94 st109,c2_ (t_108,v94,st109)=some r→At g0 w0 (Zay.p2.S at_3 t_108 i75 x83 x93 v94 st109) J2):At g0 w0 (Zay.p2.S at_3 t_108 i75 x83 x93 v94 st109) (XK zF R (.c (Zcb Zay.B [1,1,1,1,1,1,1,1,1,1,1,0,1,0,0]) :: .h J2 :: [.b 2,.c (Zcb Zay.B [1,1,1,1,1,1,1,1,1,1,1,1])])):=by
 unfold Zay.p2 at h
 refine Zbi h (fun c113 h1=>?_) (fun c113 h2=>?_)
 ·obtain ⟨c114,h3⟩:=ZaU h1
  obtain ⟨x110,c115,h4⟩:=Zck h3
  obtain ⟨c116,h5⟩:=ZaU h4
  obtain ⟨x111,c117,h6⟩:=Zck h5
  let o1:List PS:=[.r [],.c true,.r []]
  have t1 {Q:Prop} (q:Q):=aO c113 c114 (oD c113) c115 c114 c116 c117 q
  refine Zbi h6 (fun c118 h7=>?_) (fun c118 h8=>?_)
  ·obtain rfl:=Zab h7
   exact afd fol hE (o1 ++ [.d {ds:=[(3,{oe:=[zJ .i64 x110]}),(7,{oe:=[zJ .i64 x111]}),(10,wF),(11,wF),(12,wF),(13,wF),(14,wF),(15,wF),(16,wF),(17,wF),(20,wF),(21,wF),(26,wF)],hv:=0,Hs:=[]},.c true,.r []]) [] 0 [] (t1 (aO c118 c118 c118 c118 c118 c118 c118 (aM c118 c118 c118 c118 c118 eT)))
  ·obtain ⟨i112,rfl,h9⟩:=Zae h8
   obtain ⟨x113,x114,c120,h10⟩:=ZaX h9
   obtain ⟨i115,rfl,h11⟩:=Zae h10
   obtain ⟨x116,c122,h12⟩:=ZaP h11
   obtain ⟨x117,c123,h13⟩:=Zae h12
   have t2 {Q:Prop} (q:Q):=t1 (aO c118 c118 c118 c118 c118 c114 (oD c113) (aN c118 c115 c118 (bO 2 c120 ((bC 87 c122 (Zau.bv x116) (bW bN)):BVs st109 [yM (some i115),yR true 1 x114] (Zao.ls (Zao.mk x116 x114)))) (Zba.snd c123) c118 q))
   refine Zbi h13 (fun c124 h14=>?_) (fun c124 h15=>?_)
   ·have t3 {Q:Prop} (q:Q):=t2 (aM c124 c124 c118 c124 c118 q)
    refine Zbi h14 (fun c125 h16=>?_) (fun c125 h17=>?_)
    ·obtain ⟨⟨x118,st119⟩,c126,h18⟩:=Zae h16
     let o2:List PS:=o1 ++ [.d {ds:=[(3,{oe:=[zJ .i64 x110]}),(7,{oe:=[zJ .i64 x111]}),(15,{oe:=[zJ .i64 x110]}),(16,{rs:=[oB x117],m:=10,cv:=[.one (xN 2 (Zao.ls (Zao.mk x116 x114)))]}),(24,{rs:=[oI x118],st:=st119}),(27,yF)],hv:=16842752,Hs:=[65536,16842752]}]
     have t4 {Q:Prop} (q:Q):=t3 (aO c125 c125 c125 c125 (Zci.snd c126) c125 c118 (aJ c125 c118 q))
     refine Zbi h18 (fun c127 h19=>?_) (fun c127 h20=>?_)
     ·obtain rfl:=Zab h19
      exact afd fol hE (o2 ++ [.c true,.r []]) [] 0 [] (t4 c127)
     ·exact ZkT fol (o2 ++ [.c false,.r []]) [3,9,13,14,16,66,67] [52,57] (t4 c127) (hc2 (some i112) (w64 (v94+1)) st119 h20)
    ·exact ZkT fol (o1 ++ [.d {ds:=[(3,{oe:=[zJ .i64 x110]}),(7,{oe:=[zJ .i64 x111]}),(15,{oe:=[zJ .i64 x110]}),(16,{rs:=[oB x117],m:=10,cv:=[.one (xN 2 (Zao.ls (Zao.mk x116 x114)))]}),(22,wF),(23,wF),(24,wF),(25,wF),(26,yF),(27,yF)],hv:=65536,Hs:=[65536]},.c false,.r []]) [3,9,13,14,16,66,67] [52,57] (t3 (aO c125 c125 c125 c125 c118 c125 c118 eF)) (hc2 (some i112) (w64 (v94+1)) st109 h17)
   ·exact ZkT fol (o1 ++ [.d {ds:=[(3,{oe:=[zJ .i64 x110]}),(7,{oe:=[zJ .i64 x111]}),(15,{oe:=[zJ .i64 x110]}),(16,{rs:=[oB x117],m:=10,cv:=[.one (xN 2 (Zao.ls (Zao.mk x116 x114)))]}),(18,wF),(19,wF),(20,yF),(22,wF),(23,wF),(24,wF),(25,wF),(26,yF),(27,yF)],hv:=65536,Hs:=[65536]},.c false,.r []]) [3,9,13,14,16,66,67] [52,57] (t2 (aO c124 c124 c118 c124 c118 eF eF (aM eF eF c118 eF c118 eF))) (hc2 (some i112) (w64 (v94+1)) st109 h15)
 ·obtain ⟨⟨x120,st121⟩,c128,h21⟩:=Zae h2
  refine Zbi h21 (fun c129 h22=>?_) (fun c129 h23=>?_)
  ·obtain rfl:=Zab h22
   exact af fol hE [.r [],.c false,.r [(2,{rs:=[oB x120],st:=st121}),(5,wF),(6,wF),(7,wF),(8,wF),(9,wF),(10,wF),(11,wF),(12,wF)]] [] 0 [] (aO c113 (ZcA.snd c128) (not_false (ZbG c129)) (not_false (ZbG c129)) (not_false (ZbG c129)) (not_false (ZbG c129)) (not_false (ZbG c129)) (aK (not_false (ZbG c129)) (not_false (ZbG c129)) (not_false (ZbG c129)) (not_false (ZbG c129))))
  ·obtain ⟨c130,c131,h24⟩:=ck2 h23
   obtain ⟨x122,c132,h25⟩:=Zck h24
   obtain rfl:=Zab h25
   exact af fol hE [.r [],.c false,.r [(2,{rs:=[oB x120],st:=st121}),(10,{oe:=[zJ .i64 x122]}),(13,yF)]] [] 0 [] (aO c113 (ZcA.snd c128) (not_true (ZbH c129)) (not_true (ZbH c129)) (not_true (ZbH c129)) (not_true (ZbH c129)) (not_true (ZbH c129)) (aN c130 c131 (not_true (ZbH c129)) c132 (not_true (ZbH c129)) (not_true (ZbH c129)) (not_true (ZbH c129))))
theorem Zay.p1_ok {places_2 at_3 x4 acts_1 v7 st65 r c1_ J1} (h:Zay.p1 N places_2 at_3 x4 acts_1 c1_ (v7,st65)=some r) (hE:En Tryz.f4 g0 w0 (Zay.rs r) r.2 R) (hc1 : ∀v7 st65,c1_ (v7,st65)=some r→At g0 w0 (Zay.p1.S places_2 at_3 x4 acts_1 v7 st65) J1):At g0 w0 (Zay.p1.S places_2 at_3 x4 acts_1 v7 st65) (XK zF R (.c (Zcb Zay.B [1,1,1,1,0,1,0,0]) :: .h J1 :: [.b 0,.c (Zcb Zay.B [1,1,1,1,1])])):=by
 unfold Zay.p1 at h
 refine Zbi h (fun c70 h26=>?_) (fun c70 h27=>?_)
 ·obtain ⟨c71,h28⟩:=ZaU h26
  obtain ⟨x66,c72,h29⟩:=ZdT h28
  obtain ⟨⟨x67,x68,x69,st70⟩,c73,h30⟩:=Zae h29
  exact an fol [.r [],.c true,.r [(1,{oe:=x66.ls})],.r [(5,{rs:=[oI x67,oI x68,oI x69],st:=st70})],.r []] [2,3,9,33,34,35] [] (aL c70 c71 (oD c70) c72 (Zbq.snd c73)) (hc1 (w64 (v7+1)) st70 h30)
 ·obtain ⟨⟨x71,st72⟩,c74,h31⟩:=Zae h27
  obtain ⟨⟨x73,st74⟩,c75,h32⟩:=Zae h31
  obtain ⟨i75,rfl,h33⟩:=Zae h32
  obtain ⟨x76,x77,c77,h34⟩:=ZaX h33
  obtain ⟨i78,rfl,h35⟩:=Zae h34
  obtain ⟨x79,x80,c79,h36⟩:=ZaX h35
  obtain ⟨i81,rfl,h37⟩:=Zae h36
  obtain ⟨x82,c81,h38⟩:=ZaP h37
  obtain ⟨x83,c82,h39⟩:=Zae h38
  obtain ⟨c83,h40⟩:=ZaU h39
  obtain ⟨⟨x84,st85⟩,c84,h41⟩:=Zae h40
  obtain ⟨x86,x87,c85,h42⟩:=ZaX h41
  obtain ⟨i88,rfl,h43⟩:=Zae h42
  obtain ⟨x89,x90,c87,h44⟩:=ZaX h43
  obtain ⟨i91,rfl,h45⟩:=Zae h44
  obtain ⟨x92,c89,h46⟩:=ZaP h45
  obtain ⟨x93,c90,h47⟩:=Zae h46
  obtain ⟨c91,h48⟩:=ZaU h47
  let o3:List PS:=[.r [],.c false,.r [(1,{rs:=[.one (yM (some i75))],st:=st72})],.r [(2,{rs:=[oI x73],st:=st74})],.r [(1,{rs:=[.row true 1 x83],ns:=[52],m:=10,cv:=[.one (xN 2 (ZaQ.ls (ZaQ.mk (Zao.mk x82 x80) x77)))]})],.r [(2,{rs:=[oI x84],st:=st85})],.r [(1,{rs:=[.row true 1 x93],ns:=[57],m:=10,cv:=[.one (xN 2 (ZaQ.ls (ZaQ.mk (Zao.mk x92 x90) x87)))]})],.r []]
  have t5 {Q:Prop} (q:Q):=aO c70 (ZdY.snd c74) (ZaF.snd c75) (bO 2 c77 ((bC 2 c79 ((bC 87 c81 (Zau.bv x82) (bW bN)):BVs st74 [yM (some i81),yR true 1 x80] (Zao.ls (Zao.mk x82 x80))) (bW bN)):BVs st74 [yM (some i78),yR true 1 x77] (ZaQ.ls (ZaQ.mk (Zao.mk x82 x80) x77)))) c83 (Zcc.snd c82) (Zcw.snd c84) (aK (bO 2 c85 ((bC 2 c87 ((bC 87 c89 (Zau.bv x92) (bW bN)):BVs st85 [yM (some i91),yR true 1 x90] (Zao.ls (Zao.mk x92 x90))) (bW bN)):BVs st85 [yM (some i88),yR true 1 x87] (ZaQ.ls (ZaQ.mk (Zao.mk x92 x90) x87)))) c91 (Zcc.snd c90) q)
  refine Zbi h48 (fun c92 h49=>?_) (fun c92 h50=>?_)
  ·obtain rfl:=Zab h49
   exact af fol hE (o3 ++ [.c true,.r []]) [] 0 [] (t5 c92)
  ·exact aq fol (o3 ++ [.c false,.r []]) [3,9,13,14,16,66,67] [52,57] (t5 c92) (At.loop N (At.loopN (fun y:(Option Nat)×Int×LL=>Zay.p2.S at_3 y.1 i75 x83 x93 y.2.1 y.2.2) (fun c J hc y h=>Zay.p2_ok (t_108:=y.1) (v94:=y.2.1) (st109:=y.2.2) h hE (fun t_108 v94 st109=>hc (t_108,v94,st109))) N (x4,0,st85) h50))
theorem Zay.snd {p_0:Zaj} {acts_1 places_2:LL} {at_3:Int} {st:LL} {r:Bool×LL} (h:Zay N p_0 acts_1 places_2 at_3 st=some r):Snd zF 4 [.agg p_0.ls,.one (L.sl 71 acts_1),.one (L.sl 1 places_2),oI at_3] st (Zay.rs r) r.2:=
 sO Zay.B Tryz.func4 fun g0 w0 R hE=>by
  unfold Zay at h
  obtain ⟨⟨x1,st2⟩,c1,h51⟩:=Zae h
  let o4:List PS:=[.r [],.r [(0,{rs:=[oB x1],st:=st2})]]
  have t6 {Q:Prop} (q:Q):=aI (ZcL.snd c1) q
  refine Zbi h51 (fun c2 h52=>?_) (fun c2 h53=>?_)
  ·obtain rfl:=Zab h52
   exact af fol hE (o4 ++ [.c true,.r []]) [] 0 [] (t6 c2)
  ·obtain ⟨x3,c3,h54⟩:=Zae h53
   have t7 {Q:Prop} (q:Q):=t6 (aJ c2 (Zbw.snd c3) q)
   refine Zbi h54 (fun c4 h55=>?_) (fun c4 h56=>?_)
   ·obtain rfl:=Zab h55
    exact af fol hE (o4 ++ [.c false,.r [(2,q1 [oB x3]),(4,wF),(5,wF),(6,wF)],.c true,.r []]) [] 0 [] (t7 (aL c4 c4 c4 c4 eT))
   ·let o5:List PS:=o4 ++ [.c false,.r [(2,q1 [oB x3]),(7,yF)]]
    refine Zbi h56 (fun c5 h57=>?_) (fun c5 h58=>?_)
    ·obtain rfl:=Zab h57
     exact af fol hE (o5 ++ [.c true,.r []]) [] 0 [] (t7 (aL c4 c4 c4 c4 c5))
    ·obtain ⟨⟨x4,x5,st6⟩,c6,h59⟩:=Zae h58
     exact aq fol (o5 ++ [.c false,.r [(1,{rs:=[.one (yM x4),oI x5],st:=st6})],.r []]) [2,3,9,33,34,35] [] (t7 (aM c4 c4 c4 c4 c5 (ZdN.snd c6))) (At.loop N (At.loopN (fun y:Int×LL=>Zay.p1.S places_2 at_3 x4 acts_1 y.1 y.2) (fun c J hc y h=>Zay.p1_ok (v7:=y.1) (st65:=y.2) h hE (fun v7 st65=>hc (v7,st65))) N (0,st6) h59))
end Go.Dn.F
end
