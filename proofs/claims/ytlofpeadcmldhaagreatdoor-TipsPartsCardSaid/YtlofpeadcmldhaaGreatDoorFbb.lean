import Derived.Test.YtlofpeadcmldhaaGreatDoorFba
set_option linter.all false
open Go.Dn.L renaming bool→wX,bx→vI,ptr→yO,own→yP,int→zJ
open Go.Proofs.Tryz renaming prog→zE
open Int renaming toNat→zD,natCast_nonneg→uN
open List renaming length→zH,set→zS,take→xA,drop→xJ
noncomputable section
set_option maxRecDepth 100000
namespace Go.Dn.F
open Go.Proofs
variable {N:Nat} {g0:G} {w0:World} {R:Exit→Act→World→Prop}
def Zav.B:Code:=Tryz.f28.body.getD .skip
def Zav.rs (r:Int×LL):List CV:=[oI r.1]
def Zav.p2 (N:Nat) (c1_:((Option Nat)×Int×Int×LL)→Option (Int×LL)) (i26:Nat) (height_2 next_35 x33 x34:Int) (st25:LL):Option (Int×LL):=
 ZcJ (st25[i26]?) Zbn fun x36 x37=>
 Zbv x36 fun i38=>
 ZcJ (st25[i38]?) Zbc fun x39=>
 Zbv (ZaL N (Zat.mk x39 x37) next_35) fun x40=>
 c1_ ((some i26),next_35,x40,st25)
def Zav.p1 (N:Nat) (height_2:Int) (c1_:((Option Nat)×Int×Int×LL)→Option (Int×LL)):((Option Nat)×Int×Int×LL)→Option (Int×LL):=fun (t_24,at_3,h_4,st25)=>
 if (decide (h_4>height_2))=true then
  Zbv t_24 fun i26=>
  ZcJ (st25[i26]?) Zbn fun x27 x28=>
  Zbv x27 fun i29=>
  ZcJ (st25[i29]?) Zbc fun x30=>
  Zbv (ZbB N (Zat.mk x30 x28) at_3) fun (x31,x32)=>
  chk (0≤at_3)<|
  chk (at_3<(len x28))<|
  ZcJ (x28[0+(zD at_3)]?) ZcN fun x33=>
  if (x33 != (-1))=true then
   Zbv (ZaL N (Zat.mk x30 x28) x33) fun x34=>
   if (decide (x34≥height_2))=true then
    Zav.p2 N c1_ i26 height_2 x33 x33 x34 st25
   else
   Zav.p2 N c1_ i26 height_2 x31.Ahead x33 x34 st25
  else
  Zbv (ZaL N (Zat.mk x30 x28) x31.Ahead) fun x41=>
  c1_ ((some i26),x31.Ahead,x41,st25)
 else
 some (at_3,st25)
def Zav (N:Nat) (t_0:Option Nat) (at_1 height_2:Int) (st:LL):Option (Int×LL):=
 Zbv (Zcl N t_0 at_1 st) fun (x1,st2)=>
 if (decide (height_2<0))=true then
  some ((-1),st2)
 else
 if (decide (height_2>x1))=true then
  some ((-1),st2)
 else
 loopN (Zav.p1 N height_2) N (t_0,at_1,x1,st2)
def Zav.p2.S (i26:Nat) (height_2 next_35 x33 x34:Int) (st25:LL):S:=mkS 55 [(0,sP (some i26)),(2,sI height_2),(10,sI next_35),(43,sP (some i26)),(44,sI x33),(45,sI x34),(46,sI height_2),(47,.one (.l (wX (decide (x34≥height_2)))))] [] st25
def Zav.p1.S (t_24:Option Nat) (at_3 height_2 h_4:Int) (st25:LL):S:=mkS 55 [(0,sP t_24),(1,sI at_3),(2,sI height_2),(7,sI h_4)] [] st25
theorem Zav.p2_ok {i26 height_2 next_35 x33 x34 st25 r c1_ J1} (h:Zav.p2 N c1_ i26 height_2 next_35 x33 x34 st25=some r) (hE:En Tryz.f28 g0 w0 (Zav.rs r) r.2 R) (hc1 : ∀t_24 at_3 h_4 st25,c1_ (t_24,at_3,h_4,st25)=some r→At g0 w0 (Zav.p1.S t_24 at_3 height_2 h_4 st25) J1):At g0 w0 (Zav.p2.S i26 height_2 next_35 x33 x34 st25) (XK zE R [.c (ZbX Zav.B [1,1,1,0,0,0,1,0,1,1,1]),.b 1,.h J1,.b 0,.c (ZbX Zav.B [1,1,1,1])]):=by
 unfold Zav.p2 at h
 obtain ⟨x36,x37,c35,h1⟩:=Zba h
 obtain ⟨i38,rfl,h2⟩:=Zae h1
 obtain ⟨x39,c37,h3⟩:=ZaX h2
 obtain ⟨x40,c38,h4⟩:=Zae h3
 exact an fol [.r [(3,{rs:=[oI x40],m:=10,cv:=[.one (vI 2 (Zat.ls (Zat.mk x39 x37)))]})]] [0,1,2,7] [] (aI (bO 2 c35 ((bC 87 c37 (Zas.bv x39) (bW bN)):BVs st25 [yO (some i38),yP true 1 x37] (Zat.ls (Zat.mk x39 x37)))) (ZaL.snd c38)) (hc1 (some i26) next_35 x40 st25 h4)
theorem Zav.p1_ok {t_24 at_3 height_2 h_4 st25 r c1_ J1} (h:Zav.p1 N height_2 c1_ (t_24,at_3,h_4,st25)=some r) (hE:En Tryz.f28 g0 w0 (Zav.rs r) r.2 R) (hc1 : ∀t_24 at_3 h_4 st25,c1_ (t_24,at_3,h_4,st25)=some r→At g0 w0 (Zav.p1.S t_24 at_3 height_2 h_4 st25) J1):At g0 w0 (Zav.p1.S t_24 at_3 height_2 h_4 st25) (XK zE R (.c (ZbX Zav.B [1,1,1,0,0,0]) :: .h J1 :: [.b 0,.c (ZbX Zav.B [1,1,1,1])])):=by
 unfold Zav.p1 at h
 refine Zbg h (fun c23 h5=>?_) (fun c23 h6=>?_)
 ·obtain ⟨i26,rfl,h7⟩:=Zae h5
  obtain ⟨x27,x28,c25,h8⟩:=Zba h7
  obtain ⟨i29,rfl,h9⟩:=Zae h8
  obtain ⟨x30,c27,h10⟩:=ZaX h9
  obtain ⟨⟨x31,x32⟩,c28,h11⟩:=Zae h10
  obtain ⟨c29,c30,h12⟩:=ck2 h11
  obtain ⟨x33,c31,h13⟩:=Zci h12
  let o1:List PS:=[.r [],.c true,.r [(2,{rs:=[.agg x31.ls,oB x32],m:=10,cv:=[.one (vI 2 (Zat.ls (Zat.mk x30 x28)))]})],.r [],.r [(3,{oc:=[yO (some i29),yP true 1 x28]}),(6,{oc:=[yO (some i29),yP true 1 x28],oe:=[zJ .i64 x33]})]]
  have t1 {Q:Prop} (q:Q):=aO c23 (bO 2 c25 ((bC 87 c27 (Zas.bv x30) (bW bN)):BVs st25 [yO (some i29),yP true 1 x28] (Zat.ls (Zat.mk x30 x28)))) (ZbB.snd c28) c25 c29 c30 c31 (aI c25 q)
  refine Zbg h13 (fun c32 h14=>?_) (fun c32 h15=>?_)
  ·obtain ⟨x34,c33,h16⟩:=Zae h14
   let o2:List PS:=o1 ++ [.r [(5,{rs:=[oI x34],m:=10,cv:=[.one (vI 2 (Zat.ls (Zat.mk x30 x28)))]})]]
   have t2 {Q:Prop} (q:Q):=t1 (aO c32 c32 c32 (bO 2 c25 ((bC 87 c27 (Zas.bv x30) (bW bN)):BVs st25 [yO (some i29),yP true 1 x28] (Zat.ls (Zat.mk x30 x28)))) (ZaL.snd c33) c32 c32 (aI c32 q))
   refine Zbg h16 (fun c34 h17=>?_) (fun c34 h18=>?_)
   ·exact aq fol (o2 ++ [.c true,.r [],.s 5]) [0,2,10,43,44,45,46,47] [] (t2 c34) (Zav.p2_ok h17 hE hc1)
   ·exact aq fol (o2 ++ [.c false,.s 5]) [0,2,10,43,44,45,46,47] [] (t2 c34) (Zav.p2_ok h18 hE hc1)
  ·obtain ⟨x41,c39,h19⟩:=Zae h15
   exact an fol (o1 ++ [.r [(3,wF),(4,wF),(5,wF),(6,wF),(7,wF),(8,yF)],.c false,.r [(3,{rs:=[oI x41],m:=10,cv:=[.one (vI 2 (Zat.ls (Zat.mk x30 x28)))]})]]) [0,1,2,7] [] (t1 (aO c32 c32 c32 c32 c32 c32 eF (aI (bO 2 c25 ((bC 87 c27 (Zas.bv x30) (bW bN)):BVs st25 [yO (some i29),yP true 1 x28] (Zat.ls (Zat.mk x30 x28)))) (ZaL.snd c39)))) (hc1 (some i26) x31.Ahead x41 st25 h19)
 ·obtain rfl:=Zaa h6
  exact af fol hE [.r [],.c false,.r []] [] 0 [] c23
theorem Zav.snd {t_0:Option Nat} {at_1 height_2:Int} {st:LL} {r:Int×LL} (h:Zav N t_0 at_1 height_2 st=some r):Snd zE 28 [.one (yO t_0),oI at_1,oI height_2] st (Zav.rs r) r.2:=
 sO Zav.B Tryz.func28 fun g0 w0 R hE=>by
  unfold Zav at h
  obtain ⟨⟨x1,st2⟩,c1,h20⟩:=Zae h
  let o3:List PS:=[.r [],.r [(2,{rs:=[oI x1],st:=st2})]]
  have t3 {Q:Prop} (q:Q):=aI (Zcl.snd c1) q
  refine Zbg h20 (fun c2 h21=>?_) (fun c2 h22=>?_)
  ·obtain rfl:=Zaa h21
   exact af fol hE (o3 ++ [.r [(3,wF),(4,wF),(5,wF)],.c true,.r []]) [] 0 [] (t3 (aL c2 c2 c2 c2 eT))
  ·refine Zbg h22 (fun c3 h23=>?_) (fun c3 h24=>?_)
   ·obtain rfl:=Zaa h23
    exact af fol hE (o3 ++ [.r [(6,yF)],.c true,.r []]) [] 0 [] (t3 (aL c2 c2 c2 c2 c3))
   ·exact aq fol (o3 ++ [.r [(6,yF)],.c false]) [0,1,2,7] [] (t3 (aL c2 c2 c2 c2 c3)) (At.loop N (At.loopN (fun y:(Option Nat)×Int×Int×LL=>Zav.p1.S y.1 y.2.1 height_2 y.2.2.1 y.2.2.2) (fun c J hc y h=>Zav.p1_ok (t_24:=y.1) (at_3:=y.2.1) (h_4:=y.2.2.1) (st25:=y.2.2.2) h hE (fun t_24 at_3 h_4 st25=>hc (t_24,at_3,h_4,st25))) N (t_0,at_1,x1,st2) h24))
def Zbl.B:Code:=Tryz.f9.body.getD .skip
def Zbl.rs (r:Int×Int×Int×LL):List CV:=[oI r.1,oI r.2.1,oI r.2.2.1]
def Zbl.p1 (N:Nat) (x4 x5 x6:Int) (st16:LL):Option (Int×Int×Int×LL):=
 some (x4,x5,x6,st16)
def Zbl (N:Nat) (t_0:Option Nat) (h_1:Zan) (now_2:Int) (st:LL):Option (Int×Int×Int×LL):=
 if (Option.isNone t_0)=true then
  some ((-1),0,2,st)
 else
 Zbv t_0 fun i1=>
 ZcJ (st[i1]?) Zbn fun x2 x3=>
 Zbv (Zau N x2 h_1 now_2 st) fun (x4,x5,x6,st7)=>
 if (x6==0)=true then
  ZcJ (st7[i1]?) Zbn fun x8 x9=>
  if (x4==(len x9))=true then
   Zbv x8 fun i10=>
   ZcJ (st7[i10]?) Zbc fun x11=>
   Zbv (Zbq N x11 x4) fun (x12,x13)=>
   Zbv (ZcU N x12.Height) fun x14=>
   Zbv (Zao N (Zat.mk x11 x9) x12.Ahead x14) fun x15=>
   chk (zH (x9 ++ [[zJ .i64 x15]])*8≤140737488355328)<|
   Zbl.p1 N x4 x5 x6 (zS (zS st7 i1 [yO (some i10),L.gone]) i1 [yO (some i10),yP true 1 (x9 ++ [[zJ .i64 x15]])])
  else
  Zbl.p1 N x4 x5 x6 st7
 else
 some (x4,x5,x6,st7)
def Zbl.p1.S (x4 x5 x6:Int) (st16:LL):S:=mkS 66 [(9,sI x4),(10,sI x5),(11,sI x6)] [] st16
theorem Zbl.p1_ok {x4 x5 x6 st16 r} (h:Zbl.p1 N x4 x5 x6 st16=some r) (hE:En Tryz.f9 g0 w0 (Zbl.rs r) r.2.2.2 R):At g0 w0 (Zbl.p1.S x4 x5 x6 st16) (XK zE R [.c (ZbX Zbl.B [1,1,1,1])]):=by
 unfold Zbl.p1 at h
 obtain rfl:=Zaa h
 exact af fol hE [.r []] [] 0 [] trivial
theorem Zbl.snd {t_0:Option Nat} {h_1:Zan} {now_2:Int} {st:LL} {r:Int×Int×Int×LL} (h:Zbl N t_0 h_1 now_2 st=some r):Snd zE 9 [.one (yO t_0),.agg h_1.ls,oI now_2] st (Zbl.rs r) r.2.2.2:=
 sO Zbl.B Tryz.func9 fun g0 w0 R hE=>by
  unfold Zbl at h
  refine Zbg h (fun c1 h1=>?_) (fun c1 h2=>?_)
  ·obtain rfl:=Zaa h1
   exact af fol hE [.r [],.r [],.c true,.r []] [] 0 [] c1
  ·obtain ⟨i1,rfl,h3⟩:=Zae h2
   obtain ⟨x2,x3,c3,h4⟩:=Zba h3
   obtain ⟨⟨x4,x5,x6,st7⟩,c4,h5⟩:=Zae h4
   let o1:List PS:=[.r [],.r [],.c false,.d {ds:=[(3,{oc:=[yO x2,yP true 1 x3]}),(6,{rs:=[oI x4,oI x5,oI x6],st:=st7})],hv:=64,Hs:=[64]}]
   have t1 {Q:Prop} (q:Q):=aK c1 c3 (Zau.snd c4) q
   refine Zbg h5 (fun c5 h6=>?_) (fun c5 h7=>?_)
   ·obtain ⟨x8,x9,c6,h8⟩:=Zba h6
    refine Zbg h8 (fun c7 h9=>?_) (fun c7 h10=>?_)
    ·obtain ⟨i10,rfl,h11⟩:=Zae h9
     obtain ⟨x11,c9,h12⟩:=ZaX h11
     obtain ⟨⟨x12,x13⟩,c10,h13⟩:=Zae h12
     obtain ⟨x14,c11,h14⟩:=Zae h13
     obtain ⟨x15,c12,h15⟩:=Zae h14
     obtain ⟨c13,h16⟩:=ZaT h15
     exact aqd fol (o1 ++ [.r [(7,{oc:=[yO (some i10),yP true 1 x9]})],.c true,.r [(3,{oc:=[yO (some i10),yP true 1 x9]}),(5,{rs:=[.agg x12.ls,oB x13],m:=10,cv:=[.one (vI 87 x11.ls)]})],.d {ds:=[(4,{oc:=[yO (some i10),yP true 1 x9]}),(10,q1 [oI x14]),(11,{rs:=[oI x15],m:=10,cv:=[.one (vI 2 (Zat.ls (Zat.mk x11 x9)))]}),(13,{oe:=[yO (some i10),yP true 1 x9]}),(16,{oc:=[yO (some i10),L.gone],mv:=[60]})],hv:=79872,Hs:=[2048,6144,14336,79872]},.s 1]) [9,10,11] [] (t1 (aO c5 c5 c5 c5 c5 c6 c5 (aO c5 c5 c7 c6 (bO 87 c9 (Zas.bv x11)) (Zbq.snd c10) c6 (aO c6 c6 (ZcU.snd c11) (bO 2 c6 ((bC 87 c9 (Zas.bv x11) (bW bN)):BVs st7 [yO (some i10),yP true 1 x9] (Zat.ls (Zat.mk x11 x9)))) (Zao.snd c12) z0 (eN (zH x9)) (aN c6 z0 (eN (1)) c13 (ZaM c6 [yO (some i10),L.gone]) z0 (eN (zH (x9 ++ [[zJ .i64 x15]])))))))) (Zbl.p1_ok h16 hE)
    ·exact aqd fol (o1 ++ [.r [(7,{oc:=[yO x8,yP true 1 x9]})],.c false,.s 1]) [9,10,11] [] (t1 (aO c5 c5 c5 c5 c5 c6 c5 (aJ c5 c5 c7))) (Zbl.p1_ok h10 hE)
   ·obtain rfl:=Zaa h7
    exact afd fol hE (o1 ++ [.r [(3,wF),(4,wF),(5,wF),(6,wF),(7,wF),(8,wF),(9,wF),(10,yF)],.c false,.r []]) [] 0 [] (t1 (aO c5 c5 c5 c5 c5 c5 c5 (aI c5 eF)))
def ZbR.B:Code:=Tryz.f33.body.getD .skip
def ZbR.rs (r:LL):List CV:=[.row true 1 r]
def ZbR (N:Nat) (s_0:LL) (i_1 j_2:Int):Option LL:=
 chk (0≤i_1)<|
 chk (0≤j_2)<|
 chk ((zD i_1)≤(zD j_2))<|
 chk ((zD j_2)≤(zD (len s_0)))<|
 chk ((zD (len s_0))≤(zH s_0))<|
 if (i_1==j_2)=true then
  some s_0
 else
 chk ((zD i_1)≤(zH s_0))<|
 chk ((zD j_2)≤(zH s_0))<|
 chk (((zD i_1)+((zH s_0)-(zD j_2)))≤(zH s_0))<|
 chk (((0+(zD j_2))+((zH s_0)-(zD j_2)))≤(zH s_0))<|
 chk ((zD (((zD i_1)+((zH s_0)-(zD j_2)):Nat):Int))≤(zD (len s_0)))<|
 chk ((0+(zD (len s_0)))≤(zH ((xA (zD i_1) s_0++xA ((zH s_0)-(zD j_2)) (xJ (0+(zD j_2)) s_0))++xJ ((zD i_1)+((zH s_0)-(zD j_2))) s_0)))<|
 chk ((0+(zD (((zD i_1)+((zH s_0)-(zD j_2)):Nat):Int)))+((zD (len s_0))-(zD (((zD i_1)+((zH s_0)-(zD j_2)):Nat):Int)))=zH ((xA (zD i_1) s_0++xA ((zH s_0)-(zD j_2)) (xJ (0+(zD j_2)) s_0))++xJ ((zD i_1)+((zH s_0)-(zD j_2))) s_0))<|
 chk (((zD i_1)+((zH s_0)-(zD j_2)))≤(zH (xA (0+(zD (((zD i_1)+((zH s_0)-(zD j_2)):Nat):Int))) ((xA (zD i_1) s_0++xA ((zH s_0)-(zD j_2)) (xJ (0+(zD j_2)) s_0))++xJ ((zD i_1)+((zH s_0)-(zD j_2))) s_0)++List.replicate ((zD (len s_0))-(zD (((zD i_1)+((zH s_0)-(zD j_2)):Nat):Int))) [zJ .i64 0])))<|
 some (xA ((zD i_1)+((zH s_0)-(zD j_2))) (xA (0+(zD (((zD i_1)+((zH s_0)-(zD j_2)):Nat):Int))) ((xA (zD i_1) s_0++xA ((zH s_0)-(zD j_2)) (xJ (0+(zD j_2)) s_0))++xJ ((zD i_1)+((zH s_0)-(zD j_2))) s_0)++List.replicate ((zD (len s_0))-(zD (((zD i_1)+((zH s_0)-(zD j_2)):Nat):Int))) [zJ .i64 0]))
theorem ZbR.snd {s_0:LL} {i_1 j_2:Int} {r:LL} (h:ZbR N s_0 i_1 j_2=some r):Zde zE 33 [.row true 1 s_0,oI i_1,oI j_2] (ZbR.rs r):=fun st=>
 sO ZbR.B Tryz.func33 fun g0 w0 R hE=>by
  unfold ZbR at h
  obtain ⟨c1,c2,c3,c4,c5,h1⟩:=ck5 h
  have t1 {Q:Prop} (q:Q):=aN c1 c2 (uN (zH s_0)) c3 c4 c5 q
  refine Zbg h1 (fun c6 h2=>?_) (fun c6 h3=>?_)
  ·obtain rfl:=Zaa h2
   exact af fol hE [.r [(0,{m:=2})],.r [],.r [],.c true,.r []] [] 0 [0] (t1 (aJ c6 z0 (eN (zH s_0))))
  ·obtain ⟨c7,c8,c9,c10,c11,c12,c13,c14,h4⟩:=ck8 h3
   obtain rfl:=Zaa h4
   exact afd fol hE [.r [(0,{m:=2})],.r [],.r [],.c false,.r [],.d {ds:=[(6,{m:=9})],hv:=64,Hs:=[64]},.r [(4,{m:=9})],.r []] [] 2 [0] (t1 (aO c6 c1 (Nat.zero_le (zD i_1)) c7 c2 c8 (Nat.le_refl (zH s_0)) (aO z0 c9 c10 (uN ((zD i_1)+((zH s_0)-(zD j_2)))) (uN (zH s_0)) c11 c12 (aJ c13 z0 c14))))
def ZaC.B:Code:=Tryz.f12.body.getD .skip
def ZaC.rs (r:Int×LL):List CV:=[oI r.1]
def ZaC.p2 (N:Nat) (c1_:((Option Nat)×Int×Int×LL)→Option (Int×LL)) (s_36:Option Nat) (n_37:Int) (places_1:LL) (v2:Int) (st38:LL):Option (Int×LL):=
 c1_ (s_36,n_37,w64 (v2+1),st38)
def ZaC.p1 (N:Nat) (places_1:LL) (c1_:((Option Nat)×Int×Int×LL)→Option (Int×LL)):((Option Nat)×Int×Int×LL)→Option (Int×LL):=fun (s_20,n_1,v2,st21)=>
 if (decide (v2<(len places_1)))=true then
  chk (0≤v2)<|
  ZcJ (places_1[zD v2]?) ZcN fun x22=>
  Zbv (Zch N s_20 x22 st21) fun (x23,st24)=>
  if (!x23)=true then
   ZaC.p2 N c1_ s_20 n_1 places_1 v2 st24
  else
  Zbv s_20 fun i25=>
  ZcJ (st24[i25]?) Zbn fun x26 x27=>
  Zbv x26 fun i28=>
  ZcJ (st24[i28]?) Zbn fun x29 x30=>
  Zbv x29 fun i31=>
  ZcJ (st24[i31]?) Zbc fun x32=>
  Zbv (ZbD N (ZaK.mk (Zat.mk x32 x30) x27) x22) fun (x33,x34)=>
  if x34=true then
   chk ((0+(zH x27))≤(zH x27))<|
   Zbv (ZbR N (xA (zH x27) (xJ 0 x27)) x33 (w64 (x33+1))) fun x35=>
   ZaC.p2 N c1_ (some i25) (w64 (n_1+1)) places_1 v2 (zS (zS st24 i25 [yO (some i28),L.gone]) i25 [yO (some i28),yP true 1 x35])
  else
  ZaC.p2 N c1_ (some i25) n_1 places_1 v2 st24
 else
 some (n_1,st21)
def ZaC (N:Nat) (s_0:Option Nat) (places_1 st:LL):Option (Int×LL):=
 loopN (ZaC.p1 N places_1) N (s_0,0,0,st)
def ZaC.p2.S (s_36:Option Nat) (n_37:Int) (places_1:LL) (v2:Int) (st38:LL):S:=mkS 42 [(0,sP s_36),(5,sI n_37),(10,sV 1 places_1),(11,sI (len places_1)),(12,sI v2)] [] st38
def ZaC.p1.S (s_20:Option Nat) (n_1:Int) (places_1:LL) (v2:Int) (st21:LL):S:=mkS 42 [(0,sP s_20),(5,sI n_1),(10,sV 1 places_1),(11,sI (len places_1)),(12,sI v2)] [] st21
theorem ZaC.p2_ok {s_36 n_37 places_1 v2 st38 r c1_ J1} (h:ZaC.p2 N c1_ s_36 n_37 places_1 v2 st38=some r) (hE:En Tryz.f12 g0 w0 (ZaC.rs r) r.2 R) (hc1 : ∀s_20 n_1 v2 st21,c1_ (s_20,n_1,v2,st21)=some r→At g0 w0 (ZaC.p1.S s_20 n_1 places_1 v2 st21) J1):At g0 w0 (ZaC.p2.S s_36 n_37 places_1 v2 st38) (XK zE R [.c (ZbX ZaC.B [1,1,0,1,0,0,1,1,1]),.h J1,.b 0,.c (ZbX ZaC.B [1,1,1])]):=by
 unfold ZaC.p2 at h
 exact an fol [.r []] [0,5,10,11,12] [] trivial (hc1 s_36 n_37 (w64 (v2+1)) st38 h)
theorem ZaC.p1_ok {s_20 n_1 places_1 v2 st21 r c1_ J1} (h:ZaC.p1 N places_1 c1_ (s_20,n_1,v2,st21)=some r) (hE:En Tryz.f12 g0 w0 (ZaC.rs r) r.2 R) (hc1 : ∀s_20 n_1 v2 st21,c1_ (s_20,n_1,v2,st21)=some r→At g0 w0 (ZaC.p1.S s_20 n_1 places_1 v2 st21) J1):At g0 w0 (ZaC.p1.S s_20 n_1 places_1 v2 st21) (XK zE R (.c (ZbX ZaC.B [1,1,0,1,0,0]) :: .h J1 :: [.b 0,.c (ZbX ZaC.B [1,1,1])])):=by
 unfold ZaC.p1 at h
 refine Zbg h (fun c16 h1=>?_) (fun c16 h2=>?_)
 ·obtain ⟨c17,h3⟩:=ZaT h1
  obtain ⟨x22,c18,h4⟩:=Zci h3
  obtain ⟨⟨x23,st24⟩,c19,h5⟩:=Zae h4
  let o1:List PS:=[.r [],.c true,.r [(1,{oe:=[zJ .i64 x22]})],.r [(2,{rs:=[oB x23],st:=st24})]]
  have t1 {Q:Prop} (q:Q):=aM c16 c17 (oD c16) c18 (Zch.snd c19) q
  refine Zbg h5 (fun c20 h6=>?_) (fun c20 h7=>?_)
  ·exact aq fol (o1 ++ [.c true,.s 4]) [0,5,10,11,12] [] (t1 c20) (ZaC.p2_ok h6 hE hc1)
  ·obtain ⟨i25,rfl,h8⟩:=Zae h7
   obtain ⟨x26,x27,c22,h9⟩:=Zba h8
   obtain ⟨i28,rfl,h10⟩:=Zae h9
   obtain ⟨x29,x30,c24,h11⟩:=Zba h10
   obtain ⟨i31,rfl,h12⟩:=Zae h11
   obtain ⟨x32,c26,h13⟩:=ZaX h12
   obtain ⟨⟨x33,x34⟩,c27,h14⟩:=Zae h13
   let o2:List PS:=o1 ++ [.c false,.r [(2,{rs:=[oI x33,oB x34],m:=10,cv:=[.one (vI 2 (ZaK.ls (ZaK.mk (Zat.mk x32 x30) x27)))]})],.r []]
   have t2 {Q:Prop} (q:Q):=t1 (aK c20 (bO 2 c22 ((bC 2 c24 ((bC 87 c26 (Zas.bv x32) (bW bN)):BVs st24 [yO (some i31),yP true 1 x30] (Zat.ls (Zat.mk x32 x30))) (bW bN)):BVs st24 [yO (some i28),yP true 1 x27] (ZaK.ls (ZaK.mk (Zat.mk x32 x30) x27)))) (ZbD.snd c27) q)
   refine Zbg h14 (fun c28 h15=>?_) (fun c28 h16=>?_)
   ·obtain ⟨c29,h17⟩:=ZaT h15
    obtain ⟨x35,c30,h18⟩:=Zae h17
    exact aq fol (o2 ++ [.c true,.r [(4,{oc:=[yO (some i28),yP true 1 x27]}),(8,{oe:=[yO (some i28),yP true 1 x27],rs:=[.row true 1 x35],st:=zS st24 i25 [yO (some i28),L.gone],m:=6,vm:=1}),(11,{oc:=[yO (some i28),L.gone],mv:=[35]})],.r [],.s 4]) [0,5,10,11,12] [] (t2 (aO c28 c22 c29 c22 (ZbR.snd c30 (zS st24 i25 [yO (some i28),L.gone])) (ZaM c22 [yO (some i28),L.gone]) z0 (eN (zH x35)))) (ZaC.p2_ok h18 hE hc1)
   ·exact aq fol (o2 ++ [.c false,.s 4]) [0,5,10,11,12] [] (t2 c28) (ZaC.p2_ok h16 hE hc1)
 ·obtain rfl:=Zaa h2
  exact af fol hE [.r [],.c false,.r []] [] 0 [] c16
theorem ZaC.snd {s_0:Option Nat} {places_1:LL} {st:LL} {r:Int×LL} (h:ZaC N s_0 places_1 st=some r):Snd zE 12 [.one (yO s_0),.one (L.sl 1 places_1)] st (ZaC.rs r) r.2:=
 sO ZaC.B Tryz.func12 fun g0 w0 R hE=>by
  unfold ZaC at h
  exact aq fol [.r [],.r [],.r []] [0,5,10,11,12] [] trivial (At.loop N (At.loopN (fun y:(Option Nat)×Int×Int×LL=>ZaC.p1.S y.1 y.2.1 places_1 y.2.2.1 y.2.2.2) (fun c J hc y h=>ZaC.p1_ok (s_20:=y.1) (n_1:=y.2.1) (v2:=y.2.2.1) (st21:=y.2.2.2) h hE (fun s_20 n_1 v2 st21=>hc (s_20,n_1,v2,st21))) N (s_0,0,0,st) h))
def ZbY.B:Code:=Tryz.f13.body.getD .skip
def ZbY.rs (r:LL):List CV:=[.row true 1 r]
def ZbY (N:Nat) (s_0:ZaK):Option LL:=
 Zbv (ZaU N s_0.list) fun x1=>
 some x1
theorem ZbY.snd {s_0:ZaK} {r:LL} (h:ZbY N s_0=some r):Zde zE 13 [.one (vI 2 s_0.ls)] (ZbY.rs r):=fun st=>
 sO ZbY.B Tryz.func13 fun g0 w0 R hE=>by
  unfold ZbY at h
  obtain ⟨x1,c1,h1⟩:=Zae h
  obtain rfl:=Zaa h1
  exact af fol hE [.r [(0,{m:=2})],.r [],.c false,.r [(3,{oe:=s_0.ls}),(4,{rs:=[.row true 1 x1],ns:=[9],m:=1})]] [] 0 [0] (aL eF (eO s_0.ls) (ZaU.snd c1) z0 (eN (zH x1)))
def ZcD.B:Code:=Tryz.f14.body.getD .skip
def ZcD.rs (r:Bool×LL):List CV:=[oB r.1]
def ZcD (N:Nat) (s_0:Option Nat) (at_1:Int) (st:LL):Option (Bool×LL):=
 Zbv (Zch N s_0 at_1 st) fun (x1,st2)=>
 if (!x1)=true then
  some (false,st2)
 else
 Zbv s_0 fun i3=>
 ZcJ (st2[i3]?) Zbn fun x4 x5=>
 Zbv x4 fun i6=>
 ZcJ (st2[i6]?) Zbn fun x7 x8=>
 Zbv x7 fun i9=>
 ZcJ (st2[i9]?) Zbc fun x10=>
 Zbv (ZbD N (ZaK.mk (Zat.mk x10 x8) x5) at_1) fun (x11,x12)=>
 some (x12,st2)
theorem ZcD.snd {s_0:Option Nat} {at_1:Int} {st:LL} {r:Bool×LL} (h:ZcD N s_0 at_1 st=some r):Snd zE 14 [.one (yO s_0),oI at_1] st (ZcD.rs r) r.2:=
 sO ZcD.B Tryz.func14 fun g0 w0 R hE=>by
  unfold ZcD at h
  obtain ⟨⟨x1,st2⟩,c1,h1⟩:=Zae h
  let o1:List PS:=[.r [],.r [(2,{rs:=[oB x1],st:=st2})]]
  refine Zbg h1 (fun c2 h2=>?_) (fun c2 h3=>?_)
  ·obtain rfl:=Zaa h2
   exact af fol hE (o1 ++ [.c true,.r []]) [] 0 [] (aI (Zch.snd c1) c2)
  ·obtain ⟨i3,rfl,h4⟩:=Zae h3
   obtain ⟨x4,x5,c4,h5⟩:=Zba h4
   obtain ⟨i6,rfl,h6⟩:=Zae h5
   obtain ⟨x7,x8,c6,h7⟩:=Zba h6
   obtain ⟨i9,rfl,h8⟩:=Zae h7
   obtain ⟨x10,c8,h9⟩:=ZaX h8
   obtain ⟨⟨x11,x12⟩,c9,h10⟩:=Zae h9
   obtain rfl:=Zaa h10
   exact af fol hE (o1 ++ [.c false,.r [(2,{rs:=[oI x11,oB x12],m:=10,cv:=[.one (vI 2 (ZaK.ls (ZaK.mk (Zat.mk x10 x8) x5)))]})],.r []]) [] 0 [] (aK (Zch.snd c1) c2 (bO 2 c4 ((bC 2 c6 ((bC 87 c8 (Zas.bv x10) (bW bN)):BVs st2 [yO (some i9),yP true 1 x8] (Zat.ls (Zat.mk x10 x8))) (bW bN)):BVs st2 [yO (some i6),yP true 1 x5] (ZaK.ls (ZaK.mk (Zat.mk x10 x8) x5)))) (ZbD.snd c9))
def Zag.B:Code:=Tryz.f3.body.getD .skip
def Zag.rs (r:Bool×LL):List CV:=[oB r.1]
def Zag.p4 (N:Nat) (c3_:(Int×LL)→Option (Bool×LL)) (x183 x185:Option Nat) (places_2:LL) (v273:Int) (v269:LM) (st318:LL):Option (Bool×LL):=
 c3_ (w64 (v273+1),st318)
def Zag.p5 (N:Nat) (i319:Nat) (x327 x336:LL) (c5_:(Int×LL)→Option (Bool×LL)):(Int×LL)→Option (Bool×LL):=fun (v337,st342)=>
 if (decide (v337<(len x327)))=true then
  chk (0≤v337)<|
  ZcJ (x327[0+(zD v337)]?) ZcN fun x343=>
  chk (v337<(len x336))<|
  ZcJ (x336[0+(zD v337)]?) ZcN fun x344=>
  if (x343 != x344)=true then
   some (false,st342)
  else
  Zbv (ZcD N (some i319) x343 st342) fun (x345,st346)=>
  if (!x345)=true then
   some (false,st346)
  else
  c5_ (w64 (v337+1),st346)
 else
 some (true,st342)
def Zag.p3 (N:Nat) (x183 x185:Option Nat) (places_2:LL) (v269:LM) (c3_:(Int×LL)→Option (Bool×LL)):(Int×LL)→Option (Bool×LL):=fun (v273,st310)=>
 if (decide (v273<(len places_2)))=true then
  chk (0≤v273)<|
  ZcJ (places_2[zD v273]?) ZcN fun x311=>
  optM (ZeW v269 (zJ .i64 x311)) (fun j312 e=>ZpO [e] fun x313=>
   if (!x313)=true then
    Zbv (ZaB N x185 [[zJ .i64 x311]] st310) fun (x314,st315)=>
    Zag.p4 N c3_ x183 x185 places_2 v273 v269 st315
   else
   Zag.p4 N c3_ x183 x185 places_2 v273 v269 st310)
  (
   Zbv (ZaB N x185 [[zJ .i64 x311]] st310) fun (x316,st317)=>
   Zag.p4 N c3_ x183 x185 places_2 v273 v269 st317)
 else
 Zbv x183 fun i319=>
 ZcJ (st310[i319]?) Zbn fun x320 x321=>
 Zbv x320 fun i322=>
 ZcJ (st310[i322]?) Zbn fun x323 x324=>
 Zbv x323 fun i325=>
 ZcJ (st310[i325]?) Zbc fun x326=>
 Zbv (ZbY N (ZaK.mk (Zat.mk x326 x324) x321)) fun x327=>
 chk (Zdy x327=true)<|
 Zbv x185 fun i328=>
 ZcJ (st310[i328]?) Zbn fun x329 x330=>
 Zbv x329 fun i331=>
 ZcJ (st310[i331]?) Zbn fun x332 x333=>
 Zbv x332 fun i334=>
 ZcJ (st310[i334]?) Zbc fun x335=>
 Zbv (ZbY N (ZaK.mk (Zat.mk x335 x333) x330)) fun x336=>
 chk (Zdy x336=true)<|
 if ((len x327) != (len x336))=true then
  some (false,st310)
 else
 loopN (Zag.p5 N i319 x327 x336) N (0,st310)
def Zag.p2 (N:Nat) (places_2:LL) (x183 x185:Option Nat) (drop_3 st190:LL) (c2_:(Int×LM)→Option (Bool×LL)):(Int×LM)→Option (Bool×LL):=fun (v191,v269)=>
 if (decide (v191<(len drop_3)))=true then
  chk (0≤v191)<|
  ZcJ (drop_3[zD v191]?) ZcN fun x270=>
  optM (ZeW v269 (zJ .i64 x270)) (fun j271 e=>ZpO [e] fun x272=>
   c2_ (w64 (v191+1),zS v269 j271 (zJ .i64 x270,wX true)))
  (
   c2_ (w64 (v191+1),v269 ++ [(zJ .i64 x270,wX true)]))
 else
 loopN (Zag.p3 N x183 x185 places_2 v269) N (0,st190)
def Zag.p1 (N:Nat) (places_2 drop_3:LL) (x4:Option Nat) (acts_1:LL) (c1_:(Int×LL)→Option (Bool×LL)):(Int×LL)→Option (Bool×LL):=fun (v7,st177)=>
 if (decide (v7<(len acts_1)))=true then
  chk (0≤v7)<|
  ZcJ (acts_1[zD v7]?) Zcx fun x178=>
  Zbv (Zbl N x4 x178.Header x178.Now st177) fun (x179,x180,x181,st182)=>
  c1_ (w64 (v7+1),st182)
 else
 Zbv (Zdx N x4 st177) fun (x183,st184)=>
 Zbv (Zdx N x4 st184) fun (x185,st186)=>
 Zbv (ZaB N x183 places_2 st186) fun (x187,st188)=>
 Zbv (ZaC N x183 drop_3 st188) fun (x189,st190)=>
 loopN (Zag.p2 N places_2 x183 x185 drop_3 st190) N (0,[])
def Zag (N:Nat) (p_0:Zaj) (acts_1 places_2 drop_3 st:LL):Option (Bool×LL):=
 Zbv (ZcG N st) fun (x1,st2)=>
 if (!x1)=true then
  some (false,st2)
 else
 Zbv (Zbr N p_0 acts_1) fun x3=>
 if x3=true then
  some (true,st2)
 else
 if (decide ((len places_2)>20))=true then
  some (true,st2)
 else
 if (decide ((len drop_3)>20))=true then
  some (true,st2)
 else
 Zbv (ZdJ N p_0 100 st2) fun (x4,x5,st6)=>
 loopN (Zag.p1 N places_2 drop_3 x4 acts_1) N (0,st6)
def Zag.p4.S (x183 x185:Option Nat) (places_2:LL) (v273:Int) (v269:LM) (st318:LL):S:=mkS 124 [(13,sP x183),(14,sP x185),(15,.one (.ms 66)),(76,sV 1 places_2),(77,sI (len places_2)),(78,sI v273)] [(66,.mp v269)] st318
def Zag.p5.S (i319:Nat) (x327 x336:LL) (v337:Int) (st342:LL):S:=mkS 124 [(13,sP (some i319)),(20,.one (.h (.row 92 0) 1 0 (zH x327))),(21,.one (.h (.row 94 0) 1 0 (zH x336))),(101,sI (len x327)),(102,sI v337)] [(92,.row 0 true 1 x327),(94,.row 0 true 1 x336)] st342
def Zag.p3.S (x183 x185:Option Nat) (places_2:LL) (v273:Int) (v269:LM) (st310:LL):S:=mkS 124 [(13,sP x183),(14,sP x185),(15,.one (.ms 66)),(76,sV 1 places_2),(77,sI (len places_2)),(78,sI v273)] [(66,.mp v269)] st310
def Zag.p2.S (places_2:LL) (x183 x185:Option Nat) (drop_3:LL) (v191:Int) (v269:LM) (st190:LL):S:=mkS 124 [(2,sV 1 places_2),(13,sP x183),(14,sP x185),(15,.one (.ms 66)),(67,sV 1 drop_3),(68,sI (len drop_3)),(69,sI v191)] [(66,.mp v269)] st190
def Zag.p1.S (places_2 drop_3:LL) (x4:Option Nat) (acts_1:LL) (v7:Int) (st177:LL):S:=mkS 124 [(2,sV 1 places_2),(3,sV 1 drop_3),(9,sP x4),(43,sV 71 acts_1),(44,sI (len acts_1)),(45,sI v7)] [] st177
theorem Zag.p4_ok {x183 x185 places_2 v273 v269 st318 r c3_ J3} (h:Zag.p4 N c3_ x183 x185 places_2 v273 v269 st318=some r) (hE:En Tryz.f3 g0 w0 (Zag.rs r) r.2 R) (hc3 : ∀v273 st310,c3_ (v273,st310)=some r→At g0 w0 (Zag.p3.S x183 x185 places_2 v273 v269 st310) J3):At g0 w0 (Zag.p4.S x183 x185 places_2 v273 v269 st318) (XK zE R [.c (ZbX Zag.B [1,1,1,1,1,1,1,1,1,1,0,1,0,0,1,1,1]),.h J3,.b 4,.c (ZbX Zag.B [1,1,1,1,1,1,1,1,1,1,1])]):=by
 unfold Zag.p4 at h
 exact an fol [.r []] [13,14,15,76,77,78] [66] trivial (hc3 (w64 (v273+1)) st318 h)
theorem Zag.p5_ok {i319 x327 x336 v337 st342 r c5_ J5} (h:Zag.p5 N i319 x327 x336 c5_ (v337,st342)=some r) (hE:En Tryz.f3 g0 w0 (Zag.rs r) r.2 R) (hc5 : ∀v337 st342,c5_ (v337,st342)=some r→At g0 w0 (Zag.p5.S i319 x327 x336 v337 st342) J5):At g0 w0 (Zag.p5.S i319 x327 x336 v337 st342) (XK zE R (.c (ZbX Zag.B [1,1,1,1,1,1,1,1,1,1,1,1,1,0,1,0,0]) :: .h J5 :: [.b 6,.c (ZbX Zag.B [1,1,1,1,1,1,1,1,1,1,1,1,1,1])])):=by
 unfold Zag.p5 at h
 refine Zbg h (fun c352 h1=>?_) (fun c352 h2=>?_)
 ·obtain ⟨c353,h3⟩:=ZaT h1
  obtain ⟨x343,c354,h4⟩:=Zci h3
  obtain ⟨c355,h5⟩:=ZaT h4
  obtain ⟨x344,c356,h6⟩:=Zci h5
  let o1:List PS:=[.r [],.c true,.r []]
  have t1 {Q:Prop} (q:Q):=aO c352 c353 (oD c352) c354 c353 c355 c356 q
  refine Zbg h6 (fun c357 h7=>?_) (fun c357 h8=>?_)
  ·obtain rfl:=Zaa h7
   exact afd fol hE (o1 ++ [.d {ds:=[(3,{oe:=[zJ .i64 x343]}),(7,{oe:=[zJ .i64 x344]}),(10,wF),(11,wF),(12,wF),(13,wF),(14,wF),(15,wF),(16,wF)],hv:=0,Hs:=[]},.c true,.r []]) [] 0 [] (t1 (aO c357 c357 c357 c357 c357 c357 c357 (aI c357 eT)))
  ·obtain ⟨⟨x345,st346⟩,c358,h9⟩:=Zae h8
   let o2:List PS:=o1 ++ [.d {ds:=[(3,{oe:=[zJ .i64 x343]}),(7,{oe:=[zJ .i64 x344]}),(14,{oe:=[zJ .i64 x343]}),(15,{rs:=[oB x345],st:=st346}),(17,yF)],hv:=32768,Hs:=[32768]}]
   have t2 {Q:Prop} (q:Q):=t1 (aO c357 c357 c357 c357 c353 (oD c352) c357 (aM c354 c357 (ZcD.snd c358) c357 c357 q))
   refine Zbg h9 (fun c359 h10=>?_) (fun c359 h11=>?_)
   ·obtain rfl:=Zaa h10
    exact afd fol hE (o2 ++ [.c true,.r []]) [] 0 [] (t2 c359)
   ·exact Zmb fol (o2 ++ [.c false,.r []]) [13,20,21,101,102] [92,94] (t2 c359) (hc5 (w64 (v337+1)) st346 h11)
 ·obtain rfl:=Zaa h2
  exact af fol hE [.r [],.c false,.r []] [] 0 [] c352
theorem Zag.p3_ok {x183 x185 places_2 v273 v269 st310 r c3_ J3} (h:Zag.p3 N x183 x185 places_2 v269 c3_ (v273,st310)=some r) (hE:En Tryz.f3 g0 w0 (Zag.rs r) r.2 R) (hc3 : ∀v273 st310,c3_ (v273,st310)=some r→At g0 w0 (Zag.p3.S x183 x185 places_2 v273 v269 st310) J3):At g0 w0 (Zag.p3.S x183 x185 places_2 v273 v269 st310) (XK zE R (.c (ZbX Zag.B [1,1,1,1,1,1,1,1,1,1,0,1,0,0]) :: .h J3 :: [.b 4,.c (ZbX Zag.B [1,1,1,1,1,1,1,1,1,1,1])])):=by
 unfold Zag.p3 at h
 refine Zbg h (fun c320 h12=>?_) (fun c320 h13=>?_)
 ·obtain ⟨c321,h14⟩:=ZaT h12
  obtain ⟨x311,c322,h15⟩:=Zci h14
  let o3:List PS:=[.r [],.c true,.r [(1,{oe:=[zJ .i64 x311]})]]
  have t3 {Q:Prop} (q:Q):=aL c320 c321 (oD c320) c322 q
  rcases Zhg h15 with ⟨j312,h19,c323,h16⟩ | ⟨c323,h17⟩
  ·obtain ⟨x313,h20,h18⟩:=ZlV h16
   obtain rfl:=Zfk h20
   refine Zbg h18 (fun c324 h21=>?_) (fun c324 h22=>?_)
   ·obtain ⟨⟨x314,st315⟩,c325,h23⟩:=Zae h21
    exact aq fol (o3 ++ [.r [(2,{oe:=[wX x313]})],.c true,.r [(3,{rs:=[oI x314],st:=st315,fz:=[88]})],.s 4]) [13,14,15,76,77,78] [66] (t3 (aL (ZkC c323) c324 z0 (eN (1)) (ZaB.snd c325))) (Zag.p4_ok h23 hE hc3)
   ·exact aq fol (o3 ++ [.r [(2,{oe:=[wX x313]})],.c false,.s 4]) [13,14,15,76,77,78] [66] (t3 (aI (ZkC c323) c324)) (Zag.p4_ok h22 hE hc3)
  ·obtain ⟨⟨x316,st317⟩,c326,h24⟩:=Zae h17
   exact aq fol (o3 ++ [.r [(2,yF)],.c true,.r [(3,{rs:=[oI x316],st:=st317,fz:=[88]})],.s 4]) [13,14,15,76,77,78] [66] (t3 (aL c323 eT z0 (eN (1)) (ZaB.snd c326))) (Zag.p4_ok h24 hE hc3)
 ·obtain ⟨i319,rfl,h25⟩:=Zae h13
  obtain ⟨x320,x321,c328,h26⟩:=Zba h25
  obtain ⟨i322,rfl,h27⟩:=Zae h26
  obtain ⟨x323,x324,c330,h28⟩:=Zba h27
  obtain ⟨i325,rfl,h29⟩:=Zae h28
  obtain ⟨x326,c332,h30⟩:=ZaX h29
  obtain ⟨x327,c333,h31⟩:=Zae h30
  obtain ⟨c334,h32⟩:=ZaT h31
  obtain ⟨i328,rfl,h33⟩:=Zae h32
  obtain ⟨x329,x330,c336,h34⟩:=Zba h33
  obtain ⟨i331,rfl,h35⟩:=Zae h34
  obtain ⟨x332,x333,c338,h36⟩:=Zba h35
  obtain ⟨i334,rfl,h37⟩:=Zae h36
  obtain ⟨x335,c340,h38⟩:=ZaX h37
  obtain ⟨x336,c341,h39⟩:=Zae h38
  obtain ⟨c342,h40⟩:=ZaT h39
  let o4:List PS:=[.r [],.c false,.r [(1,{rs:=[.row true 1 x327],ns:=[92],m:=10,cv:=[.one (vI 2 (ZaK.ls (ZaK.mk (Zat.mk x326 x324) x321)))]}),(3,{rs:=[.row true 1 x336],ns:=[94],m:=10,cv:=[.one (vI 2 (ZaK.ls (ZaK.mk (Zat.mk x335 x333) x330)))]})],.r []]
  have t4 {Q:Prop} (q:Q):=aO c320 (bO 2 c328 ((bC 2 c330 ((bC 87 c332 (Zas.bv x326) (bW bN)):BVs st310 [yO (some i325),yP true 1 x324] (Zat.ls (Zat.mk x326 x324))) (bW bN)):BVs st310 [yO (some i322),yP true 1 x321] (ZaK.ls (ZaK.mk (Zat.mk x326 x324) x321)))) c334 (ZbY.snd c333) (bO 2 c336 ((bC 2 c338 ((bC 87 c340 (Zas.bv x335) (bW bN)):BVs st310 [yO (some i334),yP true 1 x333] (Zat.ls (Zat.mk x335 x333))) (bW bN)):BVs st310 [yO (some i331),yP true 1 x330] (ZaK.ls (ZaK.mk (Zat.mk x335 x333) x330)))) c342 (ZbY.snd c341) q
  refine Zbg h40 (fun c343 h41=>?_) (fun c343 h42=>?_)
  ·obtain rfl:=Zaa h41
   exact af fol hE (o4 ++ [.c true,.r []]) [] 0 [] (t4 c343)
  ·exact aq fol (o4 ++ [.c false,.r []]) [13,20,21,101,102] [92,94] (t4 c343) (At.loop N (At.loopN (fun y:Int×LL=>Zag.p5.S i319 x327 x336 y.1 y.2) (fun c J hc y h=>Zag.p5_ok (v337:=y.1) (st342:=y.2) h hE (fun v337 st342=>hc (v337,st342))) N (0,st310) h42))
theorem Zag.p2_ok {places_2 x183 x185 drop_3 v191 v269 st190 r c2_ J2} (h:Zag.p2 N places_2 x183 x185 drop_3 st190 c2_ (v191,v269)=some r) (hE:En Tryz.f3 g0 w0 (Zag.rs r) r.2 R) (hc2 : ∀v191 v269,c2_ (v191,v269)=some r→At g0 w0 (Zag.p2.S places_2 x183 x185 drop_3 v191 v269 st190) J2):At g0 w0 (Zag.p2.S places_2 x183 x185 drop_3 v191 v269 st190) (XK zE R (.c (ZbX Zag.B [1,1,1,1,1,1,1,1,1,0,1,0,0]) :: .h J2 :: [.b 2,.c (ZbX Zag.B [1,1,1,1,1,1,1,1,1,1])])):=by
 unfold Zag.p2 at h
 refine Zbg h (fun c276 h43=>?_) (fun c276 h44=>?_)
 ·obtain ⟨c277,h45⟩:=ZaT h43
  obtain ⟨x270,c278,h46⟩:=Zci h45
  let o5:List PS:=[.r [],.c true,.r [(1,{oe:=[zJ .i64 x270]})]]
  rcases Zhg h46 with ⟨j271,h50,c279,h47⟩ | ⟨c279,h48⟩
  ·obtain ⟨x272,h51,h49⟩:=ZlV h47
   obtain rfl:=Zfk h51
   exact an fol (o5 ++ [.r [(2,{m:=j271})],.r []]) [2,13,14,15,67,68,69] [66] (aL c276 c277 (oD c276) c278 (ex_at c279)) (hc2 (w64 (v191+1)) (zS v269 j271 (zJ .i64 x270,wX true)) h49)
  ·exact an fol (o5 ++ [.r [(2,yF)],.r []]) [2,13,14,15,67,68,69] [66] (aL c276 c277 (oD c276) c278 c279) (hc2 (w64 (v191+1)) (v269 ++ [(zJ .i64 x270,wX true)]) h48)
 ·exact aq fol [.r [],.c false,.r []] [13,14,15,76,77,78] [66] c276 (At.loop N (At.loopN (fun y:Int×LL=>Zag.p3.S x183 x185 places_2 y.1 v269 y.2) (fun c J hc y h=>Zag.p3_ok (v273:=y.1) (st310:=y.2) h hE (fun v273 st310=>hc (v273,st310))) N (0,st190) h44))
theorem Zag.p1_ok {places_2 drop_3 x4 acts_1 v7 st177 r c1_ J1} (h:Zag.p1 N places_2 drop_3 x4 acts_1 c1_ (v7,st177)=some r) (hE:En Tryz.f3 g0 w0 (Zag.rs r) r.2 R) (hc1 : ∀v7 st177,c1_ (v7,st177)=some r→At g0 w0 (Zag.p1.S places_2 drop_3 x4 acts_1 v7 st177) J1):At g0 w0 (Zag.p1.S places_2 drop_3 x4 acts_1 v7 st177) (XK zE R (.c (ZbX Zag.B [1,1,1,1,0,1,0,0]) :: .h J1 :: [.b 0,.c (ZbX Zag.B [1,1,1,1,1])])):=by
 unfold Zag.p1 at h
 refine Zbg h (fun c184 h52=>?_) (fun c184 h53=>?_)
 ·obtain ⟨c185,h54⟩:=ZaT h52
  obtain ⟨x178,c186,h55⟩:=ZdP h54
  obtain ⟨⟨x179,x180,x181,st182⟩,c187,h56⟩:=Zae h55
  exact an fol [.r [],.c true,.r [(1,{oe:=x178.ls})],.r [(5,{rs:=[oI x179,oI x180,oI x181],st:=st182})],.r []] [2,3,9,43,44,45] [] (aL c184 c185 (oD c184) c186 (Zbl.snd c187)) (hc1 (w64 (v7+1)) st182 h56)
 ·obtain ⟨⟨x183,st184⟩,c188,h57⟩:=Zae h53
  obtain ⟨⟨x185,st186⟩,c189,h58⟩:=Zae h57
  obtain ⟨⟨x187,st188⟩,c190,h59⟩:=Zae h58
  obtain ⟨⟨x189,st190⟩,c191,h60⟩:=Zae h59
  exact aq fol [.r [],.c false,.r [(1,{rs:=[.one (yO x183)],st:=st184}),(3,{rs:=[.one (yO x185)],st:=st186})],.r [(2,{rs:=[oI x187],st:=st188})],.r [(2,{rs:=[oI x189],st:=st190})],.r [],.r []] [2,13,14,15,67,68,69] [66] (aL c184 (Zdx.snd c188) (Zdx.snd c189) (ZaB.snd c190) (ZaC.snd c191)) (At.loop N (At.loopN (fun y:Int×LM=>Zag.p2.S places_2 x183 x185 drop_3 y.1 y.2 st190) (fun c J hc y h=>Zag.p2_ok (v191:=y.1) (v269:=y.2) h hE (fun v191 v269=>hc (v191,v269))) N (0,[]) h60))
theorem Zag.snd {p_0:Zaj} {acts_1 places_2 drop_3:LL} {st:LL} {r:Bool×LL} (h:Zag N p_0 acts_1 places_2 drop_3 st=some r):Snd zE 3 [.agg p_0.ls,.one (L.sl 71 acts_1),.one (L.sl 1 places_2),.one (L.sl 1 drop_3)] st (Zag.rs r) r.2:=
 sO Zag.B Tryz.func3 fun g0 w0 R hE=>by
  unfold Zag at h
  obtain ⟨⟨x1,st2⟩,c1,h61⟩:=Zae h
  let o6:List PS:=[.r [],.r [(0,{rs:=[oB x1],st:=st2})]]
  have t5 {Q:Prop} (q:Q):=aI (ZcG.snd c1) q
  refine Zbg h61 (fun c2 h62=>?_) (fun c2 h63=>?_)
  ·obtain rfl:=Zaa h62
   exact af fol hE (o6 ++ [.c true,.r []]) [] 0 [] (t5 c2)
  ·obtain ⟨x3,c3,h64⟩:=Zae h63
   have t6 {Q:Prop} (q:Q):=t5 (aJ c2 (Zbr.snd c3) q)
   refine Zbg h64 (fun c4 h65=>?_) (fun c4 h66=>?_)
   ·obtain rfl:=Zaa h65
    exact af fol hE (o6 ++ [.c false,.r [(2,q1 [oB x3]),(4,wF),(5,wF),(6,wF),(9,wF),(10,wF),(11,wF)],.c true,.r []]) [] 0 [] (t6 (aO c4 c4 c4 c4 eT eT eT (aI eT eT)))
   ·refine Zbg h66 (fun c5 h67=>?_) (fun c5 h68=>?_)
    ·obtain rfl:=Zaa h67
     exact af fol hE (o6 ++ [.c false,.r [(2,q1 [oB x3]),(7,yF),(9,wF),(10,wF),(11,wF)],.c true,.r []]) [] 0 [] (t6 (aO c4 c4 c4 c4 c5 c5 c5 (aI c5 eT)))
    ·let o7:List PS:=o6 ++ [.c false,.r [(2,q1 [oB x3]),(7,yF),(12,yF)]]
     refine Zbg h68 (fun c6 h69=>?_) (fun c6 h70=>?_)
     ·obtain rfl:=Zaa h69
      exact af fol hE (o7 ++ [.c true,.r []]) [] 0 [] (t6 (aO c4 c4 c4 c4 c5 c5 c5 (aI c5 c6)))
     ·obtain ⟨⟨x4,x5,st6⟩,c7,h71⟩:=Zae h70
      exact aq fol (o7 ++ [.c false,.r [(1,{rs:=[.one (yO x4),oI x5],st:=st6})],.r []]) [2,3,9,43,44,45] [] (t6 (aO c4 c4 c4 c4 c5 c5 c5 (aJ c5 c6 (ZdJ.snd c7)))) (At.loop N (At.loopN (fun y:Int×LL=>Zag.p1.S places_2 drop_3 x4 acts_1 y.1 y.2) (fun c J hc y h=>Zag.p1_ok (v7:=y.1) (st177:=y.2) h hE (fun v7 st177=>hc (v7,st177))) N (0,st6) h71))
end Go.Dn.F
end
