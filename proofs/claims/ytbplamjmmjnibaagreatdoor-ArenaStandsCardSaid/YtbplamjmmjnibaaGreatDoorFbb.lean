/- Contracts of functions of the program, as shallow functions, and their proofs. -/
import Derived.Test.YtbplamjmmjnibaaGreatDoorFba
set_option linter.all false
set_option maxRecDepth 100000
namespace Go.Dn.F
open Go.Proofs
variable {N:Nat} {g0:G} {w0:World} {R:Exit→Act→World→Prop}
noncomputable def ZcH.B:Code:=Tryz.f16.body.getD .skip
noncomputable def ZcH.rs (r:Int):List CV:=[oI r]
noncomputable def ZcH (N:Nat) (p_0:Zad) (at_1:ZaG) (h_2:Zag) (now_3:Int):Option Int:=
 optE (ZaY N h_2) fun x1=>
 if (!x1)=true then
  some 1
 else
 if (!(h_2.Prev==at_1.Prev))=true then
  some 2
 else
 optE (Zcx N p_0 at_1.Point h_2.Time) fun x2=>
 if (h_2.Bits != x2)=true then
  some 3
 else
 optE (Zcd N p_0 h_2) fun x3=>
 if (x3 != 0)=true then
  some 4
 else
 optE (Zcb N h_2.Time at_1.Times) fun x4=>
 if (!x4)=true then
  some 5
 else
 optE (Zcp N h_2.Time now_3 p_0.Future) fun x5=>
 if (!x5)=true then
  some 6
 else
 optE (ZaM N at_1.Point.Height p_0.Gates) fun x6=>
 if (decide (h_2.Version<x6))=true then
  some 7
 else
 optE (Zcu N h_2) fun x7=>
 optE (Zbp N at_1.Point.Height x7 p_0.Checks) fun x8=>
 if (!x8)=true then
  some 8
 else
 some 0
theorem ZcH.snd {p_0:Zad} {at_1:ZaG} {h_2:Zag} {now_3:Int} {r:Int} (h:ZcH N p_0 at_1 h_2 now_3=some r):SndQ Tryz.prog 16 [.agg p_0.ls,.agg at_1.ls,.agg h_2.ls,oI now_3] (ZcH.rs r):=fun st=>
 sO ZcH.B Tryz.func16 fun g0 w0 R hE=>by
  unfold ZcH at h
  obtain ⟨x1,c1,h1⟩:=Zah h
  refine iteB h1 (fun c2 h2=>?_) (fun c2 h3=>?_)
  ·obtain rfl:=Zaa h2
   exact af fol hE [.r [],.r [(1,q1 [oB x1])],.c true,.r []] [] 0 [] (aI (ZaY.snd c1) c2)
  ·refine iteB h3 (fun c3 h4=>?_) (fun c3 h5=>?_)
   ·obtain rfl:=Zaa h4
    exact af fol hE [.r [],.r [(1,q1 [oB x1])],.c false,.r [],.c true,.r []] [] 0 [] (aJ (ZaY.snd c1) c2 c3)
   ·obtain ⟨x2,c4,h6⟩:=Zah h5
    refine iteB h6 (fun c5 h7=>?_) (fun c5 h8=>?_)
    ·obtain rfl:=Zaa h7
     exact afd fol hE [.r [],.r [(1,q1 [oB x1])],.c false,.r [],.c false,.d {ds:=[(7,q1 [oI x2])],hv:=0,Hs:=[]},.c true,.r []] [] 0 [] (aL (ZaY.snd c1) c2 c3 (Zcx.snd c4) c5)
    ·obtain ⟨x3,c6,h9⟩:=Zah h8
     refine iteB h9 (fun c7 h10=>?_) (fun c7 h11=>?_)
     ·obtain rfl:=Zaa h10
      exact afd fol hE [.r [],.r [(1,q1 [oB x1])],.c false,.r [],.c false,.d {ds:=[(7,q1 [oI x2])],hv:=0,Hs:=[]},.c false,.r [(2,q1 [oI x3])],.c true,.r []] [] 0 [] (aN (ZaY.snd c1) c2 c3 (Zcx.snd c4) c5 (Zcd.snd c6) c7)
     ·obtain ⟨x4,c8,h12⟩:=Zah h11
      refine iteB h12 (fun c9 h13=>?_) (fun c9 h14=>?_)
      ·obtain rfl:=Zaa h13
       exact afd fol hE [.r [],.r [(1,q1 [oB x1])],.c false,.r [],.c false,.d {ds:=[(7,q1 [oI x2])],hv:=0,Hs:=[]},.c false,.r [(2,q1 [oI x3])],.c false,.r [(4,q1 [oB x4])],.c true,.r []] [] 0 [] (aO (ZaY.snd c1) c2 c3 (Zcx.snd c4) c5 (Zcd.snd c6) c7 (aI (Zcb.snd c8) c9))
      ·obtain ⟨x5,c10,h15⟩:=Zah h14
       refine iteB h15 (fun c11 h16=>?_) (fun c11 h17=>?_)
       ·obtain rfl:=Zaa h16
        exact afd fol hE [.r [],.r [(1,q1 [oB x1])],.c false,.r [],.c false,.d {ds:=[(7,q1 [oI x2])],hv:=0,Hs:=[]},.c false,.r [(2,q1 [oI x3])],.c false,.r [(4,q1 [oB x4])],.c false,.r [(5,q1 [oB x5])],.c true,.r []] [] 0 [] (aO (ZaY.snd c1) c2 c3 (Zcx.snd c4) c5 (Zcd.snd c6) c7 (aK (Zcb.snd c8) c9 (Zcp.snd c10) c11))
       ·obtain ⟨x6,c12,h18⟩:=Zah h17
        refine iteB h18 (fun c13 h19=>?_) (fun c13 h20=>?_)
        ·obtain rfl:=Zaa h19
         exact afd fol hE [.r [],.r [(1,q1 [oB x1])],.c false,.r [],.c false,.d {ds:=[(7,q1 [oI x2])],hv:=0,Hs:=[]},.c false,.r [(2,q1 [oI x3])],.c false,.r [(4,q1 [oB x4])],.c false,.r [(5,q1 [oB x5])],.c false,.d {ds:=[(7,q1 [oI x6])],hv:=0,Hs:=[]},.c true,.r []] [] 0 [] (aO (ZaY.snd c1) c2 c3 (Zcx.snd c4) c5 (Zcd.snd c6) c7 (aM (Zcb.snd c8) c9 (Zcp.snd c10) c11 (ZaM.snd c12) c13))
        ·obtain ⟨x7,c14,h21⟩:=Zah h20
         obtain ⟨x8,c15,h22⟩:=Zah h21
         refine iteB h22 (fun c16 h23=>?_) (fun c16 h24=>?_)
         ·obtain rfl:=Zaa h23
          exact afd fol hE [.r [],.r [(1,q1 [oB x1])],.c false,.r [],.c false,.d {ds:=[(7,q1 [oI x2])],hv:=0,Hs:=[]},.c false,.r [(2,q1 [oI x3])],.c false,.r [(4,q1 [oB x4])],.c false,.r [(5,q1 [oB x5])],.c false,.d {ds:=[(7,q1 [oI x6])],hv:=0,Hs:=[]},.c false,.d {ds:=[(4,q1 [.agg [L.arr .u8 32 x7]]),(7,q1 [oB x8])],hv:=0,Hs:=[]},.c true,.r []] [] 0 [] (aO (ZaY.snd c1) c2 c3 (Zcx.snd c4) c5 (Zcd.snd c6) c7 (aO (Zcb.snd c8) c9 (Zcp.snd c10) c11 (ZaM.snd c12) c13 (Zcu.snd c14) (aI (Zbp.snd c15) c16)))
         ·obtain rfl:=Zaa h24
          exact afd fol hE [.r [],.r [(1,q1 [oB x1])],.c false,.r [],.c false,.d {ds:=[(7,q1 [oI x2])],hv:=0,Hs:=[]},.c false,.r [(2,q1 [oI x3])],.c false,.r [(4,q1 [oB x4])],.c false,.r [(5,q1 [oB x5])],.c false,.d {ds:=[(7,q1 [oI x6])],hv:=0,Hs:=[]},.c false,.d {ds:=[(4,q1 [.agg [L.arr .u8 32 x7]]),(7,q1 [oB x8])],hv:=0,Hs:=[]},.c false,.r []] [] 0 [] (aO (ZaY.snd c1) c2 c3 (Zcx.snd c4) c5 (Zcd.snd c6) c7 (aO (Zcb.snd c8) c9 (Zcp.snd c10) c11 (ZaM.snd c12) c13 (Zcu.snd c14) (aI (Zbp.snd c15) c16)))
noncomputable def ZaA.B:Code:=Tryz.f24.body.getD .skip
noncomputable def ZaA.rs (r:Int×Int×Int×LL):List CV:=[oI r.1,oI r.2.1,oI r.2.2.1]
noncomputable def ZaA.p2 (N:Nat) (i2:Nat) (now_2 ahead_12:Int) (is_13:Bool) (h_1:Zag) (st:LL):Option (Int×Int×Int×LL):=
 if (!is_13)=true then
  some ((-1),2,5,st)
 else
 getE (st[i2]?) ZbF fun x14=>
 chk (0≤ahead_12)<|
 chk (ahead_12<(len x14.spots))<|
 getE (x14.spots[0+(Int.toNat ahead_12)]?) ZdT fun x15=>
 optE (ZcH N x14.rules x15 h_1 now_2) fun x16=>
 if (x16 != 0)=true then
  some ((-1),x16,8,st)
 else
 if (decide ((len x14.list)≥x14.room))=true then
  some ((-1),0,6,st)
 else
 optE (Zcw N x14.rules x15 h_1) fun x17=>
 optE (ZaK N (some i2) h_1 ahead_12 x17 st) fun (x18,st19)=>
 some (x18,0,0,st19)
noncomputable def ZaA.p1 (N:Nat) (i2:Nat) (now_2 at_7:Int) (is_8:Bool) (h_1:Zag) (st:LL):Option (Int×Int×Int×LL):=
 if is_8=true then
  some (at_7,0,0,st)
 else
 getE (st[i2]?) ZbF fun x9=>
 optM (mfind x9.places (L.arr .u8 32 h_1.Prev)) (fun j10 e=>ZcR [e] fun x11=>
  ZaA.p2 N i2 now_2 x11 true h_1 st)
 (
  ZaA.p2 N i2 now_2 0 false h_1 st)
noncomputable def ZaA (N:Nat) (a_0:Option Nat) (h_1:Zag) (now_2:Int) (st:LL):Option (Int×Int×Int×LL):=
 if (Option.isNone a_0)=true then
  some ((-1),0,2,st)
 else
 optE (ZaY N h_1) fun x1=>
 if (!x1)=true then
  some ((-1),1,8,st)
 else
 optE a_0 fun i2=>
 getE (st[i2]?) ZbF fun x3=>
 optE (Zcu N h_1) fun x4=>
 optM (mfind x3.places (L.arr .u8 32 x4)) (fun j5 e=>ZcR [e] fun x6=>
  ZaA.p1 N i2 now_2 x6 true h_1 st)
 (
  ZaA.p1 N i2 now_2 0 false h_1 st)
noncomputable def ZaA.p2.S (i2:Nat) (now_2 ahead_12:Int) (is_13:Bool) (h_1:Zag) (st:LL):S:=mkS 87 [(0,sP (some i2)),(2,sI now_2),(4,sA 4),(11,sI ahead_12),(12,.one (.l (L.bool is_13)))] [(4,.cells h_1.ls)] st
noncomputable def ZaA.p1.S (i2:Nat) (now_2 at_7:Int) (is_8:Bool) (h_1:Zag) (st:LL):S:=mkS 87 [(0,sP (some i2)),(2,sI now_2),(4,sA 4),(9,sI at_7),(10,.one (.l (L.bool is_8)))] [(4,.cells h_1.ls)] st
theorem ZaA.p2_ok {i2 now_2 ahead_12 is_13 h_1 st r} (h:ZaA.p2 N i2 now_2 ahead_12 is_13 h_1 st=some r) (hE:En Tryz.f24 g0 w0 (ZaA.rs r) r.2.2.2 R):At g0 w0 (ZaA.p2.S i2 now_2 ahead_12 is_13 h_1 st) (XK Tryz.prog R [.c (csub ZaA.B [1,1,1,1,1])]):=by
 unfold ZaA.p2 at h
 refine iteB h (fun c11 h1=>?_) (fun c11 h2=>?_)
 ·obtain rfl:=Zaa h1
  exact af fol hE [.r [],.c true,.r []] [] 0 [] c11
 ·obtain ⟨x14,c12,h3⟩:=ZbE h2
  obtain ⟨c13,c14,h4⟩:=ck2 h3
  obtain ⟨x15,c15,h5⟩:=Zgg h4
  obtain ⟨x16,c16,h6⟩:=Zah h5
  refine iteB h6 (fun c17 h7=>?_) (fun c17 h8=>?_)
  ·obtain rfl:=Zaa h7
   exact afd fol hE [.r [],.c false,.d {ds:=[(3,{oc:=x14.lo}),(7,{oc:=x14.lo}),(10,{oc:=x14.lo,oe:=x15.ls}),(13,q1 [oI x16])],hv:=0,Hs:=[]},.r [],.c true,.r []] [] 0 [] (aO c11 c12 c12 c13 c14 c15 c12 (aI (ZcH.snd c16) c17))
  ·refine iteB h8 (fun c18 h9=>?_) (fun c18 h10=>?_)
   ·obtain rfl:=Zaa h9
    exact afd fol hE [.r [],.c false,.d {ds:=[(3,{oc:=x14.lo}),(7,{oc:=x14.lo}),(10,{oc:=x14.lo,oe:=x15.ls}),(13,q1 [oI x16])],hv:=0,Hs:=[]},.r [],.c false,.d {ds:=[(3,{oc:=x14.lo}),(8,{oc:=x14.lo})],hv:=0,Hs:=[]},.c true,.r []] [] 0 [] (aO c11 c12 c12 c13 c14 c15 c12 (aL (ZcH.snd c16) c17 c12 c12 c18))
   ·obtain ⟨x17,c19,h11⟩:=Zah h10
    obtain ⟨⟨x18,st19⟩,c20,h12⟩:=Zah h11
    obtain rfl:=Zaa h12
    exact afd fol hE [.r [],.c false,.d {ds:=[(3,{oc:=x14.lo}),(7,{oc:=x14.lo}),(10,{oc:=x14.lo,oe:=x15.ls}),(13,q1 [oI x16])],hv:=0,Hs:=[]},.r [],.c false,.d {ds:=[(3,{oc:=x14.lo}),(8,{oc:=x14.lo})],hv:=0,Hs:=[]},.c false,.d {ds:=[(6,{oc:=x14.lo}),(10,{oc:=x14.lo}),(13,{oc:=x14.lo,oe:=x15.ls}),(15,q1 [.agg x17.ls]),(16,{rs:=[oI x18],st:=st19})],hv:=65536,Hs:=[65536]}] [] 0 [] (aO c11 c12 c12 c13 c14 c15 c12 (aO (ZcH.snd c16) c17 c12 c12 c18 c12 c12 (aM c13 c14 c15 c12 (Zcw.snd c19) (ZaK.snd c20))))
theorem ZaA.p1_ok {i2 now_2 at_7 is_8 h_1 st r} (h:ZaA.p1 N i2 now_2 at_7 is_8 h_1 st=some r) (hE:En Tryz.f24 g0 w0 (ZaA.rs r) r.2.2.2 R):At g0 w0 (ZaA.p1.S i2 now_2 at_7 is_8 h_1 st) (XK Tryz.prog R [.c (csub ZaA.B [1,1,1,0,1]),.c (csub ZaA.B [1,1,1,1])]):=by
 unfold ZaA.p1 at h
 refine iteB h (fun c8 h13=>?_) (fun c8 h14=>?_)
 ·obtain rfl:=Zaa h13
  exact af fol hE [.r [],.c true,.r []] [] 0 [] c8
 ·obtain ⟨x9,c9,h15⟩:=ZbE h14
  rcases ZgG h15 with ⟨j10,h19,c10,h16⟩ | ⟨c10,h17⟩
  ·obtain ⟨x11,h20,h18⟩:=Zey h16
   obtain rfl:=ZeT h20
   exact aqd fol [.r [],.c false,.d {ds:=[(3,{oc:=x9.lo}),(6,{oc:=x9.lo,oe:=[L.int .i64 x11]})],hv:=0,Hs:=[]},.s 1] [0,2,4,11,12] [4] (aK c8 c9 (Zkg c10) c9) (ZaA.p2_ok h18 hE)
  ·exact aqd fol [.r [],.c false,.d {ds:=[(3,{oc:=x9.lo}),(6,{oc:=x9.lo,yes:=false})],hv:=0,Hs:=[]},.s 1] [0,2,4,11,12] [4] (aK c8 c9 c10 c9) (ZaA.p2_ok h17 hE)
theorem ZaA.snd {a_0:Option Nat} {h_1:Zag} {now_2:Int} {st:LL} {r:Int×Int×Int×LL} (h:ZaA N a_0 h_1 now_2 st=some r):Snd Tryz.prog 24 [.one (L.ptr a_0),.agg h_1.ls,oI now_2] st (ZaA.rs r) r.2.2.2:=
 sO ZaA.B Tryz.func24 fun g0 w0 R hE=>by
  unfold ZaA at h
  refine iteB h (fun c1 h21=>?_) (fun c1 h22=>?_)
  ·obtain rfl:=Zaa h21
   exact af fol hE [.r [],.r [],.c true,.r []] [] 0 [] c1
  ·obtain ⟨x1,c2,h23⟩:=Zah h22
   refine iteB h23 (fun c3 h24=>?_) (fun c3 h25=>?_)
   ·obtain rfl:=Zaa h24
    exact af fol hE [.r [],.r [],.c false,.r [(1,q1 [oB x1])],.c true,.r []] [] 0 [] (aJ c1 (ZaY.snd c2) c3)
   ·obtain ⟨i2,rfl,h26⟩:=Zah h25
    obtain ⟨x3,c5,h27⟩:=ZbE h26
    obtain ⟨x4,c6,h28⟩:=Zah h27
    rcases ZgG h28 with ⟨j5,h32,c7,h29⟩ | ⟨c7,h30⟩
    ·obtain ⟨x6,h33,h31⟩:=Zey h29
     obtain rfl:=ZeT h33
     exact aqd fol [.r [],.r [],.c false,.r [(1,q1 [oB x1])],.c false,.d {ds:=[(3,{oc:=x3.lo}),(5,q1 [.agg [L.arr .u8 32 x4]]),(6,{oc:=x3.lo,oe:=[L.int .i64 x6]})],hv:=0,Hs:=[]},.s 2] [0,2,4,9,10] [4] (aN c1 (ZaY.snd c2) c3 c5 (Zcu.snd c6) (Zkg c7) c5) (ZaA.p1_ok h31 hE)
    ·exact aqd fol [.r [],.r [],.c false,.r [(1,q1 [oB x1])],.c false,.d {ds:=[(3,{oc:=x3.lo}),(5,q1 [.agg [L.arr .u8 32 x4]]),(6,{oc:=x3.lo,yes:=false})],hv:=0,Hs:=[]},.s 2] [0,2,4,9,10] [4] (aN c1 (ZaY.snd c2) c3 c5 (Zcu.snd c6) c7 c5) (ZaA.p1_ok h30 hE)
noncomputable def ZbW.B:Code:=Tryz.f67.body.getD .skip
noncomputable def ZbW.rs (r:Bool):List CV:=[oB r]
noncomputable def ZbW (N:Nat) (a_0:Zat) (at_1:Int):Option Bool:=
 if (decide (at_1≥0))=true then
  some (decide (at_1<(len a_0.list)))
 else
 some false
theorem ZbW.snd {a_0:Zat} {at_1:Int} {r:Bool} (h:ZbW N a_0 at_1=some r):SndQ Tryz.prog 67 [.one (L.bx 87 a_0.ls),oI at_1] (ZbW.rs r):=fun st=>
 sO ZbW.B Tryz.func67 fun g0 w0 R hE=>by
  unfold ZbW at h
  refine iteB h (fun c1 h1=>?_) (fun c1 h2=>?_)
  ·obtain rfl:=Zaa h1
   exact af fol hE [.r [],.r [(11,{oe:=a_0.ls})]] [] 0 [] (aO eT eT eT c1 c1 c1 c1 (aL c1 (eO a_0.ls) c1 c1 c1))
  ·obtain rfl:=Zaa h2
   exact af fol hE [.r [],.r [(7,wF),(8,wF),(9,wF),(10,wF),(11,wF),(12,wF),(13,wF),(14,yF)]] [] 0 [] (aO eT eT eT c1 c1 c1 c1 (aK c1 c1 c1 c1))
noncomputable def Zbx.B:Code:=Tryz.f25.body.getD .skip
noncomputable def Zbx.rs (r:ZbM×Bool):List CV:=[.agg r.1.ls,oB r.2]
noncomputable def Zbx (N:Nat) (a_0:Zat) (at_1:Int):Option (ZbM×Bool):=
 optE (ZbW N a_0 at_1) fun x1=>
 if (!x1)=true then
  some (ZbM.mk (Zag.mk 0 (List.replicate 32 0) (List.replicate 32 0) 0 0 0) (List.replicate 32 0) (-1) 0 (List.replicate 4 0),false)
 else
 chk (0≤at_1)<|
 chk (at_1<(len a_0.list))<|
 getE (a_0.list[Int.toNat at_1]?) Zdj fun x2=>
 some (x2,true)
theorem Zbx.snd {a_0:Zat} {at_1:Int} {r:ZbM×Bool} (h:Zbx N a_0 at_1=some r):SndQ Tryz.prog 25 [.one (L.bx 87 a_0.ls),oI at_1] (Zbx.rs r):=fun st=>
 sO Zbx.B Tryz.func25 fun g0 w0 R hE=>by
  unfold Zbx at h
  obtain ⟨x1,c1,h1⟩:=Zah h
  refine iteB h1 (fun c2 h2=>?_) (fun c2 h3=>?_)
  ·obtain rfl:=Zaa h2
   exact af fol hE [.r [],.r [(2,q0 [oB x1])],.c true,.r []] [] 0 [] (aI (ZbW.snd c1) c2)
  ·obtain ⟨c3,c4,h4⟩:=ck2 h3
   obtain ⟨x2,c5,h5⟩:=Zeb h4
   obtain rfl:=Zaa h5
   exact af fol hE [.r [],.r [(2,q0 [oB x1])],.c false,.r [(3,{oe:=a_0.ls}),(6,{oe:=x2.ls})]] [] 0 [] (aM (ZbW.snd c1) c2 (eO a_0.ls) c3 c4 c5)
noncomputable def Zap.B:Code:=Tryz.f148.body.getD .skip
noncomputable def Zap.rs (r:(List Int)×Bool):List CV:=[.agg [L.arr .u64 4 r.1],oB r.2]
noncomputable def Zap.p2 (N:Nat) (c1_:(Int×Int×(List Int))→Option ((List Int)×Bool)) (by_1 over_2 c_1 i_2 w_12:Int) (n_0_0 d_11:List Int):Option ((List Int)×Bool):=
 chk (0≤i_2)<|
 chk (i_2<10)<|
 c1_ (w64 (Int.tdiv (w64 ((w64 (w_12*by_1))+c_1)) 4294967296),w64 (i_2+1),List.set d_11 (Int.toNat i_2) (Int.tmod (w64 ((w64 (w_12*by_1))+c_1)) 4294967296))
noncomputable def Zap.p4 (N:Nat) (q_17:List Int) (c4_:(Int×(List Int))→Option ((List Int)×Bool)):(Int×(List Int))→Option ((List Int)×Bool):=fun (i_18,out_19)=>
 if (decide (i_18<8))=true then
  chk (0≤(w64 (Int.tdiv i_18 2)))<|
  chk ((w64 (Int.tdiv i_18 2))<4)<|
  chk (0≤i_18)<|
  chk (i_18<10)<|
  chk (0≤(v64 (w64 (32*(Int.tmod i_18 2)))))<|
  c4_ (w64 (i_18+1),List.set out_19 (Int.toNat (w64 (Int.tdiv i_18 2))) (v64 ((List.getD out_19 (Int.toNat (w64 (Int.tdiv i_18 2))) 0)+(shlOf .u64 (v64 (List.getD q_17 (Int.toNat i_18) 0)) (v64 (w64 (32*(Int.tmod i_18 2))))))))
 else
 if ((List.getD q_17 8 0)==0)=true then
  some (out_19,(List.getD q_17 9 0)==0)
 else
 some (out_19,false)
noncomputable def Zap.p3 (N:Nat) (over_2:Int) (d_11:List Int) (c3_:(Int×Int×(List Int))→Option ((List Int)×Bool)):(Int×Int×(List Int))→Option ((List Int)×Bool):=fun (rest_13,i_14,q_17)=>
 if (decide (i_14≥0))=true then
  chk (0≤i_14)<|
  chk (i_14<10)<|
  chk (over_2≠0)<|
  c3_ (Int.tmod (w64 ((w64 (rest_13*4294967296))+(List.getD d_11 (Int.toNat i_14) 0))) over_2,w64 (i_14-1),List.set q_17 (Int.toNat i_14) (w64 (Int.tdiv (w64 ((w64 (rest_13*4294967296))+(List.getD d_11 (Int.toNat i_14) 0))) over_2)))
 else
 loopN (Zap.p4 N q_17) N (0,List.replicate 4 0)
noncomputable def Zap.p1 (N:Nat) (by_1 over_2:Int) (n_0_0:List Int) (c1_:(Int×Int×(List Int))→Option ((List Int)×Bool)):(Int×Int×(List Int))→Option ((List Int)×Bool):=fun (c_1,i_2,d_11)=>
 if (decide (i_2<10))=true then
  if (decide (i_2<8))=true then
   chk (0≤(w64 (Int.tdiv i_2 2)))<|
   chk ((w64 (Int.tdiv i_2 2))<4)<|
   chk (0≤(v64 (w64 (32*(Int.tmod i_2 2)))))<|
   Zap.p2 N c1_ by_1 over_2 c_1 i_2 (w64 (Int.tmod (shrOf .u64 (List.getD n_0_0 (Int.toNat (w64 (Int.tdiv i_2 2))) 0) (v64 (w64 (32*(Int.tmod i_2 2))))) 4294967296)) n_0_0 d_11
  else
  Zap.p2 N c1_ by_1 over_2 c_1 i_2 0 n_0_0 d_11
 else
 loopN (Zap.p3 N over_2 d_11) N (0,9,List.replicate 10 0)
noncomputable def Zap (N:Nat) (n_0_0:List Int) (by_1 over_2:Int):Option ((List Int)×Bool):=
 loopN (Zap.p1 N by_1 over_2 n_0_0) N (0,0,List.replicate 10 0)
noncomputable def Zap.p2.S (by_1 over_2 c_1 i_2 w_12:Int) (n_0_0 d_11:List Int) (st:LL):S:=mkS 96 [(1,sI by_1),(2,sI over_2),(3,sA 3),(6,sA 6),(8,sA 8),(9,sI c_1),(10,sI i_2),(11,sI w_12)] [(3,.cells [L.arr .u64 4 n_0_0]),(6,.cells [L.arr .u64 4 (List.replicate 4 0)]),(8,.cells [L.arr .i64 10 d_11])] st
noncomputable def Zap.p4.S (i_18:Int) (q_17 out_19:List Int) (st:LL):S:=mkS 96 [(6,sA 6),(14,sA 14),(17,sA 17),(18,sI i_18)] [(6,.cells [L.arr .u64 4 (List.replicate 4 0)]),(14,.cells [L.arr .i64 10 q_17]),(17,.cells [L.arr .u64 4 out_19])] st
noncomputable def Zap.p3.S (over_2 rest_13 i_14:Int) (d_11 q_17:List Int) (st:LL):S:=mkS 96 [(2,sI over_2),(6,sA 6),(8,sA 8),(13,sI rest_13),(14,sA 14),(15,sI i_14)] [(6,.cells [L.arr .u64 4 (List.replicate 4 0)]),(8,.cells [L.arr .i64 10 d_11]),(14,.cells [L.arr .i64 10 q_17])] st
noncomputable def Zap.p1.S (by_1 over_2 c_1 i_2:Int) (n_0_0 d_11:List Int) (st:LL):S:=mkS 96 [(1,sI by_1),(2,sI over_2),(3,sA 3),(6,sA 6),(8,sA 8),(9,sI c_1),(10,sI i_2)] [(3,.cells [L.arr .u64 4 n_0_0]),(6,.cells [L.arr .u64 4 (List.replicate 4 0)]),(8,.cells [L.arr .i64 10 d_11])] st
theorem Zap.p2_ok {by_1 over_2 c_1 i_2 w_12 n_0_0 d_11 st r c1_ J1} (h:Zap.p2 N c1_ by_1 over_2 c_1 i_2 w_12 n_0_0 d_11=some r) (hE:En Tryz.f148 g0 w0 (Zap.rs r) st R) (hc1 : ∀c_1 i_2 d_11,c1_ (c_1,i_2,d_11)=some r→At g0 w0 (Zap.p1.S by_1 over_2 c_1 i_2 n_0_0 d_11 st) J1):At g0 w0 (Zap.p2.S by_1 over_2 c_1 i_2 w_12 n_0_0 d_11 st) (XK Tryz.prog R [.c (csub Zap.B [1,1,1,0,1,0,0,1,0,0,1,1]),.b 1,.c (csub Zap.B [1,1,1,0,1,0,0,1,1]),.h J1,.b 0,.c (csub Zap.B [1,1,1,1])]):=by
 unfold Zap.p2 at h
 obtain ⟨c49,c50,h1⟩:=ck2 h
 exact an fol [.r [],.r [],.r [],.r []] [1,2,3,6,8,9,10] [3,6,8] (aK (neI 4294967296) c49 c50 (neI 4294967296)) (hc1 (w64 (Int.tdiv (w64 ((w64 (w_12*by_1))+c_1)) 4294967296)) (w64 (i_2+1)) (List.set d_11 (Int.toNat i_2) (Int.tmod (w64 ((w64 (w_12*by_1))+c_1)) 4294967296)) h1)
theorem Zap.p4_ok {i_18 q_17 out_19 st r c4_ J4} (h:Zap.p4 N q_17 c4_ (i_18,out_19)=some r) (hE:En Tryz.f148 g0 w0 (Zap.rs r) st R) (hc4 : ∀i_18 out_19,c4_ (i_18,out_19)=some r→At g0 w0 (Zap.p4.S i_18 q_17 out_19 st) J4):At g0 w0 (Zap.p4.S i_18 q_17 out_19 st) (XK Tryz.prog R (.c (csub Zap.B [1,1,1,1,1,1,1,1,0,1,0,0]) :: .h J4 :: [.b 4,.c (csub Zap.B [1,1,1,1,1,1,1,1,1])])):=by
 unfold Zap.p4 at h
 refine iteB h (fun c80 h2=>?_) (fun c80 h3=>?_)
 ·obtain ⟨c81,c82,c83,c84,c85,h4⟩:=ck5 h2
  exact and_ fol [.r [],.c true,.d {ds:=[],hv:=131072,Hs:=[131072]},.r []] [6,14,17,18] [6,14,17] (aO c80 (neI 2) (neI 2) c81 c82 c83 c84 (aK (neI 2) c85 c81 c82)) (hc4 (w64 (i_18+1)) (List.set out_19 (Int.toNat (w64 (Int.tdiv i_18 2))) (v64 ((List.getD out_19 (Int.toNat (w64 (Int.tdiv i_18 2))) 0)+(shlOf .u64 (v64 (List.getD q_17 (Int.toNat i_18) 0)) (v64 (w64 (32*(Int.tmod i_18 2)))))))) h4)
 ·refine iteB h3 (fun c86 h5=>?_) (fun c86 h6=>?_)
  ·obtain rfl:=Zaa h5
   exact afd fol hE [.r [],.c false,.d {ds:=[],hv:=512,Hs:=[512]}] [] 0 [] (aI c80 (ix 8 10 (aI c86 (ix 9 10 (aI c86 (ix 9 10 (aM c86 c86 c86 c86 c86 c86)))))))
  ·obtain rfl:=Zaa h6
   exact afd fol hE [.r [],.c false,.d {ds:=[(5,wF),(6,wF),(7,wF),(8,yF)],hv:=512,Hs:=[512]}] [] 0 [] (aI c80 (ix 8 10 (aO c86 c86 c86 c86 c86 c86 c86 c86)))
theorem Zap.p3_ok {over_2 rest_13 i_14 d_11 q_17 st r c3_ J3} (h:Zap.p3 N over_2 d_11 c3_ (rest_13,i_14,q_17)=some r) (hE:En Tryz.f148 g0 w0 (Zap.rs r) st R) (hc3 : ∀rest_13 i_14 q_17,c3_ (rest_13,i_14,q_17)=some r→At g0 w0 (Zap.p3.S over_2 rest_13 i_14 d_11 q_17 st) J3):At g0 w0 (Zap.p3.S over_2 rest_13 i_14 d_11 q_17 st) (XK Tryz.prog R (.c (csub Zap.B [1,1,1,1,1,1,0,1,0,0]) :: .h J3 :: [.b 2,.c (csub Zap.B [1,1,1,1,1,1,1])])):=by
 unfold Zap.p3 at h
 refine iteB h (fun c69 h7=>?_) (fun c69 h8=>?_)
 ·obtain ⟨c70,c71,c72,h9⟩:=ck3 h7
  exact an fol [.r [],.c true,.r [],.r [],.r [],.r []] [2,6,8,13,14,15] [6,8,14] (aN c69 c70 c71 c72 c70 c71 c72) (hc3 (Int.tmod (w64 ((w64 (rest_13*4294967296))+(List.getD d_11 (Int.toNat i_14) 0))) over_2) (w64 (i_14-1)) (List.set q_17 (Int.toNat i_14) (w64 (Int.tdiv (w64 ((w64 (rest_13*4294967296))+(List.getD d_11 (Int.toNat i_14) 0))) over_2))) h9)
 ·exact aq fol [.r [],.c false,.r [],.r []] [6,14,17,18] [6,14,17] c69 (At.loop N (At.loopN (fun y:Int×(List Int)=>Zap.p4.S y.1 q_17 y.2 st) (fun c J hc y h=>Zap.p4_ok (i_18:=y.1) (out_19:=y.2) h hE (fun i_18 out_19=>hc (i_18,out_19))) N (0,List.replicate 4 0) h8))
theorem Zap.p1_ok {by_1 over_2 c_1 i_2 n_0_0 d_11 st r c1_ J1} (h:Zap.p1 N by_1 over_2 n_0_0 c1_ (c_1,i_2,d_11)=some r) (hE:En Tryz.f148 g0 w0 (Zap.rs r) st R) (hc1 : ∀c_1 i_2 d_11,c1_ (c_1,i_2,d_11)=some r→At g0 w0 (Zap.p1.S by_1 over_2 c_1 i_2 n_0_0 d_11 st) J1):At g0 w0 (Zap.p1.S by_1 over_2 c_1 i_2 n_0_0 d_11 st) (XK Tryz.prog R (.c (csub Zap.B [1,1,1,0,1,0,0]) :: .h J1 :: [.b 0,.c (csub Zap.B [1,1,1,1])])):=by
 unfold Zap.p1 at h
 refine iteB h (fun c44 h10=>?_) (fun c44 h11=>?_)
 ·refine iteB h10 (fun c45 h12=>?_) (fun c45 h13=>?_)
  ·obtain ⟨c46,c47,c48,h14⟩:=ck3 h12
   exact aq fol [.r [],.c true,.r [],.r [],.c true,.r [],.s 6] [1,2,3,6,8,9,10,11] [3,6,8] (aO c44 c45 (neI 2) c46 c47 (neI 2) c48 (neI 4294967296)) (Zap.p2_ok h14 hE hc1)
  ·exact aq fol [.r [],.c true,.r [],.r [],.c false,.s 6] [1,2,3,6,8,9,10,11] [3,6,8] (aI c44 c45) (Zap.p2_ok h13 hE hc1)
 ·exact aq fol [.r [],.c false,.r [],.r [],.r []] [2,6,8,13,14,15] [6,8,14] c44 (At.loop N (At.loopN (fun y:Int×Int×(List Int)=>Zap.p3.S over_2 y.1 y.2.1 d_11 y.2.2 st) (fun c J hc y h=>Zap.p3_ok (rest_13:=y.1) (i_14:=y.2.1) (q_17:=y.2.2) h hE (fun rest_13 i_14 q_17=>hc (rest_13,i_14,q_17))) N (0,9,List.replicate 10 0) h11))
theorem Zap.snd {n_0_0:List Int} {by_1 over_2:Int} {r:(List Int)×Bool} (h:Zap N n_0_0 by_1 over_2=some r):SndQ Tryz.prog 148 [.agg [L.arr .u64 4 n_0_0],oI by_1,oI over_2] (Zap.rs r):=fun st=>
 sO Zap.B Tryz.func148 fun g0 w0 R hE=>by
  unfold Zap at h
  exact aq fol [.r [],.r [],.r [],.r []] [1,2,3,6,8,9,10] [3,6,8] trivial (At.loop N (At.loopN (fun y:Int×Int×(List Int)=>Zap.p1.S by_1 over_2 y.1 y.2.1 n_0_0 y.2.2 st) (fun c J hc y h=>Zap.p1_ok (c_1:=y.1) (i_2:=y.2.1) (d_11:=y.2.2) h hE (fun c_1 i_2 d_11=>hc (c_1,i_2,d_11))) N (0,0,List.replicate 10 0) h))
noncomputable def Zar.B:Code:=Tryz.f149.body.getD .skip
noncomputable def Zar.rs (r:Int):List CV:=[oI r]
noncomputable def Zar.p2 (N:Nat) (c1_:(Int×Int)→Option Int) (size_4 i_2:Int) (n_0_0:List Int):Option Int:=
 c1_ (size_4,w64 (i_2+1))
noncomputable def Zar.p4 (N:Nat) (size_8 word_9:Int):Option Int:=
 some (w64 ((w64 (size_8*16777216))+word_9))
noncomputable def Zar.p3 (N:Nat) (size_1 word_7:Int):Option Int:=
 if (decide (word_7≥8388608))=true then
  Zar.p4 N (w64 (size_1+1)) (w64 (Int.tdiv word_7 256))
 else
 Zar.p4 N size_1 word_7
noncomputable def Zar.p1 (N:Nat) (n_0_0:List Int) (c1_:(Int×Int)→Option Int):(Int×Int)→Option Int:=fun (size_1,i_2)=>
 if (decide (i_2<32))=true then
  optE (Zak N n_0_0 (w64 ((-8)*i_2))) fun x3=>
  if (decide ((Int.tmod (List.getD x3 0 0) 256)>0))=true then
   Zar.p2 N c1_ (w64 (i_2+1)) i_2 n_0_0
  else
  Zar.p2 N c1_ size_1 i_2 n_0_0
 else
 optE (Zak N n_0_0 (w64 (8*(w64 (3-size_1))))) fun x5=>
 if (decide (size_1>3))=true then
  optE (Zak N n_0_0 (w64 ((-8)*(w64 (size_1-3))))) fun x6=>
  Zar.p3 N size_1 (w64 (Int.tmod (List.getD x6 0 0) 16777216))
 else
 Zar.p3 N size_1 (w64 (Int.tmod (List.getD x5 0 0) 16777216))
noncomputable def Zar (N:Nat) (n_0_0:List Int):Option Int:=
 loopN (Zar.p1 N n_0_0) N (0,0)
noncomputable def Zar.p2.S (size_4 i_2:Int) (n_0_0:List Int) (st:LL):S:=mkS 49 [(1,sA 1),(3,sI size_4),(4,sI i_2)] [(1,.cells [L.arr .u64 4 n_0_0])] st
noncomputable def Zar.p4.S (size_8 word_9:Int) (st:LL):S:=mkS 49 [(3,sI size_8),(6,sI word_9)] [] st
noncomputable def Zar.p3.S (size_1 word_7:Int) (st:LL):S:=mkS 49 [(3,sI size_1),(6,sI word_7)] [] st
noncomputable def Zar.p1.S (size_1 i_2:Int) (n_0_0:List Int) (st:LL):S:=mkS 49 [(1,sA 1),(3,sI size_1),(4,sI i_2)] [(1,.cells [L.arr .u64 4 n_0_0])] st
theorem Zar.p2_ok {size_4 i_2 n_0_0 st r c1_ J1} (h:Zar.p2 N c1_ size_4 i_2 n_0_0=some r) (hE:En Tryz.f149 g0 w0 (Zar.rs r) st R) (hc1 : ∀size_1 i_2,c1_ (size_1,i_2)=some r→At g0 w0 (Zar.p1.S size_1 i_2 n_0_0 st) J1):At g0 w0 (Zar.p2.S size_4 i_2 n_0_0 st) (XK Tryz.prog R [.c (csub Zar.B [1,1,0,1,0,0,1,1]),.h J1,.b 0,.c (csub Zar.B [1,1,1])]):=by
 unfold Zar.p2 at h
 exact an fol [.r []] [1,3,4] [1] trivial (hc1 size_4 (w64 (i_2+1)) h)
theorem Zar.p4_ok {size_8 word_9 st r} (h:Zar.p4 N size_8 word_9=some r) (hE:En Tryz.f149 g0 w0 (Zar.rs r) st R):At g0 w0 (Zar.p4.S size_8 word_9 st) (XK Tryz.prog R [.c (csub Zar.B [1,1,1,1,1,1])]):=by
 unfold Zar.p4 at h
 obtain rfl:=Zaa h
 exact af fol hE [.r []] [] 0 [] trivial
theorem Zar.p3_ok {size_1 word_7 st r} (h:Zar.p3 N size_1 word_7=some r) (hE:En Tryz.f149 g0 w0 (Zar.rs r) st R):At g0 w0 (Zar.p3.S size_1 word_7 st) (XK Tryz.prog R [.c (csub Zar.B [1,1,1,1,1])]):=by
 unfold Zar.p3 at h
 refine iteB h (fun c7 h1=>?_) (fun c7 h2=>?_)
 ·exact aq fol [.r [],.c true,.r [],.r [],.s 1] [3,6] [] (aI c7 (neI 256)) (Zar.p4_ok h1 hE)
 ·exact aq fol [.r [],.c false,.s 1] [3,6] [] c7 (Zar.p4_ok h2 hE)
theorem Zar.p1_ok {size_1 i_2 n_0_0 st r c1_ J1} (h:Zar.p1 N n_0_0 c1_ (size_1,i_2)=some r) (hE:En Tryz.f149 g0 w0 (Zar.rs r) st R) (hc1 : ∀size_1 i_2,c1_ (size_1,i_2)=some r→At g0 w0 (Zar.p1.S size_1 i_2 n_0_0 st) J1):At g0 w0 (Zar.p1.S size_1 i_2 n_0_0 st) (XK Tryz.prog R (.c (csub Zar.B [1,1,0,1,0,0]) :: .h J1 :: [.b 0,.c (csub Zar.B [1,1,1])])):=by
 unfold Zar.p1 at h
 refine iteB h (fun c1 h3=>?_) (fun c1 h4=>?_)
 ·obtain ⟨x3,c2,h5⟩:=Zah h3
  refine iteB h5 (fun c3 h6=>?_) (fun c3 h7=>?_)
  ·exact aq fol [.r [],.c true,.r [(3,q1 [.agg [L.arr .u64 4 x3]])],.r [],.c true,.r [],.s 4] [1,3,4] [1] (aJ c1 (Zak.snd c2) (ix 0 4 (aI (neI 256) c3))) (Zar.p2_ok h6 hE hc1)
  ·exact aq fol [.r [],.c true,.r [(3,q1 [.agg [L.arr .u64 4 x3]])],.r [],.c false,.s 4] [1,3,4] [1] (aJ c1 (Zak.snd c2) (ix 0 4 (aI (neI 256) c3))) (Zar.p2_ok h7 hE hc1)
 ·obtain ⟨x5,c4,h8⟩:=Zah h4
  refine iteB h8 (fun c5 h9=>?_) (fun c5 h10=>?_)
  ·obtain ⟨x6,c6,h11⟩:=Zah h9
   exact aq fol [.r [],.c false,.r [(4,q1 [.agg [L.arr .u64 4 x5]])],.r [],.c true,.r [(4,q1 [.agg [L.arr .u64 4 x6]])],.s 1] [3,6] [] (aJ c1 (Zak.snd c4) (ix 0 4 (aK (neI 16777216) c5 (Zak.snd c6) (ix 0 4 (neI 16777216))))) (Zar.p3_ok h11 hE)
  ·exact aq fol [.r [],.c false,.r [(4,q1 [.agg [L.arr .u64 4 x5]])],.r [],.c false,.s 1] [3,6] [] (aJ c1 (Zak.snd c4) (ix 0 4 (aI (neI 16777216) c5))) (Zar.p3_ok h10 hE)
theorem Zar.snd {n_0_0:List Int} {r:Int} (h:Zar N n_0_0=some r):SndQ Tryz.prog 149 [.agg [L.arr .u64 4 n_0_0]] (Zar.rs r):=fun st=>
 sO Zar.B Tryz.func149 fun g0 w0 R hE=>by
  unfold Zar at h
  exact aq fol [.r [],.r [],.r []] [1,3,4] [1] trivial (At.loop N (At.loopN (fun y:Int×Int=>Zar.p1.S y.1 y.2 n_0_0 st) (fun c J hc y h=>Zar.p1_ok (size_1:=y.1) (i_2:=y.2) h hE (fun size_1 i_2=>hc (size_1,i_2))) N (0,0) h))
noncomputable def Zau.B:Code:=Tryz.f123.body.getD .skip
noncomputable def Zau.rs (r:Int):List CV:=[oI r]
noncomputable def Zau.p3 (N:Nat) (n_11:List Int):Option Int:=
 optE (Zar N n_11) fun x12=>
 some x12
noncomputable def Zau.p2 (N:Nat) (p_0:Zad) (took_5:Int) (x1:List Int):Option Int:=
 optE (Zap N x1 took_5 (w64 (p_0.Interval*p_0.Spacing))) fun (x6,x7)=>
 optE (ZaW N p_0.Limit p_0.Limit) fun (x8,x9)=>
 if (!x7)=true then
  some p_0.Limit
 else
 optE (Zbi N x8 x6) fun x10=>
 if x10=true then
  some p_0.Limit
 else
 if (x6==(List.replicate 4 0))=true then
  Zau.p3 N [1,0,0,0]
 else
 Zau.p3 N x6
noncomputable def Zau.p1 (N:Nat) (p_0:Zad) (took_4:Int) (x1:List Int):Option Int:=
 if (decide (took_4>(w64 ((w64 (p_0.Interval*p_0.Spacing))*4))))=true then
  Zau.p2 N p_0 (w64 ((w64 (p_0.Interval*p_0.Spacing))*4)) x1
 else
 Zau.p2 N p_0 took_4 x1
noncomputable def Zau (N:Nat) (p_0:Zad) (bits_1 from_2 to_3:Int):Option Int:=
 optE (ZaW N bits_1 p_0.Limit) fun (x1,x2)=>
 optE (Zca N p_0) fun x3=>
 if (!x3)=true then
  some p_0.Limit
 else
 if (!x2)=true then
  some p_0.Limit
 else
 if (decide ((w64 (to_3-from_2))<(w64 (Int.tdiv (w64 (p_0.Interval*p_0.Spacing)) 4))))=true then
  Zau.p1 N p_0 (w64 (Int.tdiv (w64 (p_0.Interval*p_0.Spacing)) 4)) x1
 else
 Zau.p1 N p_0 (w64 (to_3-from_2)) x1
noncomputable def Zau.p3.S (n_11:List Int) (st:LL):S:=mkS 83 [(13,sA 13)] [(13,.cells [L.arr .u64 4 n_11])] st
noncomputable def Zau.p2.S (p_0:Zad) (took_5:Int) (x1:List Int) (st:LL):S:=mkS 83 [(4,sA 4),(9,sA 9),(11,sI (w64 (p_0.Interval*p_0.Spacing))),(12,sI took_5)] [(4,.cells p_0.ls),(9,.cells [L.arr .u64 4 x1])] st
noncomputable def Zau.p1.S (p_0:Zad) (took_4:Int) (x1:List Int) (st:LL):S:=mkS 83 [(4,sA 4),(9,sA 9),(11,sI (w64 (p_0.Interval*p_0.Spacing))),(12,sI took_4)] [(4,.cells p_0.ls),(9,.cells [L.arr .u64 4 x1])] st
theorem Zau.p3_ok {n_11 st r} (h:Zau.p3 N n_11=some r) (hE:En Tryz.f123 g0 w0 (Zau.rs r) st R):At g0 w0 (Zau.p3.S n_11 st) (XK Tryz.prog R [.c (csub Zau.B [1,1,1,1,1,1,1,1,1,1,1])]):=by
 unfold Zau.p3 at h
 obtain ⟨x12,c13,h1⟩:=Zah h
 obtain rfl:=Zaa h1
 exact af fol hE [.r [(1,q1 [oI x12])]] [] 0 [] (Zar.snd c13)
theorem Zau.p2_ok {p_0 took_5 x1 st r} (h:Zau.p2 N p_0 took_5 x1=some r) (hE:En Tryz.f123 g0 w0 (Zau.rs r) st R):At g0 w0 (Zau.p2.S p_0 took_5 x1 st) (XK Tryz.prog R [.c (csub Zau.B [1,1,1,1,1,1,1])]):=by
 unfold Zau.p2 at h
 obtain ⟨⟨x6,x7⟩,c7,h2⟩:=Zah h
 obtain ⟨⟨x8,x9⟩,c8,h3⟩:=Zah h2
 refine iteB h3 (fun c9 h4=>?_) (fun c9 h5=>?_)
 ·obtain rfl:=Zaa h4
  exact af fol hE [.r [(3,q1 [.agg [L.arr .u64 4 x6],oB x7])],.r [(4,q1 [.agg [L.arr .u64 4 x8],oB x9])],.r [(3,wF),(4,wF),(5,wF)],.c true,.r []] [] 0 [] (aN (Zap.snd c7) (ZaW.snd c8) (not_false (Zbv c9)) (not_false (Zbv c9)) (not_false (Zbv c9)) (not_false (Zbv c9)) eT)
 ·obtain ⟨x10,c10,h6⟩:=Zah h5
  refine iteB h6 (fun c11 h7=>?_) (fun c11 h8=>?_)
  ·obtain rfl:=Zaa h7
   exact af fol hE [.r [(3,q1 [.agg [L.arr .u64 4 x6],oB x7])],.r [(4,q1 [.agg [L.arr .u64 4 x8],oB x9])],.r [(5,q1 [oB x10]),(6,yF)],.c true,.r []] [] 0 [] (aO (Zap.snd c7) (ZaW.snd c8) (not_true (Zay c9)) (not_true (Zay c9)) (not_true (Zay c9)) (Zbi.snd c10) (not_true (Zay c9)) c11)
  ·refine iteB h8 (fun c12 h9=>?_) (fun c12 h10=>?_)
   ·exact aq fol [.r [(3,q1 [.agg [L.arr .u64 4 x6],oB x7])],.r [(4,q1 [.agg [L.arr .u64 4 x8],oB x9])],.r [(5,q1 [oB x10]),(6,yF)],.c false,.r [],.c true,.r [(0,{m:=3})],.s 1] [13] [13] (aO (Zap.snd c7) (ZaW.snd c8) (not_true (Zay c9)) (not_true (Zay c9)) (not_true (Zay c9)) (Zbi.snd c10) (not_true (Zay c9)) (aI c11 c12)) (Zau.p3_ok h9 hE)
   ·exact aq fol [.r [(3,q1 [.agg [L.arr .u64 4 x6],oB x7])],.r [(4,q1 [.agg [L.arr .u64 4 x8],oB x9])],.r [(5,q1 [oB x10]),(6,yF)],.c false,.r [],.c false,.s 1] [13] [13] (aO (Zap.snd c7) (ZaW.snd c8) (not_true (Zay c9)) (not_true (Zay c9)) (not_true (Zay c9)) (Zbi.snd c10) (not_true (Zay c9)) (aI c11 c12)) (Zau.p3_ok h10 hE)
theorem Zau.p1_ok {p_0 took_4 x1 st r} (h:Zau.p1 N p_0 took_4 x1=some r) (hE:En Tryz.f123 g0 w0 (Zau.rs r) st R):At g0 w0 (Zau.p1.S p_0 took_4 x1 st) (XK Tryz.prog R [.c (csub Zau.B [1,1,1,1,1,1])]):=by
 unfold Zau.p1 at h
 refine iteB h (fun c6 h11=>?_) (fun c6 h12=>?_)
 ·exact aq fol [.r [],.c true,.r [],.s 1] [4,9,11,12] [4,9] c6 (Zau.p2_ok h11 hE)
 ·exact aq fol [.r [],.c false,.s 1] [4,9,11,12] [4,9] c6 (Zau.p2_ok h12 hE)
theorem Zau.snd {p_0:Zad} {bits_1 from_2 to_3:Int} {r:Int} (h:Zau N p_0 bits_1 from_2 to_3=some r):SndQ Tryz.prog 123 [.agg p_0.ls,oI bits_1,oI from_2,oI to_3] (Zau.rs r):=fun st=>
 sO Zau.B Tryz.func123 fun g0 w0 R hE=>by
  unfold Zau at h
  obtain ⟨⟨x1,x2⟩,c1,h13⟩:=Zah h
  obtain ⟨x3,c2,h14⟩:=Zah h13
  refine iteB h14 (fun c3 h15=>?_) (fun c3 h16=>?_)
  ·obtain rfl:=Zaa h15
   exact af fol hE [.r [],.r [(3,q1 [.agg [L.arr .u64 4 x1],oB x2])],.r [(1,q1 [oB x3]),(4,wF),(5,wF)],.c true,.r []] [] 0 [] (aM (ZaW.snd c1) (Zca.snd c2) (not_false (Zbv c3)) (not_false (Zbv c3)) (not_false (Zbv c3)) eT)
  ·refine iteB h16 (fun c4 h17=>?_) (fun c4 h18=>?_)
   ·obtain rfl:=Zaa h17
    exact af fol hE [.r [],.r [(3,q1 [.agg [L.arr .u64 4 x1],oB x2])],.r [(1,q1 [oB x3]),(6,yF)],.c true,.r []] [] 0 [] (aM (ZaW.snd c1) (Zca.snd c2) (not_true (Zay c3)) (not_true (Zay c3)) (not_true (Zay c3)) c4)
   ·refine iteB h18 (fun c5 h19=>?_) (fun c5 h20=>?_)
    ·exact aq fol [.r [],.r [(3,q1 [.agg [L.arr .u64 4 x1],oB x2])],.r [(1,q1 [oB x3]),(6,yF)],.c false,.r [],.r [],.r [],.c true,.r [],.s 1] [4,9,11,12] [4,9] (aO (ZaW.snd c1) (Zca.snd c2) (not_true (Zay c3)) (not_true (Zay c3)) (not_true (Zay c3)) c4 (neI 4) (aI c5 (neI 4))) (Zau.p1_ok h19 hE)
    ·exact aq fol [.r [],.r [(3,q1 [.agg [L.arr .u64 4 x1],oB x2])],.r [(1,q1 [oB x3]),(6,yF)],.c false,.r [],.r [],.r [],.c false,.s 1] [4,9,11,12] [4,9] (aO (ZaW.snd c1) (Zca.snd c2) (not_true (Zay c3)) (not_true (Zay c3)) (not_true (Zay c3)) c4 (neI 4) c5) (Zau.p1_ok h20 hE)
noncomputable def ZbC.B:Code:=Tryz.f94.body.getD .skip
noncomputable def ZbC.rs (r:Int):List CV:=[oI r]
noncomputable def ZbC.p1 (N:Nat) (bits_2 time_3 hard_5 own_6:Int) (p_0:Zad):Option Int:=
 if (!p_0.Easy)=true then
  some bits_2
 else
 if (decide ((w64 (own_6-time_3))>(w64 (2*p_0.Spacing))))=true then
  some p_0.Limit
 else
 some hard_5
noncomputable def ZbC (N:Nat) (p_0:Zad) (height_1 bits_2 time_3 first_4 hard_5 own_6:Int):Option Int:=
 if (decide (height_1≤0))=true then
  some p_0.Limit
 else
 if (decide (p_0.Interval>0))=true then
  chk (p_0.Interval≠0)<|
  if ((Int.tmod height_1 p_0.Interval)==0)=true then
   optE (Zau N p_0 bits_2 first_4 time_3) fun x1=>
   some x1
  else
  ZbC.p1 N bits_2 time_3 hard_5 own_6 p_0
 else
 ZbC.p1 N bits_2 time_3 hard_5 own_6 p_0
noncomputable def ZbC.p1.S (bits_2 time_3 hard_5 own_6:Int) (p_0:Zad) (st:LL):S:=mkS 48 [(2,sI bits_2),(3,sI time_3),(5,sI hard_5),(6,sI own_6),(7,sA 7)] [(7,.cells p_0.ls)] st
theorem ZbC.p1_ok {bits_2 time_3 hard_5 own_6 p_0 st r} (h:ZbC.p1 N bits_2 time_3 hard_5 own_6 p_0=some r) (hE:En Tryz.f94 g0 w0 (ZbC.rs r) st R):At g0 w0 (ZbC.p1.S bits_2 time_3 hard_5 own_6 p_0 st) (XK Tryz.prog R [.c (csub ZbC.B [1,1,1])]):=by
 unfold ZbC.p1 at h
 refine iteB h (fun c6 h1=>?_) (fun c6 h2=>?_)
 ·obtain rfl:=Zaa h1
  exact af fol hE [.r [],.c true,.r []] [] 0 [] c6
 ·refine iteB h2 (fun c7 h3=>?_) (fun c7 h4=>?_)
  ·obtain rfl:=Zaa h3
   exact af fol hE [.r [],.c false,.r [],.c true,.r []] [] 0 [] (aI c6 c7)
  ·obtain rfl:=Zaa h4
   exact af fol hE [.r [],.c false,.r [],.c false,.r []] [] 0 [] (aI c6 c7)
theorem ZbC.snd {p_0:Zad} {height_1 bits_2 time_3 first_4 hard_5 own_6:Int} {r:Int} (h:ZbC N p_0 height_1 bits_2 time_3 first_4 hard_5 own_6=some r):SndQ Tryz.prog 94 [.agg p_0.ls,oI height_1,oI bits_2,oI time_3,oI first_4,oI hard_5,oI own_6] (ZbC.rs r):=fun st=>
 sO ZbC.B Tryz.func94 fun g0 w0 R hE=>by
  unfold ZbC at h
  refine iteB h (fun c1 h5=>?_) (fun c1 h6=>?_)
  ·obtain rfl:=Zaa h5
   exact af fol hE [.r [],.r [],.c true,.r []] [] 0 [] c1
  ·refine iteB h6 (fun c2 h7=>?_) (fun c2 h8=>?_)
   ·obtain ⟨c3,h9⟩:=ZaO h7
    refine iteB h9 (fun c4 h10=>?_) (fun c4 h11=>?_)
    ·obtain ⟨x1,c5,h12⟩:=Zah h10
     obtain rfl:=Zaa h12
     exact af fol hE [.r [],.r [],.c false,.r [],.c true,.r [(4,q1 [oI x1])]] [] 0 [] (aO c1 c2 c2 c2 c2 c3 c2 (aJ c2 c4 (Zau.snd c5)))
    ·exact aq fol [.r [],.r [],.c false,.r [],.c false,.s 1] [2,3,5,6,7] [7] (aO c1 c2 c2 c2 c2 c3 c2 (aI c2 c4)) (ZbC.p1_ok h11 hE)
   ·exact aq fol [.r [],.r [],.c false,.r [(4,wF),(5,wF),(6,wF),(7,wF),(8,wF),(9,yF)],.c false,.s 1] [2,3,5,6,7] [7] (aO c1 c2 c2 c2 c2 c2 c2 eF) (ZbC.p1_ok h8 hE)
noncomputable def Zax.B:Code:=Tryz.f61.body.getD .skip
noncomputable def Zax.rs (r:Int):List CV:=[oI r]
noncomputable def Zax.p4 (N:Nat) (c1_:(Int×Int×Int)→Option Int) (time_2:Int) (chain_1:LL) (first_7 hard_8 v4:Int) (p_0:Zad) (x1:Zag):Option Int:=
 c1_ (first_7,hard_8,w64 (v4+1))
noncomputable def Zax.p3 (N:Nat) (c1_:(Int×Int×Int)→Option Int) (time_2:Int) (chain_1:LL) (first_7 hard_3:Int) (begins_6:Bool) (v4:Int) (p_0:Zad) (x1 x5:Zag):Option Int:=
 if (!p_0.Easy)=true then
  Zax.p4 N c1_ time_2 chain_1 first_7 x5.Bits v4 p_0 x1
 else
 if (x5.Bits != p_0.Limit)=true then
  Zax.p4 N c1_ time_2 chain_1 first_7 x5.Bits v4 p_0 x1
 else
 if begins_6=true then
  Zax.p4 N c1_ time_2 chain_1 first_7 x5.Bits v4 p_0 x1
 else
 Zax.p4 N c1_ time_2 chain_1 first_7 hard_3 v4 p_0 x1
noncomputable def Zax.p2 (N:Nat) (c1_:(Int×Int×Int)→Option Int) (time_2:Int) (chain_1:LL) (first_2 hard_3:Int) (begins_6:Bool) (v4:Int) (p_0:Zad) (x1 x5:Zag):Option Int:=
 if begins_6=true then
  Zax.p3 N c1_ time_2 chain_1 x5.Time hard_3 begins_6 v4 p_0 x1 x5
 else
 Zax.p3 N c1_ time_2 chain_1 first_2 hard_3 begins_6 v4 p_0 x1 x5
noncomputable def Zax.p1 (N:Nat) (time_2:Int) (chain_1:LL) (p_0:Zad) (x1:Zag) (c1_:(Int×Int×Int)→Option Int):(Int×Int×Int)→Option Int:=fun (first_2,hard_3,v4)=>
 if (decide (v4<(len chain_1)))=true then
  chk (0≤v4)<|
  getE (chain_1[Int.toNat v4]?) ZcF fun x5=>
  if (decide (p_0.Interval>0))=true then
   chk (p_0.Interval≠0)<|
   Zax.p2 N c1_ time_2 chain_1 first_2 hard_3 ((Int.tmod v4 p_0.Interval)==0) v4 p_0 x1 x5
  else
  Zax.p2 N c1_ time_2 chain_1 first_2 hard_3 false v4 p_0 x1 x5
 else
 optE (ZbC N p_0 (len chain_1) x1.Bits x1.Time first_2 hard_3 time_2) fun x9=>
 some x9
noncomputable def Zax (N:Nat) (p_0:Zad) (chain_1:LL) (time_2:Int):Option Int:=
 if ((len chain_1)==0)=true then
  some p_0.Limit
 else
 chk (0≤(w64 ((len chain_1)-1)))<|
 chk ((w64 ((len chain_1)-1))<(len chain_1))<|
 getE (chain_1[Int.toNat (w64 ((len chain_1)-1))]?) ZcF fun x1=>
 loopN (Zax.p1 N time_2 chain_1 p_0 x1) N (0,p_0.Limit,0)
noncomputable def Zax.p4.S (time_2:Int) (chain_1:LL) (first_7 hard_8 v4:Int) (p_0:Zad) (x1:Zag) (st:LL):S:=mkS 73 [(2,sI time_2),(3,sA 3),(7,sI (len chain_1)),(8,sA 8),(9,sI first_7),(10,sI hard_8),(27,sV 68 chain_1),(28,sI (len chain_1)),(29,sI v4)] [(3,.cells p_0.ls),(8,.cells x1.ls)] st
noncomputable def Zax.p3.S (time_2:Int) (chain_1:LL) (first_7 hard_3:Int) (begins_6:Bool) (v4:Int) (p_0:Zad) (x1 x5:Zag) (st:LL):S:=mkS 73 [(2,sI time_2),(3,sA 3),(7,sI (len chain_1)),(8,sA 8),(9,sI first_7),(10,sI hard_3),(12,sA 12),(13,.one (.l (L.bool begins_6))),(27,sV 68 chain_1),(28,sI (len chain_1)),(29,sI v4)] [(3,.cells p_0.ls),(8,.cells x1.ls),(12,.cells x5.ls)] st
noncomputable def Zax.p2.S (time_2:Int) (chain_1:LL) (first_2 hard_3:Int) (begins_6:Bool) (v4:Int) (p_0:Zad) (x1 x5:Zag) (st:LL):S:=mkS 73 [(2,sI time_2),(3,sA 3),(7,sI (len chain_1)),(8,sA 8),(9,sI first_2),(10,sI hard_3),(12,sA 12),(13,.one (.l (L.bool begins_6))),(27,sV 68 chain_1),(28,sI (len chain_1)),(29,sI v4)] [(3,.cells p_0.ls),(8,.cells x1.ls),(12,.cells x5.ls)] st
noncomputable def Zax.p1.S (time_2:Int) (chain_1:LL) (first_2 hard_3 v4:Int) (p_0:Zad) (x1:Zag) (st:LL):S:=mkS 73 [(2,sI time_2),(3,sA 3),(7,sI (len chain_1)),(8,sA 8),(9,sI first_2),(10,sI hard_3),(27,sV 68 chain_1),(28,sI (len chain_1)),(29,sI v4)] [(3,.cells p_0.ls),(8,.cells x1.ls)] st
theorem Zax.p4_ok {time_2 chain_1 first_7 hard_8 v4 p_0 x1 st r c1_ J1} (h:Zax.p4 N c1_ time_2 chain_1 first_7 hard_8 v4 p_0 x1=some r) (hE:En Tryz.f61 g0 w0 (Zax.rs r) st R) (hc1 : ∀first_2 hard_3 v4,c1_ (first_2,hard_3,v4)=some r→At g0 w0 (Zax.p1.S time_2 chain_1 first_2 hard_3 v4 p_0 x1 st) J1):At g0 w0 (Zax.p4.S time_2 chain_1 first_7 hard_8 v4 p_0 x1 st) (XK Tryz.prog R [.c (csub Zax.B [1,1,1,1,1,1,0,1,0,0,1,1,1]),.h J1,.b 0,.c (csub Zax.B [1,1,1,1,1,1,1])]):=by
 unfold Zax.p4 at h
 exact an fol [.r []] [2,3,7,8,9,10,27,28,29] [3,8] trivial (hc1 first_7 hard_8 (w64 (v4+1)) h)
theorem Zax.p3_ok {time_2 chain_1 first_7 hard_3 begins_6 v4 p_0 x1 x5 st r c1_ J1} (h:Zax.p3 N c1_ time_2 chain_1 first_7 hard_3 begins_6 v4 p_0 x1 x5=some r) (hE:En Tryz.f61 g0 w0 (Zax.rs r) st R) (hc1 : ∀first_2 hard_3 v4,c1_ (first_2,hard_3,v4)=some r→At g0 w0 (Zax.p1.S time_2 chain_1 first_2 hard_3 v4 p_0 x1 st) J1):At g0 w0 (Zax.p3.S time_2 chain_1 first_7 hard_3 begins_6 v4 p_0 x1 x5 st) (XK Tryz.prog R [.c (csub Zax.B [1,1,1,1,1,1,0,1,0,0,1,1,0,0,1,1,1]),.b 1,.c (csub Zax.B [1,1,1,1,1,1,0,1,0,0,1,1,1]),.h J1,.b 0,.c (csub Zax.B [1,1,1,1,1,1,1])]):=by
 unfold Zax.p3 at h
 refine iteB h (fun c11 h1=>?_) (fun c11 h2=>?_)
 ·exact aq fol [.r [(4,wF),(5,wF),(6,wF),(7,wF),(8,wF),(11,wF)],.c true,.r [],.s 4] [2,3,7,8,9,10,27,28,29] [3,8] (aO (not_false (Zbv c11)) (not_false (Zbv c11)) (not_false (Zbv c11)) (not_false (Zbv c11)) (not_false (Zbv c11)) (not_false (Zbv c11)) eT (aI eT eT)) (Zax.p4_ok h1 hE hc1)
 ·refine iteB h2 (fun c12 h3=>?_) (fun c12 h4=>?_)
  ·exact aq fol [.r [(9,yF),(11,wF)],.c true,.r [],.s 4] [2,3,7,8,9,10,27,28,29] [3,8] (aO (not_true (Zay c11)) (not_true (Zay c11)) (not_true (Zay c11)) (not_true (Zay c11)) (not_true (Zay c11)) (not_true (Zay c11)) c12 (aI c12 eT)) (Zax.p4_ok h3 hE hc1)
  ·refine iteB h4 (fun c13 h5=>?_) (fun c13 h6=>?_)
   ·exact aq fol [.r [(9,yF),(12,yF)],.c true,.r [],.s 4] [2,3,7,8,9,10,27,28,29] [3,8] (aO (not_true (Zay c11)) (not_true (Zay c11)) (not_true (Zay c11)) (not_true (Zay c11)) (not_true (Zay c11)) (not_true (Zay c11)) c12 (aI c12 c13)) (Zax.p4_ok h5 hE hc1)
   ·exact aq fol [.r [(9,yF),(12,yF)],.c false,.s 4] [2,3,7,8,9,10,27,28,29] [3,8] (aO (not_true (Zay c11)) (not_true (Zay c11)) (not_true (Zay c11)) (not_true (Zay c11)) (not_true (Zay c11)) (not_true (Zay c11)) c12 (aI c12 c13)) (Zax.p4_ok h6 hE hc1)
theorem Zax.p2_ok {time_2 chain_1 first_2 hard_3 begins_6 v4 p_0 x1 x5 st r c1_ J1} (h:Zax.p2 N c1_ time_2 chain_1 first_2 hard_3 begins_6 v4 p_0 x1 x5=some r) (hE:En Tryz.f61 g0 w0 (Zax.rs r) st R) (hc1 : ∀first_2 hard_3 v4,c1_ (first_2,hard_3,v4)=some r→At g0 w0 (Zax.p1.S time_2 chain_1 first_2 hard_3 v4 p_0 x1 st) J1):At g0 w0 (Zax.p2.S time_2 chain_1 first_2 hard_3 begins_6 v4 p_0 x1 x5 st) (XK Tryz.prog R [.c (csub Zax.B [1,1,1,1,1,1,0,1,0,0,1,1,0,0,1,1]),.b 1,.c (csub Zax.B [1,1,1,1,1,1,0,1,0,0,1,1,1]),.h J1,.b 0,.c (csub Zax.B [1,1,1,1,1,1,1])]):=by
 unfold Zax.p2 at h
 refine iteB h (fun c10 h7=>?_) (fun c10 h8=>?_)
 ·exact aq fol [.r [],.c true,.r [],.s 6] [2,3,7,8,9,10,12,13,27,28,29] [3,8,12] c10 (Zax.p3_ok h7 hE hc1)
 ·exact aq fol [.r [],.c false,.s 6] [2,3,7,8,9,10,12,13,27,28,29] [3,8,12] c10 (Zax.p3_ok h8 hE hc1)
theorem Zax.p1_ok {time_2 chain_1 first_2 hard_3 v4 p_0 x1 st r c1_ J1} (h:Zax.p1 N time_2 chain_1 p_0 x1 c1_ (first_2,hard_3,v4)=some r) (hE:En Tryz.f61 g0 w0 (Zax.rs r) st R) (hc1 : ∀first_2 hard_3 v4,c1_ (first_2,hard_3,v4)=some r→At g0 w0 (Zax.p1.S time_2 chain_1 first_2 hard_3 v4 p_0 x1 st) J1):At g0 w0 (Zax.p1.S time_2 chain_1 first_2 hard_3 v4 p_0 x1 st) (XK Tryz.prog R (.c (csub Zax.B [1,1,1,1,1,1,0,1,0,0]) :: .h J1 :: [.b 0,.c (csub Zax.B [1,1,1,1,1,1,1])])):=by
 unfold Zax.p1 at h
 refine iteB h (fun c5 h9=>?_) (fun c5 h10=>?_)
 ·obtain ⟨c6,h11⟩:=ZaO h9
  obtain ⟨x5,c7,h12⟩:=ZcP h11
  refine iteB h12 (fun c8 h13=>?_) (fun c8 h14=>?_)
  ·obtain ⟨c9,h15⟩:=ZaO h13
   exact aq fol [.r [],.c true,.r [(2,{oe:=x5.ls})],.r [],.s 6] [2,3,7,8,9,10,12,13,27,28,29] [3,8,12] (aO c5 c6 (oD c5) c7 c8 c8 c8 (aK c8 c9 c8 c8)) (Zax.p2_ok h15 hE hc1)
  ·exact aq fol [.r [],.c true,.r [(2,{oe:=x5.ls})],.r [(4,wF),(5,wF),(6,wF),(7,wF),(8,wF),(9,yF)],.s 6] [2,3,7,8,9,10,12,13,27,28,29] [3,8,12] (aO c5 c6 (oD c5) c7 c8 c8 c8 (aJ c8 c8 c8)) (Zax.p2_ok h14 hE hc1)
 ·obtain ⟨x9,c14,h16⟩:=Zah h10
  obtain rfl:=Zaa h16
  exact af fol hE [.r [],.c false,.r [(9,q1 [oI x9])]] [] 0 [] (aI c5 (ZbC.snd c14))
theorem Zax.snd {p_0:Zad} {chain_1:LL} {time_2:Int} {r:Int} (h:Zax N p_0 chain_1 time_2=some r):SndQ Tryz.prog 61 [.agg p_0.ls,.one (L.sl 68 chain_1),oI time_2] (Zax.rs r):=fun st=>
 sO Zax.B Tryz.func61 fun g0 w0 R hE=>by
  unfold Zax at h
  refine iteB h (fun c1 h17=>?_) (fun c1 h18=>?_)
  ·obtain rfl:=Zaa h17
   exact af fol hE [.r [],.r [],.r [],.c true,.r []] [] 0 [] c1
  ·obtain ⟨c2,c3,h19⟩:=ck2 h18
   obtain ⟨x1,c4,h20⟩:=ZcP h19
   exact aq fol [.r [],.r [],.r [],.c false,.r [(4,{oe:=x1.ls})],.r [],.r [],.r []] [2,3,7,8,9,10,27,28,29] [3,8] (aK c1 c2 c3 c4) (At.loop N (At.loopN (fun y:Int×Int×Int=>Zax.p1.S time_2 chain_1 y.1 y.2.1 y.2.2 p_0 x1 st) (fun c J hc y h=>Zax.p1_ok (first_2:=y.1) (hard_3:=y.2.1) (v4:=y.2.2) h hE (fun first_2 hard_3 v4=>hc (first_2,hard_3,v4))) N (0,p_0.Limit,0) h20))
noncomputable def Zbk.B:Code:=Tryz.f97.body.getD .skip
noncomputable def Zbk.rs (r:(List Int)):List CV:=[.agg [L.arr .u64 4 r]]
noncomputable def Zbk.p1 (N:Nat) (h_0_0:List Int) (c1_:(Int×(List Int))→Option (List Int)):(Int×(List Int))→Option (List Int):=fun (i_1,out_3)=>
 if (decide (i_1≥0))=true then
  optE (Zak N out_3 8) fun x4=>
  chk (0≤i_1)<|
  chk (i_1<32)<|
  c1_ (w64 (i_1-1),List.set x4 0 (v64 ((List.getD x4 0 0)+(v64 (List.getD h_0_0 (Int.toNat i_1) 0)))))
 else
 some out_3
noncomputable def Zbk (N:Nat) (h_0_0:List Int):Option (List Int):=
 loopN (Zbk.p1 N h_0_0) N (31,List.replicate 4 0)
noncomputable def Zbk.p1.S (i_1:Int) (h_0_0 out_3:List Int) (st:LL):S:=mkS 21 [(1,sA 1),(2,sA 2),(3,sA 3),(4,sI i_1)] [(1,.cells [L.arr .u8 32 h_0_0]),(2,.cells [L.arr .u64 4 (List.replicate 4 0)]),(3,.cells [L.arr .u64 4 out_3])] st
theorem Zbk.p1_ok {i_1 h_0_0 out_3 st r c1_ J1} (h:Zbk.p1 N h_0_0 c1_ (i_1,out_3)=some r) (hE:En Tryz.f97 g0 w0 (Zbk.rs r) st R) (hc1 : ∀i_1 out_3,c1_ (i_1,out_3)=some r→At g0 w0 (Zbk.p1.S i_1 h_0_0 out_3 st) J1):At g0 w0 (Zbk.p1.S i_1 h_0_0 out_3 st) (XK Tryz.prog R (.c (csub Zbk.B [1,1,0,1,0,0]) :: .h J1 :: [.b 0,.c (csub Zbk.B [1,1,1])])):=by
 unfold Zbk.p1 at h
 refine iteB h (fun c5 h1=>?_) (fun c5 h2=>?_)
 ·obtain ⟨x4,c6,h3⟩:=Zah h1
  obtain ⟨c7,c8,h4⟩:=ck2 h3
  exact and_ fol [.r [],.c true,.r [(1,q1 [.agg [L.arr .u64 4 x4]])],.d {ds:=[],hv:=256,Hs:=[256]},.r []] [1,2,3,4] [1,2,3] (aJ c5 (Zak.snd c6) (ix 0 4 (aK c7 c8 (leI 0 0) (ltI 0 4)))) (hc1 (w64 (i_1-1)) (List.set x4 0 (v64 ((List.getD x4 0 0)+(v64 (List.getD h_0_0 (Int.toNat i_1) 0))))) h4)
 ·obtain rfl:=Zaa h2
  exact af fol hE [.r [],.c false,.r []] [] 0 [] c5
theorem Zbk.snd {h_0_0:List Int} {r:(List Int)} (h:Zbk N h_0_0=some r):SndQ Tryz.prog 97 [.agg [L.arr .u8 32 h_0_0]] (Zbk.rs r):=fun st=>
 sO Zbk.B Tryz.func97 fun g0 w0 R hE=>by
  unfold Zbk at h
  exact aq fol [.r [],.r [],.r []] [1,2,3,4] [1,2,3] trivial (At.loop N (At.loopN (fun y:Int×(List Int)=>Zbk.p1.S y.1 h_0_0 y.2 st) (fun c J hc y h=>Zbk.p1_ok (i_1:=y.1) (out_3:=y.2) h hE (fun i_1 out_3=>hc (i_1,out_3))) N (31,List.replicate 4 0) h))
noncomputable def ZcB.B:Code:=Tryz.f62.body.getD .skip
noncomputable def ZcB.rs (r:Bool):List CV:=[oB r]
noncomputable def ZcB (N:Nat) (p_0:Zad) (h_1:Zag):Option Bool:=
 optE (ZaW N h_1.Bits p_0.Limit) fun (x1,x2)=>
 if x2=true then
  optE (Zcs N h_1) fun x3=>
  optE (Zbk N x3) fun x4=>
  optE (Zbi N x1 x4) fun x5=>
  some (!x5)
 else
 some false
theorem ZcB.snd {p_0:Zad} {h_1:Zag} {r:Bool} (h:ZcB N p_0 h_1=some r):SndQ Tryz.prog 62 [.agg p_0.ls,.agg h_1.ls] (ZcB.rs r):=fun st=>
 sO ZcB.B Tryz.func62 fun g0 w0 R hE=>by
  unfold ZcB at h
  obtain ⟨⟨x1,x2⟩,c1,h1⟩:=Zah h
  refine iteB h1 (fun c2 h2=>?_) (fun c2 h3=>?_)
  ·obtain ⟨x3,c3,h4⟩:=Zah h2
   obtain ⟨x4,c4,h5⟩:=Zah h4
   obtain ⟨x5,c5,h6⟩:=Zah h5
   obtain rfl:=Zaa h6
   exact afd fol hE [.r [],.r [(4,q1 [.agg [L.arr .u64 4 x1],oB x2])],.d {ds:=[(4,q1 [.agg [L.arr .u8 32 x3]]),(5,q1 [.agg [L.arr .u64 4 x4]]),(6,q1 [oB x5])],hv:=0,Hs:=[]}] [] 0 [] (aO (ZaW.snd c1) c2 c2 c2 (Zcs.snd c3) c2 (Zbk.snd c4) (aK c2 (Zbi.snd c5) c2 c2))
  ·obtain rfl:=Zaa h3
   exact afd fol hE [.r [],.r [(4,q1 [.agg [L.arr .u64 4 x1],oB x2])],.d {ds:=[(2,wF),(3,wF),(4,wF),(5,wF),(6,wF),(7,wF),(8,yF)],hv:=0,Hs:=[]}] [] 0 [] (aO (ZaW.snd c1) c2 c2 c2 c2 c2 c2 c2)
noncomputable def ZbA.B:Code:=Tryz.f64.body.getD .skip
noncomputable def ZbA.rs (r:LL):List CV:=[.row true 1 r]
noncomputable def ZbA.p1 (N:Nat) (row_0:LL) (c1_:(LL×Int)→Option LL):(LL×Int)→Option LL:=fun (out_3,i_1)=>
 if (decide (i_1≥0))=true then
  if (decide ((len out_3)<11))=true then
   chk (0≤i_1)<|
   chk (i_1<(len row_0))<|
   getE (row_0[Int.toNat i_1]?) ZcR fun x4=>
   chk (List.length (out_3 ++ [[L.int .i64 x4]])*8≤140737488355328)<|
   c1_ (out_3 ++ [[L.int .i64 x4]],w64 (i_1-1))
  else
  some out_3
 else
 some out_3
noncomputable def ZbA (N:Nat) (row_0:LL):Option LL:=
 loopN (ZbA.p1 N row_0) N ([],w64 ((len row_0)-1))
noncomputable def ZbA.p1.S (row_0 out_3:LL) (i_1:Int) (st:LL):S:=mkS 25 [(0,sV 1 row_0),(3,.one (.h (.row 3 0) 1 0 (List.length out_3))),(4,sI i_1)] [(3,.row 0 true 1 out_3)] st
theorem ZbA.p1_ok {row_0 out_3 i_1 st r c1_ J1} (h:ZbA.p1 N row_0 c1_ (out_3,i_1)=some r) (hE:En Tryz.f64 g0 w0 (ZbA.rs r) st R) (hc1 : ∀out_3 i_1,c1_ (out_3,i_1)=some r→At g0 w0 (ZbA.p1.S row_0 out_3 i_1 st) J1):At g0 w0 (ZbA.p1.S row_0 out_3 i_1 st) (XK Tryz.prog R (.c (csub ZbA.B [1,1,0,1,0,0]) :: .h J1 :: [.b 0,.c (csub ZbA.B [1,1,1])])):=by
 unfold ZbA.p1 at h
 refine iteB h (fun c6 h1=>?_) (fun c6 h2=>?_)
 ·refine iteB h1 (fun c7 h3=>?_) (fun c7 h4=>?_)
  ·obtain ⟨c8,c9,h5⟩:=ck2 h3
   obtain ⟨x4,c10,h6⟩:=ZcA h5
   obtain ⟨c11,h7⟩:=ZaO h6
   exact an fol [.r [],.c true,.r [(4,{oe:=[L.int .i64 x4]})],.r []] [0,3,4] [3] (aO c6 c6 c6 c6 c7 c8 c9 (aM c10 z0 (eN (List.length out_3)) z0 (eN (1)) c11)) (hc1 (out_3 ++ [[L.int .i64 x4]]) (w64 (i_1-1)) h7)
  ·obtain rfl:=Zaa h4
   exact af fol hE [.r [],.c false,.r []] [] 0 [0] (aN c6 c6 c6 c6 c7 z0 (eN (List.length out_3)))
 ·obtain rfl:=Zaa h2
  exact af fol hE [.r [(3,wF),(4,wF),(5,wF),(6,yF)],.c false,.r []] [] 0 [0] (aN c6 c6 c6 c6 eF z0 (eN (List.length out_3)))
theorem ZbA.snd {row_0:LL} {r:LL} (h:ZbA N row_0=some r):SndQ Tryz.prog 64 [.one (L.sl 1 row_0)] (ZbA.rs r):=fun st=>
 sO ZbA.B Tryz.func64 fun g0 w0 R hE=>by
  unfold ZbA at h
  exact aq fol [.r [(0,{m:=2})],.r [(0,{m:=1})],.r []] [0,3,4] [3] trivial (At.loop N (At.loopN (fun y:LL×Int=>ZbA.p1.S row_0 y.1 y.2 st) (fun c J hc y h=>ZbA.p1_ok (out_3:=y.1) (i_1:=y.2) h hE (fun out_3 i_1=>hc (out_3,i_1))) N ([],w64 ((len row_0)-1)) h))
noncomputable def ZaB.B:Code:=Tryz.f63.body.getD .skip
noncomputable def ZaB.rs (r:Int):List CV:=[oI r]
noncomputable def ZaB.p4 (N:Nat) (c2_:(Int×Int×Int)→Option Int) (c1_:Int→Option Int) (times_0:LL) (i_1 less_7 same_10 j_4:Int):Option Int:=
 c2_ (less_7,same_10,w64 (j_4+1))
noncomputable def ZaB.p3 (N:Nat) (c2_:(Int×Int×Int)→Option Int) (c1_:Int→Option Int) (times_0:LL) (i_1 less_7 same_3 j_4:Int):Option Int:=
 chk (0≤j_4)<|
 chk (j_4<(len times_0))<|
 getE (times_0[Int.toNat j_4]?) ZcR fun x8=>
 chk (0≤i_1)<|
 chk (i_1<(len times_0))<|
 getE (times_0[Int.toNat i_1]?) ZcR fun x9=>
 if (x8==x9)=true then
  ZaB.p4 N c2_ c1_ times_0 i_1 less_7 (w64 (same_3+1)) j_4
 else
 ZaB.p4 N c2_ c1_ times_0 i_1 less_7 same_3 j_4
noncomputable def ZaB.p2 (N:Nat) (c1_:Int→Option Int) (times_0:LL) (i_1:Int) (c2_:(Int×Int×Int)→Option Int):(Int×Int×Int)→Option Int:=fun (less_2,same_3,j_4)=>
 if (decide (j_4<(if (11:Int)<(len times_0) then 11 else (len times_0))))=true then
  chk (0≤j_4)<|
  chk (j_4<(len times_0))<|
  getE (times_0[Int.toNat j_4]?) ZcR fun x5=>
  chk (0≤i_1)<|
  chk (i_1<(len times_0))<|
  getE (times_0[Int.toNat i_1]?) ZcR fun x6=>
  if (decide (x5<x6))=true then
   ZaB.p3 N c2_ c1_ times_0 i_1 (w64 (less_2+1)) same_3 j_4
  else
  ZaB.p3 N c2_ c1_ times_0 i_1 less_2 same_3 j_4
 else
 if (decide (less_2≤(w64 (Int.tdiv (if (11:Int)<(len times_0) then 11 else (len times_0)) 2))))=true then
  if (decide ((w64 (Int.tdiv (if (11:Int)<(len times_0) then 11 else (len times_0)) 2))<(w64 (less_2+same_3))))=true then
   chk (0≤i_1)<|
   chk (i_1<(len times_0))<|
   getE (times_0[Int.toNat i_1]?) ZcR fun x11=>
   some x11
  else
  c1_ (w64 (i_1+1))
 else
 c1_ (w64 (i_1+1))
noncomputable def ZaB.p1 (N:Nat) (times_0:LL) (c1_:Int→Option Int):Int→Option Int:=fun i_1=>
 if (decide (i_1<(if (11:Int)<(len times_0) then 11 else (len times_0))))=true then
  loopN (ZaB.p2 N c1_ times_0 i_1) N (0,0,0)
 else
 some 0
noncomputable def ZaB (N:Nat) (times_0:LL):Option Int:=
 loopN (ZaB.p1 N times_0) N 0
noncomputable def ZaB.p4.S (times_0:LL) (i_1 less_7 same_10 j_4:Int) (st:LL):S:=mkS 59 [(0,sV 1 times_0),(3,sI (if (11:Int)<(len times_0) then 11 else (len times_0))),(4,sI i_1),(5,sI less_7),(6,sI same_10),(7,sI j_4)] [] st
noncomputable def ZaB.p3.S (times_0:LL) (i_1 less_7 same_3 j_4:Int) (st:LL):S:=mkS 59 [(0,sV 1 times_0),(3,sI (if (11:Int)<(len times_0) then 11 else (len times_0))),(4,sI i_1),(5,sI less_7),(6,sI same_3),(7,sI j_4)] [] st
noncomputable def ZaB.p2.S (times_0:LL) (i_1 less_2 same_3 j_4:Int) (st:LL):S:=mkS 59 [(0,sV 1 times_0),(3,sI (if (11:Int)<(len times_0) then 11 else (len times_0))),(4,sI i_1),(5,sI less_2),(6,sI same_3),(7,sI j_4)] [] st
noncomputable def ZaB.p1.S (times_0:LL) (i_1:Int) (st:LL):S:=mkS 59 [(0,sV 1 times_0),(3,sI (if (11:Int)<(len times_0) then 11 else (len times_0))),(4,sI i_1)] [] st
theorem ZaB.p4_ok {times_0 i_1 less_7 same_10 j_4 st r c2_ c1_ J2 J1} (h:ZaB.p4 N c2_ c1_ times_0 i_1 less_7 same_10 j_4=some r) (hE:En Tryz.f63 g0 w0 (ZaB.rs r) st R) (hc2 : ∀less_2 same_3 j_4,c2_ (less_2,same_3,j_4)=some r→At g0 w0 (ZaB.p2.S times_0 i_1 less_2 same_3 j_4 st) J2) (hc1 : ∀i_1,c1_ i_1=some r→At g0 w0 (ZaB.p1.S times_0 i_1 st) J1):At g0 w0 (ZaB.p4.S times_0 i_1 less_7 same_10 j_4 st) (XK Tryz.prog R [.c (csub ZaB.B [1,1,0,1,0,0,1,0,0,1,1,0,1,0,0,1,1]),.h J2,.b 2,.c (csub ZaB.B [1,1,0,1,0,0,1,0,0,1,1,1]),.b 1,.c (csub ZaB.B [1,1,0,1,0,0,1,1]),.h J1,.b 0,.c (csub ZaB.B [1,1,1])]):=by
 unfold ZaB.p4 at h
 exact an fol [.r []] [0,3,4,5,6,7] [] trivial (hc2 less_7 same_10 (w64 (j_4+1)) h)
theorem ZaB.p3_ok {times_0 i_1 less_7 same_3 j_4 st r c2_ c1_ J2 J1} (h:ZaB.p3 N c2_ c1_ times_0 i_1 less_7 same_3 j_4=some r) (hE:En Tryz.f63 g0 w0 (ZaB.rs r) st R) (hc2 : ∀less_2 same_3 j_4,c2_ (less_2,same_3,j_4)=some r→At g0 w0 (ZaB.p2.S times_0 i_1 less_2 same_3 j_4 st) J2) (hc1 : ∀i_1,c1_ i_1=some r→At g0 w0 (ZaB.p1.S times_0 i_1 st) J1):At g0 w0 (ZaB.p3.S times_0 i_1 less_7 same_3 j_4 st) (XK Tryz.prog R [.c (csub ZaB.B [1,1,0,1,0,0,1,0,0,1,1,0,1,0,0,1,0,0,1]),.b 3,.c (csub ZaB.B [1,1,0,1,0,0,1,0,0,1,1,0,1,0,0,1,1]),.h J2,.b 2,.c (csub ZaB.B [1,1,0,1,0,0,1,0,0,1,1,1]),.b 1,.c (csub ZaB.B [1,1,0,1,0,0,1,1]),.h J1,.b 0,.c (csub ZaB.B [1,1,1])]):=by
 unfold ZaB.p3 at h
 obtain ⟨c10,c11,h1⟩:=ck2 h
 obtain ⟨x8,c12,h2⟩:=ZcA h1
 obtain ⟨c13,c14,h3⟩:=ck2 h2
 obtain ⟨x9,c15,h4⟩:=ZcA h3
 refine iteB h4 (fun c16 h5=>?_) (fun c16 h6=>?_)
 ·exact aqd fol [.d {ds:=[(3,{oe:=[L.int .i64 x8]}),(7,{oe:=[L.int .i64 x9]})],hv:=0,Hs:=[]},.c true,.r [],.s 9] [0,3,4,5,6,7] [] (aN c10 c11 c12 c13 c14 c15 c16) (ZaB.p4_ok h5 hE hc2 hc1)
 ·exact aqd fol [.d {ds:=[(3,{oe:=[L.int .i64 x8]}),(7,{oe:=[L.int .i64 x9]})],hv:=0,Hs:=[]},.c false,.s 9] [0,3,4,5,6,7] [] (aN c10 c11 c12 c13 c14 c15 c16) (ZaB.p4_ok h6 hE hc2 hc1)
theorem ZaB.p2_ok {times_0 i_1 less_2 same_3 j_4 st r c1_ c2_ J1 J2} (h:ZaB.p2 N c1_ times_0 i_1 c2_ (less_2,same_3,j_4)=some r) (hE:En Tryz.f63 g0 w0 (ZaB.rs r) st R) (hc1 : ∀i_1,c1_ i_1=some r→At g0 w0 (ZaB.p1.S times_0 i_1 st) J1) (hc2 : ∀less_2 same_3 j_4,c2_ (less_2,same_3,j_4)=some r→At g0 w0 (ZaB.p2.S times_0 i_1 less_2 same_3 j_4 st) J2):At g0 w0 (ZaB.p2.S times_0 i_1 less_2 same_3 j_4 st) (XK Tryz.prog R (.c (csub ZaB.B [1,1,0,1,0,0,1,0,0,1,1,0,1,0,0]) :: .h J2 :: [.b 2,.c (csub ZaB.B [1,1,0,1,0,0,1,0,0,1,1,1]),.b 1,.c (csub ZaB.B [1,1,0,1,0,0,1,1]),.h J1,.b 0,.c (csub ZaB.B [1,1,1])])):=by
 unfold ZaB.p2 at h
 refine iteB h (fun c2 h7=>?_) (fun c2 h8=>?_)
 ·obtain ⟨c3,c4,h9⟩:=ck2 h7
  obtain ⟨x5,c5,h10⟩:=ZcA h9
  obtain ⟨c6,c7,h11⟩:=ck2 h10
  obtain ⟨x6,c8,h12⟩:=ZcA h11
  refine iteB h12 (fun c9 h13=>?_) (fun c9 h14=>?_)
  ·exact aqd fol [.r [],.c true,.d {ds:=[(3,{oe:=[L.int .i64 x5]}),(7,{oe:=[L.int .i64 x6]})],hv:=0,Hs:=[]},.c true,.r [],.s 11] [0,3,4,5,6,7] [] (aO c2 c3 c4 c5 c6 c7 c8 c9) (ZaB.p3_ok h13 hE hc2 hc1)
  ·exact aqd fol [.r [],.c true,.d {ds:=[(3,{oe:=[L.int .i64 x5]}),(7,{oe:=[L.int .i64 x6]})],hv:=0,Hs:=[]},.c false,.s 11] [0,3,4,5,6,7] [] (aO c2 c3 c4 c5 c6 c7 c8 c9) (ZaB.p3_ok h14 hE hc2 hc1)
 ·refine iteB h8 (fun c17 h15=>?_) (fun c17 h16=>?_)
  ·refine iteB h15 (fun c18 h17=>?_) (fun c18 h18=>?_)
   ·obtain ⟨c19,c20,h19⟩:=ck2 h17
    obtain ⟨x11,c21,h20⟩:=ZcA h19
    obtain rfl:=Zaa h20
    exact af fol hE [.r [],.c false,.r [],.c true,.r [(3,{oe:=[L.int .i64 x11]})]] [] 0 [] (aO c2 (neI 2) c17 c17 (neI 2) c17 c17 (aN c17 c17 c17 c18 c19 c20 c21))
   ·exact an fol [.r [],.c false,.r [],.c false,.r []] [0,3,4] [] (aO c2 (neI 2) c17 c17 (neI 2) c17 c17 (aK c17 c17 c17 c18)) (hc1 (w64 (i_1+1)) h18)
  ·exact an fol [.r [],.c false,.r [(5,wF),(6,wF),(7,wF),(8,wF),(9,wF),(10,wF),(11,yF)],.c false,.r []] [0,3,4] [] (aO c2 (neI 2) c17 c17 c17 c17 c17 (aJ c17 c17 eF)) (hc1 (w64 (i_1+1)) h16)
theorem ZaB.p1_ok {times_0 i_1 st r c1_ J1} (h:ZaB.p1 N times_0 c1_ i_1=some r) (hE:En Tryz.f63 g0 w0 (ZaB.rs r) st R) (hc1 : ∀i_1,c1_ i_1=some r→At g0 w0 (ZaB.p1.S times_0 i_1 st) J1):At g0 w0 (ZaB.p1.S times_0 i_1 st) (XK Tryz.prog R (.c (csub ZaB.B [1,1,0,1,0,0]) :: .h J1 :: [.b 0,.c (csub ZaB.B [1,1,1])])):=by
 unfold ZaB.p1 at h
 refine iteB h (fun c1 h21=>?_) (fun c1 h22=>?_)
 ·exact aq fol [.r [],.c true,.r [],.r [],.r []] [0,3,4,5,6,7] [] c1 (At.loop N (At.loopN (fun y:Int×Int×Int=>ZaB.p2.S times_0 i_1 y.1 y.2.1 y.2.2 st) (fun c J hc y h=>ZaB.p2_ok (less_2:=y.1) (same_3:=y.2.1) (j_4:=y.2.2) h hE hc1 (fun less_2 same_3 j_4=>hc (less_2,same_3,j_4))) N (0,0,0) h21))
 ·obtain rfl:=Zaa h22
  exact af fol hE [.r [],.c false,.r []] [] 0 [] c1
theorem ZaB.snd {times_0:LL} {r:Int} (h:ZaB N times_0=some r):SndQ Tryz.prog 63 [.one (L.sl 1 times_0)] (ZaB.rs r):=fun st=>
 sO ZaB.B Tryz.func63 fun g0 w0 R hE=>by
  unfold ZaB at h
  exact aq fol [.r [],.r [],.r []] [0,3,4] [] trivial (At.loop N (At.loopN (fun y:Int=>ZaB.p1.S times_0 y st) (fun c J hc y h=>ZaB.p1_ok h hE (fun i_1=>hc i_1)) N 0 h))
noncomputable def Zan.B:Code:=Tryz.f18.body.getD .skip
noncomputable def Zan.rs (r:Int):List CV:=[oI r]
noncomputable def Zan.p6 (N:Nat) (chain_1:LL) (p_0:Zad) (h_2:Zag) (c6_:Int→Option Int):Int→Option Int:=fun v21=>
 if (decide (v21<(len p_0.Checks)))=true then
  chk (0≤v21)<|
  getE (p_0.Checks[Int.toNat v21]?) ZcQ fun x22=>
  if (x22.Height==(len chain_1))=true then
   optE (Zcs N h_2) fun x23=>
   if (!(x22.Id==x23))=true then
    some 8
   else
   c6_ (w64 (v21+1))
  else
  c6_ (w64 (v21+1))
 else
 some 0
noncomputable def Zan.p5 (N:Nat) (chain_1:LL) (p_0:Zad) (h_2:Zag) (c5_:Int→Option Int):Int→Option Int:=fun v19=>
 if (decide (v19<(len p_0.Gates)))=true then
  chk (0≤v19)<|
  getE (p_0.Gates[Int.toNat v19]?) ZcX fun x20=>
  if (decide (x20.Height≤(len chain_1)))=true then
   if (decide (h_2.Version<x20.Version))=true then
    some 7
   else
   c5_ (w64 (v19+1))
  else
  c5_ (w64 (v19+1))
 else
 loopN (Zan.p6 N chain_1 p_0 h_2) N 0
noncomputable def Zan.p4 (N:Nat) (chain_1:LL) (p_0:Zad) (h_2:Zag):Option Int:=
 loopN (Zan.p5 N chain_1 p_0 h_2) N 0
noncomputable def Zan.p3 (N:Nat) (now_3:Int) (chain_1:LL) (p_0:Zad) (h_2:Zag):Option Int:=
 if (decide (p_0.Future<0))=true then
  some 6
 else
 if (decide (h_2.Time>now_3))=true then
  if (decide ((w64 (h_2.Time-now_3))>p_0.Future))=true then
   some 6
  else
  Zan.p4 N chain_1 p_0 h_2
 else
 Zan.p4 N chain_1 p_0 h_2
noncomputable def Zan.p2 (N:Nat) (now_3:Int) (chain_1:LL) (p_0:Zad) (h_2:Zag) (c2_:(LL×Int)→Option Int):(LL×Int)→Option Int:=fun (times_15,v6)=>
 if (decide (v6<(len chain_1)))=true then
  chk (0≤v6)<|
  getE (chain_1[Int.toNat v6]?) ZcF fun x16=>
  chk (List.length (times_15 ++ [[L.int .i64 x16.Time]])*8≤140737488355328)<|
  c2_ (times_15 ++ [[L.int .i64 x16.Time]],w64 (v6+1))
 else
 if (decide ((len chain_1)>0))=true then
  optE (ZbA N times_15) fun x17=>
  chk (plainRow x17=true)<|
  optE (ZaB N x17) fun x18=>
  if (decide (h_2.Time≤x18))=true then
   some 5
  else
  Zan.p3 N now_3 chain_1 p_0 h_2
 else
 Zan.p3 N now_3 chain_1 p_0 h_2
noncomputable def Zan.p1 (N:Nat) (chain_1:LL) (now_3:Int) (p_0:Zad) (h_2:Zag):Option Int:=
 optE (Zax N p_0 chain_1 h_2.Time) fun x4=>
 if (h_2.Bits != x4)=true then
  some 3
 else
 optE (ZcB N p_0 h_2) fun x5=>
 if (!x5)=true then
  some 4
 else
 loopN (Zan.p2 N now_3 chain_1 p_0 h_2) N ([],0)
noncomputable def Zan (N:Nat) (p_0:Zad) (chain_1:LL) (h_2:Zag) (now_3:Int):Option Int:=
 optE (ZbT N h_2) fun x1=>
 if (!x1)=true then
  some 1
 else
 if (decide ((len chain_1)>0))=true then
  chk (0≤(w64 ((len chain_1)-1)))<|
  chk ((w64 ((len chain_1)-1))<(len chain_1))<|
  getE (chain_1[Int.toNat (w64 ((len chain_1)-1))]?) ZcF fun x2=>
  optE (Zcs N x2) fun x3=>
  if (!(h_2.Prev==x3))=true then
   some 2
  else
  Zan.p1 N chain_1 now_3 p_0 h_2
 else
 Zan.p1 N chain_1 now_3 p_0 h_2
noncomputable def Zan.p6.S (chain_1:LL) (p_0:Zad) (v21:Int) (h_2:Zag) (st:LL):S:=mkS 125 [(6,sA 6),(9,sI (len chain_1)),(107,sV 33 p_0.Checks),(108,sI (len p_0.Checks)),(109,sI v21)] [(6,.cells h_2.ls)] st
noncomputable def Zan.p5.S (chain_1:LL) (p_0:Zad) (v19:Int) (h_2:Zag) (st:LL):S:=mkS 125 [(4,sA 4),(6,sA 6),(9,sI (len chain_1)),(88,sV 2 p_0.Gates),(89,sI (len p_0.Gates)),(90,sI v19)] [(4,.cells p_0.ls),(6,.cells h_2.ls)] st
noncomputable def Zan.p4.S (chain_1:LL) (p_0:Zad) (h_2:Zag) (st:LL):S:=mkS 125 [(4,sA 4),(6,sA 6),(9,sI (len chain_1))] [(4,.cells p_0.ls),(6,.cells h_2.ls)] st
noncomputable def Zan.p3.S (now_3:Int) (chain_1:LL) (p_0:Zad) (h_2:Zag) (st:LL):S:=mkS 125 [(3,sI now_3),(4,sA 4),(6,sA 6),(9,sI (len chain_1))] [(4,.cells p_0.ls),(6,.cells h_2.ls)] st
noncomputable def Zan.p2.S (now_3:Int) (chain_1 times_15:LL) (v6:Int) (p_0:Zad) (h_2:Zag) (st:LL):S:=mkS 125 [(3,sI now_3),(4,sA 4),(6,sA 6),(9,sI (len chain_1)),(10,.one (.h (.row 10 0) 1 0 (List.length times_15))),(47,sV 68 chain_1),(48,sI (len chain_1)),(49,sI v6)] [(4,.cells p_0.ls),(6,.cells h_2.ls),(10,.row 0 true 1 times_15)] st
noncomputable def Zan.p1.S (chain_1:LL) (now_3:Int) (p_0:Zad) (h_2:Zag) (st:LL):S:=mkS 125 [(1,sV 68 chain_1),(3,sI now_3),(4,sA 4),(6,sA 6),(9,sI (len chain_1))] [(4,.cells p_0.ls),(6,.cells h_2.ls)] st
theorem Zan.p6_ok {chain_1 p_0 v21 h_2 st r c6_ J6} (h:Zan.p6 N chain_1 p_0 h_2 c6_ v21=some r) (hE:En Tryz.f18 g0 w0 (Zan.rs r) st R) (hc6 : ∀v21,c6_ v21=some r→At g0 w0 (Zan.p6.S chain_1 p_0 v21 h_2 st) J6):At g0 w0 (Zan.p6.S chain_1 p_0 v21 h_2 st) (XK Tryz.prog R (.c (csub Zan.B [1,1,1,1,1,1,1,1,1,1,1,0,1,0,0]) :: .h J6 :: [.b 4,.c (csub Zan.B [1,1,1,1,1,1,1,1,1,1,1,1])])):=by
 unfold Zan.p6 at h
 refine iteB h (fun c53 h1=>?_) (fun c53 h2=>?_)
 ·obtain ⟨c54,h3⟩:=ZaO h1
  obtain ⟨x22,c55,h4⟩:=ZcW h3
  refine iteB h4 (fun c56 h5=>?_) (fun c56 h6=>?_)
  ·obtain ⟨x23,c57,h7⟩:=Zah h5
   refine iteB h7 (fun c58 h8=>?_) (fun c58 h9=>?_)
   ·obtain rfl:=Zaa h8
    exact afd fol hE [.r [],.c true,.r [(1,{oe:=x22.ls})],.d {ds:=[(8,q1 [.agg [L.arr .u8 32 x23]])],hv:=0,Hs:=[]},.c true,.r []] [] 0 [] (aO c53 c54 (oD c53) c55 c56 c56 c56 (aL c56 (Zcs.snd c57) c56 c56 c58))
   ·exact and_ fol [.r [],.c true,.r [(1,{oe:=x22.ls})],.d {ds:=[(8,q1 [.agg [L.arr .u8 32 x23]])],hv:=0,Hs:=[]},.c false,.r []] [6,9,107,108,109] [6] (aO c53 c54 (oD c53) c55 c56 c56 c56 (aL c56 (Zcs.snd c57) c56 c56 c58)) (hc6 (w64 (v21+1)) h9)
  ·exact and_ fol [.r [],.c true,.r [(1,{oe:=x22.ls})],.d {ds:=[(5,wF),(6,wF),(7,wF),(8,wF),(9,wF),(10,yF)],hv:=0,Hs:=[]},.c false,.r []] [6,9,107,108,109] [6] (aO c53 c54 (oD c53) c55 c56 c56 c56 (aK c56 c56 c56 eF)) (hc6 (w64 (v21+1)) h6)
 ·obtain rfl:=Zaa h2
  exact af fol hE [.r [],.c false,.r []] [] 0 [] c53
theorem Zan.p5_ok {chain_1 p_0 v19 h_2 st r c5_ J5} (h:Zan.p5 N chain_1 p_0 h_2 c5_ v19=some r) (hE:En Tryz.f18 g0 w0 (Zan.rs r) st R) (hc5 : ∀v19,c5_ v19=some r→At g0 w0 (Zan.p5.S chain_1 p_0 v19 h_2 st) J5):At g0 w0 (Zan.p5.S chain_1 p_0 v19 h_2 st) (XK Tryz.prog R (.c (csub Zan.B [1,1,1,1,1,1,1,1,1,1,0,1,0,0]) :: .h J5 :: [.b 2,.c (csub Zan.B [1,1,1,1,1,1,1,1,1,1,1])])):=by
 unfold Zan.p5 at h
 refine iteB h (fun c48 h10=>?_) (fun c48 h11=>?_)
 ·obtain ⟨c49,h12⟩:=ZaO h10
  obtain ⟨x20,c50,h13⟩:=ZcZ h12
  refine iteB h13 (fun c51 h14=>?_) (fun c51 h15=>?_)
  ·refine iteB h14 (fun c52 h16=>?_) (fun c52 h17=>?_)
   ·obtain rfl:=Zaa h16
    exact af fol hE [.r [],.c true,.r [(1,{oe:=x20.ls})],.r [],.c true,.r []] [] 0 [] (aO c48 c49 (oD c48) c50 c51 c51 c51 (aK c51 c51 c51 c52))
   ·exact an fol [.r [],.c true,.r [(1,{oe:=x20.ls})],.r [],.c false,.r []] [4,6,9,88,89,90] [4,6] (aO c48 c49 (oD c48) c50 c51 c51 c51 (aK c51 c51 c51 c52)) (hc5 (w64 (v19+1)) h17)
  ·exact an fol [.r [],.c true,.r [(1,{oe:=x20.ls})],.r [(5,wF),(6,wF),(7,wF),(8,wF),(9,wF),(10,yF)],.c false,.r []] [4,6,9,88,89,90] [4,6] (aO c48 c49 (oD c48) c50 c51 c51 c51 (aK c51 c51 c51 eF)) (hc5 (w64 (v19+1)) h15)
 ·exact aq fol [.r [],.c false,.r []] [6,9,107,108,109] [6] c48 (At.loop N (At.loopN (fun y:Int=>Zan.p6.S chain_1 p_0 y h_2 st) (fun c J hc y h=>Zan.p6_ok h hE (fun v21=>hc v21)) N 0 h11))
theorem Zan.p4_ok {chain_1 p_0 h_2 st r} (h:Zan.p4 N chain_1 p_0 h_2=some r) (hE:En Tryz.f18 g0 w0 (Zan.rs r) st R):At g0 w0 (Zan.p4.S chain_1 p_0 h_2 st) (XK Tryz.prog R [.c (csub Zan.B [1,1,1,1,1,1,1,1,1,1])]):=by
 unfold Zan.p4 at h
 exact aq fol [.r []] [4,6,9,88,89,90] [4,6] trivial (At.loop N (At.loopN (fun y:Int=>Zan.p5.S chain_1 p_0 y h_2 st) (fun c J hc y h=>Zan.p5_ok h hE (fun v19=>hc v19)) N 0 h))
theorem Zan.p3_ok {now_3 chain_1 p_0 h_2 st r} (h:Zan.p3 N now_3 chain_1 p_0 h_2=some r) (hE:En Tryz.f18 g0 w0 (Zan.rs r) st R):At g0 w0 (Zan.p3.S now_3 chain_1 p_0 h_2 st) (XK Tryz.prog R [.c (csub Zan.B [1,1,1,1,1,1,1,1,1])]):=by
 unfold Zan.p3 at h
 refine iteB h (fun c45 h18=>?_) (fun c45 h19=>?_)
 ·obtain rfl:=Zaa h18
  exact af fol hE [.r [(4,wF),(5,wF),(6,wF),(7,wF),(8,wF),(16,wF)],.c true,.r []] [] 0 [] (aO c45 c45 c45 c45 c45 c45 c45 eT)
 ·refine iteB h19 (fun c46 h20=>?_) (fun c46 h21=>?_)
  ·refine iteB h20 (fun c47 h22=>?_) (fun c47 h23=>?_)
   ·obtain rfl:=Zaa h22
    exact af fol hE [.r [(17,yF)],.c true,.r []] [] 0 [] (aO c45 c45 c45 c45 c45 c46 c46 (aO c46 c46 c46 c46 c46 c45 c46 (aI c45 c47)))
   ·exact aq fol [.r [(17,yF)],.c false,.s 1] [4,6,9] [4,6] (aO c45 c45 c45 c45 c45 c46 c46 (aO c46 c46 c46 c46 c46 c45 c46 (aI c45 c47))) (Zan.p4_ok h23 hE)
  ·exact aq fol [.r [(9,wF),(10,wF),(11,wF),(12,wF),(13,wF),(14,wF),(15,wF),(16,yF),(17,yF)],.c false,.s 1] [4,6,9] [4,6] (aO c45 c45 c45 c45 c45 c46 c46 (aO c46 c46 c46 c46 c46 c45 c46 (aI c45 eF))) (Zan.p4_ok h21 hE)
theorem Zan.p2_ok {now_3 chain_1 times_15 v6 p_0 h_2 st r c2_ J2} (h:Zan.p2 N now_3 chain_1 p_0 h_2 c2_ (times_15,v6)=some r) (hE:En Tryz.f18 g0 w0 (Zan.rs r) st R) (hc2 : ∀times_15 v6,c2_ (times_15,v6)=some r→At g0 w0 (Zan.p2.S now_3 chain_1 times_15 v6 p_0 h_2 st) J2):At g0 w0 (Zan.p2.S now_3 chain_1 times_15 v6 p_0 h_2 st) (XK Tryz.prog R (.c (csub Zan.B [1,1,1,1,1,1,1,0,1,0,0]) :: .h J2 :: [.b 0,.c (csub Zan.B [1,1,1,1,1,1,1,1])])):=by
 unfold Zan.p2 at h
 refine iteB h (fun c36 h24=>?_) (fun c36 h25=>?_)
 ·obtain ⟨c37,h26⟩:=ZaO h24
  obtain ⟨x16,c38,h27⟩:=ZcP h26
  obtain ⟨c39,h28⟩:=ZaO h27
  exact an fol [.r [],.c true,.r [(1,{oe:=x16.ls})],.r [],.r []] [3,4,6,9,10,47,48,49] [4,6,10] (aO c36 c37 (oD c36) c38 z0 (eN (List.length times_15)) z0 (aI (eN (1)) c39)) (hc2 (times_15 ++ [[L.int .i64 x16.Time]]) (w64 (v6+1)) h28)
 ·refine iteB h25 (fun c40 h29=>?_) (fun c40 h30=>?_)
  ·obtain ⟨x17,c41,h31⟩:=Zah h29
   obtain ⟨c42,h32⟩:=ZaO h31
   obtain ⟨x18,c43,h33⟩:=Zah h32
   refine iteB h33 (fun c44 h34=>?_) (fun c44 h35=>?_)
   ·obtain rfl:=Zaa h34
    exact afd fol hE [.r [],.c false,.d {ds:=[(6,{rs:=[.row true 1 x17],ns:=[65],m:=2}),(7,{rs:=[oI x18],m:=2})],hv:=64,Hs:=[64]},.c true,.r []] [] 0 [] (aO c36 c40 c40 c40 c40 c40 c40 (aO z0 (eN (List.length times_15)) c42 (ZbA.snd c41) c40 z0 (eN (List.length x17)) (aK (ZaB.snd c43) c40 c40 c44)))
   ·exact aqd fol [.r [],.c false,.d {ds:=[(6,{rs:=[.row true 1 x17],ns:=[65],m:=2}),(7,{rs:=[oI x18],m:=2})],hv:=64,Hs:=[64]},.c false,.s 1] [3,4,6,9] [4,6] (aO c36 c40 c40 c40 c40 c40 c40 (aO z0 (eN (List.length times_15)) c42 (ZbA.snd c41) c40 z0 (eN (List.length x17)) (aK (ZaB.snd c43) c40 c40 c44))) (Zan.p3_ok h35 hE)
  ·exact aqd fol [.r [],.c false,.d {ds:=[(3,wF),(4,wF),(5,wF),(6,wF),(7,wF),(8,wF),(9,yF)],hv:=0,Hs:=[]},.c false,.s 1] [3,4,6,9] [4,6] (aO c36 c40 c40 c40 c40 c40 c40 (aI c40 eF)) (Zan.p3_ok h30 hE)
theorem Zan.p1_ok {chain_1 now_3 p_0 h_2 st r} (h:Zan.p1 N chain_1 now_3 p_0 h_2=some r) (hE:En Tryz.f18 g0 w0 (Zan.rs r) st R):At g0 w0 (Zan.p1.S chain_1 now_3 p_0 h_2 st) (XK Tryz.prog R [.c (csub Zan.B [1,1,1,1])]):=by
 unfold Zan.p1 at h
 obtain ⟨x4,c9,h36⟩:=Zah h
 refine iteB h36 (fun c10 h37=>?_) (fun c10 h38=>?_)
 ·obtain rfl:=Zaa h37
  exact afd fol hE [.d {ds:=[(6,q1 [oI x4])],hv:=0,Hs:=[]},.c true,.r []] [] 0 [] (aI (Zax.snd c9) c10)
 ·obtain ⟨x5,c11,h39⟩:=Zah h38
  refine iteB h39 (fun c12 h40=>?_) (fun c12 h41=>?_)
  ·obtain rfl:=Zaa h40
   exact afd fol hE [.d {ds:=[(6,q1 [oI x4])],hv:=0,Hs:=[]},.c false,.r [(2,q1 [oB x5])],.c true,.r []] [] 0 [] (aK (Zax.snd c9) c10 (ZcB.snd c11) c12)
  ·exact aqd fol [.d {ds:=[(6,q1 [oI x4])],hv:=0,Hs:=[]},.c false,.r [(2,q1 [oB x5])],.c false,.r [(0,{m:=1})],.r []] [3,4,6,9,10,47,48,49] [4,6,10] (aK (Zax.snd c9) c10 (ZcB.snd c11) c12) (At.loop N (At.loopN (fun y:LL×Int=>Zan.p2.S now_3 chain_1 y.1 y.2 p_0 h_2 st) (fun c J hc y h=>Zan.p2_ok (times_15:=y.1) (v6:=y.2) h hE (fun times_15 v6=>hc (times_15,v6))) N ([],0) h41))
theorem Zan.snd {p_0:Zad} {chain_1:LL} {h_2:Zag} {now_3:Int} {r:Int} (h:Zan N p_0 chain_1 h_2 now_3=some r):SndQ Tryz.prog 18 [.agg p_0.ls,.one (L.sl 68 chain_1),.agg h_2.ls,oI now_3] (Zan.rs r):=fun st=>
 sO Zan.B Tryz.func18 fun g0 w0 R hE=>by
  unfold Zan at h
  obtain ⟨x1,c1,h42⟩:=Zah h
  refine iteB h42 (fun c2 h43=>?_) (fun c2 h44=>?_)
  ·obtain rfl:=Zaa h43
   exact af fol hE [.r [],.r [],.r [(1,q1 [oB x1])],.c true,.r []] [] 0 [] (aI (ZbT.snd c1) c2)
  ·refine iteB h44 (fun c3 h45=>?_) (fun c3 h46=>?_)
   ·obtain ⟨c4,c5,h47⟩:=ck2 h45
    obtain ⟨x2,c6,h48⟩:=ZcP h47
    obtain ⟨x3,c7,h49⟩:=Zah h48
    refine iteB h49 (fun c8 h50=>?_) (fun c8 h51=>?_)
    ·obtain rfl:=Zaa h50
     exact afd fol hE [.r [],.r [],.r [(1,q1 [oB x1])],.c false,.d {ds:=[(9,{oe:=x2.ls}),(10,q1 [.agg [L.arr .u8 32 x3]])],hv:=0,Hs:=[]},.c true,.r []] [] 0 [] (aO (ZbT.snd c1) c2 c3 c3 c3 c3 c3 (aO c3 c4 c5 c3 c6 c3 (Zcs.snd c7) (aJ c3 c3 c8)))
    ·exact aqd fol [.r [],.r [],.r [(1,q1 [oB x1])],.c false,.d {ds:=[(9,{oe:=x2.ls}),(10,q1 [.agg [L.arr .u8 32 x3]])],hv:=0,Hs:=[]},.c false,.s 1] [1,3,4,6,9] [4,6] (aO (ZbT.snd c1) c2 c3 c3 c3 c3 c3 (aO c3 c4 c5 c3 c6 c3 (Zcs.snd c7) (aJ c3 c3 c8))) (Zan.p1_ok h51 hE)
   ·exact aqd fol [.r [],.r [],.r [(1,q1 [oB x1])],.c false,.d {ds:=[(3,wF),(4,wF),(5,wF),(6,wF),(7,wF),(8,wF),(9,wF),(10,wF),(11,wF),(12,yF)],hv:=0,Hs:=[]},.c false,.s 1] [1,3,4,6,9] [4,6] (aO (ZbT.snd c1) c2 c3 c3 c3 c3 c3 (aM c3 c3 c3 c3 c3 eF)) (Zan.p1_ok h46 hE)
noncomputable def Zaf.B:Code:=Tryz.f4.body.getD .skip
noncomputable def Zaf.rs (r:Bool×LL):List CV:=[oB r.1]
noncomputable def Zaf.p2 (N:Nat) (c1_:((Option Nat)×LL×Int×LL)→Option (Bool×LL)) (i58:Nat) (v67 list_2:LL) (v8:Int) (p_0:Zad) (st64:LL):Option (Bool×LL):=
 c1_ ((some i58),v67,w64 (v8+1),st64)
noncomputable def Zaf.p4 (N:Nat) (c3_:((Option Nat)×Int)→Option (Bool×LL)) (i86:Nat) (v54:LL) (i_68:Int) (p_0:Zad) (x89:ZbM) (st56:LL) (c4_:(LL×Int)→Option (Bool×LL)):(LL×Int)→Option (Bool×LL):=fun (chain_95,k_91)=>
 if (k_91 != (-1))=true then
  getE (st56[i86]?) ZbF fun x96=>
  optE (Zbx N x96 k_91) fun (x97,x98)=>
  if (!x98)=true then
   some (false,st56)
  else
  if (decide (k_91≥i_68))=true then
   some (false,st56)
  else
  if (decide ((len chain_95)>40))=true then
   some (false,st56)
  else
  chk (List.length ([x97.Header.ls]++chain_95)*96≤140737488355328)<|
  c4_ ([x97.Header.ls]++chain_95,x97.Ahead)
 else
 chk (0<(len chain_95))<|
 getE (chain_95[0]?) ZcF fun x99=>
 if (!((x99.Version==p_0.Genesis.Version)&&((x99.Prev==p_0.Genesis.Prev)&&((x99.Root==p_0.Genesis.Root)&&((x99.Time==p_0.Genesis.Time)&&((x99.Bits==p_0.Genesis.Bits)&&((x99.Nonce==p_0.Genesis.Nonce)&&true)))))))=true then
  some (false,st56)
 else
 chk (0≤i_68)<|
 chk (i_68<(len v54))<|
 getE (v54[0+(Int.toNat i_68)]?) ZcR fun x100=>
 optE (Zan N p_0 chain_95 x89.Header x100) fun x101=>
 if (x101 != 0)=true then
  some (false,st56)
 else
 c3_ ((some i86),w64 (i_68+1))
noncomputable def Zaf.p3 (N:Nat) (v54:LL) (p_0:Zad) (st56:LL) (c3_:((Option Nat)×Int)→Option (Bool×LL)):((Option Nat)×Int)→Option (Bool×LL):=fun (a_85,i_68)=>
 optE a_85 fun i86=>
 getE (st56[i86]?) ZbF fun x87=>
 optE (ZaU N x87) fun x88=>
 if (decide (i_68<x88))=true then
  optE (Zbx N x87 i_68) fun (x89,x90)=>
  loopN (Zaf.p4 N c3_ i86 v54 i_68 p_0 x89 st56) N ([],x89.Ahead)
 else
 some (true,st56)
noncomputable def Zaf.p1 (N:Nat) (list_2:LL) (p_0:Zad) (c1_:((Option Nat)×LL×Int×LL)→Option (Bool×LL)):((Option Nat)×LL×Int×LL)→Option (Bool×LL):=fun (a_55,v54,v8,st56)=>
 if (decide (v8<(len list_2)))=true then
  chk (0≤v8)<|
  getE (list_2[Int.toNat v8]?) Zcr fun x57=>
  optE a_55 fun i58=>
  getE (st56[i58]?) ZbF fun x59=>
  optE (ZaU N x59) fun x60=>
  optE (ZaA N (some i58) x57.Header x57.Now st56) fun (x61,x62,x63,st64)=>
  getE (st64[i58]?) ZbF fun x65=>
  optE (ZaU N x65) fun x66=>
  if (decide (x66>x60))=true then
   chk (List.length (v54 ++ [[L.int .i64 x57.Now]])*8≤140737488355328)<|
   Zaf.p2 N c1_ i58 (v54 ++ [[L.int .i64 x57.Now]]) list_2 v8 p_0 st64
  else
  Zaf.p2 N c1_ i58 v54 list_2 v8 p_0 st64
 else
 loopN (Zaf.p3 N v54 p_0 st56) N (a_55,1)
noncomputable def Zaf (N:Nat) (p_0:Zad) (room_1:Int) (list_2 st:LL):Option (Bool×LL):=
 optE (Zce N st) fun (x1,st2)=>
 if (!x1)=true then
  some (false,st2)
 else
 optE (Zbo N p_0 list_2) fun x3=>
 if x3=true then
  some (true,st2)
 else
 optE (ZaS N p_0) fun x4=>
 if (!x4)=true then
  some (true,st2)
 else
 optE (Zcy N p_0 room_1 st2) fun (x5,x6,st7)=>
 loopN (Zaf.p1 N list_2 p_0) N (x5,[[L.int .i64 0]],0,st7)
noncomputable def Zaf.p2.S (i58:Nat) (v67 list_2:LL) (v8:Int) (p_0:Zad) (st64:LL):S:=mkS 120 [(3,sA 3),(7,sP (some i58)),(9,.one (.h (.row 36 0) 1 0 (List.length v67))),(37,sV 69 list_2),(38,sI (len list_2)),(39,sI v8)] [(3,.cells p_0.ls),(36,.row 0 true 1 v67)] st64
noncomputable def Zaf.p4.S (i86:Nat) (v54:LL) (i_68:Int) (chain_95:LL) (k_91:Int) (p_0:Zad) (x89:ZbM) (st56:LL):S:=mkS 120 [(3,sA 3),(7,sP (some i86)),(9,.one (.h (.row 36 0) 1 0 (List.length v54))),(13,sI i_68),(14,.one (.h (.row 14 0) 68 0 (List.length chain_95))),(15,sA 15),(17,sI k_91)] [(3,.cells p_0.ls),(14,.row 0 true 68 chain_95),(15,.cells x89.ls),(36,.row 0 true 1 v54)] st56
noncomputable def Zaf.p3.S (a_85:Option Nat) (v54:LL) (i_68:Int) (p_0:Zad) (st56:LL):S:=mkS 120 [(3,sA 3),(7,sP a_85),(9,.one (.h (.row 36 0) 1 0 (List.length v54))),(13,sI i_68)] [(3,.cells p_0.ls),(36,.row 0 true 1 v54)] st56
noncomputable def Zaf.p1.S (a_55:Option Nat) (v54 list_2:LL) (v8:Int) (p_0:Zad) (st56:LL):S:=mkS 120 [(3,sA 3),(7,sP a_55),(9,.one (.h (.row 36 0) 1 0 (List.length v54))),(37,sV 69 list_2),(38,sI (len list_2)),(39,sI v8)] [(3,.cells p_0.ls),(36,.row 0 true 1 v54)] st56
theorem Zaf.p2_ok {i58 v67 list_2 v8 p_0 st64 r c1_ J1} (h:Zaf.p2 N c1_ i58 v67 list_2 v8 p_0 st64=some r) (hE:En Tryz.f4 g0 w0 (Zaf.rs r) r.2 R) (hc1 : ∀a_55 v54 v8 st56,c1_ (a_55,v54,v8,st56)=some r→At g0 w0 (Zaf.p1.S a_55 v54 list_2 v8 p_0 st56) J1):At g0 w0 (Zaf.p2.S i58 v67 list_2 v8 p_0 st64) (XK Tryz.prog R [.c (csub Zaf.B [1,1,1,1,1,0,1,0,0,1,1,1]),.h J1,.b 0,.c (csub Zaf.B [1,1,1,1,1,1])]):=by
 unfold Zaf.p2 at h
 exact an fol [.r []] [3,7,9,37,38,39] [3,36] trivial (hc1 (some i58) v67 (w64 (v8+1)) st64 h)
theorem Zaf.p4_ok {i86 v54 i_68 chain_95 k_91 p_0 x89 st56 r c3_ c4_ J3 J4} (h:Zaf.p4 N c3_ i86 v54 i_68 p_0 x89 st56 c4_ (chain_95,k_91)=some r) (hE:En Tryz.f4 g0 w0 (Zaf.rs r) r.2 R) (hc3 : ∀a_85 i_68,c3_ (a_85,i_68)=some r→At g0 w0 (Zaf.p3.S a_85 v54 i_68 p_0 st56) J3) (hc4 : ∀chain_95 k_91,c4_ (chain_95,k_91)=some r→At g0 w0 (Zaf.p4.S i86 v54 i_68 chain_95 k_91 p_0 x89 st56) J4):At g0 w0 (Zaf.p4.S i86 v54 i_68 chain_95 k_91 p_0 x89 st56) (XK Tryz.prog R (.c (csub Zaf.B [1,1,1,1,1,1,0,1,0,0,1,0,0,1,1,0,1,0,0]) :: .h J4 :: [.b 4,.c (csub Zaf.B [1,1,1,1,1,1,0,1,0,0,1,0,0,1,1,1]),.b 3,.c (csub Zaf.B [1,1,1,1,1,1,0,1,0,0,1,1]),.h J3,.b 2,.c (csub Zaf.B [1,1,1,1,1,1,1])])):=by
 unfold Zaf.p4 at h
 refine iteB h (fun c119 h1=>?_) (fun c119 h2=>?_)
 ·obtain ⟨x96,c120,h3⟩:=ZbE h1
  obtain ⟨⟨x97,x98⟩,c121,h4⟩:=Zah h3
  refine iteB h4 (fun c122 h5=>?_) (fun c122 h6=>?_)
  ·obtain rfl:=Zaa h5
   exact af fol hE [.r [],.c true,.r [(2,{rs:=[.agg x97.ls,oB x98],m:=10,cv:=[.one (L.bx 87 x96.ls)]})],.r [(3,wF),(4,wF),(5,wF),(8,wF),(9,wF),(10,wF)],.c true,.r []] [] 0 [] (aO c119 (bO 87 c120 (Zat.bv x96)) (Zbx.snd c121) (not_false (Zbv c122)) (not_false (Zbv c122)) (not_false (Zbv c122)) (not_false (Zbv c122)) (aL eT eT eT eT eT))
  ·refine iteB h6 (fun c123 h7=>?_) (fun c123 h8=>?_)
   ·obtain rfl:=Zaa h7
    exact af fol hE [.r [],.c true,.r [(2,{rs:=[.agg x97.ls,oB x98],m:=10,cv:=[.one (L.bx 87 x96.ls)]})],.r [(6,yF),(8,wF),(9,wF),(10,wF)],.c true,.r []] [] 0 [] (aO c119 (bO 87 c120 (Zat.bv x96)) (Zbx.snd c121) (not_true (Zay c122)) (not_true (Zay c122)) (not_true (Zay c122)) (not_true (Zay c122)) (aL c123 c123 c123 c123 eT))
   ·refine iteB h8 (fun c124 h9=>?_) (fun c124 h10=>?_)
    ·obtain rfl:=Zaa h9
     exact af fol hE [.r [],.c true,.r [(2,{rs:=[.agg x97.ls,oB x98],m:=10,cv:=[.one (L.bx 87 x96.ls)]})],.r [(6,yF),(11,yF)],.c true,.r []] [] 0 [] (aO c119 (bO 87 c120 (Zat.bv x96)) (Zbx.snd c121) (not_true (Zay c122)) (not_true (Zay c122)) (not_true (Zay c122)) (not_true (Zay c122)) (aL c123 c123 c123 c123 c124))
    ·obtain ⟨c125,h11⟩:=ZaO h10
     exact an fol [.r [],.c true,.r [(2,{rs:=[.agg x97.ls,oB x98],m:=10,cv:=[.one (L.bx 87 x96.ls)]})],.r [(6,yF),(11,yF)],.c false,.r [(5,{m:=4})],.r []] [3,7,9,13,14,15,17] [3,14,15,36] (aO c119 (bO 87 c120 (Zat.bv x96)) (Zbx.snd c121) (not_true (Zay c122)) (not_true (Zay c122)) (not_true (Zay c122)) (not_true (Zay c122)) (aO c123 c123 c123 c123 c124 z0 (eN (1)) (aJ z0 (eN (List.length chain_95)) c125))) (hc4 ([x97.Header.ls]++chain_95) x97.Ahead h11)
 ·obtain ⟨c126,h12⟩:=ZaO h2
  obtain ⟨x99,c127,h13⟩:=ZcP h12
  refine iteB h13 (fun c128 h14=>?_) (fun c128 h15=>?_)
  ·obtain rfl:=Zaa h14
   exact afd fol hE [.r [],.c false,.d {ds:=[(2,{oe:=x99.ls}),(7,wF),(8,wF),(9,wF),(10,wF),(11,wF),(12,wF),(13,wF),(14,wF),(15,wF),(16,wF)],hv:=0,Hs:=[]},.c true,.r []] [] 0 [] (aO c119 (leI 0 0) c126 c127 c128 c128 c128 (aO c128 c128 c128 c128 c128 c128 c128 (aI c128 eT)))
  ·obtain ⟨c129,c130,h16⟩:=ck2 h15
   obtain ⟨x100,c131,h17⟩:=ZcA h16
   obtain ⟨x101,c132,h18⟩:=Zah h17
   refine iteB h18 (fun c133 h19=>?_) (fun c133 h20=>?_)
   ·obtain rfl:=Zaa h19
    exact afd fol hE [.r [],.c false,.d {ds:=[(2,{oe:=x99.ls}),(14,{oe:=[L.int .i64 x100]}),(15,{rs:=[oI x101],m:=2}),(17,yF)],hv:=0,Hs:=[]},.c true,.r []] [] 0 [] (aO c119 (leI 0 0) c126 c127 c128 c128 c128 (aO c128 c128 c128 c128 c129 c130 c128 (aO c131 c128 z0 (eN (List.length chain_95)) (Zan.snd c132) c128 c128 c133)))
   ·exact and_ fol [.r [],.c false,.d {ds:=[(2,{oe:=x99.ls}),(14,{oe:=[L.int .i64 x100]}),(15,{rs:=[oI x101],m:=2}),(17,yF)],hv:=0,Hs:=[]},.c false,.r []] [3,7,9,13] [3,36] (aO c119 (leI 0 0) c126 c127 c128 c128 c128 (aO c128 c128 c128 c128 c129 c130 c128 (aO c131 c128 z0 (eN (List.length chain_95)) (Zan.snd c132) c128 c128 c133))) (hc3 (some i86) (w64 (i_68+1)) h20)
theorem Zaf.p3_ok {a_85 v54 i_68 p_0 st56 r c3_ J3} (h:Zaf.p3 N v54 p_0 st56 c3_ (a_85,i_68)=some r) (hE:En Tryz.f4 g0 w0 (Zaf.rs r) r.2 R) (hc3 : ∀a_85 i_68,c3_ (a_85,i_68)=some r→At g0 w0 (Zaf.p3.S a_85 v54 i_68 p_0 st56) J3):At g0 w0 (Zaf.p3.S a_85 v54 i_68 p_0 st56) (XK Tryz.prog R (.c (csub Zaf.B [1,1,1,1,1,1,0,1,0,0]) :: .h J3 :: [.b 2,.c (csub Zaf.B [1,1,1,1,1,1,1])])):=by
 unfold Zaf.p3 at h
 obtain ⟨i86,rfl,h21⟩:=Zah h
 obtain ⟨x87,c109,h22⟩:=ZbE h21
 obtain ⟨x88,c110,h23⟩:=Zah h22
 refine iteB h23 (fun c111 h24=>?_) (fun c111 h25=>?_)
 ·obtain ⟨⟨x89,x90⟩,c112,h26⟩:=Zah h24
  exact aq fol [.r [(2,{rs:=[oI x88],m:=10,cv:=[.one (L.bx 87 x87.ls)]})],.c true,.r [(0,{m:=1})],.r [(2,{rs:=[.agg x89.ls,oB x90],m:=10,cv:=[.one (L.bx 87 x87.ls)]})],.r []] [3,7,9,13,14,15,17] [3,14,15,36] (aL (bO 87 c109 (Zat.bv x87)) (ZaU.snd c110) c111 (bO 87 c109 (Zat.bv x87)) (Zbx.snd c112)) (At.loop N (At.loopN (fun y:LL×Int=>Zaf.p4.S i86 v54 i_68 y.1 y.2 p_0 x89 st56) (fun c J hc y h=>Zaf.p4_ok (chain_95:=y.1) (k_91:=y.2) h hE hc3 (fun chain_95 k_91=>hc (chain_95,k_91))) N ([],x89.Ahead) h26))
 ·obtain rfl:=Zaa h25
  exact af fol hE [.r [(2,{rs:=[oI x88],m:=10,cv:=[.one (L.bx 87 x87.ls)]})],.c false,.r []] [] 0 [] (aJ (bO 87 c109 (Zat.bv x87)) (ZaU.snd c110) c111)
theorem Zaf.p1_ok {a_55 v54 list_2 v8 p_0 st56 r c1_ J1} (h:Zaf.p1 N list_2 p_0 c1_ (a_55,v54,v8,st56)=some r) (hE:En Tryz.f4 g0 w0 (Zaf.rs r) r.2 R) (hc1 : ∀a_55 v54 v8 st56,c1_ (a_55,v54,v8,st56)=some r→At g0 w0 (Zaf.p1.S a_55 v54 list_2 v8 p_0 st56) J1):At g0 w0 (Zaf.p1.S a_55 v54 list_2 v8 p_0 st56) (XK Tryz.prog R (.c (csub Zaf.B [1,1,1,1,1,0,1,0,0]) :: .h J1 :: [.b 0,.c (csub Zaf.B [1,1,1,1,1,1])])):=by
 unfold Zaf.p1 at h
 refine iteB h (fun c71 h27=>?_) (fun c71 h28=>?_)
 ·obtain ⟨c72,h29⟩:=ZaO h27
  obtain ⟨x57,c73,h30⟩:=Zdi h29
  obtain ⟨i58,rfl,h31⟩:=Zah h30
  obtain ⟨x59,c75,h32⟩:=ZbE h31
  obtain ⟨x60,c76,h33⟩:=Zah h32
  obtain ⟨⟨x61,x62,x63,st64⟩,c77,h34⟩:=Zah h33
  obtain ⟨x65,c78,h35⟩:=ZbE h34
  obtain ⟨x66,c79,h36⟩:=Zah h35
  refine iteB h36 (fun c80 h37=>?_) (fun c80 h38=>?_)
  ·obtain ⟨c81,h39⟩:=ZaO h37
   exact aq fol [.r [],.c true,.r [(1,{oe:=x57.ls})],.r [(1,{rs:=[oI x60],m:=10,cv:=[.one (L.bx 87 x59.ls)]})],.r [(5,{rs:=[oI x61,oI x62,oI x63],st:=st64})],.r [(1,{rs:=[oI x66],m:=10,cv:=[.one (L.bx 87 x65.ls)]})],.c true,.r [],.s 4] [3,7,9,37,38,39] [3,36] (aO c71 c72 (oD c71) c73 (bO 87 c75 (Zat.bv x59)) (ZaU.snd c76) (ZaA.snd c77) (aO (bO 87 c78 (Zat.bv x65)) (ZaU.snd c79) c80 z0 (eN (List.length v54)) z0 (eN (1)) c81)) (Zaf.p2_ok h39 hE hc1)
  ·exact aq fol [.r [],.c true,.r [(1,{oe:=x57.ls})],.r [(1,{rs:=[oI x60],m:=10,cv:=[.one (L.bx 87 x59.ls)]})],.r [(5,{rs:=[oI x61,oI x62,oI x63],st:=st64})],.r [(1,{rs:=[oI x66],m:=10,cv:=[.one (L.bx 87 x65.ls)]})],.c false,.s 4] [3,7,9,37,38,39] [3,36] (aO c71 c72 (oD c71) c73 (bO 87 c75 (Zat.bv x59)) (ZaU.snd c76) (ZaA.snd c77) (aJ (bO 87 c78 (Zat.bv x65)) (ZaU.snd c79) c80)) (Zaf.p2_ok h38 hE hc1)
 ·exact aq fol [.r [],.c false,.r []] [3,7,9,13] [3,36] c71 (At.loop N (At.loopN (fun y:(Option Nat)×Int=>Zaf.p3.S y.1 v54 y.2 p_0 st56) (fun c J hc y h=>Zaf.p3_ok (a_85:=y.1) (i_68:=y.2) h hE (fun a_85 i_68=>hc (a_85,i_68))) N (a_55,1) h28))
theorem Zaf.snd {p_0:Zad} {room_1:Int} {list_2:LL} {st:LL} {r:Bool×LL} (h:Zaf N p_0 room_1 list_2 st=some r):Snd Tryz.prog 4 [.agg p_0.ls,oI room_1,.one (L.sl 69 list_2)] st (Zaf.rs r) r.2:=
 sO Zaf.B Tryz.func4 fun g0 w0 R hE=>by
  unfold Zaf at h
  obtain ⟨⟨x1,st2⟩,c1,h40⟩:=Zah h
  refine iteB h40 (fun c2 h41=>?_) (fun c2 h42=>?_)
  ·obtain rfl:=Zaa h41
   exact af fol hE [.r [],.r [(0,{rs:=[oB x1],st:=st2})],.c true,.r []] [] 0 [] (aI (Zce.snd c1) c2)
  ·obtain ⟨x3,c3,h43⟩:=Zah h42
   refine iteB h43 (fun c4 h44=>?_) (fun c4 h45=>?_)
   ·obtain rfl:=Zaa h44
    exact af fol hE [.r [],.r [(0,{rs:=[oB x1],st:=st2})],.c false,.r [(2,q1 [oB x3]),(4,wF),(5,wF),(6,wF)],.c true,.r []] [] 0 [] (aO (Zce.snd c1) c2 (Zbo.snd c3) c4 c4 c4 c4 eT)
   ·obtain ⟨x4,c5,h46⟩:=Zah h45
    refine iteB h46 (fun c6 h47=>?_) (fun c6 h48=>?_)
    ·obtain rfl:=Zaa h47
     exact af fol hE [.r [],.r [(0,{rs:=[oB x1],st:=st2})],.c false,.r [(2,q1 [oB x3]),(5,q1 [oB x4]),(7,yF)],.c true,.r []] [] 0 [] (aO (Zce.snd c1) c2 (Zbo.snd c3) c4 c4 (ZaS.snd c5) c4 (aI c4 c6))
    ·obtain ⟨⟨x5,x6,st7⟩,c7,h49⟩:=Zah h48
     exact aq fol [.r [],.r [(0,{rs:=[oB x1],st:=st2})],.c false,.r [(2,q1 [oB x3]),(5,q1 [oB x4]),(7,yF)],.c false,.r [(2,{rs:=[.one (L.ptr x5),oI x6],st:=st7})],.r [],.r []] [3,7,9,37,38,39] [3,36] (aO (Zce.snd c1) c2 (Zbo.snd c3) c4 c4 (ZaS.snd c5) c4 (aJ c4 c6 (Zcy.snd c7))) (At.loop N (At.loopN (fun y:(Option Nat)×LL×Int×LL=>Zaf.p1.S y.1 y.2.1 list_2 y.2.2.1 p_0 y.2.2.2) (fun c J hc y h=>Zaf.p1_ok (a_55:=y.1) (v54:=y.2.1) (v8:=y.2.2.1) (st56:=y.2.2.2) h hE (fun a_55 v54 v8 st56=>hc (a_55,v54,v8,st56))) N (x5,[[L.int .i64 0]],0,st7) h49))
end Go.Dn.F
