/- Contracts of functions of the program, as shallow functions, and their proofs. -/
import Derived.Test.YtbplamjmmjnibaaGreatDoorFba
set_option linter.all false
set_option maxRecDepth 100000
namespace Go.Dn.F
open Go.Proofs
variable {N:Nat} {g0:G} {w0:World} {R:Exit→Act→World→Prop}
noncomputable def Zcv.B:Code:=Tryz.f16.body.getD .skip
noncomputable def Zcv.rs (r:Int):List CV:=[.one (L.int .i64 r)]
noncomputable def Zcv (N:Nat) (p_0:Zal) (at_1:Zaz) (h_2:Zam) (now_3:Int):Option Int:=
 optE (ZaR N h_2) fun x1=>
 if (!x1)=true then
  some 1
 else
 if (!(h_2.Prev==at_1.Prev))=true then
  some 2
 else
 optE (Zcm N p_0 at_1.Point h_2.Time) fun x2=>
 if (h_2.Bits != x2)=true then
  some 3
 else
 optE (ZbR N p_0 h_2) fun x3=>
 if (x3 != 0)=true then
  some 4
 else
 optE (ZbO N h_2.Time at_1.Times) fun x4=>
 if (!x4)=true then
  some 5
 else
 optE (Zcc N h_2.Time now_3 p_0.Future) fun x5=>
 if (!x5)=true then
  some 6
 else
 optE (ZaF N at_1.Point.Height p_0.Gates) fun x6=>
 if (decide (h_2.Version<x6))=true then
  some 7
 else
 optE (Zci N h_2) fun x7=>
 optE (Zbg N at_1.Point.Height x7 p_0.Checks) fun x8=>
 if (!x8)=true then
  some 8
 else
 some 0
theorem Zcv.snd {p_0:Zal} {at_1:Zaz} {h_2:Zam} {now_3:Int} {r:Int} (h:Zcv N p_0 at_1 h_2 now_3=some r):SndQ Tryz.prog 16 [.agg p_0.ls,.agg at_1.ls,.agg h_2.ls,.one (L.int .i64 now_3)] (Zcv.rs r):=fun st=>
 sO Zcv.B Tryz.func16 fun g0 w0 R hE=>by
  unfold Zcv at h
  obtain ⟨x1,c1,h1⟩:=Zaf h;clear h
  refine iteB h1 (fun c2 h2=>?_) (fun c2 h3=>?_)<;>clear h1
  ·obtain rfl:=Zac h2
   exact af fol hE [.r [],.r [(1,{rs:=[.one (L.bool x1)],m:=1})],.c true,.r []] [] 0 [] (aI (ZaR.snd c1) c2)
  ·refine iteB h3 (fun c3 h4=>?_) (fun c3 h5=>?_)<;>clear h3
   ·obtain rfl:=Zac h4
    exact af fol hE [.r [],.r [(1,{rs:=[.one (L.bool x1)],m:=1})],.c false,.r [],.c true,.r []] [] 0 [] (aJ (ZaR.snd c1) c2 c3)
   ·obtain ⟨x2,c4,h6⟩:=Zaf h5;clear h5
    refine iteB h6 (fun c5 h7=>?_) (fun c5 h8=>?_)<;>clear h6
    ·obtain rfl:=Zac h7
     exact afd fol hE [.r [],.r [(1,{rs:=[.one (L.bool x1)],m:=1})],.c false,.r [],.c false,.d {ds:=[(7,{rs:=[.one (L.int .i64 x2)],m:=1})],hv:=0,Hs:=[]},.c true,.r []] [] 0 [] (aL (ZaR.snd c1) c2 c3 (Zcm.snd c4) c5)
    ·obtain ⟨x3,c6,h9⟩:=Zaf h8;clear h8
     refine iteB h9 (fun c7 h10=>?_) (fun c7 h11=>?_)<;>clear h9
     ·obtain rfl:=Zac h10
      exact afd fol hE [.r [],.r [(1,{rs:=[.one (L.bool x1)],m:=1})],.c false,.r [],.c false,.d {ds:=[(7,{rs:=[.one (L.int .i64 x2)],m:=1})],hv:=0,Hs:=[]},.c false,.r [(2,{rs:=[.one (L.int .i64 x3)],m:=1})],.c true,.r []] [] 0 [] (aN (ZaR.snd c1) c2 c3 (Zcm.snd c4) c5 (ZbR.snd c6) c7)
     ·obtain ⟨x4,c8,h12⟩:=Zaf h11;clear h11
      refine iteB h12 (fun c9 h13=>?_) (fun c9 h14=>?_)<;>clear h12
      ·obtain rfl:=Zac h13
       exact afd fol hE [.r [],.r [(1,{rs:=[.one (L.bool x1)],m:=1})],.c false,.r [],.c false,.d {ds:=[(7,{rs:=[.one (L.int .i64 x2)],m:=1})],hv:=0,Hs:=[]},.c false,.r [(2,{rs:=[.one (L.int .i64 x3)],m:=1})],.c false,.r [(4,{rs:=[.one (L.bool x4)],m:=1})],.c true,.r []] [] 0 [] (aO (ZaR.snd c1) c2 c3 (Zcm.snd c4) c5 (ZbR.snd c6) c7 (aI (ZbO.snd c8) c9))
      ·obtain ⟨x5,c10,h15⟩:=Zaf h14;clear h14
       refine iteB h15 (fun c11 h16=>?_) (fun c11 h17=>?_)<;>clear h15
       ·obtain rfl:=Zac h16
        exact afd fol hE [.r [],.r [(1,{rs:=[.one (L.bool x1)],m:=1})],.c false,.r [],.c false,.d {ds:=[(7,{rs:=[.one (L.int .i64 x2)],m:=1})],hv:=0,Hs:=[]},.c false,.r [(2,{rs:=[.one (L.int .i64 x3)],m:=1})],.c false,.r [(4,{rs:=[.one (L.bool x4)],m:=1})],.c false,.r [(5,{rs:=[.one (L.bool x5)],m:=1})],.c true,.r []] [] 0 [] (aO (ZaR.snd c1) c2 c3 (Zcm.snd c4) c5 (ZbR.snd c6) c7 (aK (ZbO.snd c8) c9 (Zcc.snd c10) c11))
       ·obtain ⟨x6,c12,h18⟩:=Zaf h17;clear h17
        refine iteB h18 (fun c13 h19=>?_) (fun c13 h20=>?_)<;>clear h18
        ·obtain rfl:=Zac h19
         exact afd fol hE [.r [],.r [(1,{rs:=[.one (L.bool x1)],m:=1})],.c false,.r [],.c false,.d {ds:=[(7,{rs:=[.one (L.int .i64 x2)],m:=1})],hv:=0,Hs:=[]},.c false,.r [(2,{rs:=[.one (L.int .i64 x3)],m:=1})],.c false,.r [(4,{rs:=[.one (L.bool x4)],m:=1})],.c false,.r [(5,{rs:=[.one (L.bool x5)],m:=1})],.c false,.d {ds:=[(7,{rs:=[.one (L.int .i64 x6)],m:=1})],hv:=0,Hs:=[]},.c true,.r []] [] 0 [] (aO (ZaR.snd c1) c2 c3 (Zcm.snd c4) c5 (ZbR.snd c6) c7 (aM (ZbO.snd c8) c9 (Zcc.snd c10) c11 (ZaF.snd c12) c13))
        ·obtain ⟨x7,c14,h21⟩:=Zaf h20;clear h20
         obtain ⟨x8,c15,h22⟩:=Zaf h21;clear h21
         refine iteB h22 (fun c16 h23=>?_) (fun c16 h24=>?_)<;>clear h22
         ·obtain rfl:=Zac h23
          exact afd fol hE [.r [],.r [(1,{rs:=[.one (L.bool x1)],m:=1})],.c false,.r [],.c false,.d {ds:=[(7,{rs:=[.one (L.int .i64 x2)],m:=1})],hv:=0,Hs:=[]},.c false,.r [(2,{rs:=[.one (L.int .i64 x3)],m:=1})],.c false,.r [(4,{rs:=[.one (L.bool x4)],m:=1})],.c false,.r [(5,{rs:=[.one (L.bool x5)],m:=1})],.c false,.d {ds:=[(7,{rs:=[.one (L.int .i64 x6)],m:=1})],hv:=0,Hs:=[]},.c false,.d {ds:=[(4,{rs:=[.agg [L.arr .u8 32 x7]],m:=1}),(7,{rs:=[.one (L.bool x8)],m:=1})],hv:=0,Hs:=[]},.c true,.r []] [] 0 [] (aO (ZaR.snd c1) c2 c3 (Zcm.snd c4) c5 (ZbR.snd c6) c7 (aO (ZbO.snd c8) c9 (Zcc.snd c10) c11 (ZaF.snd c12) c13 (Zci.snd c14) (aI (Zbg.snd c15) c16)))
         ·obtain rfl:=Zac h24
          exact afd fol hE [.r [],.r [(1,{rs:=[.one (L.bool x1)],m:=1})],.c false,.r [],.c false,.d {ds:=[(7,{rs:=[.one (L.int .i64 x2)],m:=1})],hv:=0,Hs:=[]},.c false,.r [(2,{rs:=[.one (L.int .i64 x3)],m:=1})],.c false,.r [(4,{rs:=[.one (L.bool x4)],m:=1})],.c false,.r [(5,{rs:=[.one (L.bool x5)],m:=1})],.c false,.d {ds:=[(7,{rs:=[.one (L.int .i64 x6)],m:=1})],hv:=0,Hs:=[]},.c false,.d {ds:=[(4,{rs:=[.agg [L.arr .u8 32 x7]],m:=1}),(7,{rs:=[.one (L.bool x8)],m:=1})],hv:=0,Hs:=[]},.c false,.r []] [] 0 [] (aO (ZaR.snd c1) c2 c3 (Zcm.snd c4) c5 (ZbR.snd c6) c7 (aO (ZbO.snd c8) c9 (Zcc.snd c10) c11 (ZaF.snd c12) c13 (Zci.snd c14) (aI (Zbg.snd c15) c16)))
noncomputable def Zaq.B:Code:=Tryz.f24.body.getD .skip
noncomputable def Zaq.rs (r:Int×Int×Int×LL):List CV:=[.one (L.int .i64 r.1),.one (L.int .i64 r.2.1),.one (L.int .i64 r.2.2.1)]
noncomputable def Zaq.p2 (N:Nat) (i2:Nat) (now_2 ahead_12:Int) (is_13:Bool) (h_1:Zam) (st:LL):Option (Int×Int×Int×LL):=
 if (!is_13)=true then
  some ((-1),2,5,st)
 else
 getE (st[i2]?) Zbq fun x14=>
 chk (0≤ahead_12)<|
 chk (ahead_12<(len x14.spots))<|
 getE (x14.spots[0+(Int.toNat ahead_12)]?) Zdz fun x15=>
 optE (Zcv N x14.rules x15 h_1 now_2) fun x16=>
 if (x16 != 0)=true then
  some ((-1),x16,8,st)
 else
 if (decide ((len x14.list)≥x14.room))=true then
  some ((-1),0,6,st)
 else
 optE (Zcl N x14.rules x15 h_1) fun x17=>
 optE (ZaD N (some i2) h_1 ahead_12 x17 st) fun (x18,st19)=>
 some (x18,0,0,st19)
noncomputable def Zaq.p1 (N:Nat) (i2:Nat) (now_2 at_7:Int) (is_8:Bool) (h_1:Zam) (st:LL):Option (Int×Int×Int×LL):=
 if is_8=true then
  some (at_7,0,0,st)
 else
 getE (st[i2]?) Zbq fun x9=>
 optM (mfind x9.places (L.arr .u8 32 h_1.Prev)) (fun j10 e=>Zdg [e] fun x11=>
  Zaq.p2 N i2 now_2 x11 true h_1 st)
 (
  Zaq.p2 N i2 now_2 0 false h_1 st)
noncomputable def Zaq (N:Nat) (a_0:Option Nat) (h_1:Zam) (now_2:Int) (st:LL):Option (Int×Int×Int×LL):=
 if (Option.isNone a_0)=true then
  some ((-1),0,2,st)
 else
 optE (ZaR N h_1) fun x1=>
 if (!x1)=true then
  some ((-1),1,8,st)
 else
 optE a_0 fun i2=>
 getE (st[i2]?) Zbq fun x3=>
 optE (Zci N h_1) fun x4=>
 optM (mfind x3.places (L.arr .u8 32 x4)) (fun j5 e=>Zdg [e] fun x6=>
  Zaq.p1 N i2 now_2 x6 true h_1 st)
 (
  Zaq.p1 N i2 now_2 0 false h_1 st)
noncomputable def Zaq.p2.S (i2:Nat) (now_2 ahead_12:Int) (is_13:Bool) (h_1:Zam) (st:LL):S:=mkS 87 [(0,.one (.l (L.ptr (some i2)))),(2,.one (.l (L.int .i64 now_2))),(4,.one (.adr (.site 4) 0)),(11,.one (.l (L.int .i64 ahead_12))),(12,.one (.l (L.bool is_13)))] [(4,.cells h_1.ls)] st
noncomputable def Zaq.p1.S (i2:Nat) (now_2 at_7:Int) (is_8:Bool) (h_1:Zam) (st:LL):S:=mkS 87 [(0,.one (.l (L.ptr (some i2)))),(2,.one (.l (L.int .i64 now_2))),(4,.one (.adr (.site 4) 0)),(9,.one (.l (L.int .i64 at_7))),(10,.one (.l (L.bool is_8)))] [(4,.cells h_1.ls)] st
theorem Zaq.p2_ok {i2 now_2 ahead_12 is_13 h_1 st r} (h:Zaq.p2 N i2 now_2 ahead_12 is_13 h_1 st=some r) (hE:En Tryz.f24 g0 w0 (Zaq.rs r) r.2.2.2 R):At g0 w0 (Zaq.p2.S i2 now_2 ahead_12 is_13 h_1 st) (XK Tryz.prog R [.c (csub Zaq.B [1,1,1,1,1])]):=by
 unfold Zaq.p2 at h
 refine iteB h (fun c11 h1=>?_) (fun c11 h2=>?_)<;>clear h
 ·obtain rfl:=Zac h1
  exact af fol hE [.r [],.c true,.r []] [] 0 [] c11
 ·obtain ⟨x14,c12,h3⟩:=Zbo h2;clear h2
  obtain ⟨c13,c14,h4⟩:=ck2 h3;clear h3
  obtain ⟨x15,c15,h5⟩:=ZfE h4;clear h4
  obtain ⟨x16,c16,h6⟩:=Zaf h5;clear h5
  refine iteB h6 (fun c17 h7=>?_) (fun c17 h8=>?_)<;>clear h6
  ·obtain rfl:=Zac h7
   exact afd fol hE [.r [],.c false,.d {ds:=[(3,{oc:=x14.lo}),(7,{oc:=x14.lo}),(10,{oc:=x14.lo,oe:=x15.ls}),(13,{rs:=[.one (L.int .i64 x16)],m:=1})],hv:=0,Hs:=[]},.r [],.c true,.r []] [] 0 [] (aO c11 c12 c12 c13 c14 c15 c12 (aI (Zcv.snd c16) c17))
  ·refine iteB h8 (fun c18 h9=>?_) (fun c18 h10=>?_)<;>clear h8
   ·obtain rfl:=Zac h9
    exact afd fol hE [.r [],.c false,.d {ds:=[(3,{oc:=x14.lo}),(7,{oc:=x14.lo}),(10,{oc:=x14.lo,oe:=x15.ls}),(13,{rs:=[.one (L.int .i64 x16)],m:=1})],hv:=0,Hs:=[]},.r [],.c false,.d {ds:=[(3,{oc:=x14.lo}),(8,{oc:=x14.lo})],hv:=0,Hs:=[]},.c true,.r []] [] 0 [] (aO c11 c12 c12 c13 c14 c15 c12 (aL (Zcv.snd c16) c17 c12 c12 c18))
   ·obtain ⟨x17,c19,h11⟩:=Zaf h10;clear h10
    obtain ⟨⟨x18,st19⟩,c20,h12⟩:=Zaf h11;clear h11
    obtain rfl:=Zac h12
    exact afd fol hE [.r [],.c false,.d {ds:=[(3,{oc:=x14.lo}),(7,{oc:=x14.lo}),(10,{oc:=x14.lo,oe:=x15.ls}),(13,{rs:=[.one (L.int .i64 x16)],m:=1})],hv:=0,Hs:=[]},.r [],.c false,.d {ds:=[(3,{oc:=x14.lo}),(8,{oc:=x14.lo})],hv:=0,Hs:=[]},.c false,.d {ds:=[(6,{oc:=x14.lo}),(10,{oc:=x14.lo}),(13,{oc:=x14.lo,oe:=x15.ls}),(15,{rs:=[.agg x17.ls],m:=1}),(16,{rs:=[.one (L.int .i64 x18)],st:=st19})],hv:=65536,Hs:=[65536]}] [] 0 [] (aO c11 c12 c12 c13 c14 c15 c12 (aO (Zcv.snd c16) c17 c12 c12 c18 c12 c12 (aM c13 c14 c15 c12 (Zcl.snd c19) (ZaD.snd c20))))
theorem Zaq.p1_ok {i2 now_2 at_7 is_8 h_1 st r} (h:Zaq.p1 N i2 now_2 at_7 is_8 h_1 st=some r) (hE:En Tryz.f24 g0 w0 (Zaq.rs r) r.2.2.2 R):At g0 w0 (Zaq.p1.S i2 now_2 at_7 is_8 h_1 st) (XK Tryz.prog R [.c (csub Zaq.B [1,1,1,0,1]),.c (csub Zaq.B [1,1,1,1])]):=by
 unfold Zaq.p1 at h
 refine iteB h (fun c8 h13=>?_) (fun c8 h14=>?_)<;>clear h
 ·obtain rfl:=Zac h13
  exact af fol hE [.r [],.c true,.r []] [] 0 [] c8
 ·obtain ⟨x9,c9,h15⟩:=Zbo h14;clear h14
  rcases Zge h15 with ⟨j10,h19,c10,h16⟩ | ⟨c10,h17⟩<;>clear h15
  ·obtain ⟨x11,h20,h18⟩:=Zeg h16;clear h16
   obtain rfl:=ZeA h20
   exact aqd fol [.r [],.c false,.d {ds:=[(3,{oc:=x9.lo}),(6,{oc:=x9.lo,oe:=[L.int .i64 x11]})],hv:=0,Hs:=[]},.s 1] [0,2,4,11,12] [4] (aK c8 c9 (Zjj c10) c9) (Zaq.p2_ok h18 hE)
  ·exact aqd fol [.r [],.c false,.d {ds:=[(3,{oc:=x9.lo}),(6,{oc:=x9.lo,yes:=false})],hv:=0,Hs:=[]},.s 1] [0,2,4,11,12] [4] (aK c8 c9 c10 c9) (Zaq.p2_ok h17 hE)
theorem Zaq.snd {a_0:Option Nat} {h_1:Zam} {now_2:Int} {st:LL} {r:Int×Int×Int×LL} (h:Zaq N a_0 h_1 now_2 st=some r):Snd Tryz.prog 24 [.one (L.ptr a_0),.agg h_1.ls,.one (L.int .i64 now_2)] st (Zaq.rs r) r.2.2.2:=
 sO Zaq.B Tryz.func24 fun g0 w0 R hE=>by
  unfold Zaq at h
  refine iteB h (fun c1 h21=>?_) (fun c1 h22=>?_)<;>clear h
  ·obtain rfl:=Zac h21
   exact af fol hE [.r [],.r [],.c true,.r []] [] 0 [] c1
  ·obtain ⟨x1,c2,h23⟩:=Zaf h22;clear h22
   refine iteB h23 (fun c3 h24=>?_) (fun c3 h25=>?_)<;>clear h23
   ·obtain rfl:=Zac h24
    exact af fol hE [.r [],.r [],.c false,.r [(1,{rs:=[.one (L.bool x1)],m:=1})],.c true,.r []] [] 0 [] (aJ c1 (ZaR.snd c2) c3)
   ·obtain ⟨i2,rfl,h26⟩:=Zaf h25;clear h25
    obtain ⟨x3,c5,h27⟩:=Zbo h26;clear h26
    obtain ⟨x4,c6,h28⟩:=Zaf h27;clear h27
    rcases Zge h28 with ⟨j5,h32,c7,h29⟩ | ⟨c7,h30⟩<;>clear h28
    ·obtain ⟨x6,h33,h31⟩:=Zeg h29;clear h29
     obtain rfl:=ZeA h33
     exact aqd fol [.r [],.r [],.c false,.r [(1,{rs:=[.one (L.bool x1)],m:=1})],.c false,.d {ds:=[(3,{oc:=x3.lo}),(5,{rs:=[.agg [L.arr .u8 32 x4]],m:=1}),(6,{oc:=x3.lo,oe:=[L.int .i64 x6]})],hv:=0,Hs:=[]},.s 2] [0,2,4,9,10] [4] (aN c1 (ZaR.snd c2) c3 c5 (Zci.snd c6) (Zjj c7) c5) (Zaq.p1_ok h31 hE)
    ·exact aqd fol [.r [],.r [],.c false,.r [(1,{rs:=[.one (L.bool x1)],m:=1})],.c false,.d {ds:=[(3,{oc:=x3.lo}),(5,{rs:=[.agg [L.arr .u8 32 x4]],m:=1}),(6,{oc:=x3.lo,yes:=false})],hv:=0,Hs:=[]},.s 2] [0,2,4,9,10] [4] (aN c1 (ZaR.snd c2) c3 c5 (Zci.snd c6) c7 c5) (Zaq.p1_ok h30 hE)
noncomputable def ZbK.B:Code:=Tryz.f67.body.getD .skip
noncomputable def ZbK.rs (r:Bool):List CV:=[.one (L.bool r)]
noncomputable def ZbK (N:Nat) (a_0:Zan) (at_1:Int):Option Bool:=
 if (decide (at_1≥0))=true then
  some (decide (at_1<(len a_0.list)))
 else
 some false
theorem ZbK.snd {a_0:Zan} {at_1:Int} {r:Bool} (h:ZbK N a_0 at_1=some r):SndQ Tryz.prog 67 [.one (L.bx 87 a_0.ls),.one (L.int .i64 at_1)] (ZbK.rs r):=fun st=>
 sO ZbK.B Tryz.func67 fun g0 w0 R hE=>by
  unfold ZbK at h
  refine iteB h (fun c1 h1=>?_) (fun c1 h2=>?_)<;>clear h
  ·obtain rfl:=Zac h1
   exact af fol hE [.r [],.r [(11,{oe:=a_0.ls})]] [] 0 [] (aO (eB true) (eB true) (eB true) c1 c1 c1 c1 (aL c1 (eO a_0.ls) c1 c1 c1))
  ·obtain rfl:=Zac h2
   exact af fol hE [.r [],.r [(7,{want:=false}),(8,{want:=false}),(9,{want:=false}),(10,{want:=false}),(11,{want:=false}),(12,{want:=false}),(13,{want:=false}),(14,{yes:=false})]] [] 0 [] (aO (eB true) (eB true) (eB true) c1 c1 c1 c1 (aK c1 c1 c1 c1))
noncomputable def Zbr.B:Code:=Tryz.f25.body.getD .skip
noncomputable def Zbr.rs (r:ZbG×Bool):List CV:=[.agg r.1.ls,.one (L.bool r.2)]
noncomputable def Zbr (N:Nat) (a_0:Zan) (at_1:Int):Option (ZbG×Bool):=
 optE (ZbK N a_0 at_1) fun x1=>
 if (!x1)=true then
  some (ZbG.mk (Zam.mk 0 (List.replicate 32 0) (List.replicate 32 0) 0 0 0) (List.replicate 32 0) (-1) 0 (List.replicate 4 0),false)
 else
 chk (0≤at_1)<|
 chk (at_1<(len a_0.list))<|
 getE (a_0.list[Int.toNat at_1]?) ZcM fun x2=>
 some (x2,true)
theorem Zbr.snd {a_0:Zan} {at_1:Int} {r:ZbG×Bool} (h:Zbr N a_0 at_1=some r):SndQ Tryz.prog 25 [.one (L.bx 87 a_0.ls),.one (L.int .i64 at_1)] (Zbr.rs r):=fun st=>
 sO Zbr.B Tryz.func25 fun g0 w0 R hE=>by
  unfold Zbr at h
  obtain ⟨x1,c1,h1⟩:=Zaf h;clear h
  refine iteB h1 (fun c2 h2=>?_) (fun c2 h3=>?_)<;>clear h1
  ·obtain rfl:=Zac h2
   exact af fol hE [.r [],.r [(2,{rs:=[.one (L.bool x1)],m:=10})],.c true,.r []] [] 0 [] (aI (ZbK.snd c1) c2)
  ·obtain ⟨c3,c4,h4⟩:=ck2 h3;clear h3
   obtain ⟨x2,c5,h5⟩:=ZdJ h4;clear h4
   obtain rfl:=Zac h5
   exact af fol hE [.r [],.r [(2,{rs:=[.one (L.bool x1)],m:=10})],.c false,.r [(3,{oe:=a_0.ls}),(6,{oe:=x2.ls})]] [] 0 [] (aM (ZbK.snd c1) c2 (eO a_0.ls) c3 c4 c5)
noncomputable def Zau.B:Code:=Tryz.f6.body.getD .skip
noncomputable def Zau.rs (r:Bool×LL):List CV:=[.one (L.bool r.1)]
noncomputable def Zau.p2 (N:Nat) (room_2:Int) (st53:LL) (c2_:((Option Nat)×(Option Nat)×Int)→Option (Bool×LL)):((Option Nat)×(Option Nat)×Int)→Option (Bool×LL):=fun (a_82,b_83,i_69)=>
 optE a_82 fun i84=>
 getE (st53[i84]?) Zbq fun x85=>
 optE (Zaw N x85) fun x86=>
 if (decide (i_69<x86))=true then
  optE (Zbr N x85 i_69) fun (x87,x88)=>
  optE b_83 fun i89=>
  getE (st53[i89]?) Zbq fun x90=>
  optE (Zbr N x90 i_69) fun (x91,x92)=>
  if (!(((x87.Header.Version==x91.Header.Version)&&((x87.Header.Prev==x91.Header.Prev)&&((x87.Header.Root==x91.Header.Root)&&((x87.Header.Time==x91.Header.Time)&&((x87.Header.Bits==x91.Header.Bits)&&((x87.Header.Nonce==x91.Header.Nonce)&&true))))))&&((x87.Id==x91.Id)&&((x87.Ahead==x91.Ahead)&&((x87.Height==x91.Height)&&((x87.Work==x91.Work)&&true))))))=true then
   some (false,st53)
  else
  c2_ ((some i84),(some i89),w64 (i_69+1))
 else
 optE b_83 fun i93=>
 getE (st53[i93]?) Zbq fun x94=>
 optE (Zaw N x94) fun x95=>
 if (x86==(if room_2<x95 then room_2 else x95))=true then
  some (true,st53)
 else
 some (x86==room_2,st53)
noncomputable def Zau.p1 (N:Nat) (room_2:Int) (x7:Option Nat) (list_1:LL) (c1_:((Option Nat)×Int×LL)→Option (Bool×LL)):((Option Nat)×Int×LL)→Option (Bool×LL):=fun (a_52,v9,st53)=>
 if (decide (v9<(len list_1)))=true then
  chk (0≤v9)<|
  getE (list_1[Int.toNat v9]?) Zce fun x54=>
  optE (Zaq N a_52 x54.Header x54.Now st53) fun (x55,x56,x57,st58)=>
  optE (Zaq N x7 x54.Header x54.Now st58) fun (x59,x60,x61,st62)=>
  if (x57==6)=true then
   optE a_52 fun i63=>
   getE (st62[i63]?) Zbq fun x64=>
   optE (Zaw N x64) fun x65=>
   if (x65 != room_2)=true then
    some (false,st62)
   else
   if (decide (x65>room_2))=true then
    some (false,st62)
   else
   c1_ ((some i63),w64 (v9+1),st62)
  else
  optE a_52 fun i66=>
  getE (st62[i66]?) Zbq fun x67=>
  optE (Zaw N x67) fun x68=>
  if (decide (x68>room_2))=true then
   some (false,st62)
  else
  c1_ ((some i66),w64 (v9+1),st62)
 else
 loopN (Zau.p2 N room_2 st53) N (a_52,x7,0)
noncomputable def Zau (N:Nat) (p_0:Zal) (list_1:LL) (room_2:Int) (st:LL):Option (Bool×LL):=
 optE (ZbM N st) fun (x1,st2)=>
 if (!x1)=true then
  some (false,st2)
 else
 optE (ZaZ N p_0 list_1) fun x3=>
 if x3=true then
  some (true,st2)
 else
 optE (ZaK N p_0) fun x4=>
 if (!x4)=true then
  some (true,st2)
 else
 if (decide (room_2<1))=true then
  some (true,st2)
 else
 if (decide (room_2>40))=true then
  some (true,st2)
 else
 optE (Zcq N p_0 room_2 st2) fun (x5,st6)=>
 optE (Zcq N p_0 100 st6) fun (x7,st8)=>
 loopN (Zau.p1 N room_2 x7 list_1) N (x5,0,st8)
noncomputable def Zau.p2.S (room_2:Int) (a_82 b_83:Option Nat) (i_69:Int) (st53:LL):S:=mkS 113 [(2,.one (.l (L.int .i64 room_2))),(7,.one (.l (L.ptr a_82))),(8,.one (.l (L.ptr b_83))),(14,.one (.l (L.int .i64 i_69)))] [] st53
noncomputable def Zau.p1.S (room_2:Int) (a_52 x7:Option Nat) (list_1:LL) (v9:Int) (st53:LL):S:=mkS 113 [(2,.one (.l (L.int .i64 room_2))),(7,.one (.l (L.ptr a_52))),(8,.one (.l (L.ptr x7))),(42,.one (.l (L.sl 69 list_1))),(43,.one (.l (L.int .i64 (len list_1)))),(44,.one (.l (L.int .i64 v9)))] [] st53
theorem Zau.p2_ok {room_2 a_82 b_83 i_69 st53 r c2_ J2} (h:Zau.p2 N room_2 st53 c2_ (a_82,b_83,i_69)=some r) (hE:En Tryz.f6 g0 w0 (Zau.rs r) r.2 R) (hc2 : ∀a_82 b_83 i_69,c2_ (a_82,b_83,i_69)=some r→At g0 w0 (Zau.p2.S room_2 a_82 b_83 i_69 st53) J2):At g0 w0 (Zau.p2.S room_2 a_82 b_83 i_69 st53) (XK Tryz.prog R (.c (csub Zau.B [1,1,1,1,1,0,1,0,0]) :: .h J2 :: [.b 2,.c (csub Zau.B [1,1,1,1,1,1])])):=by
 unfold Zau.p2 at h
 obtain ⟨i84,rfl,h1⟩:=Zaf h;clear h
 obtain ⟨x85,c81,h2⟩:=Zbo h1;clear h1
 obtain ⟨x86,c82,h3⟩:=Zaf h2;clear h2
 refine iteB h3 (fun c83 h4=>?_) (fun c83 h5=>?_)<;>clear h3
 ·obtain ⟨⟨x87,x88⟩,c84,h6⟩:=Zaf h4;clear h4
  obtain ⟨i89,rfl,h7⟩:=Zaf h6;clear h6
  obtain ⟨x90,c86,h8⟩:=Zbo h7;clear h7
  obtain ⟨⟨x91,x92⟩,c87,h9⟩:=Zaf h8;clear h8
  refine iteB h9 (fun c88 h10=>?_) (fun c88 h11=>?_)<;>clear h9
  ·obtain rfl:=Zac h10
   exact af fol hE [.r [(2,{rs:=[.one (L.int .i64 x86)],m:=10,cv:=[.one (L.bx 87 x85.ls)]})],.c true,.r [(2,{rs:=[.agg x87.ls,.one (L.bool x88)],m:=10,cv:=[.one (L.bx 87 x85.ls)]})],.r [(2,{rs:=[.agg x91.ls,.one (L.bool x92)],m:=10,cv:=[.one (L.bx 87 x90.ls)]})],.r [],.c true,.r []] [] 0 [] (aO (bO 87 c81 (Zan.bv x85)) (Zaw.snd c82) c83 (bO 87 c81 (Zan.bv x85)) (Zbr.snd c84) (bO 87 c86 (Zan.bv x90)) (Zbr.snd c87) c88)
  ·exact an fol [.r [(2,{rs:=[.one (L.int .i64 x86)],m:=10,cv:=[.one (L.bx 87 x85.ls)]})],.c true,.r [(2,{rs:=[.agg x87.ls,.one (L.bool x88)],m:=10,cv:=[.one (L.bx 87 x85.ls)]})],.r [(2,{rs:=[.agg x91.ls,.one (L.bool x92)],m:=10,cv:=[.one (L.bx 87 x90.ls)]})],.r [],.c false,.r []] [2,7,8,14] [] (aO (bO 87 c81 (Zan.bv x85)) (Zaw.snd c82) c83 (bO 87 c81 (Zan.bv x85)) (Zbr.snd c84) (bO 87 c86 (Zan.bv x90)) (Zbr.snd c87) c88) (hc2 (some i84) (some i89) (w64 (i_69+1)) h11)
 ·obtain ⟨i93,rfl,h12⟩:=Zaf h5;clear h5
  obtain ⟨x94,c90,h13⟩:=Zbo h12;clear h12
  obtain ⟨x95,c91,h14⟩:=Zaf h13;clear h13
  refine iteB h14 (fun c92 h15=>?_) (fun c92 h16=>?_)<;>clear h14
  ·obtain rfl:=Zac h15
   exact af fol hE [.r [(2,{rs:=[.one (L.int .i64 x86)],m:=10,cv:=[.one (L.bx 87 x85.ls)]})],.c false,.r [(1,{rs:=[.one (L.int .i64 x86)],m:=10,cv:=[.one (L.bx 87 x85.ls)]}),(3,{rs:=[.one (L.int .i64 x95)],m:=10,cv:=[.one (L.bx 87 x94.ls)]}),(8,{want:=false}),(9,{want:=false}),(10,{want:=false}),(11,{want:=false})]] [] 0 [] (aO (bO 87 c81 (Zan.bv x85)) (Zaw.snd c82) c83 (bO 87 c81 (Zan.bv x85)) (Zaw.snd c82) (bO 87 c90 (Zan.bv x94)) (Zaw.snd c91) (aL c92 c92 c92 c92 c92))
  ·obtain rfl:=Zac h16
   exact af fol hE [.r [(2,{rs:=[.one (L.int .i64 x86)],m:=10,cv:=[.one (L.bx 87 x85.ls)]})],.c false,.r [(1,{rs:=[.one (L.int .i64 x86)],m:=10,cv:=[.one (L.bx 87 x85.ls)]}),(3,{rs:=[.one (L.int .i64 x95)],m:=10,cv:=[.one (L.bx 87 x94.ls)]}),(9,{rs:=[.one (L.int .i64 x86)],m:=10,cv:=[.one (L.bx 87 x85.ls)]}),(12,{yes:=false})]] [] 0 [] (aO (bO 87 c81 (Zan.bv x85)) (Zaw.snd c82) c83 (bO 87 c81 (Zan.bv x85)) (Zaw.snd c82) (bO 87 c90 (Zan.bv x94)) (Zaw.snd c91) (aN c92 c92 (bO 87 c81 (Zan.bv x85)) (Zaw.snd c82) c92 c92 c92))
theorem Zau.p1_ok {room_2 a_52 x7 list_1 v9 st53 r c1_ J1} (h:Zau.p1 N room_2 x7 list_1 c1_ (a_52,v9,st53)=some r) (hE:En Tryz.f6 g0 w0 (Zau.rs r) r.2 R) (hc1 : ∀a_52 v9 st53,c1_ (a_52,v9,st53)=some r→At g0 w0 (Zau.p1.S room_2 a_52 x7 list_1 v9 st53) J1):At g0 w0 (Zau.p1.S room_2 a_52 x7 list_1 v9 st53) (XK Tryz.prog R (.c (csub Zau.B [1,1,1,1,0,1,0,0]) :: .h J1 :: [.b 0,.c (csub Zau.B [1,1,1,1,1])])):=by
 unfold Zau.p1 at h
 refine iteB h (fun c52 h17=>?_) (fun c52 h18=>?_)<;>clear h
 ·obtain ⟨c53,h19⟩:=ZaO h17;clear h17
  obtain ⟨x54,c54,h20⟩:=ZcL h19;clear h19
  obtain ⟨⟨x55,x56,x57,st58⟩,c55,h21⟩:=Zaf h20;clear h20
  obtain ⟨⟨x59,x60,x61,st62⟩,c56,h22⟩:=Zaf h21;clear h21
  refine iteB h22 (fun c57 h23=>?_) (fun c57 h24=>?_)<;>clear h22
  ·obtain ⟨i63,rfl,h25⟩:=Zaf h23;clear h23
   obtain ⟨x64,c59,h26⟩:=Zbo h25;clear h25
   obtain ⟨x65,c60,h27⟩:=Zaf h26;clear h26
   refine iteB h27 (fun c61 h28=>?_) (fun c61 h29=>?_)<;>clear h27
   ·obtain rfl:=Zac h28
    exact af fol hE [.r [],.c true,.r [(1,{oe:=x54.ls})],.r [(5,{rs:=[.one (L.int .i64 x55),.one (L.int .i64 x56),.one (L.int .i64 x57)],st:=st58})],.r [(5,{rs:=[.one (L.int .i64 x59),.one (L.int .i64 x60),.one (L.int .i64 x61)],st:=st62})],.r [(4,{rs:=[.one (L.int .i64 x65)],m:=10,cv:=[.one (L.bx 87 x64.ls)]}),(9,{want:=false}),(10,{want:=false}),(11,{want:=false}),(12,{want:=false})],.c true,.r []] [] 0 [] (aO c52 c53 (oD c52) c54 (Zaq.snd c55) (Zaq.snd c56) c57 (aO c57 (bO 87 c59 (Zan.bv x64)) (Zaw.snd c60) c57 c57 c57 c61 (aL c61 c61 c61 c61 (eB true))))
   ·refine iteB h29 (fun c62 h30=>?_) (fun c62 h31=>?_)<;>clear h29
    ·obtain rfl:=Zac h30
     exact af fol hE [.r [],.c true,.r [(1,{oe:=x54.ls})],.r [(5,{rs:=[.one (L.int .i64 x55),.one (L.int .i64 x56),.one (L.int .i64 x57)],st:=st58})],.r [(5,{rs:=[.one (L.int .i64 x59),.one (L.int .i64 x60),.one (L.int .i64 x61)],st:=st62})],.r [(4,{rs:=[.one (L.int .i64 x65)],m:=10,cv:=[.one (L.bx 87 x64.ls)]}),(10,{rs:=[.one (L.int .i64 x65)],m:=10,cv:=[.one (L.bx 87 x64.ls)]}),(13,{yes:=false})],.c true,.r []] [] 0 [] (aO c52 c53 (oD c52) c54 (Zaq.snd c55) (Zaq.snd c56) c57 (aO c57 (bO 87 c59 (Zan.bv x64)) (Zaw.snd c60) c57 c57 c57 c61 (aN c61 (bO 87 c59 (Zan.bv x64)) (Zaw.snd c60) c61 c61 c61 c62)))
    ·exact an fol [.r [],.c true,.r [(1,{oe:=x54.ls})],.r [(5,{rs:=[.one (L.int .i64 x55),.one (L.int .i64 x56),.one (L.int .i64 x57)],st:=st58})],.r [(5,{rs:=[.one (L.int .i64 x59),.one (L.int .i64 x60),.one (L.int .i64 x61)],st:=st62})],.r [(4,{rs:=[.one (L.int .i64 x65)],m:=10,cv:=[.one (L.bx 87 x64.ls)]}),(10,{rs:=[.one (L.int .i64 x65)],m:=10,cv:=[.one (L.bx 87 x64.ls)]}),(13,{yes:=false})],.c false,.r []] [2,7,8,42,43,44] [] (aO c52 c53 (oD c52) c54 (Zaq.snd c55) (Zaq.snd c56) c57 (aO c57 (bO 87 c59 (Zan.bv x64)) (Zaw.snd c60) c57 c57 c57 c61 (aN c61 (bO 87 c59 (Zan.bv x64)) (Zaw.snd c60) c61 c61 c61 c62))) (hc1 (some i63) (w64 (v9+1)) st62 h31)
  ·obtain ⟨i66,rfl,h32⟩:=Zaf h24;clear h24
   obtain ⟨x67,c64,h33⟩:=Zbo h32;clear h32
   obtain ⟨x68,c65,h34⟩:=Zaf h33;clear h33
   refine iteB h34 (fun c66 h35=>?_) (fun c66 h36=>?_)<;>clear h34
   ·obtain rfl:=Zac h35
    exact af fol hE [.r [],.c true,.r [(1,{oe:=x54.ls})],.r [(5,{rs:=[.one (L.int .i64 x55),.one (L.int .i64 x56),.one (L.int .i64 x57)],st:=st58})],.r [(5,{rs:=[.one (L.int .i64 x59),.one (L.int .i64 x60),.one (L.int .i64 x61)],st:=st62})],.r [(3,{want:=false}),(4,{want:=false}),(5,{want:=false}),(6,{want:=false}),(7,{yes:=false}),(10,{rs:=[.one (L.int .i64 x68)],m:=10,cv:=[.one (L.bx 87 x67.ls)]}),(13,{yes:=false})],.c true,.r []] [] 0 [] (aO c52 c53 (oD c52) c54 (Zaq.snd c55) (Zaq.snd c56) c57 (aO c57 c57 c57 c57 (eB false) (eB false) (bO 87 c64 (Zan.bv x67)) (aL (Zaw.snd c65) (eB false) (eB false) (eB false) c66)))
   ·exact an fol [.r [],.c true,.r [(1,{oe:=x54.ls})],.r [(5,{rs:=[.one (L.int .i64 x55),.one (L.int .i64 x56),.one (L.int .i64 x57)],st:=st58})],.r [(5,{rs:=[.one (L.int .i64 x59),.one (L.int .i64 x60),.one (L.int .i64 x61)],st:=st62})],.r [(3,{want:=false}),(4,{want:=false}),(5,{want:=false}),(6,{want:=false}),(7,{yes:=false}),(10,{rs:=[.one (L.int .i64 x68)],m:=10,cv:=[.one (L.bx 87 x67.ls)]}),(13,{yes:=false})],.c false,.r []] [2,7,8,42,43,44] [] (aO c52 c53 (oD c52) c54 (Zaq.snd c55) (Zaq.snd c56) c57 (aO c57 c57 c57 c57 (eB false) (eB false) (bO 87 c64 (Zan.bv x67)) (aL (Zaw.snd c65) (eB false) (eB false) (eB false) c66))) (hc1 (some i66) (w64 (v9+1)) st62 h36)
 ·exact aq fol [.r [],.c false,.r []] [2,7,8,14] [] c52 (At.loop N (At.loopN (fun y:(Option Nat)×(Option Nat)×Int=>Zau.p2.S room_2 y.1 y.2.1 y.2.2 st53) (fun c J hc y h=>Zau.p2_ok (a_82:=y.1) (b_83:=y.2.1) (i_69:=y.2.2) h hE (fun a_82 b_83 i_69=>hc (a_82,b_83,i_69))) N (a_52,x7,0) h18))
theorem Zau.snd {p_0:Zal} {list_1:LL} {room_2:Int} {st:LL} {r:Bool×LL} (h:Zau N p_0 list_1 room_2 st=some r):Snd Tryz.prog 6 [.agg p_0.ls,.one (L.sl 69 list_1),.one (L.int .i64 room_2)] st (Zau.rs r) r.2:=
 sO Zau.B Tryz.func6 fun g0 w0 R hE=>by
  unfold Zau at h
  obtain ⟨⟨x1,st2⟩,c1,h37⟩:=Zaf h;clear h
  refine iteB h37 (fun c2 h38=>?_) (fun c2 h39=>?_)<;>clear h37
  ·obtain rfl:=Zac h38
   exact af fol hE [.r [],.r [(0,{rs:=[.one (L.bool x1)],st:=st2})],.c true,.r []] [] 0 [] (aI (ZbM.snd c1) c2)
  ·obtain ⟨x3,c3,h40⟩:=Zaf h39;clear h39
   refine iteB h40 (fun c4 h41=>?_) (fun c4 h42=>?_)<;>clear h40
   ·obtain rfl:=Zac h41
    exact af fol hE [.r [],.r [(0,{rs:=[.one (L.bool x1)],st:=st2})],.c false,.r [(2,{rs:=[.one (L.bool x3)],m:=1}),(4,{want:=false}),(5,{want:=false}),(6,{want:=false}),(9,{want:=false}),(10,{want:=false}),(13,{want:=false}),(14,{want:=false})],.c true,.r []] [] 0 [] (aO (ZbM.snd c1) c2 (ZaZ.snd c3) c4 c4 c4 c4 (aN (eB true) (eB true) (eB true) (eB true) (eB true) (eB true) (eB true)))
   ·obtain ⟨x4,c5,h43⟩:=Zaf h42;clear h42
    refine iteB h43 (fun c6 h44=>?_) (fun c6 h45=>?_)<;>clear h43
    ·obtain rfl:=Zac h44
     exact af fol hE [.r [],.r [(0,{rs:=[.one (L.bool x1)],st:=st2})],.c false,.r [(2,{rs:=[.one (L.bool x3)],m:=1}),(5,{rs:=[.one (L.bool x4)],m:=1}),(7,{yes:=false}),(9,{want:=false}),(10,{want:=false}),(13,{want:=false}),(14,{want:=false})],.c true,.r []] [] 0 [] (aO (ZbM.snd c1) c2 (ZaZ.snd c3) c4 c4 (ZaK.snd c5) c4 (aO c4 (not_false (ZbQ c6)) (not_false (ZbQ c6)) (not_false (ZbQ c6)) (eB true) (eB true) (eB true) (eB true)))
    ·refine iteB h45 (fun c7 h46=>?_) (fun c7 h47=>?_)<;>clear h45
     ·obtain rfl:=Zac h46
      exact af fol hE [.r [],.r [(0,{rs:=[.one (L.bool x1)],st:=st2})],.c false,.r [(2,{rs:=[.one (L.bool x3)],m:=1}),(5,{rs:=[.one (L.bool x4)],m:=1}),(7,{yes:=false}),(11,{yes:=false}),(13,{want:=false}),(14,{want:=false})],.c true,.r []] [] 0 [] (aO (ZbM.snd c1) c2 (ZaZ.snd c3) c4 c4 (ZaK.snd c5) c4 (aO c4 (not_true (ZaH c6)) (not_true (ZaH c6)) (not_true (ZaH c6)) c7 c7 c7 (eB true)))
     ·refine iteB h47 (fun c8 h48=>?_) (fun c8 h49=>?_)<;>clear h47
      ·obtain rfl:=Zac h48
       exact af fol hE [.r [],.r [(0,{rs:=[.one (L.bool x1)],st:=st2})],.c false,.r [(2,{rs:=[.one (L.bool x3)],m:=1}),(5,{rs:=[.one (L.bool x4)],m:=1}),(7,{yes:=false}),(11,{yes:=false}),(15,{yes:=false})],.c true,.r []] [] 0 [] (aO (ZbM.snd c1) c2 (ZaZ.snd c3) c4 c4 (ZaK.snd c5) c4 (aO c4 (not_true (ZaH c6)) (not_true (ZaH c6)) (not_true (ZaH c6)) c7 c7 c7 c8))
      ·obtain ⟨⟨x5,st6⟩,c9,h50⟩:=Zaf h49;clear h49
       obtain ⟨⟨x7,st8⟩,c10,h51⟩:=Zaf h50;clear h50
       exact aqd fol [.r [],.r [(0,{rs:=[.one (L.bool x1)],st:=st2})],.c false,.r [(2,{rs:=[.one (L.bool x3)],m:=1}),(5,{rs:=[.one (L.bool x4)],m:=1}),(7,{yes:=false}),(11,{yes:=false}),(15,{yes:=false})],.c false,.d {ds:=[(2,{rs:=[.one (L.ptr x5)],st:=st6}),(4,{rs:=[.one (L.ptr x7)],st:=st8})],hv:=20,Hs:=[4,20]},.r []] [2,7,8,42,43,44] [] (aO (ZbM.snd c1) c2 (ZaZ.snd c3) c4 c4 (ZaK.snd c5) c4 (aO c4 (not_true (ZaH c6)) (not_true (ZaH c6)) (not_true (ZaH c6)) c7 c7 c7 (aJ c8 (Zcq.snd c9) (Zcq.snd c10)))) (At.loop N (At.loopN (fun y:(Option Nat)×Int×LL=>Zau.p1.S room_2 y.1 x7 list_1 y.2.1 y.2.2) (fun c J hc y h=>Zau.p1_ok (a_52:=y.1) (v9:=y.2.1) (st53:=y.2.2) h hE (fun a_52 v9 st53=>hc (a_52,v9,st53))) N (x5,0,st8) h51))
end Go.Dn.F
