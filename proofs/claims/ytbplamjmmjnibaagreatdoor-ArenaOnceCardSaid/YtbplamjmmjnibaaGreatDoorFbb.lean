/- Contracts of functions of the program, as shallow functions, and their proofs. -/
import Derived.Test.YtbplamjmmjnibaaGreatDoorFba
set_option linter.all false
set_option maxRecDepth 100000
namespace Go.Dn.F
open Go.Proofs
variable {N:Nat} {g0:G} {w0:World} {R:Exit→Act→World→Prop}
noncomputable def Zcu.B:Code:=Tryz.f16.body.getD .skip
noncomputable def Zcu.rs (r:Int):List CV:=[.one (L.int .i64 r)]
noncomputable def Zcu (N:Nat) (p_0:Zam) (at_1:ZaA) (h_2:Zan) (now_3:Int):Option Int:=
 optE (ZaR N h_2) fun x1=>
 if (!x1)=true then
  some 1
 else
 if (!(h_2.Prev==at_1.Prev))=true then
  some 2
 else
 optE (Zcm N p_0 at_1.Point h_2.Time) fun x2=>
 if (h_2.Bits != x2)=true then
  some 3
 else
 optE (ZbQ N p_0 h_2) fun x3=>
 if (x3 != 0)=true then
  some 4
 else
 optE (ZbO N h_2.Time at_1.Times) fun x4=>
 if (!x4)=true then
  some 5
 else
 optE (Zcc N h_2.Time now_3 p_0.Future) fun x5=>
 if (!x5)=true then
  some 6
 else
 optE (ZaG N at_1.Point.Height p_0.Gates) fun x6=>
 if (decide (h_2.Version<x6))=true then
  some 7
 else
 optE (Zci N h_2) fun x7=>
 optE (Zbh N at_1.Point.Height x7 p_0.Checks) fun x8=>
 if (!x8)=true then
  some 8
 else
 some 0
theorem Zcu.snd {p_0:Zam} {at_1:ZaA} {h_2:Zan} {now_3:Int} {r:Int} (h:Zcu N p_0 at_1 h_2 now_3=some r):SndQ Tryz.prog 16 [.agg p_0.ls,.agg at_1.ls,.agg h_2.ls,.one (L.int .i64 now_3)] (Zcu.rs r):=fun st=>
 sO Zcu.B Tryz.func16 fun g0 w0 R hE=>by
  unfold Zcu at h
  obtain ⟨x1,c1,h1⟩:=Zag h;clear h
  refine iteB h1 (fun c2 h2=>?_) (fun c2 h3=>?_)<;>clear h1
  ·obtain rfl:=Zac h2
   exact af fol hE [.r [],.r [(1,{rs:=[.one (L.bool x1)],m:=1})],.c true,.r []] [] 0 [] (aI (ZaR.snd c1) c2)
  ·refine iteB h3 (fun c3 h4=>?_) (fun c3 h5=>?_)<;>clear h3
   ·obtain rfl:=Zac h4
    exact af fol hE [.r [],.r [(1,{rs:=[.one (L.bool x1)],m:=1})],.c false,.r [],.c true,.r []] [] 0 [] (aJ (ZaR.snd c1) c2 c3)
   ·obtain ⟨x2,c4,h6⟩:=Zag h5;clear h5
    refine iteB h6 (fun c5 h7=>?_) (fun c5 h8=>?_)<;>clear h6
    ·obtain rfl:=Zac h7
     exact afd fol hE [.r [],.r [(1,{rs:=[.one (L.bool x1)],m:=1})],.c false,.r [],.c false,.d {ds:=[(7,{rs:=[.one (L.int .i64 x2)],m:=1})],hv:=0,Hs:=[]},.c true,.r []] [] 0 [] (aL (ZaR.snd c1) c2 c3 (Zcm.snd c4) c5)
    ·obtain ⟨x3,c6,h9⟩:=Zag h8;clear h8
     refine iteB h9 (fun c7 h10=>?_) (fun c7 h11=>?_)<;>clear h9
     ·obtain rfl:=Zac h10
      exact afd fol hE [.r [],.r [(1,{rs:=[.one (L.bool x1)],m:=1})],.c false,.r [],.c false,.d {ds:=[(7,{rs:=[.one (L.int .i64 x2)],m:=1})],hv:=0,Hs:=[]},.c false,.r [(2,{rs:=[.one (L.int .i64 x3)],m:=1})],.c true,.r []] [] 0 [] (aN (ZaR.snd c1) c2 c3 (Zcm.snd c4) c5 (ZbQ.snd c6) c7)
     ·obtain ⟨x4,c8,h12⟩:=Zag h11;clear h11
      refine iteB h12 (fun c9 h13=>?_) (fun c9 h14=>?_)<;>clear h12
      ·obtain rfl:=Zac h13
       exact afd fol hE [.r [],.r [(1,{rs:=[.one (L.bool x1)],m:=1})],.c false,.r [],.c false,.d {ds:=[(7,{rs:=[.one (L.int .i64 x2)],m:=1})],hv:=0,Hs:=[]},.c false,.r [(2,{rs:=[.one (L.int .i64 x3)],m:=1})],.c false,.r [(4,{rs:=[.one (L.bool x4)],m:=1})],.c true,.r []] [] 0 [] (aO (ZaR.snd c1) c2 c3 (Zcm.snd c4) c5 (ZbQ.snd c6) c7 (aI (ZbO.snd c8) c9))
      ·obtain ⟨x5,c10,h15⟩:=Zag h14;clear h14
       refine iteB h15 (fun c11 h16=>?_) (fun c11 h17=>?_)<;>clear h15
       ·obtain rfl:=Zac h16
        exact afd fol hE [.r [],.r [(1,{rs:=[.one (L.bool x1)],m:=1})],.c false,.r [],.c false,.d {ds:=[(7,{rs:=[.one (L.int .i64 x2)],m:=1})],hv:=0,Hs:=[]},.c false,.r [(2,{rs:=[.one (L.int .i64 x3)],m:=1})],.c false,.r [(4,{rs:=[.one (L.bool x4)],m:=1})],.c false,.r [(5,{rs:=[.one (L.bool x5)],m:=1})],.c true,.r []] [] 0 [] (aO (ZaR.snd c1) c2 c3 (Zcm.snd c4) c5 (ZbQ.snd c6) c7 (aK (ZbO.snd c8) c9 (Zcc.snd c10) c11))
       ·obtain ⟨x6,c12,h18⟩:=Zag h17;clear h17
        refine iteB h18 (fun c13 h19=>?_) (fun c13 h20=>?_)<;>clear h18
        ·obtain rfl:=Zac h19
         exact afd fol hE [.r [],.r [(1,{rs:=[.one (L.bool x1)],m:=1})],.c false,.r [],.c false,.d {ds:=[(7,{rs:=[.one (L.int .i64 x2)],m:=1})],hv:=0,Hs:=[]},.c false,.r [(2,{rs:=[.one (L.int .i64 x3)],m:=1})],.c false,.r [(4,{rs:=[.one (L.bool x4)],m:=1})],.c false,.r [(5,{rs:=[.one (L.bool x5)],m:=1})],.c false,.d {ds:=[(7,{rs:=[.one (L.int .i64 x6)],m:=1})],hv:=0,Hs:=[]},.c true,.r []] [] 0 [] (aO (ZaR.snd c1) c2 c3 (Zcm.snd c4) c5 (ZbQ.snd c6) c7 (aM (ZbO.snd c8) c9 (Zcc.snd c10) c11 (ZaG.snd c12) c13))
        ·obtain ⟨x7,c14,h21⟩:=Zag h20;clear h20
         obtain ⟨x8,c15,h22⟩:=Zag h21;clear h21
         refine iteB h22 (fun c16 h23=>?_) (fun c16 h24=>?_)<;>clear h22
         ·obtain rfl:=Zac h23
          exact afd fol hE [.r [],.r [(1,{rs:=[.one (L.bool x1)],m:=1})],.c false,.r [],.c false,.d {ds:=[(7,{rs:=[.one (L.int .i64 x2)],m:=1})],hv:=0,Hs:=[]},.c false,.r [(2,{rs:=[.one (L.int .i64 x3)],m:=1})],.c false,.r [(4,{rs:=[.one (L.bool x4)],m:=1})],.c false,.r [(5,{rs:=[.one (L.bool x5)],m:=1})],.c false,.d {ds:=[(7,{rs:=[.one (L.int .i64 x6)],m:=1})],hv:=0,Hs:=[]},.c false,.d {ds:=[(4,{rs:=[.agg [L.arr .u8 32 x7]],m:=1}),(7,{rs:=[.one (L.bool x8)],m:=1})],hv:=0,Hs:=[]},.c true,.r []] [] 0 [] (aO (ZaR.snd c1) c2 c3 (Zcm.snd c4) c5 (ZbQ.snd c6) c7 (aO (ZbO.snd c8) c9 (Zcc.snd c10) c11 (ZaG.snd c12) c13 (Zci.snd c14) (aI (Zbh.snd c15) c16)))
         ·obtain rfl:=Zac h24
          exact afd fol hE [.r [],.r [(1,{rs:=[.one (L.bool x1)],m:=1})],.c false,.r [],.c false,.d {ds:=[(7,{rs:=[.one (L.int .i64 x2)],m:=1})],hv:=0,Hs:=[]},.c false,.r [(2,{rs:=[.one (L.int .i64 x3)],m:=1})],.c false,.r [(4,{rs:=[.one (L.bool x4)],m:=1})],.c false,.r [(5,{rs:=[.one (L.bool x5)],m:=1})],.c false,.d {ds:=[(7,{rs:=[.one (L.int .i64 x6)],m:=1})],hv:=0,Hs:=[]},.c false,.d {ds:=[(4,{rs:=[.agg [L.arr .u8 32 x7]],m:=1}),(7,{rs:=[.one (L.bool x8)],m:=1})],hv:=0,Hs:=[]},.c false,.r []] [] 0 [] (aO (ZaR.snd c1) c2 c3 (Zcm.snd c4) c5 (ZbQ.snd c6) c7 (aO (ZbO.snd c8) c9 (Zcc.snd c10) c11 (ZaG.snd c12) c13 (Zci.snd c14) (aI (Zbh.snd c15) c16)))
noncomputable def Zao.B:Code:=Tryz.f24.body.getD .skip
noncomputable def Zao.rs (r:Int×Int×Int×LL):List CV:=[.one (L.int .i64 r.1),.one (L.int .i64 r.2.1),.one (L.int .i64 r.2.2.1)]
noncomputable def Zao.p2 (N:Nat) (i2:Nat) (now_2 ahead_12:Int) (is_13:Bool) (h_1:Zan) (st:LL):Option (Int×Int×Int×LL):=
 if (!is_13)=true then
  some ((-1),2,5,st)
 else
 getE (st[i2]?) Zbv fun x14=>
 chk (0≤ahead_12)<|
 chk (ahead_12<(len x14.spots))<|
 getE (x14.spots[0+(Int.toNat ahead_12)]?) Zdy fun x15=>
 optE (Zcu N x14.rules x15 h_1 now_2) fun x16=>
 if (x16 != 0)=true then
  some ((-1),x16,8,st)
 else
 if (decide ((len x14.list)≥x14.room))=true then
  some ((-1),0,6,st)
 else
 optE (Zcl N x14.rules x15 h_1) fun x17=>
 optE (ZaE N (some i2) h_1 ahead_12 x17 st) fun (x18,st19)=>
 some (x18,0,0,st19)
noncomputable def Zao.p1 (N:Nat) (i2:Nat) (now_2 at_7:Int) (is_8:Bool) (h_1:Zan) (st:LL):Option (Int×Int×Int×LL):=
 if is_8=true then
  some (at_7,0,0,st)
 else
 getE (st[i2]?) Zbv fun x9=>
 optM (mfind x9.places (L.arr .u8 32 h_1.Prev)) (fun j10 e=>Zdf [e] fun x11=>
  Zao.p2 N i2 now_2 x11 true h_1 st)
 (
  Zao.p2 N i2 now_2 0 false h_1 st)
noncomputable def Zao (N:Nat) (a_0:Option Nat) (h_1:Zan) (now_2:Int) (st:LL):Option (Int×Int×Int×LL):=
 if (Option.isNone a_0)=true then
  some ((-1),0,2,st)
 else
 optE (ZaR N h_1) fun x1=>
 if (!x1)=true then
  some ((-1),1,8,st)
 else
 optE a_0 fun i2=>
 getE (st[i2]?) Zbv fun x3=>
 optE (Zci N h_1) fun x4=>
 optM (mfind x3.places (L.arr .u8 32 x4)) (fun j5 e=>Zdf [e] fun x6=>
  Zao.p1 N i2 now_2 x6 true h_1 st)
 (
  Zao.p1 N i2 now_2 0 false h_1 st)
noncomputable def Zao.p2.S (i2:Nat) (now_2 ahead_12:Int) (is_13:Bool) (h_1:Zan) (st:LL):S:=mkS 87 [(0,.one (.l (L.ptr (some i2)))),(2,.one (.l (L.int .i64 now_2))),(4,.one (.adr (.site 4) 0)),(11,.one (.l (L.int .i64 ahead_12))),(12,.one (.l (L.bool is_13)))] [(4,.cells h_1.ls)] st
noncomputable def Zao.p1.S (i2:Nat) (now_2 at_7:Int) (is_8:Bool) (h_1:Zan) (st:LL):S:=mkS 87 [(0,.one (.l (L.ptr (some i2)))),(2,.one (.l (L.int .i64 now_2))),(4,.one (.adr (.site 4) 0)),(9,.one (.l (L.int .i64 at_7))),(10,.one (.l (L.bool is_8)))] [(4,.cells h_1.ls)] st
theorem Zao.p2_ok {i2 now_2 ahead_12 is_13 h_1 st r} (h:Zao.p2 N i2 now_2 ahead_12 is_13 h_1 st=some r) (hE:En Tryz.f24 g0 w0 (Zao.rs r) r.2.2.2 R):At g0 w0 (Zao.p2.S i2 now_2 ahead_12 is_13 h_1 st) (XK Tryz.prog R [.c (csub Zao.B [1,1,1,1,1])]):=by
 unfold Zao.p2 at h
 refine iteB h (fun c11 h1=>?_) (fun c11 h2=>?_)<;>clear h
 ·obtain rfl:=Zac h1
  exact af fol hE [.r [],.c true,.r []] [] 0 [] c11
 ·obtain ⟨x14,c12,h3⟩:=Zbw h2;clear h2
  obtain ⟨c13,c14,h4⟩:=ck2 h3;clear h3
  obtain ⟨x15,c15,h5⟩:=ZfB h4;clear h4
  obtain ⟨x16,c16,h6⟩:=Zag h5;clear h5
  refine iteB h6 (fun c17 h7=>?_) (fun c17 h8=>?_)<;>clear h6
  ·obtain rfl:=Zac h7
   exact afd fol hE [.r [],.c false,.d {ds:=[(3,{oc:=x14.lo}),(7,{oc:=x14.lo}),(10,{oc:=x14.lo,oe:=x15.ls}),(13,{rs:=[.one (L.int .i64 x16)],m:=1})],hv:=0,Hs:=[]},.r [],.c true,.r []] [] 0 [] (aO c11 c12 c12 c13 c14 c15 c12 (aI (Zcu.snd c16) c17))
  ·refine iteB h8 (fun c18 h9=>?_) (fun c18 h10=>?_)<;>clear h8
   ·obtain rfl:=Zac h9
    exact afd fol hE [.r [],.c false,.d {ds:=[(3,{oc:=x14.lo}),(7,{oc:=x14.lo}),(10,{oc:=x14.lo,oe:=x15.ls}),(13,{rs:=[.one (L.int .i64 x16)],m:=1})],hv:=0,Hs:=[]},.r [],.c false,.d {ds:=[(3,{oc:=x14.lo}),(8,{oc:=x14.lo})],hv:=0,Hs:=[]},.c true,.r []] [] 0 [] (aO c11 c12 c12 c13 c14 c15 c12 (aL (Zcu.snd c16) c17 c12 c12 c18))
   ·obtain ⟨x17,c19,h11⟩:=Zag h10;clear h10
    obtain ⟨⟨x18,st19⟩,c20,h12⟩:=Zag h11;clear h11
    obtain rfl:=Zac h12
    exact afd fol hE [.r [],.c false,.d {ds:=[(3,{oc:=x14.lo}),(7,{oc:=x14.lo}),(10,{oc:=x14.lo,oe:=x15.ls}),(13,{rs:=[.one (L.int .i64 x16)],m:=1})],hv:=0,Hs:=[]},.r [],.c false,.d {ds:=[(3,{oc:=x14.lo}),(8,{oc:=x14.lo})],hv:=0,Hs:=[]},.c false,.d {ds:=[(6,{oc:=x14.lo}),(10,{oc:=x14.lo}),(13,{oc:=x14.lo,oe:=x15.ls}),(15,{rs:=[.agg x17.ls],m:=1}),(16,{rs:=[.one (L.int .i64 x18)],st:=st19})],hv:=65536,Hs:=[65536]}] [] 0 [] (aO c11 c12 c12 c13 c14 c15 c12 (aO (Zcu.snd c16) c17 c12 c12 c18 c12 c12 (aM c13 c14 c15 c12 (Zcl.snd c19) (ZaE.snd c20))))
theorem Zao.p1_ok {i2 now_2 at_7 is_8 h_1 st r} (h:Zao.p1 N i2 now_2 at_7 is_8 h_1 st=some r) (hE:En Tryz.f24 g0 w0 (Zao.rs r) r.2.2.2 R):At g0 w0 (Zao.p1.S i2 now_2 at_7 is_8 h_1 st) (XK Tryz.prog R [.c (csub Zao.B [1,1,1,0,1]),.c (csub Zao.B [1,1,1,1])]):=by
 unfold Zao.p1 at h
 refine iteB h (fun c8 h13=>?_) (fun c8 h14=>?_)<;>clear h
 ·obtain rfl:=Zac h13
  exact af fol hE [.r [],.c true,.r []] [] 0 [] c8
 ·obtain ⟨x9,c9,h15⟩:=Zbw h14;clear h14
  rcases Zgb h15 with ⟨j10,h19,c10,h16⟩ | ⟨c10,h17⟩<;>clear h15
  ·obtain ⟨x11,h20,h18⟩:=Zef h16;clear h16
   obtain rfl:=Zez h20
   exact aqd fol [.r [],.c false,.d {ds:=[(3,{oc:=x9.lo}),(6,{oc:=x9.lo,oe:=[L.int .i64 x11]})],hv:=0,Hs:=[]},.s 1] [0,2,4,11,12] [4] (aK c8 c9 (Zjg c10) c9) (Zao.p2_ok h18 hE)
  ·exact aqd fol [.r [],.c false,.d {ds:=[(3,{oc:=x9.lo}),(6,{oc:=x9.lo,yes:=false})],hv:=0,Hs:=[]},.s 1] [0,2,4,11,12] [4] (aK c8 c9 c10 c9) (Zao.p2_ok h17 hE)
theorem Zao.snd {a_0:Option Nat} {h_1:Zan} {now_2:Int} {st:LL} {r:Int×Int×Int×LL} (h:Zao N a_0 h_1 now_2 st=some r):Snd Tryz.prog 24 [.one (L.ptr a_0),.agg h_1.ls,.one (L.int .i64 now_2)] st (Zao.rs r) r.2.2.2:=
 sO Zao.B Tryz.func24 fun g0 w0 R hE=>by
  unfold Zao at h
  refine iteB h (fun c1 h21=>?_) (fun c1 h22=>?_)<;>clear h
  ·obtain rfl:=Zac h21
   exact af fol hE [.r [],.r [],.c true,.r []] [] 0 [] c1
  ·obtain ⟨x1,c2,h23⟩:=Zag h22;clear h22
   refine iteB h23 (fun c3 h24=>?_) (fun c3 h25=>?_)<;>clear h23
   ·obtain rfl:=Zac h24
    exact af fol hE [.r [],.r [],.c false,.r [(1,{rs:=[.one (L.bool x1)],m:=1})],.c true,.r []] [] 0 [] (aJ c1 (ZaR.snd c2) c3)
   ·obtain ⟨i2,rfl,h26⟩:=Zag h25;clear h25
    obtain ⟨x3,c5,h27⟩:=Zbw h26;clear h26
    obtain ⟨x4,c6,h28⟩:=Zag h27;clear h27
    rcases Zgb h28 with ⟨j5,h32,c7,h29⟩ | ⟨c7,h30⟩<;>clear h28
    ·obtain ⟨x6,h33,h31⟩:=Zef h29;clear h29
     obtain rfl:=Zez h33
     exact aqd fol [.r [],.r [],.c false,.r [(1,{rs:=[.one (L.bool x1)],m:=1})],.c false,.d {ds:=[(3,{oc:=x3.lo}),(5,{rs:=[.agg [L.arr .u8 32 x4]],m:=1}),(6,{oc:=x3.lo,oe:=[L.int .i64 x6]})],hv:=0,Hs:=[]},.s 2] [0,2,4,9,10] [4] (aN c1 (ZaR.snd c2) c3 c5 (Zci.snd c6) (Zjg c7) c5) (Zao.p1_ok h31 hE)
    ·exact aqd fol [.r [],.r [],.c false,.r [(1,{rs:=[.one (L.bool x1)],m:=1})],.c false,.d {ds:=[(3,{oc:=x3.lo}),(5,{rs:=[.agg [L.arr .u8 32 x4]],m:=1}),(6,{oc:=x3.lo,yes:=false})],hv:=0,Hs:=[]},.s 2] [0,2,4,9,10] [4] (aN c1 (ZaR.snd c2) c3 c5 (Zci.snd c6) c7 c5) (Zao.p1_ok h30 hE)
noncomputable def ZbE.B:Code:=Tryz.f67.body.getD .skip
noncomputable def ZbE.rs (r:Bool):List CV:=[.one (L.bool r)]
noncomputable def ZbE (N:Nat) (a_0:Zal) (at_1:Int):Option Bool:=
 if (decide (at_1≥0))=true then
  some (decide (at_1<(len a_0.list)))
 else
 some false
theorem ZbE.snd {a_0:Zal} {at_1:Int} {r:Bool} (h:ZbE N a_0 at_1=some r):SndQ Tryz.prog 67 [.one (L.bx 87 a_0.ls),.one (L.int .i64 at_1)] (ZbE.rs r):=fun st=>
 sO ZbE.B Tryz.func67 fun g0 w0 R hE=>by
  unfold ZbE at h
  refine iteB h (fun c1 h1=>?_) (fun c1 h2=>?_)<;>clear h
  ·obtain rfl:=Zac h1
   exact af fol hE [.r [],.r [(11,{oe:=a_0.ls})]] [] 0 [] (aO (eB true) (eB true) (eB true) c1 c1 c1 c1 (aL c1 (eO a_0.ls) c1 c1 c1))
  ·obtain rfl:=Zac h2
   exact af fol hE [.r [],.r [(7,{want:=false}),(8,{want:=false}),(9,{want:=false}),(10,{want:=false}),(11,{want:=false}),(12,{want:=false}),(13,{want:=false}),(14,{yes:=false})]] [] 0 [] (aO (eB true) (eB true) (eB true) c1 c1 c1 c1 (aK c1 c1 c1 c1))
noncomputable def Zaz.B:Code:=Tryz.f25.body.getD .skip
noncomputable def Zaz.rs (r:ZbA×Bool):List CV:=[.agg r.1.ls,.one (L.bool r.2)]
noncomputable def Zaz (N:Nat) (a_0:Zal) (at_1:Int):Option (ZbA×Bool):=
 optE (ZbE N a_0 at_1) fun x1=>
 if (!x1)=true then
  some (ZbA.mk (Zan.mk 0 (List.replicate 32 0) (List.replicate 32 0) 0 0 0) (List.replicate 32 0) (-1) 0 (List.replicate 4 0),false)
 else
 chk (0≤at_1)<|
 chk (at_1<(len a_0.list))<|
 getE (a_0.list[Int.toNat at_1]?) ZcL fun x2=>
 some (x2,true)
theorem Zaz.snd {a_0:Zal} {at_1:Int} {r:ZbA×Bool} (h:Zaz N a_0 at_1=some r):SndQ Tryz.prog 25 [.one (L.bx 87 a_0.ls),.one (L.int .i64 at_1)] (Zaz.rs r):=fun st=>
 sO Zaz.B Tryz.func25 fun g0 w0 R hE=>by
  unfold Zaz at h
  obtain ⟨x1,c1,h1⟩:=Zag h;clear h
  refine iteB h1 (fun c2 h2=>?_) (fun c2 h3=>?_)<;>clear h1
  ·obtain rfl:=Zac h2
   exact af fol hE [.r [],.r [(2,{rs:=[.one (L.bool x1)],m:=10})],.c true,.r []] [] 0 [] (aI (ZbE.snd c1) c2)
  ·obtain ⟨c3,c4,h4⟩:=ck2 h3;clear h3
   obtain ⟨x2,c5,h5⟩:=ZdI h4;clear h4
   obtain rfl:=Zac h5
   exact af fol hE [.r [],.r [(2,{rs:=[.one (L.bool x1)],m:=10})],.c false,.r [(3,{oe:=a_0.ls}),(6,{oe:=x2.ls})]] [] 0 [] (aM (ZbE.snd c1) c2 (eO a_0.ls) c3 c4 c5)
noncomputable def Zau.B:Code:=Tryz.f5.body.getD .skip
noncomputable def Zau.rs (r:Bool×LL):List CV:=[.one (L.bool r.1)]
noncomputable def Zau.p2 (N:Nat) (i47:Nat) (x49:Int) (c2_:(Int×LL)→Option (Bool×LL)):(Int×LL)→Option (Bool×LL):=fun (i_50,st62)=>
 if (decide (i_50<x49))=true then
  getE (st62[i47]?) Zbv fun x63=>
  optE (Zaz N x63 i_50) fun (x64,x65)=>
  optE (Zao N (some i47) x64.Header 0 st62) fun (x66,x67,x68,st69)=>
  if (x66 != i_50)=true then
   some (false,st69)
  else
  if (x67 != 0)=true then
   some (false,st69)
  else
  if (x68 != 0)=true then
   some (false,st69)
  else
  getE (st69[i47]?) Zbv fun x70=>
  optE (ZaI N x70) fun x71=>
  if (x71 != x49)=true then
   some (false,st69)
  else
  optE (Zaz N x70 x64.Ahead) fun (x72,x73)=>
  if (decide (i_50>0))=true then
   if (!x73)=true then
    some (false,st69)
   else
   if (x64.Height != (w64 (x72.Height+1)))=true then
    some (false,st69)
   else
   if (i_50==0)=true then
    some (false,st69)
   else
   c2_ (w64 (i_50+1),st69)
  else
  if (i_50==0)=true then
   if x73=true then
    some (false,st69)
   else
   if (x64.Height != 0)=true then
    some (false,st69)
   else
   c2_ (w64 (i_50+1),st69)
  else
  c2_ (w64 (i_50+1),st69)
 else
 some (true,st62)
noncomputable def Zau.p1 (N:Nat) (x5:Option Nat) (list_1:LL) (c1_:(Int×LL)→Option (Bool×LL)):(Int×LL)→Option (Bool×LL):=fun (v8,st41)=>
 if (decide (v8<(len list_1)))=true then
  chk (0≤v8)<|
  getE (list_1[Int.toNat v8]?) Zce fun x42=>
  optE (Zao N x5 x42.Header x42.Now st41) fun (x43,x44,x45,st46)=>
  c1_ (w64 (v8+1),st46)
 else
 optE x5 fun i47=>
 getE (st41[i47]?) Zbv fun x48=>
 optE (ZaI N x48) fun x49=>
 loopN (Zau.p2 N i47 x49) N (0,st41)
noncomputable def Zau (N:Nat) (p_0:Zam) (list_1 st:LL):Option (Bool×LL):=
 optE (ZbT N st) fun (x1,st2)=>
 if (!x1)=true then
  some (false,st2)
 else
 optE (Zbg N p_0 list_1) fun x3=>
 if x3=true then
  some (true,st2)
 else
 optE (ZaM N p_0) fun x4=>
 if (!x4)=true then
  some (true,st2)
 else
 optE (Zcn N p_0 100 st2) fun (x5,x6,st7)=>
 loopN (Zau.p1 N x5 list_1) N (0,st7)
noncomputable def Zau.p2.S (i47:Nat) (x49 i_50:Int) (st62:LL):S:=mkS 117 [(5,.one (.l (L.ptr (some i47)))),(9,.one (.l (L.int .i64 x49))),(10,.one (.l (L.int .i64 i_50)))] [] st62
noncomputable def Zau.p1.S (x5:Option Nat) (list_1:LL) (v8:Int) (st41:LL):S:=mkS 117 [(5,.one (.l (L.ptr x5))),(33,.one (.l (L.sl 69 list_1))),(34,.one (.l (L.int .i64 (len list_1)))),(35,.one (.l (L.int .i64 v8)))] [] st41
theorem Zau.p2_ok {i47 x49 i_50 st62 r c2_ J2} (h:Zau.p2 N i47 x49 c2_ (i_50,st62)=some r) (hE:En Tryz.f5 g0 w0 (Zau.rs r) r.2 R) (hc2 : ∀i_50 st62,c2_ (i_50,st62)=some r→At g0 w0 (Zau.p2.S i47 x49 i_50 st62) J2):At g0 w0 (Zau.p2.S i47 x49 i_50 st62) (XK Tryz.prog R (.c (csub Zau.B [1,1,1,1,1,1,0,1,0,0]) :: .h J2 :: [.b 2,.c (csub Zau.B [1,1,1,1,1,1,1])])):=by
 unfold Zau.p2 at h
 refine iteB h (fun c76 h1=>?_) (fun c76 h2=>?_)<;>clear h
 ·obtain ⟨x63,c77,h3⟩:=Zbw h1;clear h1
  obtain ⟨⟨x64,x65⟩,c78,h4⟩:=Zag h3;clear h3
  obtain ⟨⟨x66,x67,x68,st69⟩,c79,h5⟩:=Zag h4;clear h4
  refine iteB h5 (fun c80 h6=>?_) (fun c80 h7=>?_)<;>clear h5
  ·obtain rfl:=Zac h6
   exact af fol hE [.r [],.c true,.r [(2,{rs:=[.agg x64.ls,.one (L.bool x65)],m:=10,cv:=[.one (L.bx 87 x63.ls)]})],.r [(3,{rs:=[.one (L.int .i64 x66),.one (L.int .i64 x67),.one (L.int .i64 x68)],st:=st69})],.r [(4,{want:=false}),(5,{want:=false}),(8,{want:=false}),(9,{want:=false}),(12,{want:=false}),(13,{want:=false}),(14,{want:=false}),(15,{want:=false})],.c true,.r []] [] 0 [] (aO c76 (bO 87 c77 (Zal.bv x63)) (Zaz.snd c78) (Zao.snd c79) c80 c80 c80 (aO (eB true) (eB true) (eB true) (eB true) (eB true) (eB true) (eB true) (aI (eB true) (eB true))))
  ·refine iteB h7 (fun c81 h8=>?_) (fun c81 h9=>?_)<;>clear h7
   ·obtain rfl:=Zac h8
    exact af fol hE [.r [],.c true,.r [(2,{rs:=[.agg x64.ls,.one (L.bool x65)],m:=10,cv:=[.one (L.bx 87 x63.ls)]})],.r [(3,{rs:=[.one (L.int .i64 x66),.one (L.int .i64 x67),.one (L.int .i64 x68)],st:=st69})],.r [(6,{yes:=false}),(8,{want:=false}),(9,{want:=false}),(12,{want:=false}),(13,{want:=false}),(14,{want:=false}),(15,{want:=false})],.c true,.r []] [] 0 [] (aO c76 (bO 87 c77 (Zal.bv x63)) (Zaz.snd c78) (Zao.snd c79) c80 c80 c80 (aO c81 c81 c81 (eB true) (eB true) (eB true) (eB true) (aI (eB true) (eB true))))
   ·refine iteB h9 (fun c82 h10=>?_) (fun c82 h11=>?_)<;>clear h9
    ·obtain rfl:=Zac h10
     exact af fol hE [.r [],.c true,.r [(2,{rs:=[.agg x64.ls,.one (L.bool x65)],m:=10,cv:=[.one (L.bx 87 x63.ls)]})],.r [(3,{rs:=[.one (L.int .i64 x66),.one (L.int .i64 x67),.one (L.int .i64 x68)],st:=st69})],.r [(6,{yes:=false}),(10,{yes:=false}),(12,{want:=false}),(13,{want:=false}),(14,{want:=false}),(15,{want:=false})],.c true,.r []] [] 0 [] (aO c76 (bO 87 c77 (Zal.bv x63)) (Zaz.snd c78) (Zao.snd c79) c80 c80 c80 (aO c81 c81 c81 c82 c82 c82 c82 (aI c82 (eB true))))
    ·obtain ⟨x70,c83,h12⟩:=Zbw h11;clear h11
     obtain ⟨x71,c84,h13⟩:=Zag h12;clear h12
     refine iteB h13 (fun c85 h14=>?_) (fun c85 h15=>?_)<;>clear h13
     ·obtain rfl:=Zac h14
      exact af fol hE [.r [],.c true,.r [(2,{rs:=[.agg x64.ls,.one (L.bool x65)],m:=10,cv:=[.one (L.bx 87 x63.ls)]})],.r [(3,{rs:=[.one (L.int .i64 x66),.one (L.int .i64 x67),.one (L.int .i64 x68)],st:=st69})],.r [(6,{yes:=false}),(10,{yes:=false}),(13,{rs:=[.one (L.int .i64 x71)],m:=10,cv:=[.one (L.bx 87 x70.ls)]}),(16,{yes:=false})],.c true,.r []] [] 0 [] (aO c76 (bO 87 c77 (Zal.bv x63)) (Zaz.snd c78) (Zao.snd c79) c80 c80 c80 (aO c81 c81 c81 c82 c82 (bO 87 c83 (Zal.bv x70)) (ZaI.snd c84) (aK c82 c82 c82 c85)))
     ·obtain ⟨⟨x72,x73⟩,c86,h16⟩:=Zag h15;clear h15
      refine iteB h16 (fun c87 h17=>?_) (fun c87 h18=>?_)<;>clear h16
      ·refine iteB h17 (fun c88 h19=>?_) (fun c88 h20=>?_)<;>clear h17
       ·obtain rfl:=Zac h19
        exact af fol hE [.r [],.c true,.r [(2,{rs:=[.agg x64.ls,.one (L.bool x65)],m:=10,cv:=[.one (L.bx 87 x63.ls)]})],.r [(3,{rs:=[.one (L.int .i64 x66),.one (L.int .i64 x67),.one (L.int .i64 x68)],st:=st69})],.r [(6,{yes:=false}),(10,{yes:=false}),(13,{rs:=[.one (L.int .i64 x71)],m:=10,cv:=[.one (L.bx 87 x70.ls)]}),(16,{yes:=false})],.c false,.r [(3,{rs:=[.agg x72.ls,.one (L.bool x73)],m:=10,cv:=[.one (L.bx 87 x70.ls)]})],.r [(6,{want:=false}),(7,{want:=false}),(8,{want:=false}),(9,{want:=false}),(10,{want:=false}),(11,{want:=false}),(15,{want:=false}),(16,{want:=false}),(17,{want:=false}),(24,{want:=false})],.c true,.r []] [] 0 [] (aO c76 (bO 87 c77 (Zal.bv x63)) (Zaz.snd c78) (Zao.snd c79) c80 c80 c80 (aO c81 c81 c81 c82 c82 (bO 87 c83 (Zal.bv x70)) (ZaI.snd c84) (aO c82 c82 c82 c85 (bO 87 c83 (Zal.bv x70)) (Zaz.snd c86) c87 (aO c87 c87 (not_false (ZbI c88)) (not_false (ZbI c88)) (not_false (ZbI c88)) (not_false (ZbI c88)) (not_false (ZbI c88)) (aO (not_false (ZbI c88)) c87 (not_false (ZbI c88)) c87 (eB true) (eB true) (eB true) (aJ (eB true) (eB true) (eB true)))))))
       ·refine iteB h20 (fun c89 h21=>?_) (fun c89 h22=>?_)<;>clear h20
        ·obtain rfl:=Zac h21
         exact af fol hE [.r [],.c true,.r [(2,{rs:=[.agg x64.ls,.one (L.bool x65)],m:=10,cv:=[.one (L.bx 87 x63.ls)]})],.r [(3,{rs:=[.one (L.int .i64 x66),.one (L.int .i64 x67),.one (L.int .i64 x68)],st:=st69})],.r [(6,{yes:=false}),(10,{yes:=false}),(13,{rs:=[.one (L.int .i64 x71)],m:=10,cv:=[.one (L.bx 87 x70.ls)]}),(16,{yes:=false})],.c false,.r [(3,{rs:=[.agg x72.ls,.one (L.bool x73)],m:=10,cv:=[.one (L.bx 87 x70.ls)]})],.r [(12,{yes:=false}),(15,{want:=false}),(16,{want:=false}),(17,{want:=false}),(24,{want:=false})],.c true,.r []] [] 0 [] (aO c76 (bO 87 c77 (Zal.bv x63)) (Zaz.snd c78) (Zao.snd c79) c80 c80 c80 (aO c81 c81 c81 c82 c82 (bO 87 c83 (Zal.bv x70)) (ZaI.snd c84) (aO c82 c82 c82 c85 (bO 87 c83 (Zal.bv x70)) (Zaz.snd c86) c87 (aO c87 c87 (not_true (Zay c88)) (not_true (Zay c88)) (not_true (Zay c88)) (not_true (Zay c88)) (not_true (Zay c88)) (aO (not_true (Zay c88)) c87 (not_true (Zay c88)) c87 c89 c89 c89 (aJ c89 c89 (eB true)))))))
        ·refine iteB h22 (fun c90 h23=>?_) (fun c90 h24=>?_)<;>clear h22
         ·obtain rfl:=Zac h23
          exact af fol hE [.r [],.c true,.r [(2,{rs:=[.agg x64.ls,.one (L.bool x65)],m:=10,cv:=[.one (L.bx 87 x63.ls)]})],.r [(3,{rs:=[.one (L.int .i64 x66),.one (L.int .i64 x67),.one (L.int .i64 x68)],st:=st69})],.r [(6,{yes:=false}),(10,{yes:=false}),(13,{rs:=[.one (L.int .i64 x71)],m:=10,cv:=[.one (L.bx 87 x70.ls)]}),(16,{yes:=false})],.c false,.r [(3,{rs:=[.agg x72.ls,.one (L.bool x73)],m:=10,cv:=[.one (L.bx 87 x70.ls)]})],.r [(12,{yes:=false}),(20,{want:=false}),(21,{want:=false}),(22,{want:=false}),(25,{yes:=false})],.c true,.r []] [] 0 [] (aO c76 (bO 87 c77 (Zal.bv x63)) (Zaz.snd c78) (Zao.snd c79) c80 c80 c80 (aO c81 c81 c81 c82 c82 (bO 87 c83 (Zal.bv x70)) (ZaI.snd c84) (aO c82 c82 c82 c85 (bO 87 c83 (Zal.bv x70)) (Zaz.snd c86) c87 (aO c87 c87 (not_true (Zay c88)) (not_true (Zay c88)) (not_true (Zay c88)) (not_true (Zay c88)) (not_true (Zay c88)) (aO (not_true (Zay c88)) c87 (not_true (Zay c88)) c87 c89 c89 c89 (aO c90 c90 (Zay c88) (Zay c88) (Zay c88) c90 (Zay c88) (aK c89 c90 c89 (eB true))))))))
         ·exact an fol [.r [],.c true,.r [(2,{rs:=[.agg x64.ls,.one (L.bool x65)],m:=10,cv:=[.one (L.bx 87 x63.ls)]})],.r [(3,{rs:=[.one (L.int .i64 x66),.one (L.int .i64 x67),.one (L.int .i64 x68)],st:=st69})],.r [(6,{yes:=false}),(10,{yes:=false}),(13,{rs:=[.one (L.int .i64 x71)],m:=10,cv:=[.one (L.bx 87 x70.ls)]}),(16,{yes:=false})],.c false,.r [(3,{rs:=[.agg x72.ls,.one (L.bool x73)],m:=10,cv:=[.one (L.bx 87 x70.ls)]})],.r [(12,{yes:=false}),(18,{want:=false}),(19,{want:=false}),(23,{want:=false}),(24,{yes:=false}),(25,{yes:=false})],.c false,.r []] [5,9,10] [] (aO c76 (bO 87 c77 (Zal.bv x63)) (Zaz.snd c78) (Zao.snd c79) c80 c80 c80 (aO c81 c81 c81 c82 c82 (bO 87 c83 (Zal.bv x70)) (ZaI.snd c84) (aO c82 c82 c82 c85 (bO 87 c83 (Zal.bv x70)) (Zaz.snd c86) c87 (aO c87 c87 (not_true (Zay c88)) (not_true (Zay c88)) (not_true (Zay c88)) (not_true (Zay c88)) (not_true (Zay c88)) (aO (not_true (Zay c88)) c87 (not_true (Zay c88)) c87 c89 c89 c89 (aN c90 c90 c90 c89 c90 c89 (eB false))))))) (hc2 (w64 (i_50+1)) st69 h24)
      ·refine iteB h18 (fun c91 h25=>?_) (fun c91 h26=>?_)<;>clear h18
       ·refine iteB h25 (fun c92 h27=>?_) (fun c92 h28=>?_)<;>clear h25
        ·obtain rfl:=Zac h27
         exact af fol hE [.r [],.c true,.r [(2,{rs:=[.agg x64.ls,.one (L.bool x65)],m:=10,cv:=[.one (L.bx 87 x63.ls)]})],.r [(3,{rs:=[.one (L.int .i64 x66),.one (L.int .i64 x67),.one (L.int .i64 x68)],st:=st69})],.r [(6,{yes:=false}),(10,{yes:=false}),(13,{rs:=[.one (L.int .i64 x71)],m:=10,cv:=[.one (L.bx 87 x70.ls)]}),(16,{yes:=false})],.c false,.r [(3,{rs:=[.agg x72.ls,.one (L.bool x73)],m:=10,cv:=[.one (L.bx 87 x70.ls)]})],.r [(3,{want:=false}),(4,{want:=false}),(5,{want:=false}),(12,{want:=false}),(13,{yes:=false}),(20,{want:=false}),(21,{want:=false}),(22,{want:=false}),(25,{yes:=false})],.c true,.r []] [] 0 [] (aO c76 (bO 87 c77 (Zal.bv x63)) (Zaz.snd c78) (Zao.snd c79) c80 c80 c80 (aO c81 c81 c81 c82 c82 (bO 87 c83 (Zal.bv x70)) (ZaI.snd c84) (aO c82 c82 c82 c85 (bO 87 c83 (Zal.bv x70)) (Zaz.snd c86) c87 (aO c87 c87 c87 c87 (eB false) (eB false) (eB false) (aO c91 c91 c92 c92 c92 c91 c92 (aK (eB false) c91 (eB false) (eB true)))))))
        ·refine iteB h28 (fun c93 h29=>?_) (fun c93 h30=>?_)<;>clear h28
         ·obtain rfl:=Zac h29
          exact af fol hE [.r [],.c true,.r [(2,{rs:=[.agg x64.ls,.one (L.bool x65)],m:=10,cv:=[.one (L.bx 87 x63.ls)]})],.r [(3,{rs:=[.one (L.int .i64 x66),.one (L.int .i64 x67),.one (L.int .i64 x68)],st:=st69})],.r [(6,{yes:=false}),(10,{yes:=false}),(13,{rs:=[.one (L.int .i64 x71)],m:=10,cv:=[.one (L.bx 87 x70.ls)]}),(16,{yes:=false})],.c false,.r [(3,{rs:=[.agg x72.ls,.one (L.bool x73)],m:=10,cv:=[.one (L.bx 87 x70.ls)]})],.r [(3,{want:=false}),(4,{want:=false}),(5,{want:=false}),(12,{want:=false}),(13,{yes:=false}),(23,{yes:=false}),(25,{yes:=false})],.c true,.r []] [] 0 [] (aO c76 (bO 87 c77 (Zal.bv x63)) (Zaz.snd c78) (Zao.snd c79) c80 c80 c80 (aO c81 c81 c81 c82 c82 (bO 87 c83 (Zal.bv x70)) (ZaI.snd c84) (aO c82 c82 c82 c85 (bO 87 c83 (Zal.bv x70)) (Zaz.snd c86) c87 (aO c87 c87 c87 c87 (eB false) (eB false) (eB false) (aO c91 c91 c92 c92 c92 c91 c92 (aK (eB false) c91 (eB false) c93))))))
         ·exact an fol [.r [],.c true,.r [(2,{rs:=[.agg x64.ls,.one (L.bool x65)],m:=10,cv:=[.one (L.bx 87 x63.ls)]})],.r [(3,{rs:=[.one (L.int .i64 x66),.one (L.int .i64 x67),.one (L.int .i64 x68)],st:=st69})],.r [(6,{yes:=false}),(10,{yes:=false}),(13,{rs:=[.one (L.int .i64 x71)],m:=10,cv:=[.one (L.bx 87 x70.ls)]}),(16,{yes:=false})],.c false,.r [(3,{rs:=[.agg x72.ls,.one (L.bool x73)],m:=10,cv:=[.one (L.bx 87 x70.ls)]})],.r [(3,{want:=false}),(4,{want:=false}),(5,{want:=false}),(12,{want:=false}),(13,{yes:=false}),(23,{yes:=false}),(25,{yes:=false})],.c false,.r []] [5,9,10] [] (aO c76 (bO 87 c77 (Zal.bv x63)) (Zaz.snd c78) (Zao.snd c79) c80 c80 c80 (aO c81 c81 c81 c82 c82 (bO 87 c83 (Zal.bv x70)) (ZaI.snd c84) (aO c82 c82 c82 c85 (bO 87 c83 (Zal.bv x70)) (Zaz.snd c86) c87 (aO c87 c87 c87 c87 (eB false) (eB false) (eB false) (aO c91 c91 c92 c92 c92 c91 c92 (aK (eB false) c91 (eB false) c93)))))) (hc2 (w64 (i_50+1)) st69 h30)
       ·exact an fol [.r [],.c true,.r [(2,{rs:=[.agg x64.ls,.one (L.bool x65)],m:=10,cv:=[.one (L.bx 87 x63.ls)]})],.r [(3,{rs:=[.one (L.int .i64 x66),.one (L.int .i64 x67),.one (L.int .i64 x68)],st:=st69})],.r [(6,{yes:=false}),(10,{yes:=false}),(13,{rs:=[.one (L.int .i64 x71)],m:=10,cv:=[.one (L.bx 87 x70.ls)]}),(16,{yes:=false})],.c false,.r [(3,{rs:=[.agg x72.ls,.one (L.bool x73)],m:=10,cv:=[.one (L.bx 87 x70.ls)]})],.r [(3,{want:=false}),(4,{want:=false}),(5,{want:=false}),(12,{want:=false}),(13,{yes:=false}),(18,{want:=false}),(19,{want:=false}),(23,{want:=false}),(24,{yes:=false}),(25,{yes:=false})],.c false,.r []] [5,9,10] [] (aO c76 (bO 87 c77 (Zal.bv x63)) (Zaz.snd c78) (Zao.snd c79) c80 c80 c80 (aO c81 c81 c81 c82 c82 (bO 87 c83 (Zal.bv x70)) (ZaI.snd c84) (aO c82 c82 c82 c85 (bO 87 c83 (Zal.bv x70)) (Zaz.snd c86) c87 (aO c87 c87 c87 c87 (eB false) (eB false) (eB false) (aN c91 c91 c91 (eB false) c91 (eB false) (eB false)))))) (hc2 (w64 (i_50+1)) st69 h26)
 ·obtain rfl:=Zac h2
  exact af fol hE [.r [],.c false,.r []] [] 0 [] c76
theorem Zau.p1_ok {x5 list_1 v8 st41 r c1_ J1} (h:Zau.p1 N x5 list_1 c1_ (v8,st41)=some r) (hE:En Tryz.f5 g0 w0 (Zau.rs r) r.2 R) (hc1 : ∀v8 st41,c1_ (v8,st41)=some r→At g0 w0 (Zau.p1.S x5 list_1 v8 st41) J1):At g0 w0 (Zau.p1.S x5 list_1 v8 st41) (XK Tryz.prog R (.c (csub Zau.B [1,1,1,1,0,1,0,0]) :: .h J1 :: [.b 0,.c (csub Zau.B [1,1,1,1,1])])):=by
 unfold Zau.p1 at h
 refine iteB h (fun c51 h31=>?_) (fun c51 h32=>?_)<;>clear h
 ·obtain ⟨c52,h33⟩:=ZaP h31;clear h31
  obtain ⟨x42,c53,h34⟩:=ZcK h33;clear h33
  obtain ⟨⟨x43,x44,x45,st46⟩,c54,h35⟩:=Zag h34;clear h34
  exact an fol [.r [],.c true,.r [(1,{oe:=x42.ls})],.r [(5,{rs:=[.one (L.int .i64 x43),.one (L.int .i64 x44),.one (L.int .i64 x45)],st:=st46})],.r []] [5,33,34,35] [] (aL c51 c52 (oD c51) c53 (Zao.snd c54)) (hc1 (w64 (v8+1)) st46 h35)
 ·obtain ⟨i47,rfl,h36⟩:=Zag h32;clear h32
  obtain ⟨x48,c56,h37⟩:=Zbw h36;clear h36
  obtain ⟨x49,c57,h38⟩:=Zag h37;clear h37
  exact aq fol [.r [],.c false,.r [(1,{rs:=[.one (L.int .i64 x49)],m:=10,cv:=[.one (L.bx 87 x48.ls)]})],.r []] [5,9,10] [] (aJ c51 (bO 87 c56 (Zal.bv x48)) (ZaI.snd c57)) (At.loop N (At.loopN (fun y:Int×LL=>Zau.p2.S i47 x49 y.1 y.2) (fun c J hc y h=>Zau.p2_ok (i_50:=y.1) (st62:=y.2) h hE (fun i_50 st62=>hc (i_50,st62))) N (0,st41) h38))
theorem Zau.snd {p_0:Zam} {list_1:LL} {st:LL} {r:Bool×LL} (h:Zau N p_0 list_1 st=some r):Snd Tryz.prog 5 [.agg p_0.ls,.one (L.sl 69 list_1)] st (Zau.rs r) r.2:=
 sO Zau.B Tryz.func5 fun g0 w0 R hE=>by
  unfold Zau at h
  obtain ⟨⟨x1,st2⟩,c1,h39⟩:=Zag h;clear h
  refine iteB h39 (fun c2 h40=>?_) (fun c2 h41=>?_)<;>clear h39
  ·obtain rfl:=Zac h40
   exact af fol hE [.r [],.r [(0,{rs:=[.one (L.bool x1)],st:=st2})],.c true,.r []] [] 0 [] (aI (ZbT.snd c1) c2)
  ·obtain ⟨x3,c3,h42⟩:=Zag h41;clear h41
   refine iteB h42 (fun c4 h43=>?_) (fun c4 h44=>?_)<;>clear h42
   ·obtain rfl:=Zac h43
    exact af fol hE [.r [],.r [(0,{rs:=[.one (L.bool x1)],st:=st2})],.c false,.r [(2,{rs:=[.one (L.bool x3)],m:=1}),(4,{want:=false}),(5,{want:=false}),(6,{want:=false})],.c true,.r []] [] 0 [] (aO (ZbT.snd c1) c2 (Zbg.snd c3) c4 c4 c4 c4 (eB true))
   ·obtain ⟨x4,c5,h45⟩:=Zag h44;clear h44
    refine iteB h45 (fun c6 h46=>?_) (fun c6 h47=>?_)<;>clear h45
    ·obtain rfl:=Zac h46
     exact af fol hE [.r [],.r [(0,{rs:=[.one (L.bool x1)],st:=st2})],.c false,.r [(2,{rs:=[.one (L.bool x3)],m:=1}),(5,{rs:=[.one (L.bool x4)],m:=1}),(7,{yes:=false})],.c true,.r []] [] 0 [] (aO (ZbT.snd c1) c2 (Zbg.snd c3) c4 c4 (ZaM.snd c5) c4 (aI c4 c6))
    ·obtain ⟨⟨x5,x6,st7⟩,c7,h48⟩:=Zag h47;clear h47
     exact aq fol [.r [],.r [(0,{rs:=[.one (L.bool x1)],st:=st2})],.c false,.r [(2,{rs:=[.one (L.bool x3)],m:=1}),(5,{rs:=[.one (L.bool x4)],m:=1}),(7,{yes:=false})],.c false,.r [(1,{rs:=[.one (L.ptr x5),.one (L.int .i64 x6)],st:=st7})],.r []] [5,33,34,35] [] (aO (ZbT.snd c1) c2 (Zbg.snd c3) c4 c4 (ZaM.snd c5) c4 (aJ c4 c6 (Zcn.snd c7))) (At.loop N (At.loopN (fun y:Int×LL=>Zau.p1.S x5 list_1 y.1 y.2) (fun c J hc y h=>Zau.p1_ok (v8:=y.1) (st41:=y.2) h hE (fun v8 st41=>hc (v8,st41))) N (0,st7) h48))
end Go.Dn.F
