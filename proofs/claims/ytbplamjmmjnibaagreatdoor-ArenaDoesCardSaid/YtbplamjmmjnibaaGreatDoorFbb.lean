/- Contracts of functions of the program, as shallow functions, and their proofs. -/
import Derived.Test.YtbplamjmmjnibaaGreatDoorFba
set_option linter.all false
set_option maxRecDepth 100000
namespace Go.Dn.F
open Go.Proofs
variable {N:Nat} {g0:G} {w0:World} {R:Exit→Act→World→Prop}
noncomputable def ZaB.B:Code:=Tryz.f100.body.getD .skip
noncomputable def ZaB.rs (r:(List Int)×Bool×Bool):List CV:=[.agg [L.arr .u64 4 r.1],.one (L.bool r.2.1),.one (L.bool r.2.2)]
noncomputable def ZaB.p1 (N:Nat) (bits_0:Int) (over_2:Bool) (x1:List Int):Option ((List Int)×Bool×Bool):=
 if (decide ((Int.tmod bits_0 8388608)>0))=true then
  some (x1,(Int.tmod (w64 (Int.tdiv bits_0 8388608)) 2)==1,over_2)
 else
 some (x1,false,over_2)
noncomputable def ZaB (N:Nat) (bits_0:Int):Option ((List Int)×Bool×Bool):=
 if (decide (bits_0<0))=true then
  some (List.replicate 4 0,false,false)
 else
 if (decide (bits_0>4294967295))=true then
  some (List.replicate 4 0,false,false)
 else
 optE (Zaj N [v64 (Int.tmod bits_0 8388608),0,0,0] (w64 (8*(w64 ((w64 (Int.tdiv bits_0 16777216))-3))))) fun x1=>
 if (decide ((Int.tmod bits_0 8388608)>0))=true then
  if (decide ((w64 (Int.tdiv bits_0 16777216))>34))=true then
   ZaB.p1 N bits_0 true x1
  else
  if (decide ((Int.tmod bits_0 8388608)>255))=true then
   if (decide ((w64 (Int.tdiv bits_0 16777216))>33))=true then
    ZaB.p1 N bits_0 true x1
   else
   if (decide ((Int.tmod bits_0 8388608)>65535))=true then
    ZaB.p1 N bits_0 (decide ((w64 (Int.tdiv bits_0 16777216))>32)) x1
   else
   ZaB.p1 N bits_0 false x1
  else
  if (decide ((Int.tmod bits_0 8388608)>65535))=true then
   ZaB.p1 N bits_0 (decide ((w64 (Int.tdiv bits_0 16777216))>32)) x1
  else
  ZaB.p1 N bits_0 false x1
 else
 if (decide ((Int.tmod bits_0 8388608)>255))=true then
  if (decide ((w64 (Int.tdiv bits_0 16777216))>33))=true then
   ZaB.p1 N bits_0 true x1
  else
  if (decide ((Int.tmod bits_0 8388608)>65535))=true then
   ZaB.p1 N bits_0 (decide ((w64 (Int.tdiv bits_0 16777216))>32)) x1
  else
  ZaB.p1 N bits_0 false x1
 else
 if (decide ((Int.tmod bits_0 8388608)>65535))=true then
  ZaB.p1 N bits_0 (decide ((w64 (Int.tdiv bits_0 16777216))>32)) x1
 else
 ZaB.p1 N bits_0 false x1
noncomputable def ZaB.p1.S (bits_0:Int) (over_2:Bool) (x1:List Int) (st:LL):S:=mkS 61 [(2,.one (.adr (.site 2) 0)),(6,.one (.l (L.int .i64 (Int.tmod bits_0 8388608)))),(7,.one (.l (L.bool ((Int.tmod (w64 (Int.tdiv bits_0 8388608)) 2)==1)))),(8,.one (.adr (.site 8) 0)),(9,.one (.l (L.bool over_2)))] [(2,.cells [L.arr .u64 4 (List.replicate 4 0)]),(8,.cells [L.arr .u64 4 x1])] st
theorem ZaB.p1_ok {bits_0 over_2 x1 st r} (h:ZaB.p1 N bits_0 over_2 x1=some r) (hE:En Tryz.f100 g0 w0 (ZaB.rs r) st R):At g0 w0 (ZaB.p1.S bits_0 over_2 x1 st) (XK Tryz.prog R [.c (csub ZaB.B [1,1,1,1,1,1,1])]):=by
 unfold ZaB.p1 at h
 refine iteB h (fun c14 h1=>?_) (fun c14 h2=>?_)<;>clear h
 ·obtain rfl:=Zab h1
  exact af fol hE [.r []] [] 0 [] (aI c14 c14)
 ·obtain rfl:=Zab h2
  exact af fol hE [.r [(4,{want:=false}),(5,{yes:=false})]] [] 0 [] (aI c14 c14)
theorem ZaB.snd {bits_0:Int} {r:(List Int)×Bool×Bool} (h:ZaB N bits_0=some r):SndQ Tryz.prog 100 [.one (L.int .i64 bits_0)] (ZaB.rs r):=fun st=>
 sO ZaB.B Tryz.func100 fun g0 w0 R hE=>by
  unfold ZaB at h
  refine iteB h (fun c1 h3=>?_) (fun c1 h4=>?_)<;>clear h
  ·obtain rfl:=Zab h3
   exact af fol hE [.r [],.r [(3,{want:=false}),(4,{want:=false})],.c true,.r []] [] 0 [] (aK c1 c1 c1 (eB true))
  ·refine iteB h4 (fun c2 h5=>?_) (fun c2 h6=>?_)<;>clear h4
   ·obtain rfl:=Zab h5
    exact af fol hE [.r [],.r [(5,{yes:=false})],.c true,.r []] [] 0 [] (aK c1 c1 c1 c2)
   ·obtain ⟨x1,c3,h7⟩:=Zad h6;clear h6
    refine iteB h7 (fun c4 h8=>?_) (fun c4 h9=>?_)<;>clear h7
    ·refine iteB h8 (fun c5 h10=>?_) (fun c5 h11=>?_)<;>clear h8
     ·exact aq fol [.r [],.r [(5,{yes:=false})],.c false,.r [],.r [],.r [],.r [(2,{m:=3}),(6,{rs:=[.agg [L.arr .u64 4 x1]],m:=1})],.r [(7,{want:=false}),(8,{want:=false}),(9,{want:=false}),(12,{want:=false}),(15,{want:=false}),(16,{want:=false}),(17,{want:=false}),(20,{want:=false})],.s 1] [2,6,7,8,9] [2,8] (aO c1 c1 c1 c2 (neI 16777216) (neI 8388608) (neI 8388608) (aO (neI 2) (Zaj.snd c3) c4 c4 c4 c5 c5 (aO c5 c5 c5 (eB true) (eB true) (eB true) (eB true) (eB true)))) (ZaB.p1_ok h10 hE)
     ·refine iteB h11 (fun c6 h12=>?_) (fun c6 h13=>?_)<;>clear h11
      ·refine iteB h12 (fun c7 h14=>?_) (fun c7 h15=>?_)<;>clear h12
       ·exact aq fol [.r [],.r [(5,{yes:=false})],.c false,.r [],.r [],.r [],.r [(2,{m:=3}),(6,{rs:=[.agg [L.arr .u64 4 x1]],m:=1})],.r [(13,{yes:=false}),(15,{want:=false}),(16,{want:=false}),(17,{want:=false}),(20,{want:=false})],.s 1] [2,6,7,8,9] [2,8] (aO c1 c1 c1 c2 (neI 16777216) (neI 8388608) (neI 8388608) (aO (neI 2) (Zaj.snd c3) c4 c4 c4 c5 c5 (aO c5 c6 c6 c5 c6 c5 c7 (aK c7 c7 c7 c7)))) (ZaB.p1_ok h14 hE)
       ·refine iteB h15 (fun c8 h16=>?_) (fun c8 h17=>?_)<;>clear h15
        ·exact aq fol [.r [],.r [(5,{yes:=false})],.c false,.r [],.r [],.r [],.r [(2,{m:=3}),(6,{rs:=[.agg [L.arr .u64 4 x1]],m:=1})],.r [(13,{yes:=false}),(21,{yes:=false})],.s 1] [2,6,7,8,9] [2,8] (aO c1 c1 c1 c2 (neI 16777216) (neI 8388608) (neI 8388608) (aO (neI 2) (Zaj.snd c3) c4 c4 c4 c5 c5 (aO c5 c6 c6 c5 c6 c5 c7 (aN c7 c7 c8 c8 c7 c8 c7)))) (ZaB.p1_ok h16 hE)
        ·exact aq fol [.r [],.r [(5,{yes:=false})],.c false,.r [],.r [],.r [],.r [(2,{m:=3}),(6,{rs:=[.agg [L.arr .u64 4 x1]],m:=1})],.r [(13,{yes:=false}),(18,{want:=false}),(19,{want:=false}),(20,{yes:=false}),(21,{yes:=false})],.s 1] [2,6,7,8,9] [2,8] (aO c1 c1 c1 c2 (neI 16777216) (neI 8388608) (neI 8388608) (aO (neI 2) (Zaj.snd c3) c4 c4 c4 c5 c5 (aO c5 c6 c6 c5 c6 c5 c7 (aN c7 c7 c8 c8 c7 c8 c7)))) (ZaB.p1_ok h17 hE)
      ·refine iteB h13 (fun c9 h18=>?_) (fun c9 h19=>?_)<;>clear h13
       ·exact aq fol [.r [],.r [(5,{yes:=false})],.c false,.r [],.r [],.r [],.r [(2,{m:=3}),(6,{rs:=[.agg [L.arr .u64 4 x1]],m:=1})],.r [(10,{want:=false}),(11,{want:=false}),(12,{yes:=false}),(13,{yes:=false}),(21,{yes:=false})],.s 1] [2,6,7,8,9] [2,8] (aO c1 c1 c1 c2 (neI 16777216) (neI 8388608) (neI 8388608) (aO (neI 2) (Zaj.snd c3) c4 c4 c4 c5 c5 (aO c5 c6 c6 c5 c6 c5 (eB false) (aN (eB false) (eB false) c9 c9 (eB false) c9 (eB false))))) (ZaB.p1_ok h18 hE)
       ·exact aq fol [.r [],.r [(5,{yes:=false})],.c false,.r [],.r [],.r [],.r [(2,{m:=3}),(6,{rs:=[.agg [L.arr .u64 4 x1]],m:=1})],.r [(10,{want:=false}),(11,{want:=false}),(12,{yes:=false}),(13,{yes:=false}),(18,{want:=false}),(19,{want:=false}),(20,{yes:=false}),(21,{yes:=false})],.s 1] [2,6,7,8,9] [2,8] (aO c1 c1 c1 c2 (neI 16777216) (neI 8388608) (neI 8388608) (aO (neI 2) (Zaj.snd c3) c4 c4 c4 c5 c5 (aO c5 c6 c6 c5 c6 c5 (eB false) (aN (eB false) (eB false) c9 c9 (eB false) c9 (eB false))))) (ZaB.p1_ok h19 hE)
    ·refine iteB h9 (fun c10 h20=>?_) (fun c10 h21=>?_)<;>clear h9
     ·refine iteB h20 (fun c11 h22=>?_) (fun c11 h23=>?_)<;>clear h20
      ·exact aq fol [.r [],.r [(5,{yes:=false})],.c false,.r [],.r [],.r [],.r [(2,{m:=3}),(6,{rs:=[.agg [L.arr .u64 4 x1]],m:=1})],.r [(3,{want:=false}),(4,{want:=false}),(5,{yes:=false}),(13,{yes:=false}),(15,{want:=false}),(16,{want:=false}),(17,{want:=false}),(20,{want:=false})],.s 1] [2,6,7,8,9] [2,8] (aO c1 c1 c1 c2 (neI 16777216) (neI 8388608) (neI 8388608) (aO (neI 2) (Zaj.snd c3) c4 c4 c4 (eB false) (eB false) (aO (eB false) c10 c10 (eB false) c10 (eB false) c11 (aK c11 c11 c11 c11)))) (ZaB.p1_ok h22 hE)
      ·refine iteB h23 (fun c12 h24=>?_) (fun c12 h25=>?_)<;>clear h23
       ·exact aq fol [.r [],.r [(5,{yes:=false})],.c false,.r [],.r [],.r [],.r [(2,{m:=3}),(6,{rs:=[.agg [L.arr .u64 4 x1]],m:=1})],.r [(3,{want:=false}),(4,{want:=false}),(5,{yes:=false}),(13,{yes:=false}),(21,{yes:=false})],.s 1] [2,6,7,8,9] [2,8] (aO c1 c1 c1 c2 (neI 16777216) (neI 8388608) (neI 8388608) (aO (neI 2) (Zaj.snd c3) c4 c4 c4 (eB false) (eB false) (aO (eB false) c10 c10 (eB false) c10 (eB false) c11 (aN c11 c11 c12 c12 c11 c12 c11)))) (ZaB.p1_ok h24 hE)
       ·exact aq fol [.r [],.r [(5,{yes:=false})],.c false,.r [],.r [],.r [],.r [(2,{m:=3}),(6,{rs:=[.agg [L.arr .u64 4 x1]],m:=1})],.r [(3,{want:=false}),(4,{want:=false}),(5,{yes:=false}),(13,{yes:=false}),(18,{want:=false}),(19,{want:=false}),(20,{yes:=false}),(21,{yes:=false})],.s 1] [2,6,7,8,9] [2,8] (aO c1 c1 c1 c2 (neI 16777216) (neI 8388608) (neI 8388608) (aO (neI 2) (Zaj.snd c3) c4 c4 c4 (eB false) (eB false) (aO (eB false) c10 c10 (eB false) c10 (eB false) c11 (aN c11 c11 c12 c12 c11 c12 c11)))) (ZaB.p1_ok h25 hE)
     ·refine iteB h21 (fun c13 h26=>?_) (fun c13 h27=>?_)<;>clear h21
      ·exact aq fol [.r [],.r [(5,{yes:=false})],.c false,.r [],.r [],.r [],.r [(2,{m:=3}),(6,{rs:=[.agg [L.arr .u64 4 x1]],m:=1})],.r [(3,{want:=false}),(4,{want:=false}),(5,{yes:=false}),(10,{want:=false}),(11,{want:=false}),(12,{yes:=false}),(13,{yes:=false}),(21,{yes:=false})],.s 1] [2,6,7,8,9] [2,8] (aO c1 c1 c1 c2 (neI 16777216) (neI 8388608) (neI 8388608) (aO (neI 2) (Zaj.snd c3) c4 c4 c4 (eB false) (eB false) (aO (eB false) c10 c10 (eB false) c10 (eB false) (eB false) (aN (eB false) (eB false) c13 c13 (eB false) c13 (eB false))))) (ZaB.p1_ok h26 hE)
      ·exact aq fol [.r [],.r [(5,{yes:=false})],.c false,.r [],.r [],.r [],.r [(2,{m:=3}),(6,{rs:=[.agg [L.arr .u64 4 x1]],m:=1})],.r [(3,{want:=false}),(4,{want:=false}),(5,{yes:=false}),(10,{want:=false}),(11,{want:=false}),(12,{yes:=false}),(13,{yes:=false}),(18,{want:=false}),(19,{want:=false}),(20,{yes:=false}),(21,{yes:=false})],.s 1] [2,6,7,8,9] [2,8] (aO c1 c1 c1 c2 (neI 16777216) (neI 8388608) (neI 8388608) (aO (neI 2) (Zaj.snd c3) c4 c4 c4 (eB false) (eB false) (aO (eB false) c10 c10 (eB false) c10 (eB false) (eB false) (aN (eB false) (eB false) c13 c13 (eB false) c13 (eB false))))) (ZaB.p1_ok h27 hE)
noncomputable def Zcg.B:Code:=Tryz.f124.body.getD .skip
noncomputable def Zcg.rs (r:Int):List CV:=[.one (L.int .i64 r)]
noncomputable def Zcg (N:Nat) (a_0_0:List Int) (i_1:Int):Option Int:=
 if (decide (i_1<0))=true then
  some 0
 else
 if (decide (i_1>255))=true then
  some 0
 else
 chk (0≤(w64 (Int.tdiv i_1 64)))<|
 chk ((w64 (Int.tdiv i_1 64))<4)<|
 chk (0≤(v64 (Int.tmod i_1 64)))<|
 some (w64 (Int.tmod (shrOf .u64 (List.getD a_0_0 (Int.toNat (w64 (Int.tdiv i_1 64))) 0) (v64 (Int.tmod i_1 64))) 2))
theorem Zcg.snd {a_0_0:List Int} {i_1:Int} {r:Int} (h:Zcg N a_0_0 i_1=some r):SndQ Tryz.prog 124 [.agg [L.arr .u64 4 a_0_0],.one (L.int .i64 i_1)] (Zcg.rs r):=fun st=>
 sO Zcg.B Tryz.func124 fun g0 w0 R hE=>by
  unfold Zcg at h
  refine iteB h (fun c1 h1=>?_) (fun c1 h2=>?_)<;>clear h
  ·obtain rfl:=Zab h1
   exact af fol hE [.r [],.r [(3,{want:=false}),(4,{want:=false})],.c true,.r []] [] 0 [] (aK c1 c1 c1 (eB true))
  ·refine iteB h2 (fun c2 h3=>?_) (fun c2 h4=>?_)<;>clear h2
   ·obtain rfl:=Zab h3
    exact af fol hE [.r [],.r [(5,{yes:=false})],.c true,.r []] [] 0 [] (aK c1 c1 c1 c2)
   ·obtain ⟨c3,c4,c5,h5⟩:=ck3 h4;clear h4
    obtain rfl:=Zab h5
    exact af fol hE [.r [],.r [(5,{yes:=false})],.c false,.r []] [] 0 [] (aO c1 c1 c1 c2 (neI 64) c3 c4 (aJ (neI 64) c5 (neI 2)))
noncomputable def Zba.B:Code:=Tryz.f96.body.getD .skip
noncomputable def Zba.rs (r:Bool):List CV:=[.one (L.bool r)]
noncomputable def Zba.p1 (N:Nat) (a_0_0 b_1_0:List Int) (c1_:Int→Option Bool):Int→Option Bool:=fun i_1=>
 if (decide (i_1≥0))=true then
  optE (Zcg N a_0_0 i_1) fun x2=>
  optE (Zcg N b_1_0 i_1) fun x3=>
  if (x2 != x3)=true then
   some (decide (x2<x3))
  else
  c1_ (w64 (i_1-1))
 else
 some false
noncomputable def Zba (N:Nat) (a_0_0 b_1_0:List Int):Option Bool:=
 loopN (Zba.p1 N a_0_0 b_1_0) N 255
noncomputable def Zba.p1.S (i_1:Int) (a_0_0 b_1_0:List Int) (st:LL):S:=mkS 24 [(2,.one (.adr (.site 2) 0)),(3,.one (.adr (.site 3) 0)),(5,.one (.l (L.int .i64 i_1)))] [(2,.cells [L.arr .u64 4 a_0_0]),(3,.cells [L.arr .u64 4 b_1_0])] st
theorem Zba.p1_ok {i_1 a_0_0 b_1_0 st r c1_ J1} (h:Zba.p1 N a_0_0 b_1_0 c1_ i_1=some r) (hE:En Tryz.f96 g0 w0 (Zba.rs r) st R) (hc1 : ∀i_1,c1_ i_1=some r→At g0 w0 (Zba.p1.S i_1 a_0_0 b_1_0 st) J1):At g0 w0 (Zba.p1.S i_1 a_0_0 b_1_0 st) (XK Tryz.prog R (.c (csub Zba.B [1,0,1,0,0]) :: .h J1 :: [.b 0,.c (csub Zba.B [1,1])])):=by
 unfold Zba.p1 at h
 refine iteB h (fun c1 h1=>?_) (fun c1 h2=>?_)<;>clear h
 ·obtain ⟨x2,c2,h3⟩:=Zad h1;clear h1
  obtain ⟨x3,c3,h4⟩:=Zad h3;clear h3
  refine iteB h4 (fun c4 h5=>?_) (fun c4 h6=>?_)<;>clear h4
  ·obtain rfl:=Zab h5
   exact afd fol hE [.r [],.c true,.d {ds:=[(2,{rs:=[.one (L.int .i64 x2)],m:=1}),(5,{rs:=[.one (L.int .i64 x3)],m:=1})],hv:=0,Hs:=[]},.c true,.d {ds:=[(2,{rs:=[.one (L.int .i64 x2)],m:=1}),(5,{rs:=[.one (L.int .i64 x3)],m:=1})],hv:=0,Hs:=[]}] [] 0 [] (aM c1 (Zcg.snd c2) (Zcg.snd c3) c4 (Zcg.snd c2) (Zcg.snd c3))
  ·exact and_ fol [.r [],.c true,.d {ds:=[(2,{rs:=[.one (L.int .i64 x2)],m:=1}),(5,{rs:=[.one (L.int .i64 x3)],m:=1})],hv:=0,Hs:=[]},.c false,.r []] [2,3,5] [2,3] (aK c1 (Zcg.snd c2) (Zcg.snd c3) c4) (hc1 (w64 (i_1-1)) h6)
 ·obtain rfl:=Zab h2
  exact af fol hE [.r [],.c false,.r []] [] 0 [] c1
theorem Zba.snd {a_0_0 b_1_0:List Int} {r:Bool} (h:Zba N a_0_0 b_1_0=some r):SndQ Tryz.prog 96 [.agg [L.arr .u64 4 a_0_0],.agg [L.arr .u64 4 b_1_0]] (Zba.rs r):=fun st=>
 sO Zba.B Tryz.func96 fun g0 w0 R hE=>by
  unfold Zba at h
  exact aq fol [.r [],.r []] [2,3,5] [2,3] trivial (At.loop N (At.loopN (fun y:Int=>Zba.p1.S y a_0_0 b_1_0 st) (fun c J hc y h=>Zba.p1_ok h hE (fun i_1=>hc i_1)) N 255 h))
noncomputable def Zbf.B:Code:=Tryz.f95.body.getD .skip
noncomputable def Zbf.rs (r:(List Int)×Bool):List CV:=[.agg [L.arr .u64 4 r.1],.one (L.bool r.2)]
noncomputable def Zbf (N:Nat) (bits_0 limit_1:Int):Option ((List Int)×Bool):=
 optE (ZaB N bits_0) fun (x1,x2,x3)=>
 optE (ZaB N limit_1) fun (x4,x5,x6)=>
 if x2=true then
  some (List.replicate 4 0,false)
 else
 if x3=true then
  some (List.replicate 4 0,false)
 else
 if x5=true then
  some (List.replicate 4 0,false)
 else
 if x6=true then
  some (List.replicate 4 0,false)
 else
 if (x1==(List.replicate 4 0))=true then
  some (List.replicate 4 0,false)
 else
 optE (Zba N x4 x1) fun x7=>
 if x7=true then
  some (List.replicate 4 0,false)
 else
 some (x1,true)
theorem Zbf.snd {bits_0 limit_1:Int} {r:(List Int)×Bool} (h:Zbf N bits_0 limit_1=some r):SndQ Tryz.prog 95 [.one (L.int .i64 bits_0),.one (L.int .i64 limit_1)] (Zbf.rs r):=fun st=>
 sO Zbf.B Tryz.func95 fun g0 w0 R hE=>by
  unfold Zbf at h
  obtain ⟨⟨x1,x2,x3⟩,c1,h1⟩:=Zad h;clear h
  obtain ⟨⟨x4,x5,x6⟩,c2,h2⟩:=Zad h1;clear h1
  refine iteB h2 (fun c3 h3=>?_) (fun c3 h4=>?_)<;>clear h2
  ·obtain rfl:=Zab h3
   exact af fol hE [.r [],.r [(1,{rs:=[.agg [L.arr .u64 4 x1],.one (L.bool x2),.one (L.bool x3)],m:=1})],.r [(1,{rs:=[.agg [L.arr .u64 4 x4],.one (L.bool x5),.one (L.bool x6)],m:=1})],.r [(2,{want:=false}),(5,{want:=false}),(8,{want:=false}),(11,{want:=false}),(12,{want:=false}),(13,{want:=false}),(16,{want:=false}),(17,{want:=false}),(18,{want:=false})],.c true,.r []] [] 0 [] (aO (ZaB.snd c1) (ZaB.snd c2) c3 c3 (eB true) (eB true) (eB true) (aO (eB true) (eB true) (eB true) (eB true) (eB true) (eB true) (eB true) (aJ (eB true) (eB true) (eB true))))
  ·refine iteB h4 (fun c4 h5=>?_) (fun c4 h6=>?_)<;>clear h4
   ·obtain rfl:=Zab h5
    exact af fol hE [.r [],.r [(1,{rs:=[.agg [L.arr .u64 4 x1],.one (L.bool x2),.one (L.bool x3)],m:=1})],.r [(1,{rs:=[.agg [L.arr .u64 4 x4],.one (L.bool x5),.one (L.bool x6)],m:=1})],.r [(3,{yes:=false}),(5,{want:=false}),(8,{want:=false}),(11,{want:=false}),(12,{want:=false}),(13,{want:=false}),(16,{want:=false}),(17,{want:=false}),(18,{want:=false})],.c true,.r []] [] 0 [] (aO (ZaB.snd c1) (ZaB.snd c2) c3 c3 c4 c4 (eB true) (aO (eB true) (eB true) (eB true) (eB true) (eB true) (eB true) (eB true) (aJ (eB true) (eB true) (eB true))))
   ·refine iteB h6 (fun c5 h7=>?_) (fun c5 h8=>?_)<;>clear h6
    ·obtain rfl:=Zab h7
     exact af fol hE [.r [],.r [(1,{rs:=[.agg [L.arr .u64 4 x1],.one (L.bool x2),.one (L.bool x3)],m:=1})],.r [(1,{rs:=[.agg [L.arr .u64 4 x4],.one (L.bool x5),.one (L.bool x6)],m:=1})],.r [(3,{yes:=false}),(6,{yes:=false}),(8,{want:=false}),(11,{want:=false}),(12,{want:=false}),(13,{want:=false}),(16,{want:=false}),(17,{want:=false}),(18,{want:=false})],.c true,.r []] [] 0 [] (aO (ZaB.snd c1) (ZaB.snd c2) c3 c3 c4 c4 c5 (aO c5 (eB true) (eB true) (eB true) (eB true) (eB true) (eB true) (aJ (eB true) (eB true) (eB true))))
    ·refine iteB h8 (fun c6 h9=>?_) (fun c6 h10=>?_)<;>clear h8
     ·obtain rfl:=Zab h9
      exact af fol hE [.r [],.r [(1,{rs:=[.agg [L.arr .u64 4 x1],.one (L.bool x2),.one (L.bool x3)],m:=1})],.r [(1,{rs:=[.agg [L.arr .u64 4 x4],.one (L.bool x5),.one (L.bool x6)],m:=1})],.r [(3,{yes:=false}),(6,{yes:=false}),(9,{yes:=false}),(11,{want:=false}),(12,{want:=false}),(13,{want:=false}),(16,{want:=false}),(17,{want:=false}),(18,{want:=false})],.c true,.r []] [] 0 [] (aO (ZaB.snd c1) (ZaB.snd c2) c3 c3 c4 c4 c5 (aO c5 c6 c6 c6 c6 (eB true) (eB true) (aJ (eB true) (eB true) (eB true))))
     ·refine iteB h10 (fun c7 h11=>?_) (fun c7 h12=>?_)<;>clear h10
      ·obtain rfl:=Zab h11
       exact af fol hE [.r [],.r [(1,{rs:=[.agg [L.arr .u64 4 x1],.one (L.bool x2),.one (L.bool x3)],m:=1})],.r [(1,{rs:=[.agg [L.arr .u64 4 x4],.one (L.bool x5),.one (L.bool x6)],m:=1})],.r [(3,{yes:=false}),(6,{yes:=false}),(9,{yes:=false}),(14,{yes:=false}),(16,{want:=false}),(17,{want:=false}),(18,{want:=false})],.c true,.r []] [] 0 [] (aO (ZaB.snd c1) (ZaB.snd c2) c3 c3 c4 c4 c5 (aO c5 c6 c6 c6 c6 c7 c7 (aJ c7 c7 (eB true))))
      ·obtain ⟨x7,c8,h13⟩:=Zad h12;clear h12
       refine iteB h13 (fun c9 h14=>?_) (fun c9 h15=>?_)<;>clear h13
       ·obtain rfl:=Zab h14
        exact af fol hE [.r [],.r [(1,{rs:=[.agg [L.arr .u64 4 x1],.one (L.bool x2),.one (L.bool x3)],m:=1})],.r [(1,{rs:=[.agg [L.arr .u64 4 x4],.one (L.bool x5),.one (L.bool x6)],m:=1})],.r [(3,{yes:=false}),(6,{yes:=false}),(9,{yes:=false}),(14,{yes:=false}),(18,{rs:=[.one (L.bool x7)],m:=1}),(19,{yes:=false})],.c true,.r []] [] 0 [] (aO (ZaB.snd c1) (ZaB.snd c2) c3 c3 c4 c4 c5 (aO c5 c6 c6 c6 c6 c7 c7 (aK c7 (Zba.snd c8) c7 c9)))
       ·obtain rfl:=Zab h15
        exact af fol hE [.r [],.r [(1,{rs:=[.agg [L.arr .u64 4 x1],.one (L.bool x2),.one (L.bool x3)],m:=1})],.r [(1,{rs:=[.agg [L.arr .u64 4 x4],.one (L.bool x5),.one (L.bool x6)],m:=1})],.r [(3,{yes:=false}),(6,{yes:=false}),(9,{yes:=false}),(14,{yes:=false}),(18,{rs:=[.one (L.bool x7)],m:=1}),(19,{yes:=false})],.c false,.r []] [] 0 [] (aO (ZaB.snd c1) (ZaB.snd c2) c3 c3 c4 c4 c5 (aO c5 c6 c6 c6 c6 c7 c7 (aK c7 (Zba.snd c8) c7 c9)))
noncomputable def Zcx.B:Code:=Tryz.f65.body.getD .skip
noncomputable def Zcx.rs (r:Bool):List CV:=[.one (L.bool r)]
noncomputable def Zcx (N:Nat) (p_0:Zae):Option Bool:=
 optE (Zbf N p_0.Limit p_0.Limit) fun (x1,x2)=>
 if x2=true then
  if (decide (p_0.Interval≥2))=true then
   if (decide (p_0.Interval≤64))=true then
    if (decide (p_0.Spacing≥1))=true then
     if (decide (p_0.Spacing≤10000))=true then
      if (decide (p_0.Future≥0))=true then
       some (decide (p_0.Future<4294967296))
      else
      some false
     else
     some false
    else
    some false
   else
   some false
  else
  some false
 else
 some false
theorem Zcx.snd {p_0:Zae} {r:Bool} (h:Zcx N p_0=some r):SndQ Tryz.prog 65 [.agg p_0.ls] (Zcx.rs r):=fun st=>
 sO Zcx.B Tryz.func65 fun g0 w0 R hE=>by
  unfold Zcx at h
  obtain ⟨⟨x1,x2⟩,c1,h1⟩:=Zad h;clear h
  refine iteB h1 (fun c2 h2=>?_) (fun c2 h3=>?_)<;>clear h1
  ·refine iteB h2 (fun c3 h4=>?_) (fun c3 h5=>?_)<;>clear h2
   ·refine iteB h4 (fun c4 h6=>?_) (fun c4 h7=>?_)<;>clear h4
    ·refine iteB h6 (fun c5 h8=>?_) (fun c5 h9=>?_)<;>clear h6
     ·refine iteB h8 (fun c6 h10=>?_) (fun c6 h11=>?_)<;>clear h8
      ·refine iteB h10 (fun c7 h12=>?_) (fun c7 h13=>?_)<;>clear h10
       ·obtain rfl:=Zab h12
        exact af fol hE [.r [],.r [(4,{rs:=[.agg [L.arr .u64 4 x1],.one (L.bool x2)],m:=1})],.r []] [] 0 [] (aO (Zbf.snd c1) c2 c2 c2 c2 c3 c3 (aO c3 c3 c4 c4 c4 c4 c5 (aO c5 c5 c5 c6 c6 c6 c6 (aK c7 c7 c7 c7))))
       ·obtain rfl:=Zab h13
        exact af fol hE [.r [],.r [(4,{rs:=[.agg [L.arr .u64 4 x1],.one (L.bool x2)],m:=1})],.r [(27,{want:=false}),(28,{want:=false}),(29,{want:=false}),(30,{yes:=false})]] [] 0 [] (aO (Zbf.snd c1) c2 c2 c2 c2 c3 c3 (aO c3 c3 c4 c4 c4 c4 c5 (aO c5 c5 c5 c6 c6 c6 c6 (aK c7 c7 c7 c7))))
      ·obtain rfl:=Zab h11
       exact af fol hE [.r [],.r [(4,{rs:=[.agg [L.arr .u64 4 x1],.one (L.bool x2)],m:=1})],.r [(22,{want:=false}),(23,{want:=false}),(24,{want:=false}),(25,{yes:=false}),(27,{want:=false}),(28,{want:=false}),(29,{want:=false}),(30,{yes:=false})]] [] 0 [] (aO (Zbf.snd c1) c2 c2 c2 c2 c3 c3 (aO c3 c3 c4 c4 c4 c4 c5 (aO c5 c5 c5 c6 c6 c6 c6 (aK (eB false) (eB false) (eB false) (eB false)))))
     ·obtain rfl:=Zab h9
      exact af fol hE [.r [],.r [(4,{rs:=[.agg [L.arr .u64 4 x1],.one (L.bool x2)],m:=1})],.r [(17,{want:=false}),(18,{want:=false}),(19,{want:=false}),(20,{yes:=false}),(22,{want:=false}),(23,{want:=false}),(24,{want:=false}),(25,{yes:=false}),(27,{want:=false}),(28,{want:=false}),(29,{want:=false}),(30,{yes:=false})]] [] 0 [] (aO (Zbf.snd c1) c2 c2 c2 c2 c3 c3 (aO c3 c3 c4 c4 c4 c4 c5 (aO c5 c5 c5 (eB false) (eB false) (eB false) (eB false) (aK (eB false) (eB false) (eB false) (eB false)))))
    ·obtain rfl:=Zab h7
     exact af fol hE [.r [],.r [(4,{rs:=[.agg [L.arr .u64 4 x1],.one (L.bool x2)],m:=1})],.r [(12,{want:=false}),(13,{want:=false}),(14,{want:=false}),(15,{yes:=false}),(17,{want:=false}),(18,{want:=false}),(19,{want:=false}),(20,{yes:=false}),(22,{want:=false}),(23,{want:=false}),(24,{want:=false}),(25,{yes:=false}),(27,{want:=false}),(28,{want:=false}),(29,{want:=false}),(30,{yes:=false})]] [] 0 [] (aO (Zbf.snd c1) c2 c2 c2 c2 c3 c3 (aO c3 c3 c4 c4 c4 c4 (eB false) (aO (eB false) (eB false) (eB false) (eB false) (eB false) (eB false) (eB false) (aK (eB false) (eB false) (eB false) (eB false)))))
   ·obtain rfl:=Zab h5
    exact af fol hE [.r [],.r [(4,{rs:=[.agg [L.arr .u64 4 x1],.one (L.bool x2)],m:=1})],.r [(7,{want:=false}),(8,{want:=false}),(9,{want:=false}),(10,{yes:=false}),(12,{want:=false}),(13,{want:=false}),(14,{want:=false}),(15,{yes:=false}),(17,{want:=false}),(18,{want:=false}),(19,{want:=false}),(20,{yes:=false}),(22,{want:=false}),(23,{want:=false}),(24,{want:=false}),(25,{yes:=false}),(27,{want:=false}),(28,{want:=false}),(29,{want:=false}),(30,{yes:=false})]] [] 0 [] (aO (Zbf.snd c1) c2 c2 c2 c2 c3 c3 (aO c3 c3 (eB false) (eB false) (eB false) (eB false) (eB false) (aO (eB false) (eB false) (eB false) (eB false) (eB false) (eB false) (eB false) (aK (eB false) (eB false) (eB false) (eB false)))))
  ·obtain rfl:=Zab h3
   exact af fol hE [.r [],.r [(4,{rs:=[.agg [L.arr .u64 4 x1],.one (L.bool x2)],m:=1})],.r [(2,{want:=false}),(3,{want:=false}),(4,{want:=false}),(5,{yes:=false}),(7,{want:=false}),(8,{want:=false}),(9,{want:=false}),(10,{yes:=false}),(12,{want:=false}),(13,{want:=false}),(14,{want:=false}),(15,{yes:=false}),(17,{want:=false}),(18,{want:=false}),(19,{want:=false}),(20,{yes:=false}),(22,{want:=false}),(23,{want:=false}),(24,{want:=false}),(25,{yes:=false}),(27,{want:=false}),(28,{want:=false}),(29,{want:=false}),(30,{yes:=false})]] [] 0 [] (aO (Zbf.snd c1) c2 c2 c2 c2 (eB false) (eB false) (aO (eB false) (eB false) (eB false) (eB false) (eB false) (eB false) (eB false) (aO (eB false) (eB false) (eB false) (eB false) (eB false) (eB false) (eB false) (aK (eB false) (eB false) (eB false) (eB false)))))
noncomputable def ZaW.B:Code:=Tryz.f21.body.getD .skip
noncomputable def ZaW.rs (r:Bool):List CV:=[.one (L.bool r)]
noncomputable def ZaW.p2 (N:Nat) (p_0:Zae) (c2_:(Int×Int)→Option Bool):(Int×Int)→Option Bool:=fun (last_6,v7)=>
 if (decide (v7<(len p_0.Checks)))=true then
  chk (0≤v7)<|
  getE (p_0.Checks[Int.toNat v7]?) Zdu fun x8=>
  if (decide (x8.Height≤last_6))=true then
   some false
  else
  c2_ (x8.Height,w64 (v7+1))
 else
 some true
noncomputable def ZaW.p1 (N:Nat) (p_0:Zae) (c1_:(Int×Int)→Option Bool):(Int×Int)→Option Bool:=fun (last_3,v4)=>
 if (decide (v4<(len p_0.Gates)))=true then
  chk (0≤v4)<|
  getE (p_0.Gates[Int.toNat v4]?) ZdB fun x5=>
  if (decide (x5.Height≤last_3))=true then
   some false
  else
  c1_ (x5.Height,w64 (v4+1))
 else
 loopN (ZaW.p2 N p_0) N (0,0)
noncomputable def ZaW (N:Nat) (p_0:Zae):Option Bool:=
 optE (Zcx N p_0) fun x1=>
 if (!x1)=true then
  some false
 else
 optE (ZbN N p_0.Genesis) fun x2=>
 if (!x2)=true then
  some false
 else
 loopN (ZaW.p1 N p_0) N ((-1),0)
noncomputable def ZaW.p2.S (last_6:Int) (p_0:Zae) (v7:Int) (st:LL):S:=mkS 45 [(3,.one (.l (L.int .i64 last_6))),(32,.one (.l (L.sl 33 p_0.Checks))),(33,.one (.l (L.int .i64 (len p_0.Checks)))),(34,.one (.l (L.int .i64 v7)))] [] st
noncomputable def ZaW.p1.S (last_3:Int) (p_0:Zae) (v4:Int) (st:LL):S:=mkS 45 [(1,.one (.adr (.site 1) 0)),(3,.one (.l (L.int .i64 last_3))),(18,.one (.l (L.sl 2 p_0.Gates))),(19,.one (.l (L.int .i64 (len p_0.Gates)))),(20,.one (.l (L.int .i64 v4)))] [(1,.cells p_0.ls)] st
theorem ZaW.p2_ok {last_6 p_0 v7 st r c2_ J2} (h:ZaW.p2 N p_0 c2_ (last_6,v7)=some r) (hE:En Tryz.f21 g0 w0 (ZaW.rs r) st R) (hc2 : ∀last_6 v7,c2_ (last_6,v7)=some r→At g0 w0 (ZaW.p2.S last_6 p_0 v7 st) J2):At g0 w0 (ZaW.p2.S last_6 p_0 v7 st) (XK Tryz.prog R (.c (csub ZaW.B [1,1,1,1,1,0,1,0,0]) :: .h J2 :: [.b 2,.c (csub ZaW.B [1,1,1,1,1,1])])):=by
 unfold ZaW.p2 at h
 refine iteB h (fun c9 h1=>?_) (fun c9 h2=>?_)<;>clear h
 ·obtain ⟨c10,h3⟩:=ZaT h1;clear h1
  obtain ⟨x8,c11,h4⟩:=Zdy h3;clear h3
  refine iteB h4 (fun c12 h5=>?_) (fun c12 h6=>?_)<;>clear h4
  ·obtain rfl:=Zab h5
   exact af fol hE [.r [],.c true,.r [(1,{oe:=x8.ls})],.r [],.c true,.r []] [] 0 [] (aL c9 c10 (oD c9) c11 c12)
  ·exact an fol [.r [],.c true,.r [(1,{oe:=x8.ls})],.r [],.c false,.r [],.r []] [3,32,33,34] [] (aL c9 c10 (oD c9) c11 c12) (hc2 x8.Height (w64 (v7+1)) h6)
 ·obtain rfl:=Zab h2
  exact af fol hE [.r [],.c false,.r []] [] 0 [] c9
theorem ZaW.p1_ok {last_3 p_0 v4 st r c1_ J1} (h:ZaW.p1 N p_0 c1_ (last_3,v4)=some r) (hE:En Tryz.f21 g0 w0 (ZaW.rs r) st R) (hc1 : ∀last_3 v4,c1_ (last_3,v4)=some r→At g0 w0 (ZaW.p1.S last_3 p_0 v4 st) J1):At g0 w0 (ZaW.p1.S last_3 p_0 v4 st) (XK Tryz.prog R (.c (csub ZaW.B [1,1,1,0,1,0,0]) :: .h J1 :: [.b 0,.c (csub ZaW.B [1,1,1,1])])):=by
 unfold ZaW.p1 at h
 refine iteB h (fun c5 h7=>?_) (fun c5 h8=>?_)<;>clear h
 ·obtain ⟨c6,h9⟩:=ZaT h7;clear h7
  obtain ⟨x5,c7,h10⟩:=ZdE h9;clear h9
  refine iteB h10 (fun c8 h11=>?_) (fun c8 h12=>?_)<;>clear h10
  ·obtain rfl:=Zab h11
   exact af fol hE [.r [],.c true,.r [(1,{oe:=x5.ls})],.r [],.c true,.r []] [] 0 [] (aL c5 c6 (oD c5) c7 c8)
  ·exact an fol [.r [],.c true,.r [(1,{oe:=x5.ls})],.r [],.c false,.r [],.r []] [1,3,18,19,20] [1] (aL c5 c6 (oD c5) c7 c8) (hc1 x5.Height (w64 (v4+1)) h12)
 ·exact aq fol [.r [],.c false,.r [],.r []] [3,32,33,34] [] c5 (At.loop N (At.loopN (fun y:Int×Int=>ZaW.p2.S y.1 p_0 y.2 st) (fun c J hc y h=>ZaW.p2_ok (last_6:=y.1) (v7:=y.2) h hE (fun last_6 v7=>hc (last_6,v7))) N (0,0) h8))
theorem ZaW.snd {p_0:Zae} {r:Bool} (h:ZaW N p_0=some r):SndQ Tryz.prog 21 [.agg p_0.ls] (ZaW.rs r):=fun st=>
 sO ZaW.B Tryz.func21 fun g0 w0 R hE=>by
  unfold ZaW at h
  obtain ⟨x1,c1,h13⟩:=Zad h;clear h
  refine iteB h13 (fun c2 h14=>?_) (fun c2 h15=>?_)<;>clear h13
  ·obtain rfl:=Zab h14
   exact af fol hE [.r [],.r [(1,{rs:=[.one (L.bool x1)],m:=1}),(4,{want:=false}),(5,{want:=false}),(6,{want:=false}),(7,{want:=false})],.c true,.r []] [] 0 [] (aN (Zcx.snd c1) (not_false (Zbj c2)) (not_false (Zbj c2)) (not_false (Zbj c2)) (not_false (Zbj c2)) (not_false (Zbj c2)) (eB true))
  ·obtain ⟨x2,c3,h16⟩:=Zad h15;clear h15
   refine iteB h16 (fun c4 h17=>?_) (fun c4 h18=>?_)<;>clear h16
   ·obtain rfl:=Zab h17
    exact af fol hE [.r [],.r [(1,{rs:=[.one (L.bool x1)],m:=1}),(6,{rs:=[.one (L.bool x2)],m:=1}),(8,{yes:=false})],.c true,.r []] [] 0 [] (aO (Zcx.snd c1) (not_true (Zap c2)) (not_true (Zap c2)) (not_true (Zap c2)) (ZbN.snd c3) (not_true (Zap c2)) (not_true (Zap c2)) c4)
   ·exact aq fol [.r [],.r [(1,{rs:=[.one (L.bool x1)],m:=1}),(6,{rs:=[.one (L.bool x2)],m:=1}),(8,{yes:=false})],.c false,.r [],.r []] [1,3,18,19,20] [1] (aO (Zcx.snd c1) (not_true (Zap c2)) (not_true (Zap c2)) (not_true (Zap c2)) (ZbN.snd c3) (not_true (Zap c2)) (not_true (Zap c2)) c4) (At.loop N (At.loopN (fun y:Int×Int=>ZaW.p1.S y.1 p_0 y.2 st) (fun c J hc y h=>ZaW.p1_ok (last_3:=y.1) (v4:=y.2) h hE (fun last_3 v4=>hc (last_3,v4))) N ((-1),0) h18))
noncomputable def Zdl.B:Code:=Tryz.f130.body.getD .skip
noncomputable def Zdl.rs (r:(List Int)):List CV:=[.agg [L.arr .u64 4 r]]
noncomputable def Zdl (N:Nat) (a_0_0:List Int) (i_1:Int):Option (List Int):=
 chk (0≤(w64 (Int.tdiv i_1 64)))<|
 chk ((w64 (Int.tdiv i_1 64))<4)<|
 chk (0≤(v64 (Int.tmod i_1 64)))<|
 some (List.set a_0_0 (Int.toNat (w64 (Int.tdiv i_1 64))) (bitsOf .or .u64 (List.getD a_0_0 (Int.toNat (w64 (Int.tdiv i_1 64))) 0) (shlOf .u64 1 (v64 (Int.tmod i_1 64)))))
theorem Zdl.snd {a_0_0:List Int} {i_1:Int} {r:(List Int)} (h:Zdl N a_0_0 i_1=some r):SndQ Tryz.prog 130 [.agg [L.arr .u64 4 a_0_0],.one (L.int .i64 i_1)] (Zdl.rs r):=fun st=>
 sO Zdl.B Tryz.func130 fun g0 w0 R hE=>by
  unfold Zdl at h
  obtain ⟨c1,c2,c3,h1⟩:=ck3 h;clear h
  obtain rfl:=Zab h1
  exact af fol hE [.r [],.r [],.r []] [] 0 [] (aO (neI 64) (neI 64) c1 c2 (neI 64) c3 c1 c2)
noncomputable def ZaQ.B:Code:=Tryz.f102.body.getD .skip
noncomputable def ZaQ.rs (r:(List Int)×Bool):List CV:=[.agg [L.arr .u64 4 r.1],.one (L.bool r.2)]
noncomputable def ZaQ.p2 (N:Nat) (c1_:(Int×Int×(List Int))→Option ((List Int)×Bool)) (i_2 x8 x9 c_1:Int) (a_0_0 b_1_0 out_11:List Int):Option ((List Int)×Bool):=
 c1_ (w64 (Int.tdiv (w64 ((w64 (x8+x9))+c_1)) 2),w64 (i_2+1),out_11)
noncomputable def ZaQ.p1 (N:Nat) (a_0_0 b_1_0:List Int) (c1_:(Int×Int×(List Int))→Option ((List Int)×Bool)):(Int×Int×(List Int))→Option ((List Int)×Bool):=fun (c_1,i_2,out_7)=>
 if (decide (i_2<256))=true then
  optE (Zcg N a_0_0 i_2) fun x8=>
  optE (Zcg N b_1_0 i_2) fun x9=>
  if ((Int.tmod (w64 ((w64 (x8+x9))+c_1)) 2)==1)=true then
   optE (Zdl N out_7 i_2) fun x10=>
   ZaQ.p2 N c1_ i_2 x8 x9 c_1 a_0_0 b_1_0 x10
  else
  ZaQ.p2 N c1_ i_2 x8 x9 c_1 a_0_0 b_1_0 out_7
 else
 some (out_7,c_1==1)
noncomputable def ZaQ (N:Nat) (a_0_0 b_1_0:List Int):Option ((List Int)×Bool):=
 loopN (ZaQ.p1 N a_0_0 b_1_0) N (0,0,List.replicate 4 0)
noncomputable def ZaQ.p2.S (i_2 x8 x9 c_1:Int) (a_0_0 b_1_0 out_11:List Int) (st:LL):S:=mkS 35 [(2,.one (.adr (.site 2) 0)),(3,.one (.adr (.site 3) 0)),(4,.one (.adr (.site 4) 0)),(6,.one (.adr (.site 6) 0)),(8,.one (.l (L.int .i64 i_2))),(9,.one (.l (L.int .i64 (w64 ((w64 (x8+x9))+c_1)))))] [(2,.cells [L.arr .u64 4 a_0_0]),(3,.cells [L.arr .u64 4 b_1_0]),(4,.cells [L.arr .u64 4 (List.replicate 4 0)]),(6,.cells [L.arr .u64 4 out_11])] st
noncomputable def ZaQ.p1.S (c_1 i_2:Int) (a_0_0 b_1_0 out_7:List Int) (st:LL):S:=mkS 35 [(2,.one (.adr (.site 2) 0)),(3,.one (.adr (.site 3) 0)),(4,.one (.adr (.site 4) 0)),(6,.one (.adr (.site 6) 0)),(7,.one (.l (L.int .i64 c_1))),(8,.one (.l (L.int .i64 i_2)))] [(2,.cells [L.arr .u64 4 a_0_0]),(3,.cells [L.arr .u64 4 b_1_0]),(4,.cells [L.arr .u64 4 (List.replicate 4 0)]),(6,.cells [L.arr .u64 4 out_7])] st
theorem ZaQ.p2_ok {i_2 x8 x9 c_1 a_0_0 b_1_0 out_11 st r c1_ J1} (h:ZaQ.p2 N c1_ i_2 x8 x9 c_1 a_0_0 b_1_0 out_11=some r) (hE:En Tryz.f102 g0 w0 (ZaQ.rs r) st R) (hc1 : ∀c_1 i_2 out_7,c1_ (c_1,i_2,out_7)=some r→At g0 w0 (ZaQ.p1.S c_1 i_2 a_0_0 b_1_0 out_7 st) J1):At g0 w0 (ZaQ.p2.S i_2 x8 x9 c_1 a_0_0 b_1_0 out_11 st) (XK Tryz.prog R [.c (csub ZaQ.B [1,1,1,0,1,0,0,1,0,0,1,1]),.b 1,.c (csub ZaQ.B [1,1,1,0,1,0,0,1,1]),.h J1,.b 0,.c (csub ZaQ.B [1,1,1,1])]):=by
 unfold ZaQ.p2 at h
 exact an fol [.r [],.r []] [2,3,4,6,7,8] [2,3,4,6] (neI 2) (hc1 (w64 (Int.tdiv (w64 ((w64 (x8+x9))+c_1)) 2)) (w64 (i_2+1)) out_11 h)
theorem ZaQ.p1_ok {c_1 i_2 a_0_0 b_1_0 out_7 st r c1_ J1} (h:ZaQ.p1 N a_0_0 b_1_0 c1_ (c_1,i_2,out_7)=some r) (hE:En Tryz.f102 g0 w0 (ZaQ.rs r) st R) (hc1 : ∀c_1 i_2 out_7,c1_ (c_1,i_2,out_7)=some r→At g0 w0 (ZaQ.p1.S c_1 i_2 a_0_0 b_1_0 out_7 st) J1):At g0 w0 (ZaQ.p1.S c_1 i_2 a_0_0 b_1_0 out_7 st) (XK Tryz.prog R (.c (csub ZaQ.B [1,1,1,0,1,0,0]) :: .h J1 :: [.b 0,.c (csub ZaQ.B [1,1,1,1])])):=by
 unfold ZaQ.p1 at h
 refine iteB h (fun c6 h1=>?_) (fun c6 h2=>?_)<;>clear h
 ·obtain ⟨x8,c7,h3⟩:=Zad h1;clear h1
  obtain ⟨x9,c8,h4⟩:=Zad h3;clear h3
  refine iteB h4 (fun c9 h5=>?_) (fun c9 h6=>?_)<;>clear h4
  ·obtain ⟨x10,c10,h7⟩:=Zad h5;clear h5
   exact aqd fol [.r [],.c true,.d {ds:=[(2,{rs:=[.one (L.int .i64 x8)],m:=1}),(5,{rs:=[.one (L.int .i64 x9)],m:=1})],hv:=0,Hs:=[]},.r [],.c true,.r [(2,{rs:=[.agg [L.arr .u64 4 x10]],m:=1})],.s 6] [2,3,4,6,8,9] [2,3,4,6] (aM c6 (Zcg.snd c7) (Zcg.snd c8) (neI 2) c9 (Zdl.snd c10)) (ZaQ.p2_ok h7 hE hc1)
  ·exact aqd fol [.r [],.c true,.d {ds:=[(2,{rs:=[.one (L.int .i64 x8)],m:=1}),(5,{rs:=[.one (L.int .i64 x9)],m:=1})],hv:=0,Hs:=[]},.r [],.c false,.s 6] [2,3,4,6,8,9] [2,3,4,6] (aL c6 (Zcg.snd c7) (Zcg.snd c8) (neI 2) c9) (ZaQ.p2_ok h6 hE hc1)
 ·obtain rfl:=Zab h2
  exact af fol hE [.r [],.c false,.r []] [] 0 [] c6
theorem ZaQ.snd {a_0_0 b_1_0:List Int} {r:(List Int)×Bool} (h:ZaQ N a_0_0 b_1_0=some r):SndQ Tryz.prog 102 [.agg [L.arr .u64 4 a_0_0],.agg [L.arr .u64 4 b_1_0]] (ZaQ.rs r):=fun st=>
 sO ZaQ.B Tryz.func102 fun g0 w0 R hE=>by
  unfold ZaQ at h
  exact aq fol [.r [],.r [],.r [],.r []] [2,3,4,6,7,8] [2,3,4,6] trivial (At.loop N (At.loopN (fun y:Int×Int×(List Int)=>ZaQ.p1.S y.1 y.2.1 a_0_0 b_1_0 y.2.2 st) (fun c J hc y h=>ZaQ.p1_ok (c_1:=y.1) (i_2:=y.2.1) (out_7:=y.2.2) h hE (fun c_1 i_2 out_7=>hc (c_1,i_2,out_7))) N (0,0,List.replicate 4 0) h))
noncomputable def Zbh.B:Code:=Tryz.f131.body.getD .skip
noncomputable def Zbh.rs (r:(List Int)):List CV:=[.agg [L.arr .u64 4 r]]
noncomputable def Zbh.p2 (N:Nat) (c1_:(Int×(List Int))→Option (List Int)) (i_1:Int) (a_0_0 out_8:List Int):Option (List Int):=
 c1_ (w64 (i_1+1),out_8)
noncomputable def Zbh.p1 (N:Nat) (a_0_0:List Int) (c1_:(Int×(List Int))→Option (List Int)):(Int×(List Int))→Option (List Int):=fun (i_1,out_5)=>
 if (decide (i_1<256))=true then
  optE (Zcg N a_0_0 i_1) fun x6=>
  if (x6==0)=true then
   optE (Zdl N out_5 i_1) fun x7=>
   Zbh.p2 N c1_ i_1 a_0_0 x7
  else
  Zbh.p2 N c1_ i_1 a_0_0 out_5
 else
 some out_5
noncomputable def Zbh (N:Nat) (a_0_0:List Int):Option (List Int):=
 loopN (Zbh.p1 N a_0_0) N (0,List.replicate 4 0)
noncomputable def Zbh.p2.S (i_1:Int) (a_0_0 out_8:List Int) (st:LL):S:=mkS 18 [(1,.one (.adr (.site 1) 0)),(2,.one (.adr (.site 2) 0)),(3,.one (.adr (.site 3) 0)),(4,.one (.l (L.int .i64 i_1)))] [(1,.cells [L.arr .u64 4 a_0_0]),(2,.cells [L.arr .u64 4 (List.replicate 4 0)]),(3,.cells [L.arr .u64 4 out_8])] st
noncomputable def Zbh.p1.S (i_1:Int) (a_0_0 out_5:List Int) (st:LL):S:=mkS 18 [(1,.one (.adr (.site 1) 0)),(2,.one (.adr (.site 2) 0)),(3,.one (.adr (.site 3) 0)),(4,.one (.l (L.int .i64 i_1)))] [(1,.cells [L.arr .u64 4 a_0_0]),(2,.cells [L.arr .u64 4 (List.replicate 4 0)]),(3,.cells [L.arr .u64 4 out_5])] st
theorem Zbh.p2_ok {i_1 a_0_0 out_8 st r c1_ J1} (h:Zbh.p2 N c1_ i_1 a_0_0 out_8=some r) (hE:En Tryz.f131 g0 w0 (Zbh.rs r) st R) (hc1 : ∀i_1 out_5,c1_ (i_1,out_5)=some r→At g0 w0 (Zbh.p1.S i_1 a_0_0 out_5 st) J1):At g0 w0 (Zbh.p2.S i_1 a_0_0 out_8 st) (XK Tryz.prog R [.c (csub Zbh.B [1,1,0,1,0,0,1,1]),.h J1,.b 0,.c (csub Zbh.B [1,1,1])]):=by
 unfold Zbh.p2 at h
 exact an fol [.r []] [1,2,3,4] [1,2,3] trivial (hc1 (w64 (i_1+1)) out_8 h)
theorem Zbh.p1_ok {i_1 a_0_0 out_5 st r c1_ J1} (h:Zbh.p1 N a_0_0 c1_ (i_1,out_5)=some r) (hE:En Tryz.f131 g0 w0 (Zbh.rs r) st R) (hc1 : ∀i_1 out_5,c1_ (i_1,out_5)=some r→At g0 w0 (Zbh.p1.S i_1 a_0_0 out_5 st) J1):At g0 w0 (Zbh.p1.S i_1 a_0_0 out_5 st) (XK Tryz.prog R (.c (csub Zbh.B [1,1,0,1,0,0]) :: .h J1 :: [.b 0,.c (csub Zbh.B [1,1,1])])):=by
 unfold Zbh.p1 at h
 refine iteB h (fun c5 h1=>?_) (fun c5 h2=>?_)<;>clear h
 ·obtain ⟨x6,c6,h3⟩:=Zad h1;clear h1
  refine iteB h3 (fun c7 h4=>?_) (fun c7 h5=>?_)<;>clear h3
  ·obtain ⟨x7,c8,h6⟩:=Zad h4;clear h4
   exact aq fol [.r [],.c true,.r [(2,{rs:=[.one (L.int .i64 x6)],m:=1})],.c true,.r [(2,{rs:=[.agg [L.arr .u64 4 x7]],m:=1})],.s 4] [1,2,3,4] [1,2,3] (aK c5 (Zcg.snd c6) c7 (Zdl.snd c8)) (Zbh.p2_ok h6 hE hc1)
  ·exact aq fol [.r [],.c true,.r [(2,{rs:=[.one (L.int .i64 x6)],m:=1})],.c false,.s 4] [1,2,3,4] [1,2,3] (aJ c5 (Zcg.snd c6) c7) (Zbh.p2_ok h5 hE hc1)
 ·obtain rfl:=Zab h2
  exact af fol hE [.r [],.c false,.r []] [] 0 [] c5
theorem Zbh.snd {a_0_0:List Int} {r:(List Int)} (h:Zbh N a_0_0=some r):SndQ Tryz.prog 131 [.agg [L.arr .u64 4 a_0_0]] (Zbh.rs r):=fun st=>
 sO Zbh.B Tryz.func131 fun g0 w0 R hE=>by
  unfold Zbh at h
  exact aq fol [.r [],.r [],.r []] [1,2,3,4] [1,2,3] trivial (At.loop N (At.loopN (fun y:Int×(List Int)=>Zbh.p1.S y.1 a_0_0 y.2 st) (fun c J hc y h=>Zbh.p1_ok (i_1:=y.1) (out_5:=y.2) h hE (fun i_1 out_5=>hc (i_1,out_5))) N (0,List.replicate 4 0) h))
noncomputable def Zcy.B:Code:=Tryz.f103.body.getD .skip
noncomputable def Zcy.rs (r:(List Int)):List CV:=[.agg [L.arr .u64 4 r]]
noncomputable def Zcy (N:Nat):Option (List Int):=
 optE (Zbh N (List.replicate 4 0)) fun x1=>
 some x1
theorem Zcy.snd {r:(List Int)} (h:Zcy N=some r):SndQ Tryz.prog 103 [] (Zcy.rs r):=fun st=>
 sO Zcy.B Tryz.func103 fun g0 w0 R hE=>by
  unfold Zcy at h
  obtain ⟨x1,c1,h1⟩:=Zad h;clear h
  obtain rfl:=Zab h1
  exact af fol hE [.r [],.r [(1,{rs:=[.agg [L.arr .u64 4 x1]],m:=1})]] [] 0 [] (Zbh.snd c1)
noncomputable def ZcP.B:Code:=Tryz.f129.body.getD .skip
noncomputable def ZcP.rs (r:(List Int)×Bool):List CV:=[.agg [L.arr .u64 4 r.1],.one (L.bool r.2)]
noncomputable def ZcP (N:Nat) (a_0_0 b_1_0:List Int):Option ((List Int)×Bool):=
 optE (Zbh N b_1_0) fun x1=>
 optE (ZaQ N a_0_0 x1) fun (x2,x3)=>
 optE (ZaQ N x2 [1,0,0,0]) fun (x4,x5)=>
 optE (Zba N a_0_0 b_1_0) fun x6=>
 some (x4,x6)
theorem ZcP.snd {a_0_0 b_1_0:List Int} {r:(List Int)×Bool} (h:ZcP N a_0_0 b_1_0=some r):SndQ Tryz.prog 129 [.agg [L.arr .u64 4 a_0_0],.agg [L.arr .u64 4 b_1_0]] (ZcP.rs r):=fun st=>
 sO ZcP.B Tryz.func129 fun g0 w0 R hE=>by
  unfold ZcP at h
  obtain ⟨x1,c1,h1⟩:=Zad h;clear h
  obtain ⟨⟨x2,x3⟩,c2,h2⟩:=Zad h1;clear h1
  obtain ⟨⟨x4,x5⟩,c3,h3⟩:=Zad h2;clear h2
  obtain ⟨x6,c4,h4⟩:=Zad h3;clear h3
  obtain rfl:=Zab h4
  exact afd fol hE [.r [],.d {ds:=[(2,{rs:=[.agg [L.arr .u64 4 x1]],m:=1}),(3,{rs:=[.agg [L.arr .u64 4 x2],.one (L.bool x3)],m:=1})],hv:=384,Hs:=[128,384]},.r [(1,{m:=3}),(2,{rs:=[.agg [L.arr .u64 4 x4],.one (L.bool x5)],m:=1})],.d {ds:=[(3,{rs:=[.one (L.bool x6)],m:=1})],hv:=16,Hs:=[16]}] [] 0 [] (aM (Zbh.snd c1) (Zbh.snd c1) (ZaQ.snd c2) (ZaQ.snd c2) (ZaQ.snd c3) (Zba.snd c4))
noncomputable def ZaZ.B:Code:=Tryz.f101.body.getD .skip
noncomputable def ZaZ.rs (r:(List Int)):List CV:=[.agg [L.arr .u64 4 r]]
noncomputable def ZaZ.p2 (N:Nat) (c1_:(Int×(List Int)×(List Int))→Option (List Int)) (i_5:Int) (target_0_0 x1 out_36 rest_37:List Int):Option (List Int):=
 c1_ (w64 (i_5-1),out_36,rest_37)
noncomputable def ZaZ.p3 (N:Nat) (out_41:List Int):Option (List Int):=
 some out_41
noncomputable def ZaZ.p1 (N:Nat) (target_0_0 x1:List Int) (c1_:(Int×(List Int)×(List Int))→Option (List Int)):(Int×(List Int)×(List Int))→Option (List Int):=fun (i_5,out_23,rest_24)=>
 if (decide (i_5≥0))=true then
  optE (Zaj N x1 i_5) fun x25=>
  optE (Zaj N x25 (w64 (0-i_5))) fun x26=>
  if (!(x26==x1))=true then
   ZaZ.p2 N c1_ i_5 target_0_0 x1 out_23 rest_24
  else
  optE (ZcP N x25 [1,0,0,0]) fun (x27,x28)=>
  optE (Zba N rest_24 x27) fun x29=>
  if (!x29)=true then
   optE (ZcP N rest_24 x25) fun (x30,x31)=>
   optE (Zaj N [1,0,0,0] i_5) fun x32=>
   optE (ZaQ N out_23 x32) fun (x33,x34)=>
   optE (Zcy N ) fun x35=>
   if (x30==x35)=true then
    some x33
   else
   ZaZ.p2 N c1_ i_5 target_0_0 x1 x33 x30
  else
  ZaZ.p2 N c1_ i_5 target_0_0 x1 out_23 rest_24
 else
 optE (Zba N rest_24 target_0_0) fun x38=>
 if (!x38)=true then
  optE (ZaQ N out_23 [1,0,0,0]) fun (x39,x40)=>
  ZaZ.p3 N x39
 else
 ZaZ.p3 N out_23
noncomputable def ZaZ (N:Nat) (target_0_0:List Int):Option (List Int):=
 optE (ZaQ N target_0_0 [1,0,0,0]) fun (x1,x2)=>
 if x2=true then
  some [1,0,0,0]
 else
 if (target_0_0==(List.replicate 4 0))=true then
  optE (Zcy N ) fun x3=>
  some x3
 else
 optE (Zcy N ) fun x4=>
 loopN (ZaZ.p1 N target_0_0 x1) N (255,List.replicate 4 0,x4)
noncomputable def ZaZ.p2.S (i_5:Int) (target_0_0 x1 out_36 rest_37:List Int) (st:LL):S:=mkS 79 [(1,.one (.adr (.site 1) 0)),(2,.one (.adr (.site 2) 0)),(3,.one (.adr (.site 3) 0)),(4,.one (.adr (.site 4) 0)),(6,.one (.adr (.site 6) 0)),(7,.one (.adr (.site 7) 0)),(8,.one (.l (L.int .i64 i_5)))] [(1,.cells [L.arr .u64 4 target_0_0]),(2,.cells [L.arr .u64 4 (List.replicate 4 0)]),(3,.cells [L.arr .u64 4 [1,0,0,0]]),(4,.cells [L.arr .u64 4 x1]),(6,.cells [L.arr .u64 4 out_36]),(7,.cells [L.arr .u64 4 rest_37])] st
noncomputable def ZaZ.p3.S (out_41:List Int) (st:LL):S:=mkS 79 [(2,.one (.adr (.site 2) 0)),(6,.one (.adr (.site 6) 0))] [(2,.cells [L.arr .u64 4 (List.replicate 4 0)]),(6,.cells [L.arr .u64 4 out_41])] st
noncomputable def ZaZ.p1.S (i_5:Int) (target_0_0 x1 out_23 rest_24:List Int) (st:LL):S:=mkS 79 [(1,.one (.adr (.site 1) 0)),(2,.one (.adr (.site 2) 0)),(3,.one (.adr (.site 3) 0)),(4,.one (.adr (.site 4) 0)),(6,.one (.adr (.site 6) 0)),(7,.one (.adr (.site 7) 0)),(8,.one (.l (L.int .i64 i_5)))] [(1,.cells [L.arr .u64 4 target_0_0]),(2,.cells [L.arr .u64 4 (List.replicate 4 0)]),(3,.cells [L.arr .u64 4 [1,0,0,0]]),(4,.cells [L.arr .u64 4 x1]),(6,.cells [L.arr .u64 4 out_23]),(7,.cells [L.arr .u64 4 rest_24])] st
theorem ZaZ.p2_ok {i_5 target_0_0 x1 out_36 rest_37 st r c1_ J1} (h:ZaZ.p2 N c1_ i_5 target_0_0 x1 out_36 rest_37=some r) (hE:En Tryz.f101 g0 w0 (ZaZ.rs r) st R) (hc1 : ∀i_5 out_23 rest_24,c1_ (i_5,out_23,rest_24)=some r→At g0 w0 (ZaZ.p1.S i_5 target_0_0 x1 out_23 rest_24 st) J1):At g0 w0 (ZaZ.p2.S i_5 target_0_0 x1 out_36 rest_37 st) (XK Tryz.prog R [.c (csub ZaZ.B [1,1,1,1,1,1,1,0,1,0,0,1,1]),.h J1,.b 0,.c (csub ZaZ.B [1,1,1,1,1,1,1,1])]):=by
 unfold ZaZ.p2 at h
 exact an fol [.r []] [1,2,3,4,6,7,8] [1,2,3,4,6,7] trivial (hc1 (w64 (i_5-1)) out_36 rest_37 h)
theorem ZaZ.p3_ok {out_41 st r} (h:ZaZ.p3 N out_41=some r) (hE:En Tryz.f101 g0 w0 (ZaZ.rs r) st R):At g0 w0 (ZaZ.p3.S out_41 st) (XK Tryz.prog R [.c (csub ZaZ.B [1,1,1,1,1,1,1,1,1])]):=by
 unfold ZaZ.p3 at h
 obtain rfl:=Zab h
 exact af fol hE [.r []] [] 0 [] trivial
theorem ZaZ.p1_ok {i_5 target_0_0 x1 out_23 rest_24 st r c1_ J1} (h:ZaZ.p1 N target_0_0 x1 c1_ (i_5,out_23,rest_24)=some r) (hE:En Tryz.f101 g0 w0 (ZaZ.rs r) st R) (hc1 : ∀i_5 out_23 rest_24,c1_ (i_5,out_23,rest_24)=some r→At g0 w0 (ZaZ.p1.S i_5 target_0_0 x1 out_23 rest_24 st) J1):At g0 w0 (ZaZ.p1.S i_5 target_0_0 x1 out_23 rest_24 st) (XK Tryz.prog R (.c (csub ZaZ.B [1,1,1,1,1,1,1,0,1,0,0]) :: .h J1 :: [.b 0,.c (csub ZaZ.B [1,1,1,1,1,1,1,1])])):=by
 unfold ZaZ.p1 at h
 refine iteB h (fun c21 h1=>?_) (fun c21 h2=>?_)<;>clear h
 ·obtain ⟨x25,c22,h3⟩:=Zad h1;clear h1
  obtain ⟨x26,c23,h4⟩:=Zad h3;clear h3
  refine iteB h4 (fun c24 h5=>?_) (fun c24 h6=>?_)<;>clear h4
  ·exact aqd fol [.r [],.c true,.r [(2,{rs:=[.agg [L.arr .u64 4 x25]],m:=1})],.d {ds:=[(3,{rs:=[.agg [L.arr .u64 4 x26]],m:=1})],hv:=0,Hs:=[]},.c true,.s 4] [1,2,3,4,6,7,8] [1,2,3,4,6,7] (aK c21 (Zaj.snd c22) (Zaj.snd c23) c24) (ZaZ.p2_ok h5 hE hc1)
  ·obtain ⟨⟨x27,x28⟩,c25,h7⟩:=Zad h6;clear h6
   obtain ⟨x29,c26,h8⟩:=Zad h7;clear h7
   refine iteB h8 (fun c27 h9=>?_) (fun c27 h10=>?_)<;>clear h8
   ·obtain ⟨⟨x30,x31⟩,c28,h11⟩:=Zad h9;clear h9
    obtain ⟨x32,c29,h12⟩:=Zad h11;clear h11
    obtain ⟨⟨x33,x34⟩,c30,h13⟩:=Zad h12;clear h12
    obtain ⟨x35,c31,h14⟩:=Zad h13;clear h13
    refine iteB h14 (fun c32 h15=>?_) (fun c32 h16=>?_)<;>clear h14
    ·obtain rfl:=Zab h15
     exact afd fol hE [.r [],.c true,.r [(2,{rs:=[.agg [L.arr .u64 4 x25]],m:=1})],.d {ds:=[(3,{rs:=[.agg [L.arr .u64 4 x26]],m:=1})],hv:=0,Hs:=[]},.c false,.r [(2,{rs:=[.agg [L.arr .u64 4 x27],.one (L.bool x28)],m:=1})],.r [(2,{rs:=[.one (L.bool x29)],m:=1})],.c true,.r [(2,{rs:=[.agg [L.arr .u64 4 x30],.one (L.bool x31)],m:=1})],.d {ds:=[(3,{rs:=[.agg [L.arr .u64 4 x32]],m:=1}),(4,{rs:=[.agg [L.arr .u64 4 x33],.one (L.bool x34)],m:=1})],hv:=256,Hs:=[256]},.d {ds:=[(1,{rs:=[.agg [L.arr .u64 4 x35]],m:=1})],hv:=0,Hs:=[]},.c true,.r []] [] 0 [] (aO c21 (Zaj.snd c22) (Zaj.snd c23) c24 (ZcP.snd c25) (Zba.snd c26) c27 (aL (ZcP.snd c28) (Zaj.snd c29) (ZaQ.snd c30) (Zcy.snd c31) c32))
    ·exact aqd fol [.r [],.c true,.r [(2,{rs:=[.agg [L.arr .u64 4 x25]],m:=1})],.d {ds:=[(3,{rs:=[.agg [L.arr .u64 4 x26]],m:=1})],hv:=0,Hs:=[]},.c false,.r [(2,{rs:=[.agg [L.arr .u64 4 x27],.one (L.bool x28)],m:=1})],.r [(2,{rs:=[.one (L.bool x29)],m:=1})],.c true,.r [(2,{rs:=[.agg [L.arr .u64 4 x30],.one (L.bool x31)],m:=1})],.d {ds:=[(3,{rs:=[.agg [L.arr .u64 4 x32]],m:=1}),(4,{rs:=[.agg [L.arr .u64 4 x33],.one (L.bool x34)],m:=1})],hv:=256,Hs:=[256]},.d {ds:=[(1,{rs:=[.agg [L.arr .u64 4 x35]],m:=1})],hv:=0,Hs:=[]},.c false,.s 4] [1,2,3,4,6,7,8] [1,2,3,4,6,7] (aO c21 (Zaj.snd c22) (Zaj.snd c23) c24 (ZcP.snd c25) (Zba.snd c26) c27 (aL (ZcP.snd c28) (Zaj.snd c29) (ZaQ.snd c30) (Zcy.snd c31) c32)) (ZaZ.p2_ok h16 hE hc1)
   ·exact aqd fol [.r [],.c true,.r [(2,{rs:=[.agg [L.arr .u64 4 x25]],m:=1})],.d {ds:=[(3,{rs:=[.agg [L.arr .u64 4 x26]],m:=1})],hv:=0,Hs:=[]},.c false,.r [(2,{rs:=[.agg [L.arr .u64 4 x27],.one (L.bool x28)],m:=1})],.r [(2,{rs:=[.one (L.bool x29)],m:=1})],.c false,.s 4] [1,2,3,4,6,7,8] [1,2,3,4,6,7] (aN c21 (Zaj.snd c22) (Zaj.snd c23) c24 (ZcP.snd c25) (Zba.snd c26) c27) (ZaZ.p2_ok h10 hE hc1)
 ·obtain ⟨x38,c33,h17⟩:=Zad h2;clear h2
  refine iteB h17 (fun c34 h18=>?_) (fun c34 h19=>?_)<;>clear h17
  ·obtain ⟨⟨x39,x40⟩,c35,h20⟩:=Zad h18;clear h18
   exact aq fol [.r [],.c false,.r [(2,{rs:=[.one (L.bool x38)],m:=1})],.c true,.r [(2,{rs:=[.agg [L.arr .u64 4 x39],.one (L.bool x40)],m:=1})],.s 1] [2,6] [2,6] (aK c21 (Zba.snd c33) c34 (ZaQ.snd c35)) (ZaZ.p3_ok h20 hE)
  ·exact aq fol [.r [],.c false,.r [(2,{rs:=[.one (L.bool x38)],m:=1})],.c false,.s 1] [2,6] [2,6] (aJ c21 (Zba.snd c33) c34) (ZaZ.p3_ok h19 hE)
theorem ZaZ.snd {target_0_0:List Int} {r:(List Int)} (h:ZaZ N target_0_0=some r):SndQ Tryz.prog 101 [.agg [L.arr .u64 4 target_0_0]] (ZaZ.rs r):=fun st=>
 sO ZaZ.B Tryz.func101 fun g0 w0 R hE=>by
  unfold ZaZ at h
  obtain ⟨⟨x1,x2⟩,c1,h21⟩:=Zad h;clear h
  refine iteB h21 (fun c2 h22=>?_) (fun c2 h23=>?_)<;>clear h21
  ·obtain rfl:=Zab h22
   exact af fol hE [.r [],.r [(0,{m:=3})],.r [(2,{rs:=[.agg [L.arr .u64 4 x1],.one (L.bool x2)],m:=1})],.r [],.c true,.r []] [] 0 [] (aI (ZaQ.snd c1) c2)
  ·refine iteB h23 (fun c3 h24=>?_) (fun c3 h25=>?_)<;>clear h23
   ·obtain ⟨x3,c4,h26⟩:=Zad h24;clear h24
    obtain rfl:=Zab h26
    exact af fol hE [.r [],.r [(0,{m:=3})],.r [(2,{rs:=[.agg [L.arr .u64 4 x1],.one (L.bool x2)],m:=1})],.r [],.c false,.r [],.c true,.r [(0,{rs:=[.agg [L.arr .u64 4 x3]],m:=1})]] [] 0 [] (aK (ZaQ.snd c1) c2 c3 (Zcy.snd c4))
   ·obtain ⟨x4,c5,h27⟩:=Zad h25;clear h25
    exact aq fol [.r [],.r [(0,{m:=3})],.r [(2,{rs:=[.agg [L.arr .u64 4 x1],.one (L.bool x2)],m:=1})],.r [],.c false,.r [],.c false,.r [],.r [(0,{rs:=[.agg [L.arr .u64 4 x4]],m:=1})],.r []] [1,2,3,4,6,7,8] [1,2,3,4,6,7] (aK (ZaQ.snd c1) c2 c3 (Zcy.snd c5)) (At.loop N (At.loopN (fun y:Int×(List Int)×(List Int)=>ZaZ.p1.S y.1 target_0_0 x1 y.2.1 y.2.2 st) (fun c J hc y h=>ZaZ.p1_ok (i_5:=y.1) (out_23:=y.2.1) (rest_24:=y.2.2) h hE (fun i_5 out_23 rest_24=>hc (i_5,out_23,rest_24))) N (255,List.replicate 4 0,x4) h27))
noncomputable def ZbU.B:Code:=Tryz.f69.body.getD .skip
noncomputable def ZbU.rs (r:(List Int)):List CV:=[.agg [L.arr .u64 4 r]]
noncomputable def ZbU (N:Nat) (bits_0:Int):Option (List Int):=
 optE (ZaB N bits_0) fun (x1,x2,x3)=>
 if x2=true then
  some (List.replicate 4 0)
 else
 if x3=true then
  some (List.replicate 4 0)
 else
 if (x1==(List.replicate 4 0))=true then
  some (List.replicate 4 0)
 else
 optE (ZaZ N x1) fun x4=>
 some x4
theorem ZbU.snd {bits_0:Int} {r:(List Int)} (h:ZbU N bits_0=some r):SndQ Tryz.prog 69 [.one (L.int .i64 bits_0)] (ZbU.rs r):=fun st=>
 sO ZbU.B Tryz.func69 fun g0 w0 R hE=>by
  unfold ZbU at h
  obtain ⟨⟨x1,x2,x3⟩,c1,h1⟩:=Zad h;clear h
  refine iteB h1 (fun c2 h2=>?_) (fun c2 h3=>?_)<;>clear h1
  ·obtain rfl:=Zab h2
   exact af fol hE [.r [],.r [(1,{rs:=[.agg [L.arr .u64 4 x1],.one (L.bool x2),.one (L.bool x3)],m:=1})],.r [(2,{want:=false}),(5,{want:=false}),(6,{want:=false}),(7,{want:=false})],.c true,.r []] [] 0 [] (aO (ZaB.snd c1) c2 c2 (eB true) (eB true) (eB true) (eB true) (eB true))
  ·refine iteB h3 (fun c3 h4=>?_) (fun c3 h5=>?_)<;>clear h3
   ·obtain rfl:=Zab h4
    exact af fol hE [.r [],.r [(1,{rs:=[.agg [L.arr .u64 4 x1],.one (L.bool x2),.one (L.bool x3)],m:=1})],.r [(3,{yes:=false}),(5,{want:=false}),(6,{want:=false}),(7,{want:=false})],.c true,.r []] [] 0 [] (aO (ZaB.snd c1) c2 c2 c3 c3 c3 c3 (eB true))
   ·refine iteB h5 (fun c4 h6=>?_) (fun c4 h7=>?_)<;>clear h5
    ·obtain rfl:=Zab h6
     exact af fol hE [.r [],.r [(1,{rs:=[.agg [L.arr .u64 4 x1],.one (L.bool x2),.one (L.bool x3)],m:=1})],.r [(3,{yes:=false}),(8,{yes:=false})],.c true,.r []] [] 0 [] (aO (ZaB.snd c1) c2 c2 c3 c3 c3 c3 c4)
    ·obtain ⟨x4,c5,h8⟩:=Zad h7;clear h7
     obtain rfl:=Zab h8
     exact af fol hE [.r [],.r [(1,{rs:=[.agg [L.arr .u64 4 x1],.one (L.bool x2),.one (L.bool x3)],m:=1})],.r [(3,{yes:=false}),(8,{yes:=false})],.c false,.r [(1,{rs:=[.agg [L.arr .u64 4 x4]],m:=1})]] [] 0 [] (aO (ZaB.snd c1) c2 c2 c3 c3 c3 c3 (aI c4 (ZaZ.snd c5)))
noncomputable def Zdz.B:Code:=Tryz.f30.body.getD .skip
noncomputable def Zdz.rs (r:(Option Nat)×LL):List CV:=[.one (L.ptr r.1)]
noncomputable def Zdz (N:Nat) (p_0:Zae) (room_1:Int) (st:LL):Option ((Option Nat)×LL):=
 optE (ZbJ N p_0.Genesis) fun x1=>
 optE (ZbU N p_0.Genesis.Bits) fun x2=>
 some ((some (List.length st)),st ++ [Zaa.lo (Zaa.mk p_0 [p_0.Genesis.ls] [[L.arr .u8 32 x1]] [[L.int .i64 (-1)]] [[L.arr .u64 4 x2]] (if (512:Int)<(if (1:Int)>room_1 then 1 else room_1) then 512 else (if (1:Int)>room_1 then 1 else room_1)))])
theorem Zdz.snd {p_0:Zae} {room_1:Int} {st:LL} {r:(Option Nat)×LL} (h:Zdz N p_0 room_1 st=some r):Snd Tryz.prog 30 [.agg p_0.ls,.one (L.int .i64 room_1)] st (Zdz.rs r) r.2:=
 sO Zdz.B Tryz.func30 fun g0 w0 R hE=>by
  unfold Zdz at h
  obtain ⟨x1,c1,h1⟩:=Zad h;clear h
  obtain ⟨x2,c2,h2⟩:=Zad h1;clear h1
  obtain rfl:=Zab h2
  exact afd fol hE [.r [],.d {ds:=[(6,{rs:=[.agg [L.arr .u8 32 x1]],m:=1}),(12,{rs:=[.agg [L.arr .u64 4 x2]],m:=1}),(17,{ns:=[15,16,17,18]}),(18,{m:=1,mv:=[8,12,13,18]})],hv:=270728,Hs:=[8,128,136,256,264,384,392,8192,8200,8320,8328,8448,8456,8576,8584,270728]}] [] 0 [] (aO (ZbJ.snd c1) (ZbJ.snd c1) (ZbJ.snd c1) (ZbJ.snd c1) (ZbU.snd c2) (ZbU.snd c2) (ZbU.snd c2) (aO (ZbU.snd c2) (ZbU.snd c2) (ZbU.snd c2) (ZbU.snd c2) (ZbU.snd c2) z0 (eN (1)) (aM z0 (eN (1)) z0 (eN (1)) z0 (eN (1)))))
noncomputable def ZaN.B:Code:=Tryz.f33.body.getD .skip
noncomputable def ZaN.rs (r:Int):List CV:=[.one (L.int .i64 r)]
noncomputable def ZaN.p1 (N:Nat) (a_0:Zaa) (id_1_0:List Int) (c1_:Int→Option Int):Int→Option Int:=fun v1=>
 if (decide (v1<(len a_0.Ids)))=true then
  chk (0≤v1)<|
  getE (a_0.Ids[Int.toNat v1]?) ZeU fun x2=>
  if (x2==id_1_0)=true then
   some v1
  else
  c1_ (w64 (v1+1))
 else
 some (-1)
noncomputable def ZaN (N:Nat) (a_0:Zaa) (id_1_0:List Int):Option Int:=
 loopN (ZaN.p1 N a_0 id_1_0) N 0
noncomputable def ZaN.p1.S (a_0:Zaa) (v1:Int) (id_1_0:List Int) (st:LL):S:=mkS 22 [(3,.one (.adr (.site 3) 0)),(10,.one (.l (L.sl 32 a_0.Ids))),(11,.one (.l (L.int .i64 (len a_0.Ids)))),(12,.one (.l (L.int .i64 v1)))] [(3,.cells [L.arr .u8 32 id_1_0])] st
theorem ZaN.p1_ok {a_0 v1 id_1_0 st r c1_ J1} (h:ZaN.p1 N a_0 id_1_0 c1_ v1=some r) (hE:En Tryz.f33 g0 w0 (ZaN.rs r) st R) (hc1 : ∀v1,c1_ v1=some r→At g0 w0 (ZaN.p1.S a_0 v1 id_1_0 st) J1):At g0 w0 (ZaN.p1.S a_0 v1 id_1_0 st) (XK Tryz.prog R (.c (csub ZaN.B [1,0,1,0,0]) :: .h J1 :: [.b 0,.c (csub ZaN.B [1,1])])):=by
 unfold ZaN.p1 at h
 refine iteB h (fun c1 h1=>?_) (fun c1 h2=>?_)<;>clear h
 ·obtain ⟨c2,h3⟩:=ZaT h1;clear h1
  obtain ⟨x2,c3,h4⟩:=Zff h3;clear h3
  refine iteB h4 (fun c4 h5=>?_) (fun c4 h6=>?_)<;>clear h4
  ·obtain rfl:=Zab h5
   exact af fol hE [.r [],.c true,.r [(2,{oe:=[L.arr .u8 32 x2]})],.r [],.c true,.r []] [] 0 [] (aL c1 c2 (oD c1) c3 c4)
  ·exact an fol [.r [],.c true,.r [(2,{oe:=[L.arr .u8 32 x2]})],.r [],.c false,.r []] [3,10,11,12] [3] (aL c1 c2 (oD c1) c3 c4) (hc1 (w64 (v1+1)) h6)
 ·obtain rfl:=Zab h2
  exact af fol hE [.r [],.c false,.r []] [] 0 [] c1
theorem ZaN.snd {a_0:Zaa} {id_1_0:List Int} {r:Int} (h:ZaN N a_0 id_1_0=some r):SndQ Tryz.prog 33 [.one (L.bx 88 a_0.ls),.agg [L.arr .u8 32 id_1_0]] (ZaN.rs r):=fun st=>
 sO ZaN.B Tryz.func33 fun g0 w0 R hE=>by
  unfold ZaN at h
  exact aq fol [.r [],.r [(3,{oe:=a_0.ls})]] [3,10,11,12] [3] (eO a_0.ls) (At.loop N (At.loopN (fun y:Int=>ZaN.p1.S a_0 y id_1_0 st) (fun c J hc y h=>ZaN.p1_ok h hE (fun v1=>hc v1)) N 0 h))
noncomputable def ZaH.B:Code:=Tryz.f35.body.getD .skip
noncomputable def ZaH.rs (r:LL):List CV:=[.row true 68 r]
noncomputable def ZaH.p1 (N:Nat) (a_0:Zaa) (c1_:(LL×Int)→Option LL):(LL×Int)→Option LL:=fun (out_4,k_1)=>
 if (decide (k_1≥0))=true then
  chk (0≤k_1)<|
  chk (k_1<(len a_0.List_))<|
  getE (a_0.List_[Int.toNat k_1]?) ZcT fun x5=>
  chk (List.length ([x5.ls]++out_4)*96≤140737488355328)<|
  chk (k_1<(len a_0.Ahead))<|
  getE (a_0.Ahead[Int.toNat k_1]?) Zdg fun x6=>
  c1_ ([x5.ls]++out_4,x6)
 else
 some out_4
noncomputable def ZaH (N:Nat) (a_0:Zaa) (at_1:Int):Option LL:=
 loopN (ZaH.p1 N a_0) N ([],at_1)
noncomputable def ZaH.p1.S (a_0:Zaa) (out_4:LL) (k_1:Int) (st:LL):S:=mkS 28 [(0,.one (.l (L.bx 88 a_0.ls))),(5,.one (.h (.row 5 0) 68 0 (List.length out_4))),(6,.one (.l (L.int .i64 k_1)))] [(5,.row 0 true 68 out_4)] st
theorem ZaH.p1_ok {a_0 out_4 k_1 st r c1_ J1} (h:ZaH.p1 N a_0 c1_ (out_4,k_1)=some r) (hE:En Tryz.f35 g0 w0 (ZaH.rs r) st R) (hc1 : ∀out_4 k_1,c1_ (out_4,k_1)=some r→At g0 w0 (ZaH.p1.S a_0 out_4 k_1 st) J1):At g0 w0 (ZaH.p1.S a_0 out_4 k_1 st) (XK Tryz.prog R (.c (csub ZaH.B [1,1,0,1,0,0]) :: .h J1 :: [.b 0,.c (csub ZaH.B [1,1,1])])):=by
 unfold ZaH.p1 at h
 refine iteB h (fun c8 h1=>?_) (fun c8 h2=>?_)<;>clear h
 ·obtain ⟨c9,c10,h3⟩:=ck2 h1;clear h1
  obtain ⟨x5,c11,h4⟩:=Zda h3;clear h3
  obtain ⟨c12,c13,h5⟩:=ck2 h4;clear h4
  obtain ⟨x6,c14,h6⟩:=ZcM h5;clear h5
  exact an fol [.r [],.c true,.r [(3,{oe:=a_0.ls}),(6,{oe:=x5.ls}),(10,{m:=4})],.r [(3,{oe:=a_0.ls}),(6,{oe:=[L.int .i64 x6]})]] [0,5,6] [5] (aO c8 (eO a_0.ls) c9 c10 c11 z0 (eN (1)) (aN z0 (eN (List.length out_4)) c12 (eO a_0.ls) c9 c13 c14)) (hc1 ([x5.ls]++out_4) x6 h6)
 ·obtain rfl:=Zab h2
  exact af fol hE [.r [],.c false,.r []] [] 0 [0] (aJ c8 z0 (eN (List.length out_4)))
theorem ZaH.snd {a_0:Zaa} {at_1:Int} {r:LL} (h:ZaH N a_0 at_1=some r):SndQ Tryz.prog 35 [.one (L.bx 88 a_0.ls),.one (L.int .i64 at_1)] (ZaH.rs r):=fun st=>
 sO ZaH.B Tryz.func35 fun g0 w0 R hE=>by
  unfold ZaH at h
  exact aq fol [.r [(0,{m:=2})],.r [(0,{m:=1})],.r []] [0,5,6] [5] trivial (At.loop N (At.loopN (fun y:LL×Int=>ZaH.p1.S a_0 y.1 y.2 st) (fun c J hc y h=>ZaH.p1_ok (out_4:=y.1) (k_1:=y.2) h hE (fun out_4 k_1=>hc (out_4,k_1))) N ([],at_1) h))
noncomputable def Zar.B:Code:=Tryz.f148.body.getD .skip
noncomputable def Zar.rs (r:(List Int)×Bool):List CV:=[.agg [L.arr .u64 4 r.1],.one (L.bool r.2)]
noncomputable def Zar.p2 (N:Nat) (c1_:(Int×Int×(List Int))→Option ((List Int)×Bool)) (by_1 over_2 c_1 i_2 w_12:Int) (n_0_0 d_11:List Int):Option ((List Int)×Bool):=
 chk (0≤i_2)<|
 chk (i_2<10)<|
 c1_ (w64 (Int.tdiv (w64 ((w64 (w_12*by_1))+c_1)) 4294967296),w64 (i_2+1),List.set d_11 (Int.toNat i_2) (Int.tmod (w64 ((w64 (w_12*by_1))+c_1)) 4294967296))
noncomputable def Zar.p4 (N:Nat) (q_17:List Int) (c4_:(Int×(List Int))→Option ((List Int)×Bool)):(Int×(List Int))→Option ((List Int)×Bool):=fun (i_18,out_19)=>
 if (decide (i_18<8))=true then
  chk (0≤(w64 (Int.tdiv i_18 2)))<|
  chk ((w64 (Int.tdiv i_18 2))<4)<|
  chk (0≤i_18)<|
  chk (i_18<10)<|
  chk (0≤(v64 (w64 (32*(Int.tmod i_18 2)))))<|
  c4_ (w64 (i_18+1),List.set out_19 (Int.toNat (w64 (Int.tdiv i_18 2))) (v64 ((List.getD out_19 (Int.toNat (w64 (Int.tdiv i_18 2))) 0)+(shlOf .u64 (v64 (List.getD q_17 (Int.toNat i_18) 0)) (v64 (w64 (32*(Int.tmod i_18 2))))))))
 else
 if ((List.getD q_17 8 0)==0)=true then
  some (out_19,(List.getD q_17 9 0)==0)
 else
 some (out_19,false)
noncomputable def Zar.p3 (N:Nat) (over_2:Int) (d_11:List Int) (c3_:(Int×Int×(List Int))→Option ((List Int)×Bool)):(Int×Int×(List Int))→Option ((List Int)×Bool):=fun (rest_13,i_14,q_17)=>
 if (decide (i_14≥0))=true then
  chk (0≤i_14)<|
  chk (i_14<10)<|
  chk (over_2≠0)<|
  c3_ (Int.tmod (w64 ((w64 (rest_13*4294967296))+(List.getD d_11 (Int.toNat i_14) 0))) over_2,w64 (i_14-1),List.set q_17 (Int.toNat i_14) (w64 (Int.tdiv (w64 ((w64 (rest_13*4294967296))+(List.getD d_11 (Int.toNat i_14) 0))) over_2)))
 else
 loopN (Zar.p4 N q_17) N (0,List.replicate 4 0)
noncomputable def Zar.p1 (N:Nat) (by_1 over_2:Int) (n_0_0:List Int) (c1_:(Int×Int×(List Int))→Option ((List Int)×Bool)):(Int×Int×(List Int))→Option ((List Int)×Bool):=fun (c_1,i_2,d_11)=>
 if (decide (i_2<10))=true then
  if (decide (i_2<8))=true then
   chk (0≤(w64 (Int.tdiv i_2 2)))<|
   chk ((w64 (Int.tdiv i_2 2))<4)<|
   chk (0≤(v64 (w64 (32*(Int.tmod i_2 2)))))<|
   Zar.p2 N c1_ by_1 over_2 c_1 i_2 (w64 (Int.tmod (shrOf .u64 (List.getD n_0_0 (Int.toNat (w64 (Int.tdiv i_2 2))) 0) (v64 (w64 (32*(Int.tmod i_2 2))))) 4294967296)) n_0_0 d_11
  else
  Zar.p2 N c1_ by_1 over_2 c_1 i_2 0 n_0_0 d_11
 else
 loopN (Zar.p3 N over_2 d_11) N (0,9,List.replicate 10 0)
noncomputable def Zar (N:Nat) (n_0_0:List Int) (by_1 over_2:Int):Option ((List Int)×Bool):=
 loopN (Zar.p1 N by_1 over_2 n_0_0) N (0,0,List.replicate 10 0)
noncomputable def Zar.p2.S (by_1 over_2 c_1 i_2 w_12:Int) (n_0_0 d_11:List Int) (st:LL):S:=mkS 96 [(1,.one (.l (L.int .i64 by_1))),(2,.one (.l (L.int .i64 over_2))),(3,.one (.adr (.site 3) 0)),(6,.one (.adr (.site 6) 0)),(8,.one (.adr (.site 8) 0)),(9,.one (.l (L.int .i64 c_1))),(10,.one (.l (L.int .i64 i_2))),(11,.one (.l (L.int .i64 w_12)))] [(3,.cells [L.arr .u64 4 n_0_0]),(6,.cells [L.arr .u64 4 (List.replicate 4 0)]),(8,.cells [L.arr .i64 10 d_11])] st
noncomputable def Zar.p4.S (i_18:Int) (q_17 out_19:List Int) (st:LL):S:=mkS 96 [(6,.one (.adr (.site 6) 0)),(14,.one (.adr (.site 14) 0)),(17,.one (.adr (.site 17) 0)),(18,.one (.l (L.int .i64 i_18)))] [(6,.cells [L.arr .u64 4 (List.replicate 4 0)]),(14,.cells [L.arr .i64 10 q_17]),(17,.cells [L.arr .u64 4 out_19])] st
noncomputable def Zar.p3.S (over_2 rest_13 i_14:Int) (d_11 q_17:List Int) (st:LL):S:=mkS 96 [(2,.one (.l (L.int .i64 over_2))),(6,.one (.adr (.site 6) 0)),(8,.one (.adr (.site 8) 0)),(13,.one (.l (L.int .i64 rest_13))),(14,.one (.adr (.site 14) 0)),(15,.one (.l (L.int .i64 i_14)))] [(6,.cells [L.arr .u64 4 (List.replicate 4 0)]),(8,.cells [L.arr .i64 10 d_11]),(14,.cells [L.arr .i64 10 q_17])] st
noncomputable def Zar.p1.S (by_1 over_2 c_1 i_2:Int) (n_0_0 d_11:List Int) (st:LL):S:=mkS 96 [(1,.one (.l (L.int .i64 by_1))),(2,.one (.l (L.int .i64 over_2))),(3,.one (.adr (.site 3) 0)),(6,.one (.adr (.site 6) 0)),(8,.one (.adr (.site 8) 0)),(9,.one (.l (L.int .i64 c_1))),(10,.one (.l (L.int .i64 i_2)))] [(3,.cells [L.arr .u64 4 n_0_0]),(6,.cells [L.arr .u64 4 (List.replicate 4 0)]),(8,.cells [L.arr .i64 10 d_11])] st
theorem Zar.p2_ok {by_1 over_2 c_1 i_2 w_12 n_0_0 d_11 st r c1_ J1} (h:Zar.p2 N c1_ by_1 over_2 c_1 i_2 w_12 n_0_0 d_11=some r) (hE:En Tryz.f148 g0 w0 (Zar.rs r) st R) (hc1 : ∀c_1 i_2 d_11,c1_ (c_1,i_2,d_11)=some r→At g0 w0 (Zar.p1.S by_1 over_2 c_1 i_2 n_0_0 d_11 st) J1):At g0 w0 (Zar.p2.S by_1 over_2 c_1 i_2 w_12 n_0_0 d_11 st) (XK Tryz.prog R [.c (csub Zar.B [1,1,1,0,1,0,0,1,0,0,1,1]),.b 1,.c (csub Zar.B [1,1,1,0,1,0,0,1,1]),.h J1,.b 0,.c (csub Zar.B [1,1,1,1])]):=by
 unfold Zar.p2 at h
 obtain ⟨c49,c50,h1⟩:=ck2 h;clear h
 exact an fol [.r [],.r [],.r [],.r []] [1,2,3,6,8,9,10] [3,6,8] (aK (neI 4294967296) c49 c50 (neI 4294967296)) (hc1 (w64 (Int.tdiv (w64 ((w64 (w_12*by_1))+c_1)) 4294967296)) (w64 (i_2+1)) (List.set d_11 (Int.toNat i_2) (Int.tmod (w64 ((w64 (w_12*by_1))+c_1)) 4294967296)) h1)
theorem Zar.p4_ok {i_18 q_17 out_19 st r c4_ J4} (h:Zar.p4 N q_17 c4_ (i_18,out_19)=some r) (hE:En Tryz.f148 g0 w0 (Zar.rs r) st R) (hc4 : ∀i_18 out_19,c4_ (i_18,out_19)=some r→At g0 w0 (Zar.p4.S i_18 q_17 out_19 st) J4):At g0 w0 (Zar.p4.S i_18 q_17 out_19 st) (XK Tryz.prog R (.c (csub Zar.B [1,1,1,1,1,1,1,1,0,1,0,0]) :: .h J4 :: [.b 4,.c (csub Zar.B [1,1,1,1,1,1,1,1,1])])):=by
 unfold Zar.p4 at h
 refine iteB h (fun c80 h2=>?_) (fun c80 h3=>?_)<;>clear h
 ·obtain ⟨c81,c82,c83,c84,c85,h4⟩:=ck5 h2;clear h2
  exact and_ fol [.r [],.c true,.d {ds:=[],hv:=131072,Hs:=[131072]},.r []] [6,14,17,18] [6,14,17] (aO c80 (neI 2) (neI 2) c81 c82 c83 c84 (aK (neI 2) c85 c81 c82)) (hc4 (w64 (i_18+1)) (List.set out_19 (Int.toNat (w64 (Int.tdiv i_18 2))) (v64 ((List.getD out_19 (Int.toNat (w64 (Int.tdiv i_18 2))) 0)+(shlOf .u64 (v64 (List.getD q_17 (Int.toNat i_18) 0)) (v64 (w64 (32*(Int.tmod i_18 2)))))))) h4)
 ·refine iteB h3 (fun c86 h5=>?_) (fun c86 h6=>?_)<;>clear h3
  ·obtain rfl:=Zab h5
   exact afd fol hE [.r [],.c false,.d {ds:=[],hv:=512,Hs:=[512]}] [] 0 [] (aI c80 (ix 8 10 (aI c86 (ix 9 10 (aI c86 (ix 9 10 (aM c86 c86 c86 c86 c86 c86)))))))
  ·obtain rfl:=Zab h6
   exact afd fol hE [.r [],.c false,.d {ds:=[(5,{want:=false}),(6,{want:=false}),(7,{want:=false}),(8,{yes:=false})],hv:=512,Hs:=[512]}] [] 0 [] (aI c80 (ix 8 10 (aO c86 c86 c86 c86 c86 c86 c86 c86)))
theorem Zar.p3_ok {over_2 rest_13 i_14 d_11 q_17 st r c3_ J3} (h:Zar.p3 N over_2 d_11 c3_ (rest_13,i_14,q_17)=some r) (hE:En Tryz.f148 g0 w0 (Zar.rs r) st R) (hc3 : ∀rest_13 i_14 q_17,c3_ (rest_13,i_14,q_17)=some r→At g0 w0 (Zar.p3.S over_2 rest_13 i_14 d_11 q_17 st) J3):At g0 w0 (Zar.p3.S over_2 rest_13 i_14 d_11 q_17 st) (XK Tryz.prog R (.c (csub Zar.B [1,1,1,1,1,1,0,1,0,0]) :: .h J3 :: [.b 2,.c (csub Zar.B [1,1,1,1,1,1,1])])):=by
 unfold Zar.p3 at h
 refine iteB h (fun c69 h7=>?_) (fun c69 h8=>?_)<;>clear h
 ·obtain ⟨c70,c71,c72,h9⟩:=ck3 h7;clear h7
  exact an fol [.r [],.c true,.r [],.r [],.r [],.r []] [2,6,8,13,14,15] [6,8,14] (aN c69 c70 c71 c72 c70 c71 c72) (hc3 (Int.tmod (w64 ((w64 (rest_13*4294967296))+(List.getD d_11 (Int.toNat i_14) 0))) over_2) (w64 (i_14-1)) (List.set q_17 (Int.toNat i_14) (w64 (Int.tdiv (w64 ((w64 (rest_13*4294967296))+(List.getD d_11 (Int.toNat i_14) 0))) over_2))) h9)
 ·exact aq fol [.r [],.c false,.r [],.r []] [6,14,17,18] [6,14,17] c69 (At.loop N (At.loopN (fun y:Int×(List Int)=>Zar.p4.S y.1 q_17 y.2 st) (fun c J hc y h=>Zar.p4_ok (i_18:=y.1) (out_19:=y.2) h hE (fun i_18 out_19=>hc (i_18,out_19))) N (0,List.replicate 4 0) h8))
theorem Zar.p1_ok {by_1 over_2 c_1 i_2 n_0_0 d_11 st r c1_ J1} (h:Zar.p1 N by_1 over_2 n_0_0 c1_ (c_1,i_2,d_11)=some r) (hE:En Tryz.f148 g0 w0 (Zar.rs r) st R) (hc1 : ∀c_1 i_2 d_11,c1_ (c_1,i_2,d_11)=some r→At g0 w0 (Zar.p1.S by_1 over_2 c_1 i_2 n_0_0 d_11 st) J1):At g0 w0 (Zar.p1.S by_1 over_2 c_1 i_2 n_0_0 d_11 st) (XK Tryz.prog R (.c (csub Zar.B [1,1,1,0,1,0,0]) :: .h J1 :: [.b 0,.c (csub Zar.B [1,1,1,1])])):=by
 unfold Zar.p1 at h
 refine iteB h (fun c44 h10=>?_) (fun c44 h11=>?_)<;>clear h
 ·refine iteB h10 (fun c45 h12=>?_) (fun c45 h13=>?_)<;>clear h10
  ·obtain ⟨c46,c47,c48,h14⟩:=ck3 h12;clear h12
   exact aq fol [.r [],.c true,.r [],.r [],.c true,.r [],.s 6] [1,2,3,6,8,9,10,11] [3,6,8] (aO c44 c45 (neI 2) c46 c47 (neI 2) c48 (neI 4294967296)) (Zar.p2_ok h14 hE hc1)
  ·exact aq fol [.r [],.c true,.r [],.r [],.c false,.s 6] [1,2,3,6,8,9,10,11] [3,6,8] (aI c44 c45) (Zar.p2_ok h13 hE hc1)
 ·exact aq fol [.r [],.c false,.r [],.r [],.r []] [2,6,8,13,14,15] [6,8,14] c44 (At.loop N (At.loopN (fun y:Int×Int×(List Int)=>Zar.p3.S over_2 y.1 y.2.1 d_11 y.2.2 st) (fun c J hc y h=>Zar.p3_ok (rest_13:=y.1) (i_14:=y.2.1) (q_17:=y.2.2) h hE (fun rest_13 i_14 q_17=>hc (rest_13,i_14,q_17))) N (0,9,List.replicate 10 0) h11))
theorem Zar.snd {n_0_0:List Int} {by_1 over_2:Int} {r:(List Int)×Bool} (h:Zar N n_0_0 by_1 over_2=some r):SndQ Tryz.prog 148 [.agg [L.arr .u64 4 n_0_0],.one (L.int .i64 by_1),.one (L.int .i64 over_2)] (Zar.rs r):=fun st=>
 sO Zar.B Tryz.func148 fun g0 w0 R hE=>by
  unfold Zar at h
  exact aq fol [.r [],.r [],.r [],.r []] [1,2,3,6,8,9,10] [3,6,8] trivial (At.loop N (At.loopN (fun y:Int×Int×(List Int)=>Zar.p1.S by_1 over_2 y.1 y.2.1 n_0_0 y.2.2 st) (fun c J hc y h=>Zar.p1_ok (c_1:=y.1) (i_2:=y.2.1) (d_11:=y.2.2) h hE (fun c_1 i_2 d_11=>hc (c_1,i_2,d_11))) N (0,0,List.replicate 10 0) h))
noncomputable def Zau.B:Code:=Tryz.f149.body.getD .skip
noncomputable def Zau.rs (r:Int):List CV:=[.one (L.int .i64 r)]
noncomputable def Zau.p2 (N:Nat) (c1_:(Int×Int)→Option Int) (size_4 i_2:Int) (n_0_0:List Int):Option Int:=
 c1_ (size_4,w64 (i_2+1))
noncomputable def Zau.p4 (N:Nat) (size_8 word_9:Int):Option Int:=
 some (w64 ((w64 (size_8*16777216))+word_9))
noncomputable def Zau.p3 (N:Nat) (size_1 word_7:Int):Option Int:=
 if (decide (word_7≥8388608))=true then
  Zau.p4 N (w64 (size_1+1)) (w64 (Int.tdiv word_7 256))
 else
 Zau.p4 N size_1 word_7
noncomputable def Zau.p1 (N:Nat) (n_0_0:List Int) (c1_:(Int×Int)→Option Int):(Int×Int)→Option Int:=fun (size_1,i_2)=>
 if (decide (i_2<32))=true then
  optE (Zaj N n_0_0 (w64 ((-8)*i_2))) fun x3=>
  if (decide ((Int.tmod (List.getD x3 0 0) 256)>0))=true then
   Zau.p2 N c1_ (w64 (i_2+1)) i_2 n_0_0
  else
  Zau.p2 N c1_ size_1 i_2 n_0_0
 else
 optE (Zaj N n_0_0 (w64 (8*(w64 (3-size_1))))) fun x5=>
 if (decide (size_1>3))=true then
  optE (Zaj N n_0_0 (w64 ((-8)*(w64 (size_1-3))))) fun x6=>
  Zau.p3 N size_1 (w64 (Int.tmod (List.getD x6 0 0) 16777216))
 else
 Zau.p3 N size_1 (w64 (Int.tmod (List.getD x5 0 0) 16777216))
noncomputable def Zau (N:Nat) (n_0_0:List Int):Option Int:=
 loopN (Zau.p1 N n_0_0) N (0,0)
noncomputable def Zau.p2.S (size_4 i_2:Int) (n_0_0:List Int) (st:LL):S:=mkS 49 [(1,.one (.adr (.site 1) 0)),(3,.one (.l (L.int .i64 size_4))),(4,.one (.l (L.int .i64 i_2)))] [(1,.cells [L.arr .u64 4 n_0_0])] st
noncomputable def Zau.p4.S (size_8 word_9:Int) (st:LL):S:=mkS 49 [(3,.one (.l (L.int .i64 size_8))),(6,.one (.l (L.int .i64 word_9)))] [] st
noncomputable def Zau.p3.S (size_1 word_7:Int) (st:LL):S:=mkS 49 [(3,.one (.l (L.int .i64 size_1))),(6,.one (.l (L.int .i64 word_7)))] [] st
noncomputable def Zau.p1.S (size_1 i_2:Int) (n_0_0:List Int) (st:LL):S:=mkS 49 [(1,.one (.adr (.site 1) 0)),(3,.one (.l (L.int .i64 size_1))),(4,.one (.l (L.int .i64 i_2)))] [(1,.cells [L.arr .u64 4 n_0_0])] st
theorem Zau.p2_ok {size_4 i_2 n_0_0 st r c1_ J1} (h:Zau.p2 N c1_ size_4 i_2 n_0_0=some r) (hE:En Tryz.f149 g0 w0 (Zau.rs r) st R) (hc1 : ∀size_1 i_2,c1_ (size_1,i_2)=some r→At g0 w0 (Zau.p1.S size_1 i_2 n_0_0 st) J1):At g0 w0 (Zau.p2.S size_4 i_2 n_0_0 st) (XK Tryz.prog R [.c (csub Zau.B [1,1,0,1,0,0,1,1]),.h J1,.b 0,.c (csub Zau.B [1,1,1])]):=by
 unfold Zau.p2 at h
 exact an fol [.r []] [1,3,4] [1] trivial (hc1 size_4 (w64 (i_2+1)) h)
theorem Zau.p4_ok {size_8 word_9 st r} (h:Zau.p4 N size_8 word_9=some r) (hE:En Tryz.f149 g0 w0 (Zau.rs r) st R):At g0 w0 (Zau.p4.S size_8 word_9 st) (XK Tryz.prog R [.c (csub Zau.B [1,1,1,1,1,1])]):=by
 unfold Zau.p4 at h
 obtain rfl:=Zab h
 exact af fol hE [.r []] [] 0 [] trivial
theorem Zau.p3_ok {size_1 word_7 st r} (h:Zau.p3 N size_1 word_7=some r) (hE:En Tryz.f149 g0 w0 (Zau.rs r) st R):At g0 w0 (Zau.p3.S size_1 word_7 st) (XK Tryz.prog R [.c (csub Zau.B [1,1,1,1,1])]):=by
 unfold Zau.p3 at h
 refine iteB h (fun c7 h1=>?_) (fun c7 h2=>?_)<;>clear h
 ·exact aq fol [.r [],.c true,.r [],.r [],.s 1] [3,6] [] (aI c7 (neI 256)) (Zau.p4_ok h1 hE)
 ·exact aq fol [.r [],.c false,.s 1] [3,6] [] c7 (Zau.p4_ok h2 hE)
theorem Zau.p1_ok {size_1 i_2 n_0_0 st r c1_ J1} (h:Zau.p1 N n_0_0 c1_ (size_1,i_2)=some r) (hE:En Tryz.f149 g0 w0 (Zau.rs r) st R) (hc1 : ∀size_1 i_2,c1_ (size_1,i_2)=some r→At g0 w0 (Zau.p1.S size_1 i_2 n_0_0 st) J1):At g0 w0 (Zau.p1.S size_1 i_2 n_0_0 st) (XK Tryz.prog R (.c (csub Zau.B [1,1,0,1,0,0]) :: .h J1 :: [.b 0,.c (csub Zau.B [1,1,1])])):=by
 unfold Zau.p1 at h
 refine iteB h (fun c1 h3=>?_) (fun c1 h4=>?_)<;>clear h
 ·obtain ⟨x3,c2,h5⟩:=Zad h3;clear h3
  refine iteB h5 (fun c3 h6=>?_) (fun c3 h7=>?_)<;>clear h5
  ·exact aq fol [.r [],.c true,.r [(3,{rs:=[.agg [L.arr .u64 4 x3]],m:=1})],.r [],.c true,.r [],.s 4] [1,3,4] [1] (aJ c1 (Zaj.snd c2) (ix 0 4 (aI (neI 256) c3))) (Zau.p2_ok h6 hE hc1)
  ·exact aq fol [.r [],.c true,.r [(3,{rs:=[.agg [L.arr .u64 4 x3]],m:=1})],.r [],.c false,.s 4] [1,3,4] [1] (aJ c1 (Zaj.snd c2) (ix 0 4 (aI (neI 256) c3))) (Zau.p2_ok h7 hE hc1)
 ·obtain ⟨x5,c4,h8⟩:=Zad h4;clear h4
  refine iteB h8 (fun c5 h9=>?_) (fun c5 h10=>?_)<;>clear h8
  ·obtain ⟨x6,c6,h11⟩:=Zad h9;clear h9
   exact aq fol [.r [],.c false,.r [(4,{rs:=[.agg [L.arr .u64 4 x5]],m:=1})],.r [],.c true,.r [(4,{rs:=[.agg [L.arr .u64 4 x6]],m:=1})],.s 1] [3,6] [] (aJ c1 (Zaj.snd c4) (ix 0 4 (aK (neI 16777216) c5 (Zaj.snd c6) (ix 0 4 (neI 16777216))))) (Zau.p3_ok h11 hE)
  ·exact aq fol [.r [],.c false,.r [(4,{rs:=[.agg [L.arr .u64 4 x5]],m:=1})],.r [],.c false,.s 1] [3,6] [] (aJ c1 (Zaj.snd c4) (ix 0 4 (aI (neI 16777216) c5))) (Zau.p3_ok h10 hE)
theorem Zau.snd {n_0_0:List Int} {r:Int} (h:Zau N n_0_0=some r):SndQ Tryz.prog 149 [.agg [L.arr .u64 4 n_0_0]] (Zau.rs r):=fun st=>
 sO Zau.B Tryz.func149 fun g0 w0 R hE=>by
  unfold Zau at h
  exact aq fol [.r [],.r [],.r []] [1,3,4] [1] trivial (At.loop N (At.loopN (fun y:Int×Int=>Zau.p1.S y.1 y.2 n_0_0 st) (fun c J hc y h=>Zau.p1_ok (size_1:=y.1) (i_2:=y.2) h hE (fun size_1 i_2=>hc (size_1,i_2))) N (0,0) h))
noncomputable def Zax.B:Code:=Tryz.f123.body.getD .skip
noncomputable def Zax.rs (r:Int):List CV:=[.one (L.int .i64 r)]
noncomputable def Zax.p3 (N:Nat) (n_11:List Int):Option Int:=
 optE (Zau N n_11) fun x12=>
 some x12
noncomputable def Zax.p2 (N:Nat) (p_0:Zae) (took_5:Int) (x1:List Int):Option Int:=
 optE (Zar N x1 took_5 (w64 (p_0.Interval*p_0.Spacing))) fun (x6,x7)=>
 optE (Zbf N p_0.Limit p_0.Limit) fun (x8,x9)=>
 if (!x7)=true then
  some p_0.Limit
 else
 optE (Zba N x8 x6) fun x10=>
 if x10=true then
  some p_0.Limit
 else
 if (x6==(List.replicate 4 0))=true then
  Zax.p3 N [1,0,0,0]
 else
 Zax.p3 N x6
noncomputable def Zax.p1 (N:Nat) (p_0:Zae) (took_4:Int) (x1:List Int):Option Int:=
 if (decide (took_4>(w64 ((w64 (p_0.Interval*p_0.Spacing))*4))))=true then
  Zax.p2 N p_0 (w64 ((w64 (p_0.Interval*p_0.Spacing))*4)) x1
 else
 Zax.p2 N p_0 took_4 x1
noncomputable def Zax (N:Nat) (p_0:Zae) (bits_1 from_2 to_3:Int):Option Int:=
 optE (Zbf N bits_1 p_0.Limit) fun (x1,x2)=>
 optE (Zcx N p_0) fun x3=>
 if (!x3)=true then
  some p_0.Limit
 else
 if (!x2)=true then
  some p_0.Limit
 else
 if (decide ((w64 (to_3-from_2))<(w64 (Int.tdiv (w64 (p_0.Interval*p_0.Spacing)) 4))))=true then
  Zax.p1 N p_0 (w64 (Int.tdiv (w64 (p_0.Interval*p_0.Spacing)) 4)) x1
 else
 Zax.p1 N p_0 (w64 (to_3-from_2)) x1
noncomputable def Zax.p3.S (n_11:List Int) (st:LL):S:=mkS 83 [(13,.one (.adr (.site 13) 0))] [(13,.cells [L.arr .u64 4 n_11])] st
noncomputable def Zax.p2.S (p_0:Zae) (took_5:Int) (x1:List Int) (st:LL):S:=mkS 83 [(4,.one (.adr (.site 4) 0)),(9,.one (.adr (.site 9) 0)),(11,.one (.l (L.int .i64 (w64 (p_0.Interval*p_0.Spacing))))),(12,.one (.l (L.int .i64 took_5)))] [(4,.cells p_0.ls),(9,.cells [L.arr .u64 4 x1])] st
noncomputable def Zax.p1.S (p_0:Zae) (took_4:Int) (x1:List Int) (st:LL):S:=mkS 83 [(4,.one (.adr (.site 4) 0)),(9,.one (.adr (.site 9) 0)),(11,.one (.l (L.int .i64 (w64 (p_0.Interval*p_0.Spacing))))),(12,.one (.l (L.int .i64 took_4)))] [(4,.cells p_0.ls),(9,.cells [L.arr .u64 4 x1])] st
theorem Zax.p3_ok {n_11 st r} (h:Zax.p3 N n_11=some r) (hE:En Tryz.f123 g0 w0 (Zax.rs r) st R):At g0 w0 (Zax.p3.S n_11 st) (XK Tryz.prog R [.c (csub Zax.B [1,1,1,1,1,1,1,1,1,1,1])]):=by
 unfold Zax.p3 at h
 obtain ⟨x12,c13,h1⟩:=Zad h;clear h
 obtain rfl:=Zab h1
 exact af fol hE [.r [(1,{rs:=[.one (L.int .i64 x12)],m:=1})]] [] 0 [] (Zau.snd c13)
theorem Zax.p2_ok {p_0 took_5 x1 st r} (h:Zax.p2 N p_0 took_5 x1=some r) (hE:En Tryz.f123 g0 w0 (Zax.rs r) st R):At g0 w0 (Zax.p2.S p_0 took_5 x1 st) (XK Tryz.prog R [.c (csub Zax.B [1,1,1,1,1,1,1])]):=by
 unfold Zax.p2 at h
 obtain ⟨⟨x6,x7⟩,c7,h2⟩:=Zad h;clear h
 obtain ⟨⟨x8,x9⟩,c8,h3⟩:=Zad h2;clear h2
 refine iteB h3 (fun c9 h4=>?_) (fun c9 h5=>?_)<;>clear h3
 ·obtain rfl:=Zab h4
  exact af fol hE [.r [(3,{rs:=[.agg [L.arr .u64 4 x6],.one (L.bool x7)],m:=1})],.r [(4,{rs:=[.agg [L.arr .u64 4 x8],.one (L.bool x9)],m:=1})],.r [(3,{want:=false}),(4,{want:=false}),(5,{want:=false})],.c true,.r []] [] 0 [] (aN (Zar.snd c7) (Zbf.snd c8) (not_false (Zbj c9)) (not_false (Zbj c9)) (not_false (Zbj c9)) (not_false (Zbj c9)) (eB true))
 ·obtain ⟨x10,c10,h6⟩:=Zad h5;clear h5
  refine iteB h6 (fun c11 h7=>?_) (fun c11 h8=>?_)<;>clear h6
  ·obtain rfl:=Zab h7
   exact af fol hE [.r [(3,{rs:=[.agg [L.arr .u64 4 x6],.one (L.bool x7)],m:=1})],.r [(4,{rs:=[.agg [L.arr .u64 4 x8],.one (L.bool x9)],m:=1})],.r [(5,{rs:=[.one (L.bool x10)],m:=1}),(6,{yes:=false})],.c true,.r []] [] 0 [] (aO (Zar.snd c7) (Zbf.snd c8) (not_true (Zap c9)) (not_true (Zap c9)) (not_true (Zap c9)) (Zba.snd c10) (not_true (Zap c9)) c11)
  ·refine iteB h8 (fun c12 h9=>?_) (fun c12 h10=>?_)<;>clear h8
   ·exact aq fol [.r [(3,{rs:=[.agg [L.arr .u64 4 x6],.one (L.bool x7)],m:=1})],.r [(4,{rs:=[.agg [L.arr .u64 4 x8],.one (L.bool x9)],m:=1})],.r [(5,{rs:=[.one (L.bool x10)],m:=1}),(6,{yes:=false})],.c false,.r [],.c true,.r [(0,{m:=3})],.s 1] [13] [13] (aO (Zar.snd c7) (Zbf.snd c8) (not_true (Zap c9)) (not_true (Zap c9)) (not_true (Zap c9)) (Zba.snd c10) (not_true (Zap c9)) (aI c11 c12)) (Zax.p3_ok h9 hE)
   ·exact aq fol [.r [(3,{rs:=[.agg [L.arr .u64 4 x6],.one (L.bool x7)],m:=1})],.r [(4,{rs:=[.agg [L.arr .u64 4 x8],.one (L.bool x9)],m:=1})],.r [(5,{rs:=[.one (L.bool x10)],m:=1}),(6,{yes:=false})],.c false,.r [],.c false,.s 1] [13] [13] (aO (Zar.snd c7) (Zbf.snd c8) (not_true (Zap c9)) (not_true (Zap c9)) (not_true (Zap c9)) (Zba.snd c10) (not_true (Zap c9)) (aI c11 c12)) (Zax.p3_ok h10 hE)
theorem Zax.p1_ok {p_0 took_4 x1 st r} (h:Zax.p1 N p_0 took_4 x1=some r) (hE:En Tryz.f123 g0 w0 (Zax.rs r) st R):At g0 w0 (Zax.p1.S p_0 took_4 x1 st) (XK Tryz.prog R [.c (csub Zax.B [1,1,1,1,1,1])]):=by
 unfold Zax.p1 at h
 refine iteB h (fun c6 h11=>?_) (fun c6 h12=>?_)<;>clear h
 ·exact aq fol [.r [],.c true,.r [],.s 1] [4,9,11,12] [4,9] c6 (Zax.p2_ok h11 hE)
 ·exact aq fol [.r [],.c false,.s 1] [4,9,11,12] [4,9] c6 (Zax.p2_ok h12 hE)
theorem Zax.snd {p_0:Zae} {bits_1 from_2 to_3:Int} {r:Int} (h:Zax N p_0 bits_1 from_2 to_3=some r):SndQ Tryz.prog 123 [.agg p_0.ls,.one (L.int .i64 bits_1),.one (L.int .i64 from_2),.one (L.int .i64 to_3)] (Zax.rs r):=fun st=>
 sO Zax.B Tryz.func123 fun g0 w0 R hE=>by
  unfold Zax at h
  obtain ⟨⟨x1,x2⟩,c1,h13⟩:=Zad h;clear h
  obtain ⟨x3,c2,h14⟩:=Zad h13;clear h13
  refine iteB h14 (fun c3 h15=>?_) (fun c3 h16=>?_)<;>clear h14
  ·obtain rfl:=Zab h15
   exact af fol hE [.r [],.r [(3,{rs:=[.agg [L.arr .u64 4 x1],.one (L.bool x2)],m:=1})],.r [(1,{rs:=[.one (L.bool x3)],m:=1}),(4,{want:=false}),(5,{want:=false})],.c true,.r []] [] 0 [] (aM (Zbf.snd c1) (Zcx.snd c2) (not_false (Zbj c3)) (not_false (Zbj c3)) (not_false (Zbj c3)) (eB true))
  ·refine iteB h16 (fun c4 h17=>?_) (fun c4 h18=>?_)<;>clear h16
   ·obtain rfl:=Zab h17
    exact af fol hE [.r [],.r [(3,{rs:=[.agg [L.arr .u64 4 x1],.one (L.bool x2)],m:=1})],.r [(1,{rs:=[.one (L.bool x3)],m:=1}),(6,{yes:=false})],.c true,.r []] [] 0 [] (aM (Zbf.snd c1) (Zcx.snd c2) (not_true (Zap c3)) (not_true (Zap c3)) (not_true (Zap c3)) c4)
   ·refine iteB h18 (fun c5 h19=>?_) (fun c5 h20=>?_)<;>clear h18
    ·exact aq fol [.r [],.r [(3,{rs:=[.agg [L.arr .u64 4 x1],.one (L.bool x2)],m:=1})],.r [(1,{rs:=[.one (L.bool x3)],m:=1}),(6,{yes:=false})],.c false,.r [],.r [],.r [],.c true,.r [],.s 1] [4,9,11,12] [4,9] (aO (Zbf.snd c1) (Zcx.snd c2) (not_true (Zap c3)) (not_true (Zap c3)) (not_true (Zap c3)) c4 (neI 4) (aI c5 (neI 4))) (Zax.p1_ok h19 hE)
    ·exact aq fol [.r [],.r [(3,{rs:=[.agg [L.arr .u64 4 x1],.one (L.bool x2)],m:=1})],.r [(1,{rs:=[.one (L.bool x3)],m:=1}),(6,{yes:=false})],.c false,.r [],.r [],.r [],.c false,.s 1] [4,9,11,12] [4,9] (aO (Zbf.snd c1) (Zcx.snd c2) (not_true (Zap c3)) (not_true (Zap c3)) (not_true (Zap c3)) c4 (neI 4) c5) (Zax.p1_ok h20 hE)
noncomputable def ZbY.B:Code:=Tryz.f94.body.getD .skip
noncomputable def ZbY.rs (r:Int):List CV:=[.one (L.int .i64 r)]
noncomputable def ZbY.p1 (N:Nat) (bits_2 time_3 hard_5 own_6:Int) (p_0:Zae):Option Int:=
 if (!p_0.Easy)=true then
  some bits_2
 else
 if (decide ((w64 (own_6-time_3))>(w64 (2*p_0.Spacing))))=true then
  some p_0.Limit
 else
 some hard_5
noncomputable def ZbY (N:Nat) (p_0:Zae) (height_1 bits_2 time_3 first_4 hard_5 own_6:Int):Option Int:=
 if (decide (height_1≤0))=true then
  some p_0.Limit
 else
 if (decide (p_0.Interval>0))=true then
  chk (p_0.Interval≠0)<|
  if ((Int.tmod height_1 p_0.Interval)==0)=true then
   optE (Zax N p_0 bits_2 first_4 time_3) fun x1=>
   some x1
  else
  ZbY.p1 N bits_2 time_3 hard_5 own_6 p_0
 else
 ZbY.p1 N bits_2 time_3 hard_5 own_6 p_0
noncomputable def ZbY.p1.S (bits_2 time_3 hard_5 own_6:Int) (p_0:Zae) (st:LL):S:=mkS 48 [(2,.one (.l (L.int .i64 bits_2))),(3,.one (.l (L.int .i64 time_3))),(5,.one (.l (L.int .i64 hard_5))),(6,.one (.l (L.int .i64 own_6))),(7,.one (.adr (.site 7) 0))] [(7,.cells p_0.ls)] st
theorem ZbY.p1_ok {bits_2 time_3 hard_5 own_6 p_0 st r} (h:ZbY.p1 N bits_2 time_3 hard_5 own_6 p_0=some r) (hE:En Tryz.f94 g0 w0 (ZbY.rs r) st R):At g0 w0 (ZbY.p1.S bits_2 time_3 hard_5 own_6 p_0 st) (XK Tryz.prog R [.c (csub ZbY.B [1,1,1])]):=by
 unfold ZbY.p1 at h
 refine iteB h (fun c6 h1=>?_) (fun c6 h2=>?_)<;>clear h
 ·obtain rfl:=Zab h1
  exact af fol hE [.r [],.c true,.r []] [] 0 [] c6
 ·refine iteB h2 (fun c7 h3=>?_) (fun c7 h4=>?_)<;>clear h2
  ·obtain rfl:=Zab h3
   exact af fol hE [.r [],.c false,.r [],.c true,.r []] [] 0 [] (aI c6 c7)
  ·obtain rfl:=Zab h4
   exact af fol hE [.r [],.c false,.r [],.c false,.r []] [] 0 [] (aI c6 c7)
theorem ZbY.snd {p_0:Zae} {height_1 bits_2 time_3 first_4 hard_5 own_6:Int} {r:Int} (h:ZbY N p_0 height_1 bits_2 time_3 first_4 hard_5 own_6=some r):SndQ Tryz.prog 94 [.agg p_0.ls,.one (L.int .i64 height_1),.one (L.int .i64 bits_2),.one (L.int .i64 time_3),.one (L.int .i64 first_4),.one (L.int .i64 hard_5),.one (L.int .i64 own_6)] (ZbY.rs r):=fun st=>
 sO ZbY.B Tryz.func94 fun g0 w0 R hE=>by
  unfold ZbY at h
  refine iteB h (fun c1 h5=>?_) (fun c1 h6=>?_)<;>clear h
  ·obtain rfl:=Zab h5
   exact af fol hE [.r [],.r [],.c true,.r []] [] 0 [] c1
  ·refine iteB h6 (fun c2 h7=>?_) (fun c2 h8=>?_)<;>clear h6
   ·obtain ⟨c3,h9⟩:=ZaT h7;clear h7
    refine iteB h9 (fun c4 h10=>?_) (fun c4 h11=>?_)<;>clear h9
    ·obtain ⟨x1,c5,h12⟩:=Zad h10;clear h10
     obtain rfl:=Zab h12
     exact af fol hE [.r [],.r [],.c false,.r [],.c true,.r [(4,{rs:=[.one (L.int .i64 x1)],m:=1})]] [] 0 [] (aO c1 c2 c2 c2 c2 c3 c2 (aJ c2 c4 (Zax.snd c5)))
    ·exact aq fol [.r [],.r [],.c false,.r [],.c false,.s 1] [2,3,5,6,7] [7] (aO c1 c2 c2 c2 c2 c3 c2 (aI c2 c4)) (ZbY.p1_ok h11 hE)
   ·exact aq fol [.r [],.r [],.c false,.r [(4,{want:=false}),(5,{want:=false}),(6,{want:=false}),(7,{want:=false}),(8,{want:=false}),(9,{yes:=false})],.c false,.s 1] [2,3,5,6,7] [7] (aO c1 c2 c2 c2 c2 c2 c2 (eB false)) (ZbY.p1_ok h8 hE)
noncomputable def ZaA.B:Code:=Tryz.f61.body.getD .skip
noncomputable def ZaA.rs (r:Int):List CV:=[.one (L.int .i64 r)]
noncomputable def ZaA.p4 (N:Nat) (c1_:(Int×Int×Int)→Option Int) (time_2:Int) (chain_1:LL) (first_7 hard_8 v4:Int) (p_0:Zae) (x1:Zah):Option Int:=
 c1_ (first_7,hard_8,w64 (v4+1))
noncomputable def ZaA.p3 (N:Nat) (c1_:(Int×Int×Int)→Option Int) (time_2:Int) (chain_1:LL) (first_7 hard_3:Int) (begins_6:Bool) (v4:Int) (p_0:Zae) (x1 x5:Zah):Option Int:=
 if (!p_0.Easy)=true then
  ZaA.p4 N c1_ time_2 chain_1 first_7 x5.Bits v4 p_0 x1
 else
 if (x5.Bits != p_0.Limit)=true then
  ZaA.p4 N c1_ time_2 chain_1 first_7 x5.Bits v4 p_0 x1
 else
 if begins_6=true then
  ZaA.p4 N c1_ time_2 chain_1 first_7 x5.Bits v4 p_0 x1
 else
 ZaA.p4 N c1_ time_2 chain_1 first_7 hard_3 v4 p_0 x1
noncomputable def ZaA.p2 (N:Nat) (c1_:(Int×Int×Int)→Option Int) (time_2:Int) (chain_1:LL) (first_2 hard_3:Int) (begins_6:Bool) (v4:Int) (p_0:Zae) (x1 x5:Zah):Option Int:=
 if begins_6=true then
  ZaA.p3 N c1_ time_2 chain_1 x5.Time hard_3 begins_6 v4 p_0 x1 x5
 else
 ZaA.p3 N c1_ time_2 chain_1 first_2 hard_3 begins_6 v4 p_0 x1 x5
noncomputable def ZaA.p1 (N:Nat) (time_2:Int) (chain_1:LL) (p_0:Zae) (x1:Zah) (c1_:(Int×Int×Int)→Option Int):(Int×Int×Int)→Option Int:=fun (first_2,hard_3,v4)=>
 if (decide (v4<(len chain_1)))=true then
  chk (0≤v4)<|
  getE (chain_1[Int.toNat v4]?) ZcT fun x5=>
  if (decide (p_0.Interval>0))=true then
   chk (p_0.Interval≠0)<|
   ZaA.p2 N c1_ time_2 chain_1 first_2 hard_3 ((Int.tmod v4 p_0.Interval)==0) v4 p_0 x1 x5
  else
  ZaA.p2 N c1_ time_2 chain_1 first_2 hard_3 false v4 p_0 x1 x5
 else
 optE (ZbY N p_0 (len chain_1) x1.Bits x1.Time first_2 hard_3 time_2) fun x9=>
 some x9
noncomputable def ZaA (N:Nat) (p_0:Zae) (chain_1:LL) (time_2:Int):Option Int:=
 if ((len chain_1)==0)=true then
  some p_0.Limit
 else
 chk (0≤(w64 ((len chain_1)-1)))<|
 chk ((w64 ((len chain_1)-1))<(len chain_1))<|
 getE (chain_1[Int.toNat (w64 ((len chain_1)-1))]?) ZcT fun x1=>
 loopN (ZaA.p1 N time_2 chain_1 p_0 x1) N (0,p_0.Limit,0)
noncomputable def ZaA.p4.S (time_2:Int) (chain_1:LL) (first_7 hard_8 v4:Int) (p_0:Zae) (x1:Zah) (st:LL):S:=mkS 73 [(2,.one (.l (L.int .i64 time_2))),(3,.one (.adr (.site 3) 0)),(7,.one (.l (L.int .i64 (len chain_1)))),(8,.one (.adr (.site 8) 0)),(9,.one (.l (L.int .i64 first_7))),(10,.one (.l (L.int .i64 hard_8))),(27,.one (.l (L.sl 68 chain_1))),(28,.one (.l (L.int .i64 (len chain_1)))),(29,.one (.l (L.int .i64 v4)))] [(3,.cells p_0.ls),(8,.cells x1.ls)] st
noncomputable def ZaA.p3.S (time_2:Int) (chain_1:LL) (first_7 hard_3:Int) (begins_6:Bool) (v4:Int) (p_0:Zae) (x1 x5:Zah) (st:LL):S:=mkS 73 [(2,.one (.l (L.int .i64 time_2))),(3,.one (.adr (.site 3) 0)),(7,.one (.l (L.int .i64 (len chain_1)))),(8,.one (.adr (.site 8) 0)),(9,.one (.l (L.int .i64 first_7))),(10,.one (.l (L.int .i64 hard_3))),(12,.one (.adr (.site 12) 0)),(13,.one (.l (L.bool begins_6))),(27,.one (.l (L.sl 68 chain_1))),(28,.one (.l (L.int .i64 (len chain_1)))),(29,.one (.l (L.int .i64 v4)))] [(3,.cells p_0.ls),(8,.cells x1.ls),(12,.cells x5.ls)] st
noncomputable def ZaA.p2.S (time_2:Int) (chain_1:LL) (first_2 hard_3:Int) (begins_6:Bool) (v4:Int) (p_0:Zae) (x1 x5:Zah) (st:LL):S:=mkS 73 [(2,.one (.l (L.int .i64 time_2))),(3,.one (.adr (.site 3) 0)),(7,.one (.l (L.int .i64 (len chain_1)))),(8,.one (.adr (.site 8) 0)),(9,.one (.l (L.int .i64 first_2))),(10,.one (.l (L.int .i64 hard_3))),(12,.one (.adr (.site 12) 0)),(13,.one (.l (L.bool begins_6))),(27,.one (.l (L.sl 68 chain_1))),(28,.one (.l (L.int .i64 (len chain_1)))),(29,.one (.l (L.int .i64 v4)))] [(3,.cells p_0.ls),(8,.cells x1.ls),(12,.cells x5.ls)] st
noncomputable def ZaA.p1.S (time_2:Int) (chain_1:LL) (first_2 hard_3 v4:Int) (p_0:Zae) (x1:Zah) (st:LL):S:=mkS 73 [(2,.one (.l (L.int .i64 time_2))),(3,.one (.adr (.site 3) 0)),(7,.one (.l (L.int .i64 (len chain_1)))),(8,.one (.adr (.site 8) 0)),(9,.one (.l (L.int .i64 first_2))),(10,.one (.l (L.int .i64 hard_3))),(27,.one (.l (L.sl 68 chain_1))),(28,.one (.l (L.int .i64 (len chain_1)))),(29,.one (.l (L.int .i64 v4)))] [(3,.cells p_0.ls),(8,.cells x1.ls)] st
theorem ZaA.p4_ok {time_2 chain_1 first_7 hard_8 v4 p_0 x1 st r c1_ J1} (h:ZaA.p4 N c1_ time_2 chain_1 first_7 hard_8 v4 p_0 x1=some r) (hE:En Tryz.f61 g0 w0 (ZaA.rs r) st R) (hc1 : ∀first_2 hard_3 v4,c1_ (first_2,hard_3,v4)=some r→At g0 w0 (ZaA.p1.S time_2 chain_1 first_2 hard_3 v4 p_0 x1 st) J1):At g0 w0 (ZaA.p4.S time_2 chain_1 first_7 hard_8 v4 p_0 x1 st) (XK Tryz.prog R [.c (csub ZaA.B [1,1,1,1,1,1,0,1,0,0,1,1,1]),.h J1,.b 0,.c (csub ZaA.B [1,1,1,1,1,1,1])]):=by
 unfold ZaA.p4 at h
 exact an fol [.r []] [2,3,7,8,9,10,27,28,29] [3,8] trivial (hc1 first_7 hard_8 (w64 (v4+1)) h)
theorem ZaA.p3_ok {time_2 chain_1 first_7 hard_3 begins_6 v4 p_0 x1 x5 st r c1_ J1} (h:ZaA.p3 N c1_ time_2 chain_1 first_7 hard_3 begins_6 v4 p_0 x1 x5=some r) (hE:En Tryz.f61 g0 w0 (ZaA.rs r) st R) (hc1 : ∀first_2 hard_3 v4,c1_ (first_2,hard_3,v4)=some r→At g0 w0 (ZaA.p1.S time_2 chain_1 first_2 hard_3 v4 p_0 x1 st) J1):At g0 w0 (ZaA.p3.S time_2 chain_1 first_7 hard_3 begins_6 v4 p_0 x1 x5 st) (XK Tryz.prog R [.c (csub ZaA.B [1,1,1,1,1,1,0,1,0,0,1,1,0,0,1,1,1]),.b 1,.c (csub ZaA.B [1,1,1,1,1,1,0,1,0,0,1,1,1]),.h J1,.b 0,.c (csub ZaA.B [1,1,1,1,1,1,1])]):=by
 unfold ZaA.p3 at h
 refine iteB h (fun c11 h1=>?_) (fun c11 h2=>?_)<;>clear h
 ·exact aq fol [.r [(4,{want:=false}),(5,{want:=false}),(6,{want:=false}),(7,{want:=false}),(8,{want:=false}),(11,{want:=false})],.c true,.r [],.s 4] [2,3,7,8,9,10,27,28,29] [3,8] (aO (not_false (Zbj c11)) (not_false (Zbj c11)) (not_false (Zbj c11)) (not_false (Zbj c11)) (not_false (Zbj c11)) (not_false (Zbj c11)) (eB true) (aI (eB true) (eB true))) (ZaA.p4_ok h1 hE hc1)
 ·refine iteB h2 (fun c12 h3=>?_) (fun c12 h4=>?_)<;>clear h2
  ·exact aq fol [.r [(9,{yes:=false}),(11,{want:=false})],.c true,.r [],.s 4] [2,3,7,8,9,10,27,28,29] [3,8] (aO (not_true (Zap c11)) (not_true (Zap c11)) (not_true (Zap c11)) (not_true (Zap c11)) (not_true (Zap c11)) (not_true (Zap c11)) c12 (aI c12 (eB true))) (ZaA.p4_ok h3 hE hc1)
  ·refine iteB h4 (fun c13 h5=>?_) (fun c13 h6=>?_)<;>clear h4
   ·exact aq fol [.r [(9,{yes:=false}),(12,{yes:=false})],.c true,.r [],.s 4] [2,3,7,8,9,10,27,28,29] [3,8] (aO (not_true (Zap c11)) (not_true (Zap c11)) (not_true (Zap c11)) (not_true (Zap c11)) (not_true (Zap c11)) (not_true (Zap c11)) c12 (aI c12 c13)) (ZaA.p4_ok h5 hE hc1)
   ·exact aq fol [.r [(9,{yes:=false}),(12,{yes:=false})],.c false,.s 4] [2,3,7,8,9,10,27,28,29] [3,8] (aO (not_true (Zap c11)) (not_true (Zap c11)) (not_true (Zap c11)) (not_true (Zap c11)) (not_true (Zap c11)) (not_true (Zap c11)) c12 (aI c12 c13)) (ZaA.p4_ok h6 hE hc1)
theorem ZaA.p2_ok {time_2 chain_1 first_2 hard_3 begins_6 v4 p_0 x1 x5 st r c1_ J1} (h:ZaA.p2 N c1_ time_2 chain_1 first_2 hard_3 begins_6 v4 p_0 x1 x5=some r) (hE:En Tryz.f61 g0 w0 (ZaA.rs r) st R) (hc1 : ∀first_2 hard_3 v4,c1_ (first_2,hard_3,v4)=some r→At g0 w0 (ZaA.p1.S time_2 chain_1 first_2 hard_3 v4 p_0 x1 st) J1):At g0 w0 (ZaA.p2.S time_2 chain_1 first_2 hard_3 begins_6 v4 p_0 x1 x5 st) (XK Tryz.prog R [.c (csub ZaA.B [1,1,1,1,1,1,0,1,0,0,1,1,0,0,1,1]),.b 1,.c (csub ZaA.B [1,1,1,1,1,1,0,1,0,0,1,1,1]),.h J1,.b 0,.c (csub ZaA.B [1,1,1,1,1,1,1])]):=by
 unfold ZaA.p2 at h
 refine iteB h (fun c10 h7=>?_) (fun c10 h8=>?_)<;>clear h
 ·exact aq fol [.r [],.c true,.r [],.s 6] [2,3,7,8,9,10,12,13,27,28,29] [3,8,12] c10 (ZaA.p3_ok h7 hE hc1)
 ·exact aq fol [.r [],.c false,.s 6] [2,3,7,8,9,10,12,13,27,28,29] [3,8,12] c10 (ZaA.p3_ok h8 hE hc1)
theorem ZaA.p1_ok {time_2 chain_1 first_2 hard_3 v4 p_0 x1 st r c1_ J1} (h:ZaA.p1 N time_2 chain_1 p_0 x1 c1_ (first_2,hard_3,v4)=some r) (hE:En Tryz.f61 g0 w0 (ZaA.rs r) st R) (hc1 : ∀first_2 hard_3 v4,c1_ (first_2,hard_3,v4)=some r→At g0 w0 (ZaA.p1.S time_2 chain_1 first_2 hard_3 v4 p_0 x1 st) J1):At g0 w0 (ZaA.p1.S time_2 chain_1 first_2 hard_3 v4 p_0 x1 st) (XK Tryz.prog R (.c (csub ZaA.B [1,1,1,1,1,1,0,1,0,0]) :: .h J1 :: [.b 0,.c (csub ZaA.B [1,1,1,1,1,1,1])])):=by
 unfold ZaA.p1 at h
 refine iteB h (fun c5 h9=>?_) (fun c5 h10=>?_)<;>clear h
 ·obtain ⟨c6,h11⟩:=ZaT h9;clear h9
  obtain ⟨x5,c7,h12⟩:=Zda h11;clear h11
  refine iteB h12 (fun c8 h13=>?_) (fun c8 h14=>?_)<;>clear h12
  ·obtain ⟨c9,h15⟩:=ZaT h13;clear h13
   exact aq fol [.r [],.c true,.r [(2,{oe:=x5.ls})],.r [],.s 6] [2,3,7,8,9,10,12,13,27,28,29] [3,8,12] (aO c5 c6 (oD c5) c7 c8 c8 c8 (aK c8 c9 c8 c8)) (ZaA.p2_ok h15 hE hc1)
  ·exact aq fol [.r [],.c true,.r [(2,{oe:=x5.ls})],.r [(4,{want:=false}),(5,{want:=false}),(6,{want:=false}),(7,{want:=false}),(8,{want:=false}),(9,{yes:=false})],.s 6] [2,3,7,8,9,10,12,13,27,28,29] [3,8,12] (aO c5 c6 (oD c5) c7 c8 c8 c8 (aJ c8 c8 c8)) (ZaA.p2_ok h14 hE hc1)
 ·obtain ⟨x9,c14,h16⟩:=Zad h10;clear h10
  obtain rfl:=Zab h16
  exact af fol hE [.r [],.c false,.r [(9,{rs:=[.one (L.int .i64 x9)],m:=1})]] [] 0 [] (aI c5 (ZbY.snd c14))
theorem ZaA.snd {p_0:Zae} {chain_1:LL} {time_2:Int} {r:Int} (h:ZaA N p_0 chain_1 time_2=some r):SndQ Tryz.prog 61 [.agg p_0.ls,.one (L.sl 68 chain_1),.one (L.int .i64 time_2)] (ZaA.rs r):=fun st=>
 sO ZaA.B Tryz.func61 fun g0 w0 R hE=>by
  unfold ZaA at h
  refine iteB h (fun c1 h17=>?_) (fun c1 h18=>?_)<;>clear h
  ·obtain rfl:=Zab h17
   exact af fol hE [.r [],.r [],.r [],.c true,.r []] [] 0 [] c1
  ·obtain ⟨c2,c3,h19⟩:=ck2 h18;clear h18
   obtain ⟨x1,c4,h20⟩:=Zda h19;clear h19
   exact aq fol [.r [],.r [],.r [],.c false,.r [(4,{oe:=x1.ls})],.r [],.r [],.r []] [2,3,7,8,9,10,27,28,29] [3,8] (aK c1 c2 c3 c4) (At.loop N (At.loopN (fun y:Int×Int×Int=>ZaA.p1.S time_2 chain_1 y.1 y.2.1 y.2.2 p_0 x1 st) (fun c J hc y h=>ZaA.p1_ok (first_2:=y.1) (hard_3:=y.2.1) (v4:=y.2.2) h hE (fun first_2 hard_3 v4=>hc (first_2,hard_3,v4))) N (0,p_0.Limit,0) h20))
noncomputable def Zby.B:Code:=Tryz.f97.body.getD .skip
noncomputable def Zby.rs (r:(List Int)):List CV:=[.agg [L.arr .u64 4 r]]
noncomputable def Zby.p1 (N:Nat) (h_0_0:List Int) (c1_:(Int×(List Int))→Option (List Int)):(Int×(List Int))→Option (List Int):=fun (i_1,out_3)=>
 if (decide (i_1≥0))=true then
  optE (Zaj N out_3 8) fun x4=>
  chk (0≤i_1)<|
  chk (i_1<32)<|
  c1_ (w64 (i_1-1),List.set x4 0 (v64 ((List.getD x4 0 0)+(v64 (List.getD h_0_0 (Int.toNat i_1) 0)))))
 else
 some out_3
noncomputable def Zby (N:Nat) (h_0_0:List Int):Option (List Int):=
 loopN (Zby.p1 N h_0_0) N (31,List.replicate 4 0)
noncomputable def Zby.p1.S (i_1:Int) (h_0_0 out_3:List Int) (st:LL):S:=mkS 21 [(1,.one (.adr (.site 1) 0)),(2,.one (.adr (.site 2) 0)),(3,.one (.adr (.site 3) 0)),(4,.one (.l (L.int .i64 i_1)))] [(1,.cells [L.arr .u8 32 h_0_0]),(2,.cells [L.arr .u64 4 (List.replicate 4 0)]),(3,.cells [L.arr .u64 4 out_3])] st
theorem Zby.p1_ok {i_1 h_0_0 out_3 st r c1_ J1} (h:Zby.p1 N h_0_0 c1_ (i_1,out_3)=some r) (hE:En Tryz.f97 g0 w0 (Zby.rs r) st R) (hc1 : ∀i_1 out_3,c1_ (i_1,out_3)=some r→At g0 w0 (Zby.p1.S i_1 h_0_0 out_3 st) J1):At g0 w0 (Zby.p1.S i_1 h_0_0 out_3 st) (XK Tryz.prog R (.c (csub Zby.B [1,1,0,1,0,0]) :: .h J1 :: [.b 0,.c (csub Zby.B [1,1,1])])):=by
 unfold Zby.p1 at h
 refine iteB h (fun c5 h1=>?_) (fun c5 h2=>?_)<;>clear h
 ·obtain ⟨x4,c6,h3⟩:=Zad h1;clear h1
  obtain ⟨c7,c8,h4⟩:=ck2 h3;clear h3
  exact and_ fol [.r [],.c true,.r [(1,{rs:=[.agg [L.arr .u64 4 x4]],m:=1})],.d {ds:=[],hv:=256,Hs:=[256]},.r []] [1,2,3,4] [1,2,3] (aJ c5 (Zaj.snd c6) (ix 0 4 (aK c7 c8 (leI 0 0) (ltI 0 4)))) (hc1 (w64 (i_1-1)) (List.set x4 0 (v64 ((List.getD x4 0 0)+(v64 (List.getD h_0_0 (Int.toNat i_1) 0))))) h4)
 ·obtain rfl:=Zab h2
  exact af fol hE [.r [],.c false,.r []] [] 0 [] c5
theorem Zby.snd {h_0_0:List Int} {r:(List Int)} (h:Zby N h_0_0=some r):SndQ Tryz.prog 97 [.agg [L.arr .u8 32 h_0_0]] (Zby.rs r):=fun st=>
 sO Zby.B Tryz.func97 fun g0 w0 R hE=>by
  unfold Zby at h
  exact aq fol [.r [],.r [],.r []] [1,2,3,4] [1,2,3] trivial (At.loop N (At.loopN (fun y:Int×(List Int)=>Zby.p1.S y.1 h_0_0 y.2 st) (fun c J hc y h=>Zby.p1_ok (i_1:=y.1) (out_3:=y.2) h hE (fun i_1 out_3=>hc (i_1,out_3))) N (31,List.replicate 4 0) h))
noncomputable def Zdc.B:Code:=Tryz.f62.body.getD .skip
noncomputable def Zdc.rs (r:Bool):List CV:=[.one (L.bool r)]
noncomputable def Zdc (N:Nat) (p_0:Zae) (h_1:Zah):Option Bool:=
 optE (Zbf N h_1.Bits p_0.Limit) fun (x1,x2)=>
 if x2=true then
  optE (ZbJ N h_1) fun x3=>
  optE (Zby N x3) fun x4=>
  optE (Zba N x1 x4) fun x5=>
  some (!x5)
 else
 some false
theorem Zdc.snd {p_0:Zae} {h_1:Zah} {r:Bool} (h:Zdc N p_0 h_1=some r):SndQ Tryz.prog 62 [.agg p_0.ls,.agg h_1.ls] (Zdc.rs r):=fun st=>
 sO Zdc.B Tryz.func62 fun g0 w0 R hE=>by
  unfold Zdc at h
  obtain ⟨⟨x1,x2⟩,c1,h1⟩:=Zad h;clear h
  refine iteB h1 (fun c2 h2=>?_) (fun c2 h3=>?_)<;>clear h1
  ·obtain ⟨x3,c3,h4⟩:=Zad h2;clear h2
   obtain ⟨x4,c4,h5⟩:=Zad h4;clear h4
   obtain ⟨x5,c5,h6⟩:=Zad h5;clear h5
   obtain rfl:=Zab h6
   exact afd fol hE [.r [],.r [(4,{rs:=[.agg [L.arr .u64 4 x1],.one (L.bool x2)],m:=1})],.d {ds:=[(4,{rs:=[.agg [L.arr .u8 32 x3]],m:=1}),(5,{rs:=[.agg [L.arr .u64 4 x4]],m:=1}),(6,{rs:=[.one (L.bool x5)],m:=1})],hv:=0,Hs:=[]}] [] 0 [] (aO (Zbf.snd c1) c2 c2 c2 (ZbJ.snd c3) c2 (Zby.snd c4) (aK c2 (Zba.snd c5) c2 c2))
  ·obtain rfl:=Zab h3
   exact afd fol hE [.r [],.r [(4,{rs:=[.agg [L.arr .u64 4 x1],.one (L.bool x2)],m:=1})],.d {ds:=[(2,{want:=false}),(3,{want:=false}),(4,{want:=false}),(5,{want:=false}),(6,{want:=false}),(7,{want:=false}),(8,{yes:=false})],hv:=0,Hs:=[]}] [] 0 [] (aO (Zbf.snd c1) c2 c2 c2 c2 c2 c2 c2)
noncomputable def ZbR.B:Code:=Tryz.f64.body.getD .skip
noncomputable def ZbR.rs (r:LL):List CV:=[.row true 1 r]
noncomputable def ZbR.p1 (N:Nat) (row_0:LL) (c1_:(LL×Int)→Option LL):(LL×Int)→Option LL:=fun (out_3,i_1)=>
 if (decide (i_1≥0))=true then
  if (decide ((len out_3)<11))=true then
   chk (0≤i_1)<|
   chk (i_1<(len row_0))<|
   getE (row_0[Int.toNat i_1]?) Zdg fun x4=>
   chk (List.length (out_3 ++ [[L.int .i64 x4]])*8≤140737488355328)<|
   c1_ (out_3 ++ [[L.int .i64 x4]],w64 (i_1-1))
  else
  some out_3
 else
 some out_3
noncomputable def ZbR (N:Nat) (row_0:LL):Option LL:=
 loopN (ZbR.p1 N row_0) N ([],w64 ((len row_0)-1))
noncomputable def ZbR.p1.S (row_0 out_3:LL) (i_1:Int) (st:LL):S:=mkS 25 [(0,.one (.l (L.sl 1 row_0))),(3,.one (.h (.row 3 0) 1 0 (List.length out_3))),(4,.one (.l (L.int .i64 i_1)))] [(3,.row 0 true 1 out_3)] st
theorem ZbR.p1_ok {row_0 out_3 i_1 st r c1_ J1} (h:ZbR.p1 N row_0 c1_ (out_3,i_1)=some r) (hE:En Tryz.f64 g0 w0 (ZbR.rs r) st R) (hc1 : ∀out_3 i_1,c1_ (out_3,i_1)=some r→At g0 w0 (ZbR.p1.S row_0 out_3 i_1 st) J1):At g0 w0 (ZbR.p1.S row_0 out_3 i_1 st) (XK Tryz.prog R (.c (csub ZbR.B [1,1,0,1,0,0]) :: .h J1 :: [.b 0,.c (csub ZbR.B [1,1,1])])):=by
 unfold ZbR.p1 at h
 refine iteB h (fun c6 h1=>?_) (fun c6 h2=>?_)<;>clear h
 ·refine iteB h1 (fun c7 h3=>?_) (fun c7 h4=>?_)<;>clear h1
  ·obtain ⟨c8,c9,h5⟩:=ck2 h3;clear h3
   obtain ⟨x4,c10,h6⟩:=ZcM h5;clear h5
   obtain ⟨c11,h7⟩:=ZaT h6;clear h6
   exact an fol [.r [],.c true,.r [(4,{oe:=[L.int .i64 x4]})],.r []] [0,3,4] [3] (aO c6 c6 c6 c6 c7 c8 c9 (aM c10 z0 (eN (List.length out_3)) z0 (eN (1)) c11)) (hc1 (out_3 ++ [[L.int .i64 x4]]) (w64 (i_1-1)) h7)
  ·obtain rfl:=Zab h4
   exact af fol hE [.r [],.c false,.r []] [] 0 [0] (aN c6 c6 c6 c6 c7 z0 (eN (List.length out_3)))
 ·obtain rfl:=Zab h2
  exact af fol hE [.r [(3,{want:=false}),(4,{want:=false}),(5,{want:=false}),(6,{yes:=false})],.c false,.r []] [] 0 [0] (aN c6 c6 c6 c6 (eB false) z0 (eN (List.length out_3)))
theorem ZbR.snd {row_0:LL} {r:LL} (h:ZbR N row_0=some r):SndQ Tryz.prog 64 [.one (L.sl 1 row_0)] (ZbR.rs r):=fun st=>
 sO ZbR.B Tryz.func64 fun g0 w0 R hE=>by
  unfold ZbR at h
  exact aq fol [.r [(0,{m:=2})],.r [(0,{m:=1})],.r []] [0,3,4] [3] trivial (At.loop N (At.loopN (fun y:LL×Int=>ZbR.p1.S row_0 y.1 y.2 st) (fun c J hc y h=>ZbR.p1_ok (out_3:=y.1) (i_1:=y.2) h hE (fun out_3 i_1=>hc (out_3,i_1))) N ([],w64 ((len row_0)-1)) h))
noncomputable def ZaE.B:Code:=Tryz.f63.body.getD .skip
noncomputable def ZaE.rs (r:Int):List CV:=[.one (L.int .i64 r)]
noncomputable def ZaE.p4 (N:Nat) (c2_:(Int×Int×Int)→Option Int) (c1_:Int→Option Int) (times_0:LL) (i_1 less_7 same_10 j_4:Int):Option Int:=
 c2_ (less_7,same_10,w64 (j_4+1))
noncomputable def ZaE.p3 (N:Nat) (c2_:(Int×Int×Int)→Option Int) (c1_:Int→Option Int) (times_0:LL) (i_1 less_7 same_3 j_4:Int):Option Int:=
 chk (0≤j_4)<|
 chk (j_4<(len times_0))<|
 getE (times_0[Int.toNat j_4]?) Zdg fun x8=>
 chk (0≤i_1)<|
 chk (i_1<(len times_0))<|
 getE (times_0[Int.toNat i_1]?) Zdg fun x9=>
 if (x8==x9)=true then
  ZaE.p4 N c2_ c1_ times_0 i_1 less_7 (w64 (same_3+1)) j_4
 else
 ZaE.p4 N c2_ c1_ times_0 i_1 less_7 same_3 j_4
noncomputable def ZaE.p2 (N:Nat) (c1_:Int→Option Int) (times_0:LL) (i_1:Int) (c2_:(Int×Int×Int)→Option Int):(Int×Int×Int)→Option Int:=fun (less_2,same_3,j_4)=>
 if (decide (j_4<(if (11:Int)<(len times_0) then 11 else (len times_0))))=true then
  chk (0≤j_4)<|
  chk (j_4<(len times_0))<|
  getE (times_0[Int.toNat j_4]?) Zdg fun x5=>
  chk (0≤i_1)<|
  chk (i_1<(len times_0))<|
  getE (times_0[Int.toNat i_1]?) Zdg fun x6=>
  if (decide (x5<x6))=true then
   ZaE.p3 N c2_ c1_ times_0 i_1 (w64 (less_2+1)) same_3 j_4
  else
  ZaE.p3 N c2_ c1_ times_0 i_1 less_2 same_3 j_4
 else
 if (decide (less_2≤(w64 (Int.tdiv (if (11:Int)<(len times_0) then 11 else (len times_0)) 2))))=true then
  if (decide ((w64 (Int.tdiv (if (11:Int)<(len times_0) then 11 else (len times_0)) 2))<(w64 (less_2+same_3))))=true then
   chk (0≤i_1)<|
   chk (i_1<(len times_0))<|
   getE (times_0[Int.toNat i_1]?) Zdg fun x11=>
   some x11
  else
  c1_ (w64 (i_1+1))
 else
 c1_ (w64 (i_1+1))
noncomputable def ZaE.p1 (N:Nat) (times_0:LL) (c1_:Int→Option Int):Int→Option Int:=fun i_1=>
 if (decide (i_1<(if (11:Int)<(len times_0) then 11 else (len times_0))))=true then
  loopN (ZaE.p2 N c1_ times_0 i_1) N (0,0,0)
 else
 some 0
noncomputable def ZaE (N:Nat) (times_0:LL):Option Int:=
 loopN (ZaE.p1 N times_0) N 0
noncomputable def ZaE.p4.S (times_0:LL) (i_1 less_7 same_10 j_4:Int) (st:LL):S:=mkS 59 [(0,.one (.l (L.sl 1 times_0))),(3,.one (.l (L.int .i64 (if (11:Int)<(len times_0) then 11 else (len times_0))))),(4,.one (.l (L.int .i64 i_1))),(5,.one (.l (L.int .i64 less_7))),(6,.one (.l (L.int .i64 same_10))),(7,.one (.l (L.int .i64 j_4)))] [] st
noncomputable def ZaE.p3.S (times_0:LL) (i_1 less_7 same_3 j_4:Int) (st:LL):S:=mkS 59 [(0,.one (.l (L.sl 1 times_0))),(3,.one (.l (L.int .i64 (if (11:Int)<(len times_0) then 11 else (len times_0))))),(4,.one (.l (L.int .i64 i_1))),(5,.one (.l (L.int .i64 less_7))),(6,.one (.l (L.int .i64 same_3))),(7,.one (.l (L.int .i64 j_4)))] [] st
noncomputable def ZaE.p2.S (times_0:LL) (i_1 less_2 same_3 j_4:Int) (st:LL):S:=mkS 59 [(0,.one (.l (L.sl 1 times_0))),(3,.one (.l (L.int .i64 (if (11:Int)<(len times_0) then 11 else (len times_0))))),(4,.one (.l (L.int .i64 i_1))),(5,.one (.l (L.int .i64 less_2))),(6,.one (.l (L.int .i64 same_3))),(7,.one (.l (L.int .i64 j_4)))] [] st
noncomputable def ZaE.p1.S (times_0:LL) (i_1:Int) (st:LL):S:=mkS 59 [(0,.one (.l (L.sl 1 times_0))),(3,.one (.l (L.int .i64 (if (11:Int)<(len times_0) then 11 else (len times_0))))),(4,.one (.l (L.int .i64 i_1)))] [] st
theorem ZaE.p4_ok {times_0 i_1 less_7 same_10 j_4 st r c2_ c1_ J2 J1} (h:ZaE.p4 N c2_ c1_ times_0 i_1 less_7 same_10 j_4=some r) (hE:En Tryz.f63 g0 w0 (ZaE.rs r) st R) (hc2 : ∀less_2 same_3 j_4,c2_ (less_2,same_3,j_4)=some r→At g0 w0 (ZaE.p2.S times_0 i_1 less_2 same_3 j_4 st) J2) (hc1 : ∀i_1,c1_ i_1=some r→At g0 w0 (ZaE.p1.S times_0 i_1 st) J1):At g0 w0 (ZaE.p4.S times_0 i_1 less_7 same_10 j_4 st) (XK Tryz.prog R [.c (csub ZaE.B [1,1,0,1,0,0,1,0,0,1,1,0,1,0,0,1,1]),.h J2,.b 2,.c (csub ZaE.B [1,1,0,1,0,0,1,0,0,1,1,1]),.b 1,.c (csub ZaE.B [1,1,0,1,0,0,1,1]),.h J1,.b 0,.c (csub ZaE.B [1,1,1])]):=by
 unfold ZaE.p4 at h
 exact an fol [.r []] [0,3,4,5,6,7] [] trivial (hc2 less_7 same_10 (w64 (j_4+1)) h)
theorem ZaE.p3_ok {times_0 i_1 less_7 same_3 j_4 st r c2_ c1_ J2 J1} (h:ZaE.p3 N c2_ c1_ times_0 i_1 less_7 same_3 j_4=some r) (hE:En Tryz.f63 g0 w0 (ZaE.rs r) st R) (hc2 : ∀less_2 same_3 j_4,c2_ (less_2,same_3,j_4)=some r→At g0 w0 (ZaE.p2.S times_0 i_1 less_2 same_3 j_4 st) J2) (hc1 : ∀i_1,c1_ i_1=some r→At g0 w0 (ZaE.p1.S times_0 i_1 st) J1):At g0 w0 (ZaE.p3.S times_0 i_1 less_7 same_3 j_4 st) (XK Tryz.prog R [.c (csub ZaE.B [1,1,0,1,0,0,1,0,0,1,1,0,1,0,0,1,0,0,1]),.b 3,.c (csub ZaE.B [1,1,0,1,0,0,1,0,0,1,1,0,1,0,0,1,1]),.h J2,.b 2,.c (csub ZaE.B [1,1,0,1,0,0,1,0,0,1,1,1]),.b 1,.c (csub ZaE.B [1,1,0,1,0,0,1,1]),.h J1,.b 0,.c (csub ZaE.B [1,1,1])]):=by
 unfold ZaE.p3 at h
 obtain ⟨c10,c11,h1⟩:=ck2 h;clear h
 obtain ⟨x8,c12,h2⟩:=ZcM h1;clear h1
 obtain ⟨c13,c14,h3⟩:=ck2 h2;clear h2
 obtain ⟨x9,c15,h4⟩:=ZcM h3;clear h3
 refine iteB h4 (fun c16 h5=>?_) (fun c16 h6=>?_)<;>clear h4
 ·exact aqd fol [.d {ds:=[(3,{oe:=[L.int .i64 x8]}),(7,{oe:=[L.int .i64 x9]})],hv:=0,Hs:=[]},.c true,.r [],.s 9] [0,3,4,5,6,7] [] (aN c10 c11 c12 c13 c14 c15 c16) (ZaE.p4_ok h5 hE hc2 hc1)
 ·exact aqd fol [.d {ds:=[(3,{oe:=[L.int .i64 x8]}),(7,{oe:=[L.int .i64 x9]})],hv:=0,Hs:=[]},.c false,.s 9] [0,3,4,5,6,7] [] (aN c10 c11 c12 c13 c14 c15 c16) (ZaE.p4_ok h6 hE hc2 hc1)
theorem ZaE.p2_ok {times_0 i_1 less_2 same_3 j_4 st r c1_ c2_ J1 J2} (h:ZaE.p2 N c1_ times_0 i_1 c2_ (less_2,same_3,j_4)=some r) (hE:En Tryz.f63 g0 w0 (ZaE.rs r) st R) (hc1 : ∀i_1,c1_ i_1=some r→At g0 w0 (ZaE.p1.S times_0 i_1 st) J1) (hc2 : ∀less_2 same_3 j_4,c2_ (less_2,same_3,j_4)=some r→At g0 w0 (ZaE.p2.S times_0 i_1 less_2 same_3 j_4 st) J2):At g0 w0 (ZaE.p2.S times_0 i_1 less_2 same_3 j_4 st) (XK Tryz.prog R (.c (csub ZaE.B [1,1,0,1,0,0,1,0,0,1,1,0,1,0,0]) :: .h J2 :: [.b 2,.c (csub ZaE.B [1,1,0,1,0,0,1,0,0,1,1,1]),.b 1,.c (csub ZaE.B [1,1,0,1,0,0,1,1]),.h J1,.b 0,.c (csub ZaE.B [1,1,1])])):=by
 unfold ZaE.p2 at h
 refine iteB h (fun c2 h7=>?_) (fun c2 h8=>?_)<;>clear h
 ·obtain ⟨c3,c4,h9⟩:=ck2 h7;clear h7
  obtain ⟨x5,c5,h10⟩:=ZcM h9;clear h9
  obtain ⟨c6,c7,h11⟩:=ck2 h10;clear h10
  obtain ⟨x6,c8,h12⟩:=ZcM h11;clear h11
  refine iteB h12 (fun c9 h13=>?_) (fun c9 h14=>?_)<;>clear h12
  ·exact aqd fol [.r [],.c true,.d {ds:=[(3,{oe:=[L.int .i64 x5]}),(7,{oe:=[L.int .i64 x6]})],hv:=0,Hs:=[]},.c true,.r [],.s 11] [0,3,4,5,6,7] [] (aO c2 c3 c4 c5 c6 c7 c8 c9) (ZaE.p3_ok h13 hE hc2 hc1)
  ·exact aqd fol [.r [],.c true,.d {ds:=[(3,{oe:=[L.int .i64 x5]}),(7,{oe:=[L.int .i64 x6]})],hv:=0,Hs:=[]},.c false,.s 11] [0,3,4,5,6,7] [] (aO c2 c3 c4 c5 c6 c7 c8 c9) (ZaE.p3_ok h14 hE hc2 hc1)
 ·refine iteB h8 (fun c17 h15=>?_) (fun c17 h16=>?_)<;>clear h8
  ·refine iteB h15 (fun c18 h17=>?_) (fun c18 h18=>?_)<;>clear h15
   ·obtain ⟨c19,c20,h19⟩:=ck2 h17;clear h17
    obtain ⟨x11,c21,h20⟩:=ZcM h19;clear h19
    obtain rfl:=Zab h20
    exact af fol hE [.r [],.c false,.r [],.c true,.r [(3,{oe:=[L.int .i64 x11]})]] [] 0 [] (aO c2 (neI 2) c17 c17 (neI 2) c17 c17 (aN c17 c17 c17 c18 c19 c20 c21))
   ·exact an fol [.r [],.c false,.r [],.c false,.r []] [0,3,4] [] (aO c2 (neI 2) c17 c17 (neI 2) c17 c17 (aK c17 c17 c17 c18)) (hc1 (w64 (i_1+1)) h18)
  ·exact an fol [.r [],.c false,.r [(5,{want:=false}),(6,{want:=false}),(7,{want:=false}),(8,{want:=false}),(9,{want:=false}),(10,{want:=false}),(11,{yes:=false})],.c false,.r []] [0,3,4] [] (aO c2 (neI 2) c17 c17 c17 c17 c17 (aJ c17 c17 (eB false))) (hc1 (w64 (i_1+1)) h16)
theorem ZaE.p1_ok {times_0 i_1 st r c1_ J1} (h:ZaE.p1 N times_0 c1_ i_1=some r) (hE:En Tryz.f63 g0 w0 (ZaE.rs r) st R) (hc1 : ∀i_1,c1_ i_1=some r→At g0 w0 (ZaE.p1.S times_0 i_1 st) J1):At g0 w0 (ZaE.p1.S times_0 i_1 st) (XK Tryz.prog R (.c (csub ZaE.B [1,1,0,1,0,0]) :: .h J1 :: [.b 0,.c (csub ZaE.B [1,1,1])])):=by
 unfold ZaE.p1 at h
 refine iteB h (fun c1 h21=>?_) (fun c1 h22=>?_)<;>clear h
 ·exact aq fol [.r [],.c true,.r [],.r [],.r []] [0,3,4,5,6,7] [] c1 (At.loop N (At.loopN (fun y:Int×Int×Int=>ZaE.p2.S times_0 i_1 y.1 y.2.1 y.2.2 st) (fun c J hc y h=>ZaE.p2_ok (less_2:=y.1) (same_3:=y.2.1) (j_4:=y.2.2) h hE hc1 (fun less_2 same_3 j_4=>hc (less_2,same_3,j_4))) N (0,0,0) h21))
 ·obtain rfl:=Zab h22
  exact af fol hE [.r [],.c false,.r []] [] 0 [] c1
theorem ZaE.snd {times_0:LL} {r:Int} (h:ZaE N times_0=some r):SndQ Tryz.prog 63 [.one (L.sl 1 times_0)] (ZaE.rs r):=fun st=>
 sO ZaE.B Tryz.func63 fun g0 w0 R hE=>by
  unfold ZaE at h
  exact aq fol [.r [],.r [],.r []] [0,3,4] [] trivial (At.loop N (At.loopN (fun y:Int=>ZaE.p1.S times_0 y st) (fun c J hc y h=>ZaE.p1_ok h hE (fun i_1=>hc i_1)) N 0 h))
noncomputable def Zao.B:Code:=Tryz.f18.body.getD .skip
noncomputable def Zao.rs (r:Int):List CV:=[.one (L.int .i64 r)]
noncomputable def Zao.p6 (N:Nat) (chain_1:LL) (p_0:Zae) (h_2:Zah) (c6_:Int→Option Int):Int→Option Int:=fun v21=>
 if (decide (v21<(len p_0.Checks)))=true then
  chk (0≤v21)<|
  getE (p_0.Checks[Int.toNat v21]?) Zdu fun x22=>
  if (x22.Height==(len chain_1))=true then
   optE (ZbJ N h_2) fun x23=>
   if (!(x22.Id==x23))=true then
    some 8
   else
   c6_ (w64 (v21+1))
  else
  c6_ (w64 (v21+1))
 else
 some 0
noncomputable def Zao.p5 (N:Nat) (chain_1:LL) (p_0:Zae) (h_2:Zah) (c5_:Int→Option Int):Int→Option Int:=fun v19=>
 if (decide (v19<(len p_0.Gates)))=true then
  chk (0≤v19)<|
  getE (p_0.Gates[Int.toNat v19]?) ZdB fun x20=>
  if (decide (x20.Height≤(len chain_1)))=true then
   if (decide (h_2.Version<x20.Version))=true then
    some 7
   else
   c5_ (w64 (v19+1))
  else
  c5_ (w64 (v19+1))
 else
 loopN (Zao.p6 N chain_1 p_0 h_2) N 0
noncomputable def Zao.p4 (N:Nat) (chain_1:LL) (p_0:Zae) (h_2:Zah):Option Int:=
 loopN (Zao.p5 N chain_1 p_0 h_2) N 0
noncomputable def Zao.p3 (N:Nat) (now_3:Int) (chain_1:LL) (p_0:Zae) (h_2:Zah):Option Int:=
 if (decide (p_0.Future<0))=true then
  some 6
 else
 if (decide (h_2.Time>now_3))=true then
  if (decide ((w64 (h_2.Time-now_3))>p_0.Future))=true then
   some 6
  else
  Zao.p4 N chain_1 p_0 h_2
 else
 Zao.p4 N chain_1 p_0 h_2
noncomputable def Zao.p2 (N:Nat) (now_3:Int) (chain_1:LL) (p_0:Zae) (h_2:Zah) (c2_:(LL×Int)→Option Int):(LL×Int)→Option Int:=fun (times_15,v6)=>
 if (decide (v6<(len chain_1)))=true then
  chk (0≤v6)<|
  getE (chain_1[Int.toNat v6]?) ZcT fun x16=>
  chk (List.length (times_15 ++ [[L.int .i64 x16.Time]])*8≤140737488355328)<|
  c2_ (times_15 ++ [[L.int .i64 x16.Time]],w64 (v6+1))
 else
 if (decide ((len chain_1)>0))=true then
  optE (ZbR N times_15) fun x17=>
  chk (plainRow x17=true)<|
  optE (ZaE N x17) fun x18=>
  if (decide (h_2.Time≤x18))=true then
   some 5
  else
  Zao.p3 N now_3 chain_1 p_0 h_2
 else
 Zao.p3 N now_3 chain_1 p_0 h_2
noncomputable def Zao.p1 (N:Nat) (chain_1:LL) (now_3:Int) (p_0:Zae) (h_2:Zah):Option Int:=
 optE (ZaA N p_0 chain_1 h_2.Time) fun x4=>
 if (h_2.Bits != x4)=true then
  some 3
 else
 optE (Zdc N p_0 h_2) fun x5=>
 if (!x5)=true then
  some 4
 else
 loopN (Zao.p2 N now_3 chain_1 p_0 h_2) N ([],0)
noncomputable def Zao (N:Nat) (p_0:Zae) (chain_1:LL) (h_2:Zah) (now_3:Int):Option Int:=
 optE (ZbN N h_2) fun x1=>
 if (!x1)=true then
  some 1
 else
 if (decide ((len chain_1)>0))=true then
  chk (0≤(w64 ((len chain_1)-1)))<|
  chk ((w64 ((len chain_1)-1))<(len chain_1))<|
  getE (chain_1[Int.toNat (w64 ((len chain_1)-1))]?) ZcT fun x2=>
  optE (ZbJ N x2) fun x3=>
  if (!(h_2.Prev==x3))=true then
   some 2
  else
  Zao.p1 N chain_1 now_3 p_0 h_2
 else
 Zao.p1 N chain_1 now_3 p_0 h_2
noncomputable def Zao.p6.S (chain_1:LL) (p_0:Zae) (v21:Int) (h_2:Zah) (st:LL):S:=mkS 125 [(6,.one (.adr (.site 6) 0)),(9,.one (.l (L.int .i64 (len chain_1)))),(107,.one (.l (L.sl 33 p_0.Checks))),(108,.one (.l (L.int .i64 (len p_0.Checks)))),(109,.one (.l (L.int .i64 v21)))] [(6,.cells h_2.ls)] st
noncomputable def Zao.p5.S (chain_1:LL) (p_0:Zae) (v19:Int) (h_2:Zah) (st:LL):S:=mkS 125 [(4,.one (.adr (.site 4) 0)),(6,.one (.adr (.site 6) 0)),(9,.one (.l (L.int .i64 (len chain_1)))),(88,.one (.l (L.sl 2 p_0.Gates))),(89,.one (.l (L.int .i64 (len p_0.Gates)))),(90,.one (.l (L.int .i64 v19)))] [(4,.cells p_0.ls),(6,.cells h_2.ls)] st
noncomputable def Zao.p4.S (chain_1:LL) (p_0:Zae) (h_2:Zah) (st:LL):S:=mkS 125 [(4,.one (.adr (.site 4) 0)),(6,.one (.adr (.site 6) 0)),(9,.one (.l (L.int .i64 (len chain_1))))] [(4,.cells p_0.ls),(6,.cells h_2.ls)] st
noncomputable def Zao.p3.S (now_3:Int) (chain_1:LL) (p_0:Zae) (h_2:Zah) (st:LL):S:=mkS 125 [(3,.one (.l (L.int .i64 now_3))),(4,.one (.adr (.site 4) 0)),(6,.one (.adr (.site 6) 0)),(9,.one (.l (L.int .i64 (len chain_1))))] [(4,.cells p_0.ls),(6,.cells h_2.ls)] st
noncomputable def Zao.p2.S (now_3:Int) (chain_1 times_15:LL) (v6:Int) (p_0:Zae) (h_2:Zah) (st:LL):S:=mkS 125 [(3,.one (.l (L.int .i64 now_3))),(4,.one (.adr (.site 4) 0)),(6,.one (.adr (.site 6) 0)),(9,.one (.l (L.int .i64 (len chain_1)))),(10,.one (.h (.row 10 0) 1 0 (List.length times_15))),(47,.one (.l (L.sl 68 chain_1))),(48,.one (.l (L.int .i64 (len chain_1)))),(49,.one (.l (L.int .i64 v6)))] [(4,.cells p_0.ls),(6,.cells h_2.ls),(10,.row 0 true 1 times_15)] st
noncomputable def Zao.p1.S (chain_1:LL) (now_3:Int) (p_0:Zae) (h_2:Zah) (st:LL):S:=mkS 125 [(1,.one (.l (L.sl 68 chain_1))),(3,.one (.l (L.int .i64 now_3))),(4,.one (.adr (.site 4) 0)),(6,.one (.adr (.site 6) 0)),(9,.one (.l (L.int .i64 (len chain_1))))] [(4,.cells p_0.ls),(6,.cells h_2.ls)] st
theorem Zao.p6_ok {chain_1 p_0 v21 h_2 st r c6_ J6} (h:Zao.p6 N chain_1 p_0 h_2 c6_ v21=some r) (hE:En Tryz.f18 g0 w0 (Zao.rs r) st R) (hc6 : ∀v21,c6_ v21=some r→At g0 w0 (Zao.p6.S chain_1 p_0 v21 h_2 st) J6):At g0 w0 (Zao.p6.S chain_1 p_0 v21 h_2 st) (XK Tryz.prog R (.c (csub Zao.B [1,1,1,1,1,1,1,1,1,1,1,0,1,0,0]) :: .h J6 :: [.b 4,.c (csub Zao.B [1,1,1,1,1,1,1,1,1,1,1,1])])):=by
 unfold Zao.p6 at h
 refine iteB h (fun c53 h1=>?_) (fun c53 h2=>?_)<;>clear h
 ·obtain ⟨c54,h3⟩:=ZaT h1;clear h1
  obtain ⟨x22,c55,h4⟩:=Zdy h3;clear h3
  refine iteB h4 (fun c56 h5=>?_) (fun c56 h6=>?_)<;>clear h4
  ·obtain ⟨x23,c57,h7⟩:=Zad h5;clear h5
   refine iteB h7 (fun c58 h8=>?_) (fun c58 h9=>?_)<;>clear h7
   ·obtain rfl:=Zab h8
    exact afd fol hE [.r [],.c true,.r [(1,{oe:=x22.ls})],.d {ds:=[(8,{rs:=[.agg [L.arr .u8 32 x23]],m:=1})],hv:=0,Hs:=[]},.c true,.r []] [] 0 [] (aO c53 c54 (oD c53) c55 c56 c56 c56 (aL c56 (ZbJ.snd c57) c56 c56 c58))
   ·exact and_ fol [.r [],.c true,.r [(1,{oe:=x22.ls})],.d {ds:=[(8,{rs:=[.agg [L.arr .u8 32 x23]],m:=1})],hv:=0,Hs:=[]},.c false,.r []] [6,9,107,108,109] [6] (aO c53 c54 (oD c53) c55 c56 c56 c56 (aL c56 (ZbJ.snd c57) c56 c56 c58)) (hc6 (w64 (v21+1)) h9)
  ·exact and_ fol [.r [],.c true,.r [(1,{oe:=x22.ls})],.d {ds:=[(5,{want:=false}),(6,{want:=false}),(7,{want:=false}),(8,{want:=false}),(9,{want:=false}),(10,{yes:=false})],hv:=0,Hs:=[]},.c false,.r []] [6,9,107,108,109] [6] (aO c53 c54 (oD c53) c55 c56 c56 c56 (aK c56 c56 c56 (eB false))) (hc6 (w64 (v21+1)) h6)
 ·obtain rfl:=Zab h2
  exact af fol hE [.r [],.c false,.r []] [] 0 [] c53
theorem Zao.p5_ok {chain_1 p_0 v19 h_2 st r c5_ J5} (h:Zao.p5 N chain_1 p_0 h_2 c5_ v19=some r) (hE:En Tryz.f18 g0 w0 (Zao.rs r) st R) (hc5 : ∀v19,c5_ v19=some r→At g0 w0 (Zao.p5.S chain_1 p_0 v19 h_2 st) J5):At g0 w0 (Zao.p5.S chain_1 p_0 v19 h_2 st) (XK Tryz.prog R (.c (csub Zao.B [1,1,1,1,1,1,1,1,1,1,0,1,0,0]) :: .h J5 :: [.b 2,.c (csub Zao.B [1,1,1,1,1,1,1,1,1,1,1])])):=by
 unfold Zao.p5 at h
 refine iteB h (fun c48 h10=>?_) (fun c48 h11=>?_)<;>clear h
 ·obtain ⟨c49,h12⟩:=ZaT h10;clear h10
  obtain ⟨x20,c50,h13⟩:=ZdE h12;clear h12
  refine iteB h13 (fun c51 h14=>?_) (fun c51 h15=>?_)<;>clear h13
  ·refine iteB h14 (fun c52 h16=>?_) (fun c52 h17=>?_)<;>clear h14
   ·obtain rfl:=Zab h16
    exact af fol hE [.r [],.c true,.r [(1,{oe:=x20.ls})],.r [],.c true,.r []] [] 0 [] (aO c48 c49 (oD c48) c50 c51 c51 c51 (aK c51 c51 c51 c52))
   ·exact an fol [.r [],.c true,.r [(1,{oe:=x20.ls})],.r [],.c false,.r []] [4,6,9,88,89,90] [4,6] (aO c48 c49 (oD c48) c50 c51 c51 c51 (aK c51 c51 c51 c52)) (hc5 (w64 (v19+1)) h17)
  ·exact an fol [.r [],.c true,.r [(1,{oe:=x20.ls})],.r [(5,{want:=false}),(6,{want:=false}),(7,{want:=false}),(8,{want:=false}),(9,{want:=false}),(10,{yes:=false})],.c false,.r []] [4,6,9,88,89,90] [4,6] (aO c48 c49 (oD c48) c50 c51 c51 c51 (aK c51 c51 c51 (eB false))) (hc5 (w64 (v19+1)) h15)
 ·exact aq fol [.r [],.c false,.r []] [6,9,107,108,109] [6] c48 (At.loop N (At.loopN (fun y:Int=>Zao.p6.S chain_1 p_0 y h_2 st) (fun c J hc y h=>Zao.p6_ok h hE (fun v21=>hc v21)) N 0 h11))
theorem Zao.p4_ok {chain_1 p_0 h_2 st r} (h:Zao.p4 N chain_1 p_0 h_2=some r) (hE:En Tryz.f18 g0 w0 (Zao.rs r) st R):At g0 w0 (Zao.p4.S chain_1 p_0 h_2 st) (XK Tryz.prog R [.c (csub Zao.B [1,1,1,1,1,1,1,1,1,1])]):=by
 unfold Zao.p4 at h
 exact aq fol [.r []] [4,6,9,88,89,90] [4,6] trivial (At.loop N (At.loopN (fun y:Int=>Zao.p5.S chain_1 p_0 y h_2 st) (fun c J hc y h=>Zao.p5_ok h hE (fun v19=>hc v19)) N 0 h))
theorem Zao.p3_ok {now_3 chain_1 p_0 h_2 st r} (h:Zao.p3 N now_3 chain_1 p_0 h_2=some r) (hE:En Tryz.f18 g0 w0 (Zao.rs r) st R):At g0 w0 (Zao.p3.S now_3 chain_1 p_0 h_2 st) (XK Tryz.prog R [.c (csub Zao.B [1,1,1,1,1,1,1,1,1])]):=by
 unfold Zao.p3 at h
 refine iteB h (fun c45 h18=>?_) (fun c45 h19=>?_)<;>clear h
 ·obtain rfl:=Zab h18
  exact af fol hE [.r [(4,{want:=false}),(5,{want:=false}),(6,{want:=false}),(7,{want:=false}),(8,{want:=false}),(16,{want:=false})],.c true,.r []] [] 0 [] (aO c45 c45 c45 c45 c45 c45 c45 (eB true))
 ·refine iteB h19 (fun c46 h20=>?_) (fun c46 h21=>?_)<;>clear h19
  ·refine iteB h20 (fun c47 h22=>?_) (fun c47 h23=>?_)<;>clear h20
   ·obtain rfl:=Zab h22
    exact af fol hE [.r [(17,{yes:=false})],.c true,.r []] [] 0 [] (aO c45 c45 c45 c45 c45 c46 c46 (aO c46 c46 c46 c46 c46 c45 c46 (aI c45 c47)))
   ·exact aq fol [.r [(17,{yes:=false})],.c false,.s 1] [4,6,9] [4,6] (aO c45 c45 c45 c45 c45 c46 c46 (aO c46 c46 c46 c46 c46 c45 c46 (aI c45 c47))) (Zao.p4_ok h23 hE)
  ·exact aq fol [.r [(9,{want:=false}),(10,{want:=false}),(11,{want:=false}),(12,{want:=false}),(13,{want:=false}),(14,{want:=false}),(15,{want:=false}),(16,{yes:=false}),(17,{yes:=false})],.c false,.s 1] [4,6,9] [4,6] (aO c45 c45 c45 c45 c45 c46 c46 (aO c46 c46 c46 c46 c46 c45 c46 (aI c45 (eB false)))) (Zao.p4_ok h21 hE)
theorem Zao.p2_ok {now_3 chain_1 times_15 v6 p_0 h_2 st r c2_ J2} (h:Zao.p2 N now_3 chain_1 p_0 h_2 c2_ (times_15,v6)=some r) (hE:En Tryz.f18 g0 w0 (Zao.rs r) st R) (hc2 : ∀times_15 v6,c2_ (times_15,v6)=some r→At g0 w0 (Zao.p2.S now_3 chain_1 times_15 v6 p_0 h_2 st) J2):At g0 w0 (Zao.p2.S now_3 chain_1 times_15 v6 p_0 h_2 st) (XK Tryz.prog R (.c (csub Zao.B [1,1,1,1,1,1,1,0,1,0,0]) :: .h J2 :: [.b 0,.c (csub Zao.B [1,1,1,1,1,1,1,1])])):=by
 unfold Zao.p2 at h
 refine iteB h (fun c36 h24=>?_) (fun c36 h25=>?_)<;>clear h
 ·obtain ⟨c37,h26⟩:=ZaT h24;clear h24
  obtain ⟨x16,c38,h27⟩:=Zda h26;clear h26
  obtain ⟨c39,h28⟩:=ZaT h27;clear h27
  exact an fol [.r [],.c true,.r [(1,{oe:=x16.ls})],.r [],.r []] [3,4,6,9,10,47,48,49] [4,6,10] (aO c36 c37 (oD c36) c38 z0 (eN (List.length times_15)) z0 (aI (eN (1)) c39)) (hc2 (times_15 ++ [[L.int .i64 x16.Time]]) (w64 (v6+1)) h28)
 ·refine iteB h25 (fun c40 h29=>?_) (fun c40 h30=>?_)<;>clear h25
  ·obtain ⟨x17,c41,h31⟩:=Zad h29;clear h29
   obtain ⟨c42,h32⟩:=ZaT h31;clear h31
   obtain ⟨x18,c43,h33⟩:=Zad h32;clear h32
   refine iteB h33 (fun c44 h34=>?_) (fun c44 h35=>?_)<;>clear h33
   ·obtain rfl:=Zab h34
    exact afd fol hE [.r [],.c false,.d {ds:=[(6,{rs:=[.row true 1 x17],ns:=[65],m:=2}),(7,{rs:=[.one (L.int .i64 x18)],m:=2})],hv:=64,Hs:=[64]},.c true,.r []] [] 0 [] (aO c36 c40 c40 c40 c40 c40 c40 (aO z0 (eN (List.length times_15)) c42 (ZbR.snd c41) c40 z0 (eN (List.length x17)) (aK (ZaE.snd c43) c40 c40 c44)))
   ·exact aqd fol [.r [],.c false,.d {ds:=[(6,{rs:=[.row true 1 x17],ns:=[65],m:=2}),(7,{rs:=[.one (L.int .i64 x18)],m:=2})],hv:=64,Hs:=[64]},.c false,.s 1] [3,4,6,9] [4,6] (aO c36 c40 c40 c40 c40 c40 c40 (aO z0 (eN (List.length times_15)) c42 (ZbR.snd c41) c40 z0 (eN (List.length x17)) (aK (ZaE.snd c43) c40 c40 c44))) (Zao.p3_ok h35 hE)
  ·exact aqd fol [.r [],.c false,.d {ds:=[(3,{want:=false}),(4,{want:=false}),(5,{want:=false}),(6,{want:=false}),(7,{want:=false}),(8,{want:=false}),(9,{yes:=false})],hv:=0,Hs:=[]},.c false,.s 1] [3,4,6,9] [4,6] (aO c36 c40 c40 c40 c40 c40 c40 (aI c40 (eB false))) (Zao.p3_ok h30 hE)
theorem Zao.p1_ok {chain_1 now_3 p_0 h_2 st r} (h:Zao.p1 N chain_1 now_3 p_0 h_2=some r) (hE:En Tryz.f18 g0 w0 (Zao.rs r) st R):At g0 w0 (Zao.p1.S chain_1 now_3 p_0 h_2 st) (XK Tryz.prog R [.c (csub Zao.B [1,1,1,1])]):=by
 unfold Zao.p1 at h
 obtain ⟨x4,c9,h36⟩:=Zad h;clear h
 refine iteB h36 (fun c10 h37=>?_) (fun c10 h38=>?_)<;>clear h36
 ·obtain rfl:=Zab h37
  exact afd fol hE [.d {ds:=[(6,{rs:=[.one (L.int .i64 x4)],m:=1})],hv:=0,Hs:=[]},.c true,.r []] [] 0 [] (aI (ZaA.snd c9) c10)
 ·obtain ⟨x5,c11,h39⟩:=Zad h38;clear h38
  refine iteB h39 (fun c12 h40=>?_) (fun c12 h41=>?_)<;>clear h39
  ·obtain rfl:=Zab h40
   exact afd fol hE [.d {ds:=[(6,{rs:=[.one (L.int .i64 x4)],m:=1})],hv:=0,Hs:=[]},.c false,.r [(2,{rs:=[.one (L.bool x5)],m:=1})],.c true,.r []] [] 0 [] (aK (ZaA.snd c9) c10 (Zdc.snd c11) c12)
  ·exact aqd fol [.d {ds:=[(6,{rs:=[.one (L.int .i64 x4)],m:=1})],hv:=0,Hs:=[]},.c false,.r [(2,{rs:=[.one (L.bool x5)],m:=1})],.c false,.r [(0,{m:=1})],.r []] [3,4,6,9,10,47,48,49] [4,6,10] (aK (ZaA.snd c9) c10 (Zdc.snd c11) c12) (At.loop N (At.loopN (fun y:LL×Int=>Zao.p2.S now_3 chain_1 y.1 y.2 p_0 h_2 st) (fun c J hc y h=>Zao.p2_ok (times_15:=y.1) (v6:=y.2) h hE (fun times_15 v6=>hc (times_15,v6))) N ([],0) h41))
theorem Zao.snd {p_0:Zae} {chain_1:LL} {h_2:Zah} {now_3:Int} {r:Int} (h:Zao N p_0 chain_1 h_2 now_3=some r):SndQ Tryz.prog 18 [.agg p_0.ls,.one (L.sl 68 chain_1),.agg h_2.ls,.one (L.int .i64 now_3)] (Zao.rs r):=fun st=>
 sO Zao.B Tryz.func18 fun g0 w0 R hE=>by
  unfold Zao at h
  obtain ⟨x1,c1,h42⟩:=Zad h;clear h
  refine iteB h42 (fun c2 h43=>?_) (fun c2 h44=>?_)<;>clear h42
  ·obtain rfl:=Zab h43
   exact af fol hE [.r [],.r [],.r [(1,{rs:=[.one (L.bool x1)],m:=1})],.c true,.r []] [] 0 [] (aI (ZbN.snd c1) c2)
  ·refine iteB h44 (fun c3 h45=>?_) (fun c3 h46=>?_)<;>clear h44
   ·obtain ⟨c4,c5,h47⟩:=ck2 h45;clear h45
    obtain ⟨x2,c6,h48⟩:=Zda h47;clear h47
    obtain ⟨x3,c7,h49⟩:=Zad h48;clear h48
    refine iteB h49 (fun c8 h50=>?_) (fun c8 h51=>?_)<;>clear h49
    ·obtain rfl:=Zab h50
     exact afd fol hE [.r [],.r [],.r [(1,{rs:=[.one (L.bool x1)],m:=1})],.c false,.d {ds:=[(9,{oe:=x2.ls}),(10,{rs:=[.agg [L.arr .u8 32 x3]],m:=1})],hv:=0,Hs:=[]},.c true,.r []] [] 0 [] (aO (ZbN.snd c1) c2 c3 c3 c3 c3 c3 (aO c3 c4 c5 c3 c6 c3 (ZbJ.snd c7) (aJ c3 c3 c8)))
    ·exact aqd fol [.r [],.r [],.r [(1,{rs:=[.one (L.bool x1)],m:=1})],.c false,.d {ds:=[(9,{oe:=x2.ls}),(10,{rs:=[.agg [L.arr .u8 32 x3]],m:=1})],hv:=0,Hs:=[]},.c false,.s 1] [1,3,4,6,9] [4,6] (aO (ZbN.snd c1) c2 c3 c3 c3 c3 c3 (aO c3 c4 c5 c3 c6 c3 (ZbJ.snd c7) (aJ c3 c3 c8))) (Zao.p1_ok h51 hE)
   ·exact aqd fol [.r [],.r [],.r [(1,{rs:=[.one (L.bool x1)],m:=1})],.c false,.d {ds:=[(3,{want:=false}),(4,{want:=false}),(5,{want:=false}),(6,{want:=false}),(7,{want:=false}),(8,{want:=false}),(9,{want:=false}),(10,{want:=false}),(11,{want:=false}),(12,{yes:=false})],hv:=0,Hs:=[]},.c false,.s 1] [1,3,4,6,9] [4,6] (aO (ZbN.snd c1) c2 c3 c3 c3 c3 c3 (aM c3 c3 c3 c3 c3 (eB false))) (Zao.p1_ok h46 hE)
noncomputable def ZaF.B:Code:=Tryz.f33.body.getD .skip
noncomputable def ZaF.rs (r:Int×LL):List CV:=[.one (L.int .i64 r.1)]
noncomputable def ZaF.p1 (N:Nat) (i1:Nat) (x2:Zaa) (id_1_0:List Int) (st:LL) (c1_:Int→Option (Int×LL)):Int→Option (Int×LL):=fun v3=>
 if (decide (v3<(len x2.Ids)))=true then
  chk (0≤v3)<|
  getE (st[i1]?) ZbZ fun x4=>
  getE (x4.Ids[0+(Int.toNat v3)]?) ZeU fun x5=>
  if (x5==id_1_0)=true then
   some (v3,st)
  else
  c1_ (w64 (v3+1))
 else
 some ((-1),st)
noncomputable def ZaF (N:Nat) (a_0:Option Nat) (id_1_0:List Int) (st:LL):Option (Int×LL):=
 optE a_0 fun i1=>
 getE (st[i1]?) ZbZ fun x2=>
 loopN (ZaF.p1 N i1 x2 id_1_0 st) N 0
noncomputable def ZaF.p1.S (i1:Nat) (x2:Zaa) (v3:Int) (id_1_0:List Int) (st:LL):S:=mkS 22 [(3,.one (.adr (.site 3) 0)),(10,.one (.h (.mem (.obj i1) 84 0) 32 0 (List.length x2.Ids))),(11,.one (.l (L.int .i64 (len x2.Ids)))),(12,.one (.l (L.int .i64 v3)))] [(3,.cells [L.arr .u8 32 id_1_0])] st
theorem ZaF.p1_ok {i1 x2 v3 id_1_0 st r c1_ J1} (h:ZaF.p1 N i1 x2 id_1_0 st c1_ v3=some r) (hE:En Tryz.f33 g0 w0 (ZaF.rs r) r.2 R) (hc1 : ∀v3,c1_ v3=some r→At g0 w0 (ZaF.p1.S i1 x2 v3 id_1_0 st) J1):At g0 w0 (ZaF.p1.S i1 x2 v3 id_1_0 st) (XK Tryz.prog R (.c (csub ZaF.B [1,0,1,0,0]) :: .h J1 :: [.b 0,.c (csub ZaF.B [1,1])])):=by
 unfold ZaF.p1 at h
 refine iteB h (fun c3 h1=>?_) (fun c3 h2=>?_)<;>clear h
 ·obtain ⟨c4,h3⟩:=ZaT h1;clear h1
  obtain ⟨x4,c5,h4⟩:=Zcp h3;clear h3
  obtain ⟨x5,c6,h5⟩:=Zff h4;clear h4
  refine iteB h5 (fun c7 h6=>?_) (fun c7 h7=>?_)<;>clear h5
  ·obtain rfl:=Zab h6
   exact af fol hE [.r [],.c true,.r [(2,{oc:=x4.lo,oe:=[L.arr .u8 32 x5]})],.r [],.c true,.r []] [] 0 [] (aM c3 c4 (oD c3) c6 c5 c7)
  ·exact an fol [.r [],.c true,.r [(2,{oc:=x4.lo,oe:=[L.arr .u8 32 x5]})],.r [],.c false,.r []] [3,10,11,12] [3] (aM c3 c4 (oD c3) c6 c5 c7) (hc1 (w64 (v3+1)) h7)
 ·obtain rfl:=Zab h2
  exact af fol hE [.r [],.c false,.r []] [] 0 [] c3
theorem ZaF.snd {a_0:Option Nat} {id_1_0:List Int} {st:LL} {r:Int×LL} (h:ZaF N a_0 id_1_0 st=some r):Snd Tryz.prog 33 [.one (L.ptr a_0),.agg [L.arr .u8 32 id_1_0]] st (ZaF.rs r) r.2:=
 sO ZaF.B Tryz.func33 fun g0 w0 R hE=>by
  unfold ZaF at h
  obtain ⟨i1,rfl,h8⟩:=Zad h;clear h
  obtain ⟨x2,c2,h9⟩:=Zcp h8;clear h8
  exact aq fol [.r [],.r [(3,{oc:=x2.lo})]] [3,10,11,12] [3] c2 (At.loop N (At.loopN (fun y:Int=>ZaF.p1.S i1 x2 y id_1_0 st) (fun c J hc y h=>ZaF.p1_ok h hE (fun v3=>hc v3)) N 0 h9))
noncomputable def ZdA.B:Code:=Tryz.f70.body.getD .skip
noncomputable def ZdA.rs (r:(List Int)):List CV:=[.agg [L.arr .u64 4 r]]
noncomputable def ZdA (N:Nat) (a_0_0 b_1_0:List Int):Option (List Int):=
 optE (ZaQ N a_0_0 b_1_0) fun (x1,x2)=>
 if x2=true then
  optE (Zcy N ) fun x3=>
  some x3
 else
 some x1
theorem ZdA.snd {a_0_0 b_1_0:List Int} {r:(List Int)} (h:ZdA N a_0_0 b_1_0=some r):SndQ Tryz.prog 70 [.agg [L.arr .u64 4 a_0_0],.agg [L.arr .u64 4 b_1_0]] (ZdA.rs r):=fun st=>
 sO ZdA.B Tryz.func70 fun g0 w0 R hE=>by
  unfold ZdA at h
  obtain ⟨⟨x1,x2⟩,c1,h1⟩:=Zad h;clear h
  refine iteB h1 (fun c2 h2=>?_) (fun c2 h3=>?_)<;>clear h1
  ·obtain ⟨x3,c3,h4⟩:=Zad h2;clear h2
   obtain rfl:=Zab h4
   exact af fol hE [.r [],.r [(2,{rs:=[.agg [L.arr .u64 4 x1],.one (L.bool x2)],m:=1})],.r [],.c true,.r [(0,{rs:=[.agg [L.arr .u64 4 x3]],m:=1})]] [] 0 [] (aJ (ZaQ.snd c1) c2 (Zcy.snd c3))
  ·obtain rfl:=Zab h3
   exact af fol hE [.r [],.r [(2,{rs:=[.agg [L.arr .u64 4 x1],.one (L.bool x2)],m:=1})],.r [],.c false,.r []] [] 0 [] (aI (ZaQ.snd c1) c2)
noncomputable def ZbX.B:Code:=Tryz.f31.body.getD .skip
noncomputable def ZbX.rs (r:Int×Int×Int×LL):List CV:=[.one (L.int .i64 r.1),.one (L.int .i64 r.2.1),.one (L.int .i64 r.2.2.1)]
noncomputable def ZbX (N:Nat) (a_0:Option Nat) (h_1:Zah) (now_2:Int) (st:LL):Option (Int×Int×Int×LL):=
 optE (ZbN N h_1) fun x1=>
 if (!x1)=true then
  some ((-1),1,8,st)
 else
 optE (ZbJ N h_1) fun x2=>
 optE (ZaF N a_0 x2 st) fun (x3,st4)=>
 if (decide (x3≥0))=true then
  some (x3,0,0,st4)
 else
 optE (ZaF N a_0 h_1.Prev st4) fun (x5,st6)=>
 if (decide (x5<0))=true then
  some ((-1),2,5,st6)
 else
 optE a_0 fun i7=>
 getE (st6[i7]?) ZbZ fun x8=>
 optE (ZaH N x8 x5) fun x9=>
 chk (plainRow x9=true)<|
 optE (Zao N x8.Rules x9 h_1 now_2) fun x10=>
 if (decide (x10>0))=true then
  some ((-1),x10,8,st6)
 else
 if (decide ((len x8.List_)≥x8.Room))=true then
  some ((-1),0,6,st6)
 else
 chk (List.length (x8.List_ ++ [h_1.ls])*96≤140737488355328)<|
 chk (List.length (x8.Ids ++ [[L.arr .u8 32 x2]])*32≤140737488355328)<|
 chk (0≤x5)<|
 chk (x5<(len x8.Works))<|
 getE (x8.Works[0+(Int.toNat x5)]?) ZfB fun x11=>
 optE (ZbU N h_1.Bits) fun x12=>
 optE (ZdA N x11 x12) fun x13=>
 chk (List.length (x8.Works ++ [[L.arr .u64 4 x13]])*32≤140737488355328)<|
 chk (List.length (x8.Ahead ++ [[L.int .i64 x5]])*8≤140737488355328)<|
 some (w64 ((len (x8.List_ ++ [h_1.ls]))-1),0,0,List.set (List.set (List.set (List.set (List.set (List.set (List.set (List.set st6 i7 (gs x8.lo 15)) i7 (Zaa.lo {x8 with List_:=x8.List_ ++ [h_1.ls]})) i7 (gs (Zaa.lo {x8 with List_:=x8.List_ ++ [h_1.ls]}) 16)) i7 (Zaa.lo {x8 with List_:=x8.List_ ++ [h_1.ls],Ids:=x8.Ids ++ [[L.arr .u8 32 x2]]})) i7 (gs (Zaa.lo {x8 with List_:=x8.List_ ++ [h_1.ls],Ids:=x8.Ids ++ [[L.arr .u8 32 x2]]}) 18)) i7 (Zaa.lo {x8 with List_:=x8.List_ ++ [h_1.ls],Ids:=x8.Ids ++ [[L.arr .u8 32 x2]],Works:=x8.Works ++ [[L.arr .u64 4 x13]]})) i7 (gs (Zaa.lo {x8 with List_:=x8.List_ ++ [h_1.ls],Ids:=x8.Ids ++ [[L.arr .u8 32 x2]],Works:=x8.Works ++ [[L.arr .u64 4 x13]]}) 17)) i7 (Zaa.lo (Zaa.mk x8.Rules (x8.List_ ++ [h_1.ls]) (x8.Ids ++ [[L.arr .u8 32 x2]]) (x8.Ahead ++ [[L.int .i64 x5]]) (x8.Works ++ [[L.arr .u64 4 x13]]) x8.Room)))
theorem ZbX.snd {a_0:Option Nat} {h_1:Zah} {now_2:Int} {st:LL} {r:Int×Int×Int×LL} (h:ZbX N a_0 h_1 now_2 st=some r):Snd Tryz.prog 31 [.one (L.ptr a_0),.agg h_1.ls,.one (L.int .i64 now_2)] st (ZbX.rs r) r.2.2.2:=
 sO ZbX.B Tryz.func31 fun g0 w0 R hE=>by
  unfold ZbX at h
  obtain ⟨x1,c1,h1⟩:=Zad h;clear h
  refine iteB h1 (fun c2 h2=>?_) (fun c2 h3=>?_)<;>clear h1
  ·obtain rfl:=Zab h2
   exact af fol hE [.r [],.r [(1,{rs:=[.one (L.bool x1)],m:=1})],.c true,.r []] [] 0 [] (aI (ZbN.snd c1) c2)
  ·obtain ⟨x2,c3,h4⟩:=Zad h3;clear h3
   obtain ⟨⟨x3,st4⟩,c4,h5⟩:=Zad h4;clear h4
   refine iteB h5 (fun c5 h6=>?_) (fun c5 h7=>?_)<;>clear h5
   ·obtain rfl:=Zab h6
    exact af fol hE [.r [],.r [(1,{rs:=[.one (L.bool x1)],m:=1})],.c false,.r [(2,{rs:=[.agg [L.arr .u8 32 x2]],m:=1}),(3,{rs:=[.one (L.int .i64 x3)],st:=st4})],.r [],.c true,.r []] [] 0 [] (aL (ZbN.snd c1) c2 (ZbJ.snd c3) (ZaF.snd c4) c5)
   ·obtain ⟨⟨x5,st6⟩,c6,h8⟩:=Zad h7;clear h7
    refine iteB h8 (fun c7 h9=>?_) (fun c7 h10=>?_)<;>clear h8
    ·obtain rfl:=Zab h9
     exact af fol hE [.r [],.r [(1,{rs:=[.one (L.bool x1)],m:=1})],.c false,.r [(2,{rs:=[.agg [L.arr .u8 32 x2]],m:=1}),(3,{rs:=[.one (L.int .i64 x3)],st:=st4})],.r [],.c false,.r [(3,{rs:=[.one (L.int .i64 x5)],st:=st6})],.r [],.c true,.r []] [] 0 [] (aN (ZbN.snd c1) c2 (ZbJ.snd c3) (ZaF.snd c4) c5 (ZaF.snd c6) c7)
    ·obtain ⟨i7,rfl,h11⟩:=Zad h10;clear h10
     obtain ⟨x8,c9,h12⟩:=Zcp h11;clear h11
     obtain ⟨x9,c10,h13⟩:=Zad h12;clear h12
     obtain ⟨c11,h14⟩:=ZaT h13;clear h13
     obtain ⟨x10,c12,h15⟩:=Zad h14;clear h14
     refine iteB h15 (fun c13 h16=>?_) (fun c13 h17=>?_)<;>clear h15
     ·obtain rfl:=Zab h16
      exact afd fol hE [.r [],.r [(1,{rs:=[.one (L.bool x1)],m:=1})],.c false,.r [(2,{rs:=[.agg [L.arr .u8 32 x2]],m:=1}),(3,{rs:=[.one (L.int .i64 x3)],st:=st4})],.r [],.c false,.r [(3,{rs:=[.one (L.int .i64 x5)],st:=st6})],.r [],.c false,.d {ds:=[(3,{oc:=x8.lo}),(6,{rs:=[.row true 68 x9],ns:=[34],m:=10,cv:=[.one (L.bx 88 x8.ls)]}),(9,{rs:=[.one (L.int .i64 x10)],m:=2})],hv:=64,Hs:=[64]},.r [],.c true,.r []] [] 0 [] (aO (ZbN.snd c1) c2 (ZbJ.snd c3) (ZaF.snd c4) c5 (ZaF.snd c6) c7 (aO c9 c9 (bO 88 c9 (Zaa.bv x8)) c11 (ZaH.snd c10) z0 (eN (List.length x9)) (aI (Zao.snd c12) c13)))
     ·refine iteB h17 (fun c14 h18=>?_) (fun c14 h19=>?_)<;>clear h17
      ·obtain rfl:=Zab h18
       exact afd fol hE [.r [],.r [(1,{rs:=[.one (L.bool x1)],m:=1})],.c false,.r [(2,{rs:=[.agg [L.arr .u8 32 x2]],m:=1}),(3,{rs:=[.one (L.int .i64 x3)],st:=st4})],.r [],.c false,.r [(3,{rs:=[.one (L.int .i64 x5)],st:=st6})],.r [],.c false,.d {ds:=[(3,{oc:=x8.lo}),(6,{rs:=[.row true 68 x9],ns:=[34],m:=10,cv:=[.one (L.bx 88 x8.ls)]}),(9,{rs:=[.one (L.int .i64 x10)],m:=2})],hv:=64,Hs:=[64]},.r [],.c false,.d {ds:=[(3,{oc:=x8.lo}),(8,{oc:=x8.lo})],hv:=0,Hs:=[]},.c true,.r []] [] 0 [] (aO (ZbN.snd c1) c2 (ZbJ.snd c3) (ZaF.snd c4) c5 (ZaF.snd c6) c7 (aO c9 c9 (bO 88 c9 (Zaa.bv x8)) c11 (ZaH.snd c10) z0 (eN (List.length x9)) (aL (Zao.snd c12) c13 c9 c9 c14)))
      ·obtain ⟨c15,c16,c17,c18,h20⟩:=ck4 h19;clear h19
       obtain ⟨x11,c19,h21⟩:=Zgy h20;clear h20
       obtain ⟨x12,c20,h22⟩:=Zad h21;clear h21
       obtain ⟨x13,c21,h23⟩:=Zad h22;clear h22
       obtain ⟨c22,c23,h24⟩:=ck2 h23;clear h23
       obtain rfl:=Zab h24
       exact afd fol hE [.r [],.r [(1,{rs:=[.one (L.bool x1)],m:=1})],.c false,.r [(2,{rs:=[.agg [L.arr .u8 32 x2]],m:=1}),(3,{rs:=[.one (L.int .i64 x3)],st:=st4})],.r [],.c false,.r [(3,{rs:=[.one (L.int .i64 x5)],st:=st6})],.r [],.c false,.d {ds:=[(3,{oc:=x8.lo}),(6,{rs:=[.row true 68 x9],ns:=[34],m:=10,cv:=[.one (L.bx 88 x8.ls)]}),(9,{rs:=[.one (L.int .i64 x10)],m:=2})],hv:=64,Hs:=[64]},.r [],.c false,.d {ds:=[(3,{oc:=x8.lo}),(8,{oc:=x8.lo})],hv:=0,Hs:=[]},.c false,.d {ds:=[(4,{oc:=x8.lo}),(7,{oe:=x8.lo}),(10,{oc:=gs x8.lo 15,mv:=[58]})],hv:=1216,Hs:=[64,192,1216]},.d {ds:=[(4,{oc:=Zaa.lo {x8 with List_:=x8.List_ ++ [h_1.ls]}}),(6,{rs:=[.agg [L.arr .u8 32 x2]],m:=1}),(8,{oe:=Zaa.lo {x8 with List_:=x8.List_ ++ [h_1.ls]}}),(11,{oc:=gs (Zaa.lo {x8 with List_:=x8.List_ ++ [h_1.ls]}) 16,mv:=[69]})],hv:=2432,Hs:=[128,384,2432]},.d {ds:=[(4,{oc:=Zaa.lo {x8 with List_:=x8.List_ ++ [h_1.ls],Ids:=x8.Ids ++ [[L.arr .u8 32 x2]]}}),(8,{oc:=Zaa.lo {x8 with List_:=x8.List_ ++ [h_1.ls],Ids:=x8.Ids ++ [[L.arr .u8 32 x2]]}}),(11,{oc:=Zaa.lo {x8 with List_:=x8.List_ ++ [h_1.ls],Ids:=x8.Ids ++ [[L.arr .u8 32 x2]]},oe:=[L.arr .u64 4 x11]}),(14,{rs:=[.agg [L.arr .u64 4 x12]],m:=1}),(15,{rs:=[.agg [L.arr .u64 4 x13]],m:=1}),(17,{oe:=Zaa.lo {x8 with List_:=x8.List_ ++ [h_1.ls],Ids:=x8.Ids ++ [[L.arr .u8 32 x2]]}}),(20,{oc:=gs (Zaa.lo {x8 with List_:=x8.List_ ++ [h_1.ls],Ids:=x8.Ids ++ [[L.arr .u8 32 x2]]}) 18,mv:=[89]})],hv:=1245184,Hs:=[65536,196608,1245184]},.r [(4,{oc:=Zaa.lo {x8 with List_:=x8.List_ ++ [h_1.ls],Ids:=x8.Ids ++ [[L.arr .u8 32 x2]],Works:=x8.Works ++ [[L.arr .u64 4 x13]]}}),(7,{oe:=Zaa.lo {x8 with List_:=x8.List_ ++ [h_1.ls],Ids:=x8.Ids ++ [[L.arr .u8 32 x2]],Works:=x8.Works ++ [[L.arr .u64 4 x13]]}}),(10,{oc:=gs (Zaa.lo {x8 with List_:=x8.List_ ++ [h_1.ls],Ids:=x8.Ids ++ [[L.arr .u8 32 x2]],Works:=x8.Works ++ [[L.arr .u64 4 x13]]}) 17,mv:=[99]})],.r [(3,{oc:=Zaa.lo (Zaa.mk x8.Rules (x8.List_ ++ [h_1.ls]) (x8.Ids ++ [[L.arr .u8 32 x2]]) (x8.Ahead ++ [[L.int .i64 x5]]) (x8.Works ++ [[L.arr .u64 4 x13]]) x8.Room)})]] [] 0 [] (aO (ZbN.snd c1) c2 (ZbJ.snd c3) (ZaF.snd c4) c5 (ZaF.snd c6) c7 (aO c9 c9 (bO 88 c9 (Zaa.bv x8)) c11 (ZaH.snd c10) z0 (eN (List.length x9)) (aO (Zao.snd c12) c13 c9 c9 c14 c9 c9 (aO z0 (eN (List.length x8.List_)) c9 z0 (eN (1)) c15 (Zam c9 (gs x8.lo 15)) (aO z0 (eN (List.length (x8.List_ ++ [h_1.ls]))) (Zam (Zam c9 (gs x8.lo 15)) (Zaa.lo {x8 with List_:=x8.List_ ++ [h_1.ls]})) (Zam (Zam c9 (gs x8.lo 15)) (Zaa.lo {x8 with List_:=x8.List_ ++ [h_1.ls]})) (ZbJ.snd c3) z0 (eN (List.length x8.Ids)) (aO (Zam (Zam c9 (gs x8.lo 15)) (Zaa.lo {x8 with List_:=x8.List_ ++ [h_1.ls]})) z0 (eN (1)) c16 (Zam (Zam (Zam c9 (gs x8.lo 15)) (Zaa.lo {x8 with List_:=x8.List_ ++ [h_1.ls]})) (gs (Zaa.lo {x8 with List_:=x8.List_ ++ [h_1.ls]}) 16)) z0 (eN (List.length (x8.Ids ++ [[L.arr .u8 32 x2]]))) (aO (Zam (Zam (Zam (Zam c9 (gs x8.lo 15)) (Zaa.lo {x8 with List_:=x8.List_ ++ [h_1.ls]})) (gs (Zaa.lo {x8 with List_:=x8.List_ ++ [h_1.ls]}) 16)) (Zaa.lo {x8 with List_:=x8.List_ ++ [h_1.ls],Ids:=x8.Ids ++ [[L.arr .u8 32 x2]]})) (Zam (Zam (Zam (Zam c9 (gs x8.lo 15)) (Zaa.lo {x8 with List_:=x8.List_ ++ [h_1.ls]})) (gs (Zaa.lo {x8 with List_:=x8.List_ ++ [h_1.ls]}) 16)) (Zaa.lo {x8 with List_:=x8.List_ ++ [h_1.ls],Ids:=x8.Ids ++ [[L.arr .u8 32 x2]]})) (Zam (Zam (Zam (Zam c9 (gs x8.lo 15)) (Zaa.lo {x8 with List_:=x8.List_ ++ [h_1.ls]})) (gs (Zaa.lo {x8 with List_:=x8.List_ ++ [h_1.ls]}) 16)) (Zaa.lo {x8 with List_:=x8.List_ ++ [h_1.ls],Ids:=x8.Ids ++ [[L.arr .u8 32 x2]]})) c17 c18 c19 (Zam (Zam (Zam (Zam c9 (gs x8.lo 15)) (Zaa.lo {x8 with List_:=x8.List_ ++ [h_1.ls]})) (gs (Zaa.lo {x8 with List_:=x8.List_ ++ [h_1.ls]}) 16)) (Zaa.lo {x8 with List_:=x8.List_ ++ [h_1.ls],Ids:=x8.Ids ++ [[L.arr .u8 32 x2]]})) (aO (ZbU.snd c20) (ZdA.snd c21) z0 (eN (List.length x8.Works)) (Zam (Zam (Zam (Zam c9 (gs x8.lo 15)) (Zaa.lo {x8 with List_:=x8.List_ ++ [h_1.ls]})) (gs (Zaa.lo {x8 with List_:=x8.List_ ++ [h_1.ls]}) 16)) (Zaa.lo {x8 with List_:=x8.List_ ++ [h_1.ls],Ids:=x8.Ids ++ [[L.arr .u8 32 x2]]})) z0 (eN (1)) (aO c22 (Zam (Zam (Zam (Zam (Zam c9 (gs x8.lo 15)) (Zaa.lo {x8 with List_:=x8.List_ ++ [h_1.ls]})) (gs (Zaa.lo {x8 with List_:=x8.List_ ++ [h_1.ls]}) 16)) (Zaa.lo {x8 with List_:=x8.List_ ++ [h_1.ls],Ids:=x8.Ids ++ [[L.arr .u8 32 x2]]})) (gs (Zaa.lo {x8 with List_:=x8.List_ ++ [h_1.ls],Ids:=x8.Ids ++ [[L.arr .u8 32 x2]]}) 18)) z0 (eN (List.length (x8.Works ++ [[L.arr .u64 4 x13]]))) (Zam (Zam (Zam (Zam (Zam (Zam c9 (gs x8.lo 15)) (Zaa.lo {x8 with List_:=x8.List_ ++ [h_1.ls]})) (gs (Zaa.lo {x8 with List_:=x8.List_ ++ [h_1.ls]}) 16)) (Zaa.lo {x8 with List_:=x8.List_ ++ [h_1.ls],Ids:=x8.Ids ++ [[L.arr .u8 32 x2]]})) (gs (Zaa.lo {x8 with List_:=x8.List_ ++ [h_1.ls],Ids:=x8.Ids ++ [[L.arr .u8 32 x2]]}) 18)) (Zaa.lo {x8 with List_:=x8.List_ ++ [h_1.ls],Ids:=x8.Ids ++ [[L.arr .u8 32 x2]],Works:=x8.Works ++ [[L.arr .u64 4 x13]]})) z0 (eN (List.length x8.Ahead)) (aO (Zam (Zam (Zam (Zam (Zam (Zam c9 (gs x8.lo 15)) (Zaa.lo {x8 with List_:=x8.List_ ++ [h_1.ls]})) (gs (Zaa.lo {x8 with List_:=x8.List_ ++ [h_1.ls]}) 16)) (Zaa.lo {x8 with List_:=x8.List_ ++ [h_1.ls],Ids:=x8.Ids ++ [[L.arr .u8 32 x2]]})) (gs (Zaa.lo {x8 with List_:=x8.List_ ++ [h_1.ls],Ids:=x8.Ids ++ [[L.arr .u8 32 x2]]}) 18)) (Zaa.lo {x8 with List_:=x8.List_ ++ [h_1.ls],Ids:=x8.Ids ++ [[L.arr .u8 32 x2]],Works:=x8.Works ++ [[L.arr .u64 4 x13]]})) z0 (eN (1)) c23 (Zam (Zam (Zam (Zam (Zam (Zam (Zam c9 (gs x8.lo 15)) (Zaa.lo {x8 with List_:=x8.List_ ++ [h_1.ls]})) (gs (Zaa.lo {x8 with List_:=x8.List_ ++ [h_1.ls]}) 16)) (Zaa.lo {x8 with List_:=x8.List_ ++ [h_1.ls],Ids:=x8.Ids ++ [[L.arr .u8 32 x2]]})) (gs (Zaa.lo {x8 with List_:=x8.List_ ++ [h_1.ls],Ids:=x8.Ids ++ [[L.arr .u8 32 x2]]}) 18)) (Zaa.lo {x8 with List_:=x8.List_ ++ [h_1.ls],Ids:=x8.Ids ++ [[L.arr .u8 32 x2]],Works:=x8.Works ++ [[L.arr .u64 4 x13]]})) (gs (Zaa.lo {x8 with List_:=x8.List_ ++ [h_1.ls],Ids:=x8.Ids ++ [[L.arr .u8 32 x2]],Works:=x8.Works ++ [[L.arr .u64 4 x13]]}) 17)) z0 (eN (List.length (x8.Ahead ++ [[L.int .i64 x5]]))) (Zam (Zam (Zam (Zam (Zam (Zam (Zam (Zam c9 (gs x8.lo 15)) (Zaa.lo {x8 with List_:=x8.List_ ++ [h_1.ls]})) (gs (Zaa.lo {x8 with List_:=x8.List_ ++ [h_1.ls]}) 16)) (Zaa.lo {x8 with List_:=x8.List_ ++ [h_1.ls],Ids:=x8.Ids ++ [[L.arr .u8 32 x2]]})) (gs (Zaa.lo {x8 with List_:=x8.List_ ++ [h_1.ls],Ids:=x8.Ids ++ [[L.arr .u8 32 x2]]}) 18)) (Zaa.lo {x8 with List_:=x8.List_ ++ [h_1.ls],Ids:=x8.Ids ++ [[L.arr .u8 32 x2]],Works:=x8.Works ++ [[L.arr .u64 4 x13]]})) (gs (Zaa.lo {x8 with List_:=x8.List_ ++ [h_1.ls],Ids:=x8.Ids ++ [[L.arr .u8 32 x2]],Works:=x8.Works ++ [[L.arr .u64 4 x13]]}) 17)) (Zaa.lo (Zaa.mk x8.Rules (x8.List_ ++ [h_1.ls]) (x8.Ids ++ [[L.arr .u8 32 x2]]) (x8.Ahead ++ [[L.int .i64 x5]]) (x8.Works ++ [[L.arr .u64 4 x13]]) x8.Room)))))))))))))
noncomputable def Zcl.B:Code:=Tryz.f67.body.getD .skip
noncomputable def Zcl.rs (r:Bool):List CV:=[.one (L.bool r)]
noncomputable def Zcl (N:Nat) (a_0:Zav) (at_1:Int):Option Bool:=
 if (decide (at_1≥0))=true then
  some (decide (at_1<(len a_0.list)))
 else
 some false
theorem Zcl.snd {a_0:Zav} {at_1:Int} {r:Bool} (h:Zcl N a_0 at_1=some r):SndQ Tryz.prog 67 [.one (L.bx 87 a_0.ls),.one (L.int .i64 at_1)] (Zcl.rs r):=fun st=>
 sO Zcl.B Tryz.func67 fun g0 w0 R hE=>by
  unfold Zcl at h
  refine iteB h (fun c1 h1=>?_) (fun c1 h2=>?_)<;>clear h
  ·obtain rfl:=Zab h1
   exact af fol hE [.r [],.r [(11,{oe:=a_0.ls})]] [] 0 [] (aO (eB true) (eB true) (eB true) c1 c1 c1 c1 (aL c1 (eO a_0.ls) c1 c1 c1))
  ·obtain rfl:=Zab h2
   exact af fol hE [.r [],.r [(7,{want:=false}),(8,{want:=false}),(9,{want:=false}),(10,{want:=false}),(11,{want:=false}),(12,{want:=false}),(13,{want:=false}),(14,{yes:=false})]] [] 0 [] (aO (eB true) (eB true) (eB true) c1 c1 c1 c1 (aK c1 c1 c1 c1))
noncomputable def Zbe.B:Code:=Tryz.f25.body.getD .skip
noncomputable def Zbe.rs (r:ZbV×Bool):List CV:=[.agg r.1.ls,.one (L.bool r.2)]
noncomputable def Zbe (N:Nat) (a_0:Zav) (at_1:Int):Option (ZbV×Bool):=
 optE (Zcl N a_0 at_1) fun x1=>
 if (!x1)=true then
  some (ZbV.mk (Zah.mk 0 (List.replicate 32 0) (List.replicate 32 0) 0 0 0) (List.replicate 32 0) (-1) 0 (List.replicate 4 0),false)
 else
 chk (0≤at_1)<|
 chk (at_1<(len a_0.list))<|
 getE (a_0.list[Int.toNat at_1]?) ZcX fun x2=>
 some (x2,true)
theorem Zbe.snd {a_0:Zav} {at_1:Int} {r:ZbV×Bool} (h:Zbe N a_0 at_1=some r):SndQ Tryz.prog 25 [.one (L.bx 87 a_0.ls),.one (L.int .i64 at_1)] (Zbe.rs r):=fun st=>
 sO Zbe.B Tryz.func25 fun g0 w0 R hE=>by
  unfold Zbe at h
  obtain ⟨x1,c1,h1⟩:=Zad h;clear h
  refine iteB h1 (fun c2 h2=>?_) (fun c2 h3=>?_)<;>clear h1
  ·obtain rfl:=Zab h2
   exact af fol hE [.r [],.r [(2,{rs:=[.one (L.bool x1)],m:=10})],.c true,.r []] [] 0 [] (aI (Zcl.snd c1) c2)
  ·obtain ⟨c3,c4,h4⟩:=ck2 h3;clear h3
   obtain ⟨x2,c5,h5⟩:=Zdn h4;clear h4
   obtain rfl:=Zab h5
   exact af fol hE [.r [],.r [(2,{rs:=[.one (L.bool x1)],m:=10})],.c false,.r [(3,{oe:=a_0.ls}),(6,{oe:=x2.ls})]] [] 0 [] (aM (Zcl.snd c1) c2 (eO a_0.ls) c3 c4 c5)
noncomputable def ZaD.B:Code:=Tryz.f71.body.getD .skip
noncomputable def ZaD.rs (r:LL):List CV:=[.row true 1 r]
noncomputable def ZaD.p1 (N:Nat) (a_0:Zaa) (c1_:(LL×Int)→Option LL):(LL×Int)→Option LL:=fun (out_3,k_1)=>
 if (decide (k_1≥0))=true then
  chk (List.length ([[L.int .i64 k_1]]++out_3)*8≤140737488355328)<|
  chk (0≤k_1)<|
  chk (k_1<(len a_0.Ahead))<|
  getE (a_0.Ahead[Int.toNat k_1]?) Zdg fun x4=>
  c1_ ([[L.int .i64 k_1]]++out_3,x4)
 else
 some out_3
noncomputable def ZaD (N:Nat) (a_0:Zaa) (at_1:Int):Option LL:=
 loopN (ZaD.p1 N a_0) N ([],at_1)
noncomputable def ZaD.p1.S (a_0:Zaa) (out_3:LL) (k_1:Int) (st:LL):S:=mkS 22 [(0,.one (.l (L.bx 88 a_0.ls))),(5,.one (.h (.row 5 0) 1 0 (List.length out_3))),(6,.one (.l (L.int .i64 k_1)))] [(5,.row 0 true 1 out_3)] st
theorem ZaD.p1_ok {a_0 out_3 k_1 st r c1_ J1} (h:ZaD.p1 N a_0 c1_ (out_3,k_1)=some r) (hE:En Tryz.f71 g0 w0 (ZaD.rs r) st R) (hc1 : ∀out_3 k_1,c1_ (out_3,k_1)=some r→At g0 w0 (ZaD.p1.S a_0 out_3 k_1 st) J1):At g0 w0 (ZaD.p1.S a_0 out_3 k_1 st) (XK Tryz.prog R (.c (csub ZaD.B [1,1,0,1,0,0]) :: .h J1 :: [.b 0,.c (csub ZaD.B [1,1,1])])):=by
 unfold ZaD.p1 at h
 refine iteB h (fun c6 h1=>?_) (fun c6 h2=>?_)<;>clear h
 ·obtain ⟨c7,c8,c9,h3⟩:=ck3 h1;clear h1
  obtain ⟨x4,c10,h4⟩:=ZcM h3;clear h3
  exact an fol [.r [],.c true,.r [(4,{m:=4})],.r [(3,{oe:=a_0.ls}),(6,{oe:=[L.int .i64 x4]})]] [0,5,6] [5] (aO c6 z0 (eN (1)) z0 (eN (List.length out_3)) c7 (eO a_0.ls) (aJ c8 c9 c10)) (hc1 ([[L.int .i64 k_1]]++out_3) x4 h4)
 ·obtain rfl:=Zab h2
  exact af fol hE [.r [],.c false,.r []] [] 0 [0] (aJ c6 z0 (eN (List.length out_3)))
theorem ZaD.snd {a_0:Zaa} {at_1:Int} {r:LL} (h:ZaD N a_0 at_1=some r):SndQ Tryz.prog 71 [.one (L.bx 88 a_0.ls),.one (L.int .i64 at_1)] (ZaD.rs r):=fun st=>
 sO ZaD.B Tryz.func71 fun g0 w0 R hE=>by
  unfold ZaD at h
  exact aq fol [.r [(0,{m:=2})],.r [(0,{m:=1})],.r []] [0,5,6] [5] trivial (At.loop N (At.loopN (fun y:LL×Int=>ZaD.p1.S a_0 y.1 y.2 st) (fun c J hc y h=>ZaD.p1_ok (out_3:=y.1) (k_1:=y.2) h hE (fun out_3 k_1=>hc (out_3,k_1))) N ([],at_1) h))
noncomputable def Zbu.B:Code:=Tryz.f32.body.getD .skip
noncomputable def Zbu.rs (r:Bool):List CV:=[.one (L.bool r)]
noncomputable def Zbu.p1 (N:Nat) (a_0:Zav) (m_1:Zaa) (c1_:Int→Option Bool):Int→Option Bool:=fun v3=>
 if (decide (v3<(len m_1.List_)))=true then
  chk (0≤v3)<|
  getE (m_1.List_[Int.toNat v3]?) ZcT fun x4=>
  optE (Zbe N a_0 v3) fun (x5,x6)=>
  if (!x6)=true then
   some false
  else
  if (!((x5.Header.Version==x4.Version)&&((x5.Header.Prev==x4.Prev)&&((x5.Header.Root==x4.Root)&&((x5.Header.Time==x4.Time)&&((x5.Header.Bits==x4.Bits)&&((x5.Header.Nonce==x4.Nonce)&&true)))))))=true then
   some false
  else
  optE (ZbJ N x4) fun x7=>
  if (!(x5.Id==x7))=true then
   some false
  else
  chk (v3<(len m_1.Ahead))<|
  getE (m_1.Ahead[Int.toNat v3]?) Zdg fun x8=>
  if (x5.Ahead != x8)=true then
   some false
  else
  optE (ZaD N m_1 v3) fun x9=>
  chk (plainRow x9=true)<|
  if (x5.Height != (w64 ((len x9)-1)))=true then
   some false
  else
  optE (ZbB N a_0 x5.Id) fun x10=>
  if (x10 != v3)=true then
   some false
  else
  c1_ (w64 (v3+1))
 else
 some true
noncomputable def Zbu (N:Nat) (a_0:Zav) (m_1:Zaa):Option Bool:=
 optE (Zbg N a_0) fun x1=>
 if (x1 != (len m_1.List_))=true then
  some false
 else
 optE (ZbK N a_0) fun x2=>
 if (x2 != m_1.Room)=true then
  some false
 else
 loopN (Zbu.p1 N a_0 m_1) N 0
noncomputable def Zbu.p1.S (a_0:Zav) (m_1:Zaa) (v3:Int) (st:LL):S:=mkS 88 [(0,.one (.l (L.bx 87 a_0.ls))),(1,.one (.l (L.bx 88 m_1.ls))),(29,.one (.l (L.sl 68 m_1.List_))),(30,.one (.l (L.int .i64 (len m_1.List_)))),(31,.one (.l (L.int .i64 v3)))] [] st
theorem Zbu.p1_ok {a_0 m_1 v3 st r c1_ J1} (h:Zbu.p1 N a_0 m_1 c1_ v3=some r) (hE:En Tryz.f32 g0 w0 (Zbu.rs r) st R) (hc1 : ∀v3,c1_ v3=some r→At g0 w0 (Zbu.p1.S a_0 m_1 v3 st) J1):At g0 w0 (Zbu.p1.S a_0 m_1 v3 st) (XK Tryz.prog R (.c (csub Zbu.B [1,1,0,1,0,0]) :: .h J1 :: [.b 0,.c (csub Zbu.B [1,1,1])])):=by
 unfold Zbu.p1 at h
 refine iteB h (fun c5 h1=>?_) (fun c5 h2=>?_)<;>clear h
 ·obtain ⟨c6,h3⟩:=ZaT h1;clear h1
  obtain ⟨x4,c7,h4⟩:=Zda h3;clear h3
  obtain ⟨⟨x5,x6⟩,c8,h5⟩:=Zad h4;clear h4
  refine iteB h5 (fun c9 h6=>?_) (fun c9 h7=>?_)<;>clear h5
  ·obtain rfl:=Zab h6
   exact afd fol hE [.r [],.c true,.r [(2,{oe:=x4.ls})],.r [(2,{rs:=[.agg x5.ls,.one (L.bool x6)],m:=10})],.d {ds:=[(3,{want:=false}),(4,{want:=false}),(5,{want:=false}),(6,{want:=false}),(9,{want:=false}),(10,{want:=false}),(11,{want:=false}),(12,{want:=false}),(13,{want:=false}),(16,{want:=false}),(17,{want:=false}),(18,{want:=false}),(19,{want:=false}),(20,{want:=false}),(21,{want:=false}),(22,{want:=false}),(23,{want:=false}),(24,{want:=false}),(25,{want:=false}),(28,{want:=false}),(29,{want:=false}),(30,{want:=false}),(31,{want:=false}),(32,{want:=false}),(33,{want:=false}),(34,{want:=false}),(35,{want:=false}),(38,{want:=false}),(39,{want:=false}),(40,{want:=false}),(41,{want:=false}),(42,{want:=false}),(43,{want:=false})],hv:=0,Hs:=[]},.c true,.r []] [] 0 [] (aO c5 c6 (oD c5) c7 (Zbe.snd c8) (not_false (Zbj c9)) (not_false (Zbj c9)) (aO (not_false (Zbj c9)) (not_false (Zbj c9)) (not_false (Zbj c9)) (eB true) (eB true) (eB true) (eB true) (aO (eB true) (eB true) (eB true) (eB true) (eB true) (eB true) (eB true) (aO (eB true) (eB true) (eB true) (eB true) (eB true) (eB true) (eB true) (aO (eB true) (eB true) (eB true) (eB true) (eB true) (eB true) (eB true) (aO (eB true) (eB true) (eB true) (eB true) (eB true) (eB true) (eB true) (aI (eB true) (eB true))))))))
  ·refine iteB h7 (fun c10 h8=>?_) (fun c10 h9=>?_)<;>clear h7
   ·obtain rfl:=Zab h8
    exact afd fol hE [.r [],.c true,.r [(2,{oe:=x4.ls})],.r [(2,{rs:=[.agg x5.ls,.one (L.bool x6)],m:=10})],.d {ds:=[(7,{yes:=false}),(9,{want:=false}),(10,{want:=false}),(11,{want:=false}),(12,{want:=false}),(13,{want:=false}),(16,{want:=false}),(17,{want:=false}),(18,{want:=false}),(19,{want:=false}),(20,{want:=false}),(21,{want:=false}),(22,{want:=false}),(23,{want:=false}),(24,{want:=false}),(25,{want:=false}),(28,{want:=false}),(29,{want:=false}),(30,{want:=false}),(31,{want:=false}),(32,{want:=false}),(33,{want:=false}),(34,{want:=false}),(35,{want:=false}),(38,{want:=false}),(39,{want:=false}),(40,{want:=false}),(41,{want:=false}),(42,{want:=false}),(43,{want:=false})],hv:=0,Hs:=[]},.c true,.r []] [] 0 [] (aO c5 c6 (oD c5) c7 (Zbe.snd c8) (not_true (Zap c9)) (not_true (Zap c9)) (aO (not_true (Zap c9)) (not_true (Zap c9)) (not_true (Zap c9)) c10 c10 c10 c10 (aO c10 c10 (eB true) (eB true) (eB true) (eB true) (eB true) (aO (eB true) (eB true) (eB true) (eB true) (eB true) (eB true) (eB true) (aO (eB true) (eB true) (eB true) (eB true) (eB true) (eB true) (eB true) (aO (eB true) (eB true) (eB true) (eB true) (eB true) (eB true) (eB true) (aI (eB true) (eB true))))))))
   ·obtain ⟨x7,c11,h10⟩:=Zad h9;clear h9
    refine iteB h10 (fun c12 h11=>?_) (fun c12 h12=>?_)<;>clear h10
    ·obtain rfl:=Zab h11
     exact afd fol hE [.r [],.c true,.r [(2,{oe:=x4.ls})],.r [(2,{rs:=[.agg x5.ls,.one (L.bool x6)],m:=10})],.d {ds:=[(7,{yes:=false}),(12,{rs:=[.agg [L.arr .u8 32 x7]],m:=1}),(14,{yes:=false}),(16,{want:=false}),(17,{want:=false}),(18,{want:=false}),(19,{want:=false}),(20,{want:=false}),(21,{want:=false}),(22,{want:=false}),(23,{want:=false}),(24,{want:=false}),(25,{want:=false}),(28,{want:=false}),(29,{want:=false}),(30,{want:=false}),(31,{want:=false}),(32,{want:=false}),(33,{want:=false}),(34,{want:=false}),(35,{want:=false}),(38,{want:=false}),(39,{want:=false}),(40,{want:=false}),(41,{want:=false}),(42,{want:=false}),(43,{want:=false})],hv:=0,Hs:=[]},.c true,.r []] [] 0 [] (aO c5 c6 (oD c5) c7 (Zbe.snd c8) (not_true (Zap c9)) (not_true (Zap c9)) (aO (not_true (Zap c9)) (not_true (Zap c9)) (not_true (Zap c9)) c10 c10 c10 c10 (aO (ZbJ.snd c11) c10 c10 c12 c12 c12 c12 (aO c12 c12 c12 c12 c12 c12 c12 (aO (eB true) (eB true) (eB true) (eB true) (eB true) (eB true) (eB true) (aO (eB true) (eB true) (eB true) (eB true) (eB true) (eB true) (eB true) (aJ (eB true) (eB true) (eB true))))))))
    ·obtain ⟨c13,h13⟩:=ZaT h12;clear h12
     obtain ⟨x8,c14,h14⟩:=ZcM h13;clear h13
     refine iteB h14 (fun c15 h15=>?_) (fun c15 h16=>?_)<;>clear h14
     ·obtain rfl:=Zab h15
      exact afd fol hE [.r [],.c true,.r [(2,{oe:=x4.ls})],.r [(2,{rs:=[.agg x5.ls,.one (L.bool x6)],m:=10})],.d {ds:=[(7,{yes:=false}),(12,{rs:=[.agg [L.arr .u8 32 x7]],m:=1}),(14,{yes:=false}),(21,{oe:=m_1.ls}),(24,{oe:=[L.int .i64 x8]}),(26,{yes:=false}),(28,{want:=false}),(29,{want:=false}),(30,{want:=false}),(31,{want:=false}),(32,{want:=false}),(33,{want:=false}),(34,{want:=false}),(35,{want:=false}),(38,{want:=false}),(39,{want:=false}),(40,{want:=false}),(41,{want:=false}),(42,{want:=false}),(43,{want:=false})],hv:=0,Hs:=[]},.c true,.r []] [] 0 [] (aO c5 c6 (oD c5) c7 (Zbe.snd c8) (not_true (Zap c9)) (not_true (Zap c9)) (aO (not_true (Zap c9)) (not_true (Zap c9)) (not_true (Zap c9)) c10 c10 c10 c10 (aO (ZbJ.snd c11) c10 c10 c12 c12 c12 c12 (aO c12 c12 (eO m_1.ls) c12 c12 c6 c13 (aO c12 c14 c12 c12 c15 c15 c15 (aO c15 c15 c15 c15 c15 c15 (eB true) (aN (eB true) (eB true) (eB true) (eB true) (eB true) (eB true) (eB true))))))))
     ·obtain ⟨x9,c16,h17⟩:=Zad h16;clear h16
      obtain ⟨c17,h18⟩:=ZaT h17;clear h17
      refine iteB h18 (fun c18 h19=>?_) (fun c18 h20=>?_)<;>clear h18
      ·obtain rfl:=Zab h19
       exact afd fol hE [.r [],.c true,.r [(2,{oe:=x4.ls})],.r [(2,{rs:=[.agg x5.ls,.one (L.bool x6)],m:=10})],.d {ds:=[(7,{yes:=false}),(12,{rs:=[.agg [L.arr .u8 32 x7]],m:=1}),(14,{yes:=false}),(21,{oe:=m_1.ls}),(24,{oe:=[L.int .i64 x8]}),(26,{yes:=false}),(32,{rs:=[.row true 1 x9],ns:=[74],m:=10}),(36,{yes:=false}),(38,{want:=false}),(39,{want:=false}),(40,{want:=false}),(41,{want:=false}),(42,{want:=false}),(43,{want:=false})],hv:=4294967296,Hs:=[4294967296]},.c true,.r []] [] 0 [] (aO c5 c6 (oD c5) c7 (Zbe.snd c8) (not_true (Zap c9)) (not_true (Zap c9)) (aO (not_true (Zap c9)) (not_true (Zap c9)) (not_true (Zap c9)) c10 c10 c10 c10 (aO (ZbJ.snd c11) c10 c10 c12 c12 c12 c12 (aO c12 c12 (eO m_1.ls) c12 c12 c6 c13 (aO c12 c14 c12 c12 c15 c15 c15 (aO c15 c15 c15 c15 c17 (ZaD.snd c16) c15 (aO c15 c15 c15 c18 c18 c18 c18 (aK c18 c18 c18 (eB true)))))))))
      ·obtain ⟨x10,c19,h21⟩:=Zad h20;clear h20
       refine iteB h21 (fun c20 h22=>?_) (fun c20 h23=>?_)<;>clear h21
       ·obtain rfl:=Zab h22
        exact afd fol hE [.r [],.c true,.r [(2,{oe:=x4.ls})],.r [(2,{rs:=[.agg x5.ls,.one (L.bool x6)],m:=10})],.d {ds:=[(7,{yes:=false}),(12,{rs:=[.agg [L.arr .u8 32 x7]],m:=1}),(14,{yes:=false}),(21,{oe:=m_1.ls}),(24,{oe:=[L.int .i64 x8]}),(26,{yes:=false}),(32,{rs:=[.row true 1 x9],ns:=[74],m:=10}),(36,{yes:=false}),(41,{rs:=[.one (L.int .i64 x10)],m:=10}),(44,{yes:=false})],hv:=2203318222848,Hs:=[4294967296,2203318222848]},.c true,.r []] [] 0 [] (aO c5 c6 (oD c5) c7 (Zbe.snd c8) (not_true (Zap c9)) (not_true (Zap c9)) (aO (not_true (Zap c9)) (not_true (Zap c9)) (not_true (Zap c9)) c10 c10 c10 c10 (aO (ZbJ.snd c11) c10 c10 c12 c12 c12 c12 (aO c12 c12 (eO m_1.ls) c12 c12 c6 c13 (aO c12 c14 c12 c12 c15 c15 c15 (aO c15 c15 c15 c15 c17 (ZaD.snd c16) c15 (aO c15 c15 c15 c18 c18 c18 c18 (aM (ZbB.snd c19) c18 c18 c18 c18 c20))))))))
       ·exact and_ fol [.r [],.c true,.r [(2,{oe:=x4.ls})],.r [(2,{rs:=[.agg x5.ls,.one (L.bool x6)],m:=10})],.d {ds:=[(7,{yes:=false}),(12,{rs:=[.agg [L.arr .u8 32 x7]],m:=1}),(14,{yes:=false}),(21,{oe:=m_1.ls}),(24,{oe:=[L.int .i64 x8]}),(26,{yes:=false}),(32,{rs:=[.row true 1 x9],ns:=[74],m:=10}),(36,{yes:=false}),(41,{rs:=[.one (L.int .i64 x10)],m:=10}),(44,{yes:=false})],hv:=2203318222848,Hs:=[4294967296,2203318222848]},.c false,.r []] [0,1,29,30,31] [] (aO c5 c6 (oD c5) c7 (Zbe.snd c8) (not_true (Zap c9)) (not_true (Zap c9)) (aO (not_true (Zap c9)) (not_true (Zap c9)) (not_true (Zap c9)) c10 c10 c10 c10 (aO (ZbJ.snd c11) c10 c10 c12 c12 c12 c12 (aO c12 c12 (eO m_1.ls) c12 c12 c6 c13 (aO c12 c14 c12 c12 c15 c15 c15 (aO c15 c15 c15 c15 c17 (ZaD.snd c16) c15 (aO c15 c15 c15 c18 c18 c18 c18 (aM (ZbB.snd c19) c18 c18 c18 c18 c20)))))))) (hc1 (w64 (v3+1)) h23)
 ·obtain rfl:=Zab h2
  exact af fol hE [.r [],.c false,.r []] [] 0 [] c5
theorem Zbu.snd {a_0:Zav} {m_1:Zaa} {r:Bool} (h:Zbu N a_0 m_1=some r):SndQ Tryz.prog 32 [.one (L.bx 87 a_0.ls),.one (L.bx 88 m_1.ls)] (Zbu.rs r):=fun st=>
 sO Zbu.B Tryz.func32 fun g0 w0 R hE=>by
  unfold Zbu at h
  obtain ⟨x1,c1,h24⟩:=Zad h;clear h
  refine iteB h24 (fun c2 h25=>?_) (fun c2 h26=>?_)<;>clear h24
  ·obtain rfl:=Zab h25
   exact afd fol hE [.r [],.d {ds:=[(1,{rs:=[.one (L.int .i64 x1)],m:=10}),(5,{oe:=m_1.ls}),(9,{want:=false}),(10,{want:=false}),(11,{want:=false}),(12,{want:=false}),(13,{want:=false}),(14,{want:=false}),(15,{want:=false})],hv:=2,Hs:=[2]},.c true,.r []] [] 0 [] (aO (Zbg.snd c1) (eO m_1.ls) (eO m_1.ls) c2 c2 c2 c2 (aL c2 c2 c2 c2 (eB true)))
  ·obtain ⟨x2,c3,h27⟩:=Zad h26;clear h26
   refine iteB h27 (fun c4 h28=>?_) (fun c4 h29=>?_)<;>clear h27
   ·obtain rfl:=Zab h28
    exact afd fol hE [.r [],.d {ds:=[(1,{rs:=[.one (L.int .i64 x1)],m:=10}),(5,{oe:=m_1.ls}),(10,{rs:=[.one (L.int .i64 x2)],m:=10}),(14,{oe:=m_1.ls}),(16,{yes:=false})],hv:=1026,Hs:=[2,1026]},.c true,.r []] [] 0 [] (aO (Zbg.snd c1) (eO m_1.ls) (eO m_1.ls) c2 c2 (ZbK.snd c3) c2 (aO c2 c2 c2 c2 c2 c2 (eO m_1.ls) (aL c2 (eO m_1.ls) c2 c2 c4)))
   ·exact aqd fol [.r [],.d {ds:=[(1,{rs:=[.one (L.int .i64 x1)],m:=10}),(5,{oe:=m_1.ls}),(10,{rs:=[.one (L.int .i64 x2)],m:=10}),(14,{oe:=m_1.ls}),(16,{yes:=false})],hv:=1026,Hs:=[2,1026]},.c false,.r [(3,{oe:=m_1.ls})]] [0,1,29,30,31] [] (aO (Zbg.snd c1) (eO m_1.ls) (eO m_1.ls) c2 c2 (ZbK.snd c3) c2 (aO c2 c2 c2 c2 c2 c2 (eO m_1.ls) (aM c2 (eO m_1.ls) c2 c2 c4 (eO m_1.ls)))) (At.loop N (At.loopN (fun y:Int=>Zbu.p1.S a_0 m_1 y st) (fun c J hc y h=>Zbu.p1_ok h hE (fun v3=>hc v3)) N 0 h29))
noncomputable def ZaY.B:Code:=Tryz.f7.body.getD .skip
noncomputable def ZaY.rs (r:Bool×LL):List CV:=[.one (L.bool r.1)]
noncomputable def ZaY.p1 (N:Nat) (list_2:LL) (c1_:((Option Nat)×(Option Nat)×Int×LL)→Option (Bool×LL)):((Option Nat)×(Option Nat)×Int×LL)→Option (Bool×LL):=fun (a_49,m_50,v25,st51)=>
 if (decide (v25<(len list_2)))=true then
  chk (0≤v25)<|
  getE (list_2[Int.toNat v25]?) ZcL fun x52=>
  optE (Zat N a_49 x52.Header x52.Now st51) fun (x53,x54,x55,st56)=>
  optE (ZbX N m_50 x52.Header x52.Now st56) fun (x57,x58,x59,st60)=>
  if (x53 != x57)=true then
   some (false,st60)
  else
  if (x54 != x58)=true then
   some (false,st60)
  else
  if (x55 != x59)=true then
   some (false,st60)
  else
  optE a_49 fun i61=>
  optE m_50 fun i62=>
  getE (st60[i61]?) ZbE fun x63=>
  getE (st60[i62]?) ZbZ fun x64=>
  optE (Zbu N x63 x64) fun x65=>
  if (!x65)=true then
   some (false,st60)
  else
  c1_ ((some i61),(some i62),w64 (v25+1),st60)
 else
 optE a_49 fun i66=>
 getE (st51[i66]?) ZbE fun x67=>
 optE (Zbg N x67) fun x68=>
 optE (Zbe N x67 x68) fun (x69,x70)=>
 if (!x70)=true then
  if (x69.Ahead==(-1))=true then
   optE (ZbB N x67 [1,0,0,0,0,0,0,0,0,0,0,0,0,0,0,0,0,0,0,0,0,0,0,0,0,0,0,0,0,0,0,0]) fun x71=>
   optE m_50 fun i72=>
   getE (st51[i72]?) ZbZ fun x73=>
   optE (ZaN N x73 [1,0,0,0,0,0,0,0,0,0,0,0,0,0,0,0,0,0,0,0,0,0,0,0,0,0,0,0,0,0,0,0]) fun x74=>
   some (x71==x74,st51)
  else
  some (false,st51)
 else
 some (false,st51)
noncomputable def ZaY (N:Nat) (p_0:Zae) (room_1:Int) (list_2 st:LL):Option (Bool×LL):=
 optE (Zch N st) fun (x1,st2)=>
 if (!x1)=true then
  some (false,st2)
 else
 optE (Zbk N p_0 list_2) fun x3=>
 if x3=true then
  some (true,st2)
 else
 optE (Zcz N p_0 room_1 st2) fun (x4,x5,st6)=>
 optE (Zat N none (Zah.mk 0 (List.replicate 32 0) (List.replicate 32 0) 0 0 0) 1 st6) fun (x7,x8,x9,st10)=>
 optE (Zcb N none 0 st10) fun (x11,x12,st13)=>
 if (x9 != 2)=true then
  some (false,st13)
 else
 if x12=true then
  some (false,st13)
 else
 optE (Zcf N none st13) fun (x14,st15)=>
 optE (ZbW N none st15) fun (x16,st17)=>
 if ((w64 (x14+x16)) != 0)=true then
  some (false,st17)
 else
 optE (Zcc N none (List.replicate 32 0) st17) fun (x18,st19)=>
 if (x18 != (-1))=true then
  some (false,st19)
 else
 optE (ZbM N none 0 0 st19) fun (x20,st21)=>
 if x20=true then
  some (false,st21)
 else
 optE (ZaW N p_0) fun x22=>
 if (!x22)=true then
  if (x5==1)=true then
   some (Option.isNone x4,st21)
  else
  some (false,st21)
 else
 optE (Zdz N p_0 room_1 st21) fun (x23,st24)=>
 loopN (ZaY.p1 N list_2) N (x4,x23,0,st24)
noncomputable def ZaY.p1.S (a_49 m_50:Option Nat) (list_2:LL) (v25:Int) (st51:LL):S:=mkS 153 [(7,.one (.l (L.ptr a_49))),(15,.one (.l (L.ptr m_50))),(84,.one (.l (L.sl 69 list_2))),(85,.one (.l (L.int .i64 (len list_2)))),(86,.one (.l (L.int .i64 v25)))] [] st51
theorem ZaY.p1_ok {a_49 m_50 list_2 v25 st51 r c1_ J1} (h:ZaY.p1 N list_2 c1_ (a_49,m_50,v25,st51)=some r) (hE:En Tryz.f7 g0 w0 (ZaY.rs r) r.2 R) (hc1 : ∀a_49 m_50 v25 st51,c1_ (a_49,m_50,v25,st51)=some r→At g0 w0 (ZaY.p1.S a_49 m_50 list_2 v25 st51) J1):At g0 w0 (ZaY.p1.S a_49 m_50 list_2 v25 st51) (XK Tryz.prog R (.c (csub ZaY.B [1,1,1,1,1,1,1,1,1,1,0,1,0,0]) :: .h J1 :: [.b 0,.c (csub ZaY.B [1,1,1,1,1,1,1,1,1,1,1])])):=by
 unfold ZaY.p1 at h
 refine iteB h (fun c45 h1=>?_) (fun c45 h2=>?_)<;>clear h
 ·obtain ⟨c46,h3⟩:=ZaT h1;clear h1
  obtain ⟨x52,c47,h4⟩:=ZdM h3;clear h3
  obtain ⟨⟨x53,x54,x55,st56⟩,c48,h5⟩:=Zad h4;clear h4
  obtain ⟨⟨x57,x58,x59,st60⟩,c49,h6⟩:=Zad h5;clear h5
  refine iteB h6 (fun c50 h7=>?_) (fun c50 h8=>?_)<;>clear h6
  ·obtain rfl:=Zab h7
   exact af fol hE [.r [],.c true,.r [(1,{oe:=x52.ls})],.r [(5,{rs:=[.one (L.int .i64 x53),.one (L.int .i64 x54),.one (L.int .i64 x55)],st:=st56})],.r [(5,{rs:=[.one (L.int .i64 x57),.one (L.int .i64 x58),.one (L.int .i64 x59)],st:=st60})],.r [(4,{want:=false}),(5,{want:=false}),(6,{want:=false}),(9,{want:=false}),(10,{want:=false}),(11,{want:=false}),(14,{want:=false}),(15,{want:=false}),(16,{want:=false}),(17,{want:=false})],.c true,.r []] [] 0 [] (aO c45 c46 (oD c45) c47 (Zat.snd c48) (ZbX.snd c49) c50 (aO c50 c50 c50 (eB true) (eB true) (eB true) (eB true) (aM (eB true) (eB true) (eB true) (eB true) (eB true) (eB true))))
  ·refine iteB h8 (fun c51 h9=>?_) (fun c51 h10=>?_)<;>clear h8
   ·obtain rfl:=Zab h9
    exact af fol hE [.r [],.c true,.r [(1,{oe:=x52.ls})],.r [(5,{rs:=[.one (L.int .i64 x53),.one (L.int .i64 x54),.one (L.int .i64 x55)],st:=st56})],.r [(5,{rs:=[.one (L.int .i64 x57),.one (L.int .i64 x58),.one (L.int .i64 x59)],st:=st60})],.r [(7,{yes:=false}),(9,{want:=false}),(10,{want:=false}),(11,{want:=false}),(14,{want:=false}),(15,{want:=false}),(16,{want:=false}),(17,{want:=false})],.c true,.r []] [] 0 [] (aO c45 c46 (oD c45) c47 (Zat.snd c48) (ZbX.snd c49) c50 (aO c50 c50 c50 c51 c51 c51 c51 (aM (eB true) (eB true) (eB true) (eB true) (eB true) (eB true))))
   ·refine iteB h10 (fun c52 h11=>?_) (fun c52 h12=>?_)<;>clear h10
    ·obtain rfl:=Zab h11
     exact af fol hE [.r [],.c true,.r [(1,{oe:=x52.ls})],.r [(5,{rs:=[.one (L.int .i64 x53),.one (L.int .i64 x54),.one (L.int .i64 x55)],st:=st56})],.r [(5,{rs:=[.one (L.int .i64 x57),.one (L.int .i64 x58),.one (L.int .i64 x59)],st:=st60})],.r [(7,{yes:=false}),(12,{yes:=false}),(14,{want:=false}),(15,{want:=false}),(16,{want:=false}),(17,{want:=false})],.c true,.r []] [] 0 [] (aO c45 c46 (oD c45) c47 (Zat.snd c48) (ZbX.snd c49) c50 (aO c50 c50 c50 c51 c51 c51 c51 (aM c52 c52 c52 c52 c52 (eB true))))
    ·obtain ⟨i61,rfl,h13⟩:=Zad h12;clear h12
     obtain ⟨i62,rfl,h14⟩:=Zad h13;clear h13
     obtain ⟨x63,c55,h15⟩:=Zbt h14;clear h14
     obtain ⟨x64,c56,h16⟩:=Zcp h15;clear h15
     obtain ⟨x65,c57,h17⟩:=Zad h16;clear h16
     refine iteB h17 (fun c58 h18=>?_) (fun c58 h19=>?_)<;>clear h17
     ·obtain rfl:=Zab h18
      exact af fol hE [.r [],.c true,.r [(1,{oe:=x52.ls})],.r [(5,{rs:=[.one (L.int .i64 x53),.one (L.int .i64 x54),.one (L.int .i64 x55)],st:=st56})],.r [(5,{rs:=[.one (L.int .i64 x57),.one (L.int .i64 x58),.one (L.int .i64 x59)],st:=st60})],.r [(7,{yes:=false}),(12,{yes:=false}),(16,{rs:=[.one (L.bool x65)],m:=10,cv:=[.one (L.bx 87 x63.ls),.one (L.bx 88 x64.ls)]}),(18,{yes:=false})],.c true,.r []] [] 0 [] (aO c45 c46 (oD c45) c47 (Zat.snd c48) (ZbX.snd c49) c50 (aO c50 c50 c50 c51 c51 c51 c51 (aO c52 c52 c52 (bO 87 c55 (Zav.bv x63)) (bO 88 c56 (Zaa.bv x64)) (Zbu.snd c57) c52 (aI c52 c58))))
     ·exact an fol [.r [],.c true,.r [(1,{oe:=x52.ls})],.r [(5,{rs:=[.one (L.int .i64 x53),.one (L.int .i64 x54),.one (L.int .i64 x55)],st:=st56})],.r [(5,{rs:=[.one (L.int .i64 x57),.one (L.int .i64 x58),.one (L.int .i64 x59)],st:=st60})],.r [(7,{yes:=false}),(12,{yes:=false}),(16,{rs:=[.one (L.bool x65)],m:=10,cv:=[.one (L.bx 87 x63.ls),.one (L.bx 88 x64.ls)]}),(18,{yes:=false})],.c false,.r []] [7,15,84,85,86] [] (aO c45 c46 (oD c45) c47 (Zat.snd c48) (ZbX.snd c49) c50 (aO c50 c50 c50 c51 c51 c51 c51 (aO c52 c52 c52 (bO 87 c55 (Zav.bv x63)) (bO 88 c56 (Zaa.bv x64)) (Zbu.snd c57) c52 (aI c52 c58)))) (hc1 (some i61) (some i62) (w64 (v25+1)) st60 h19)
 ·obtain ⟨i66,rfl,h20⟩:=Zad h2;clear h2
  obtain ⟨x67,c60,h21⟩:=Zbt h20;clear h20
  obtain ⟨x68,c61,h22⟩:=Zad h21;clear h21
  obtain ⟨⟨x69,x70⟩,c62,h23⟩:=Zad h22;clear h22
  refine iteB h23 (fun c63 h24=>?_) (fun c63 h25=>?_)<;>clear h23
  ·refine iteB h24 (fun c64 h26=>?_) (fun c64 h27=>?_)<;>clear h24
   ·obtain ⟨x71,c65,h28⟩:=Zad h26;clear h26
    obtain ⟨i72,rfl,h29⟩:=Zad h28;clear h28
    obtain ⟨x73,c67,h30⟩:=Zcp h29;clear h29
    obtain ⟨x74,c68,h31⟩:=Zad h30;clear h30
    obtain rfl:=Zab h31
    exact af fol hE [.r [],.c false,.r [(2,{rs:=[.one (L.int .i64 x68)],m:=10,cv:=[.one (L.bx 87 x67.ls)]}),(3,{rs:=[.agg x69.ls,.one (L.bool x70)],m:=10,cv:=[.one (L.bx 87 x67.ls)]})],.r [(9,{m:=3}),(10,{rs:=[.one (L.int .i64 x71)],m:=10,cv:=[.one (L.bx 87 x67.ls)]}),(12,{m:=3}),(13,{rs:=[.one (L.int .i64 x74)],m:=10,cv:=[.one (L.bx 88 x73.ls)]})]] [] 0 [] (aO c45 (bO 87 c60 (Zav.bv x67)) (Zbg.snd c61) (bO 87 c60 (Zav.bv x67)) (Zbe.snd c62) (not_false (Zbj c63)) (not_false (Zbj c63)) (aO (not_false (Zbj c63)) (not_false (Zbj c63)) c64 c64 c64 (bO 87 c60 (Zav.bv x67)) (ZbB.snd c65) (aN c64 c64 c64 (bO 88 c67 (Zaa.bv x73)) (ZaN.snd c68) c64 c64)))
   ·obtain rfl:=Zab h27
    exact af fol hE [.r [],.c false,.r [(2,{rs:=[.one (L.int .i64 x68)],m:=10,cv:=[.one (L.bx 87 x67.ls)]}),(3,{rs:=[.agg x69.ls,.one (L.bool x70)],m:=10,cv:=[.one (L.bx 87 x67.ls)]})],.r [(8,{want:=false}),(9,{want:=false}),(10,{want:=false}),(11,{want:=false}),(12,{want:=false}),(13,{want:=false}),(14,{want:=false}),(15,{yes:=false})]] [] 0 [] (aO c45 (bO 87 c60 (Zav.bv x67)) (Zbg.snd c61) (bO 87 c60 (Zav.bv x67)) (Zbe.snd c62) (not_false (Zbj c63)) (not_false (Zbj c63)) (aO (not_false (Zbj c63)) (not_false (Zbj c63)) c64 c64 c64 c64 c64 (aJ c64 c64 c64)))
  ·obtain rfl:=Zab h25
   exact af fol hE [.r [],.c false,.r [(2,{rs:=[.one (L.int .i64 x68)],m:=10,cv:=[.one (L.bx 87 x67.ls)]}),(3,{rs:=[.agg x69.ls,.one (L.bool x70)],m:=10,cv:=[.one (L.bx 87 x67.ls)]})],.r [(3,{want:=false}),(4,{want:=false}),(5,{want:=false}),(6,{yes:=false}),(8,{want:=false}),(9,{want:=false}),(10,{want:=false}),(11,{want:=false}),(12,{want:=false}),(13,{want:=false}),(14,{want:=false}),(15,{yes:=false})]] [] 0 [] (aO c45 (bO 87 c60 (Zav.bv x67)) (Zbg.snd c61) (bO 87 c60 (Zav.bv x67)) (Zbe.snd c62) (not_true (Zap c63)) (not_true (Zap c63)) (aO (not_true (Zap c63)) (not_true (Zap c63)) (eB false) (eB false) (eB false) (eB false) (eB false) (aJ (eB false) (eB false) (eB false))))
theorem ZaY.snd {p_0:Zae} {room_1:Int} {list_2:LL} {st:LL} {r:Bool×LL} (h:ZaY N p_0 room_1 list_2 st=some r):Snd Tryz.prog 7 [.agg p_0.ls,.one (L.int .i64 room_1),.one (L.sl 69 list_2)] st (ZaY.rs r) r.2:=
 sO ZaY.B Tryz.func7 fun g0 w0 R hE=>by
  unfold ZaY at h
  obtain ⟨⟨x1,st2⟩,c1,h32⟩:=Zad h;clear h
  refine iteB h32 (fun c2 h33=>?_) (fun c2 h34=>?_)<;>clear h32
  ·obtain rfl:=Zab h33
   exact af fol hE [.r [],.r [(0,{rs:=[.one (L.bool x1)],st:=st2})],.c true,.r []] [] 0 [] (aI (Zch.snd c1) c2)
  ·obtain ⟨x3,c3,h35⟩:=Zad h34;clear h34
   refine iteB h35 (fun c4 h36=>?_) (fun c4 h37=>?_)<;>clear h35
   ·obtain rfl:=Zab h36
    exact af fol hE [.r [],.r [(0,{rs:=[.one (L.bool x1)],st:=st2})],.c false,.r [(2,{rs:=[.one (L.bool x3)],m:=1})],.c true,.r []] [] 0 [] (aK (Zch.snd c1) c2 (Zbk.snd c3) c4)
   ·obtain ⟨⟨x4,x5,st6⟩,c5,h38⟩:=Zad h37;clear h37
    obtain ⟨⟨x7,x8,x9,st10⟩,c6,h39⟩:=Zad h38;clear h38
    obtain ⟨⟨x11,x12,st13⟩,c7,h40⟩:=Zad h39;clear h39
    refine iteB h40 (fun c8 h41=>?_) (fun c8 h42=>?_)<;>clear h40
    ·obtain rfl:=Zab h41
     exact af fol hE [.r [],.r [(0,{rs:=[.one (L.bool x1)],st:=st2})],.c false,.r [(2,{rs:=[.one (L.bool x3)],m:=1})],.c false,.r [(2,{rs:=[.one (L.ptr x4),.one (L.int .i64 x5)],st:=st6})],.r [],.r [(2,{rs:=[.one (L.int .i64 x7),.one (L.int .i64 x8),.one (L.int .i64 x9)],st:=st10})],.r [(1,{rs:=[.agg x11.ls,.one (L.bool x12)],st:=st13})],.r [(3,{want:=false}),(6,{want:=false}),(7,{want:=false}),(8,{want:=false}),(9,{want:=false}),(10,{want:=false}),(11,{want:=false}),(14,{want:=false}),(15,{want:=false}),(16,{want:=false}),(17,{want:=false}),(20,{want:=false}),(21,{want:=false})],.c true,.r []] [] 0 [] (aO (Zch.snd c1) c2 (Zbk.snd c3) c4 (Zcz.snd c5) (Zat.snd c6) (Zcb.snd c7) (aO c8 c8 (eB true) (eB true) (eB true) (eB true) (eB true) (aO (eB true) (eB true) (eB true) (eB true) (eB true) (eB true) (eB true) (aK (eB true) (eB true) (eB true) (eB true)))))
    ·refine iteB h42 (fun c9 h43=>?_) (fun c9 h44=>?_)<;>clear h42
     ·obtain rfl:=Zab h43
      exact af fol hE [.r [],.r [(0,{rs:=[.one (L.bool x1)],st:=st2})],.c false,.r [(2,{rs:=[.one (L.bool x3)],m:=1})],.c false,.r [(2,{rs:=[.one (L.ptr x4),.one (L.int .i64 x5)],st:=st6})],.r [],.r [(2,{rs:=[.one (L.int .i64 x7),.one (L.int .i64 x8),.one (L.int .i64 x9)],st:=st10})],.r [(1,{rs:=[.agg x11.ls,.one (L.bool x12)],st:=st13})],.r [(4,{yes:=false}),(6,{want:=false}),(7,{want:=false}),(8,{want:=false}),(9,{want:=false}),(10,{want:=false}),(11,{want:=false}),(14,{want:=false}),(15,{want:=false}),(16,{want:=false}),(17,{want:=false}),(20,{want:=false}),(21,{want:=false})],.c true,.r []] [] 0 [] (aO (Zch.snd c1) c2 (Zbk.snd c3) c4 (Zcz.snd c5) (Zat.snd c6) (Zcb.snd c7) (aO c8 c8 c9 c9 c9 c9 c9 (aO c9 c9 (eB true) (eB true) (eB true) (eB true) (eB true) (aK (eB true) (eB true) (eB true) (eB true)))))
     ·obtain ⟨⟨x14,st15⟩,c10,h45⟩:=Zad h44;clear h44
      obtain ⟨⟨x16,st17⟩,c11,h46⟩:=Zad h45;clear h45
      refine iteB h46 (fun c12 h47=>?_) (fun c12 h48=>?_)<;>clear h46
      ·obtain rfl:=Zab h47
       exact af fol hE [.r [],.r [(0,{rs:=[.one (L.bool x1)],st:=st2})],.c false,.r [(2,{rs:=[.one (L.bool x3)],m:=1})],.c false,.r [(2,{rs:=[.one (L.ptr x4),.one (L.int .i64 x5)],st:=st6})],.r [],.r [(2,{rs:=[.one (L.int .i64 x7),.one (L.int .i64 x8),.one (L.int .i64 x9)],st:=st10})],.r [(1,{rs:=[.agg x11.ls,.one (L.bool x12)],st:=st13})],.r [(4,{yes:=false}),(7,{rs:=[.one (L.int .i64 x14)],st:=st15}),(9,{rs:=[.one (L.int .i64 x16)],st:=st17}),(12,{yes:=false}),(14,{want:=false}),(15,{want:=false}),(16,{want:=false}),(17,{want:=false}),(20,{want:=false}),(21,{want:=false})],.c true,.r []] [] 0 [] (aO (Zch.snd c1) c2 (Zbk.snd c3) c4 (Zcz.snd c5) (Zat.snd c6) (Zcb.snd c7) (aO c8 c8 c9 c9 (Zcf.snd c10) c9 c9 (aO (ZbW.snd c11) c9 c9 c9 c12 c12 c12 (aM c12 c12 (eB true) (eB true) (eB true) (eB true)))))
      ·obtain ⟨⟨x18,st19⟩,c13,h49⟩:=Zad h48;clear h48
       refine iteB h49 (fun c14 h50=>?_) (fun c14 h51=>?_)<;>clear h49
       ·obtain rfl:=Zab h50
        exact af fol hE [.r [],.r [(0,{rs:=[.one (L.bool x1)],st:=st2})],.c false,.r [(2,{rs:=[.one (L.bool x3)],m:=1})],.c false,.r [(2,{rs:=[.one (L.ptr x4),.one (L.int .i64 x5)],st:=st6})],.r [],.r [(2,{rs:=[.one (L.int .i64 x7),.one (L.int .i64 x8),.one (L.int .i64 x9)],st:=st10})],.r [(1,{rs:=[.agg x11.ls,.one (L.bool x12)],st:=st13})],.r [(4,{yes:=false}),(7,{rs:=[.one (L.int .i64 x14)],st:=st15}),(9,{rs:=[.one (L.int .i64 x16)],st:=st17}),(12,{yes:=false}),(16,{rs:=[.one (L.int .i64 x18)],st:=st19}),(18,{yes:=false}),(20,{want:=false}),(21,{want:=false})],.c true,.r []] [] 0 [] (aO (Zch.snd c1) c2 (Zbk.snd c3) c4 (Zcz.snd c5) (Zat.snd c6) (Zcb.snd c7) (aO c8 c8 c9 c9 (Zcf.snd c10) c9 c9 (aO (ZbW.snd c11) c9 c9 c9 c12 c12 c12 (aN (Zcc.snd c13) c12 c12 c14 c14 c14 (eB true)))))
       ·obtain ⟨⟨x20,st21⟩,c15,h52⟩:=Zad h51;clear h51
        refine iteB h52 (fun c16 h53=>?_) (fun c16 h54=>?_)<;>clear h52
        ·obtain rfl:=Zab h53
         exact af fol hE [.r [],.r [(0,{rs:=[.one (L.bool x1)],st:=st2})],.c false,.r [(2,{rs:=[.one (L.bool x3)],m:=1})],.c false,.r [(2,{rs:=[.one (L.ptr x4),.one (L.int .i64 x5)],st:=st6})],.r [],.r [(2,{rs:=[.one (L.int .i64 x7),.one (L.int .i64 x8),.one (L.int .i64 x9)],st:=st10})],.r [(1,{rs:=[.agg x11.ls,.one (L.bool x12)],st:=st13})],.r [(4,{yes:=false}),(7,{rs:=[.one (L.int .i64 x14)],st:=st15}),(9,{rs:=[.one (L.int .i64 x16)],st:=st17}),(12,{yes:=false}),(16,{rs:=[.one (L.int .i64 x18)],st:=st19}),(18,{yes:=false}),(21,{rs:=[.one (L.bool x20)],st:=st21}),(22,{yes:=false})],.c true,.r []] [] 0 [] (aO (Zch.snd c1) c2 (Zbk.snd c3) c4 (Zcz.snd c5) (Zat.snd c6) (Zcb.snd c7) (aO c8 c8 c9 c9 (Zcf.snd c10) c9 c9 (aO (ZbW.snd c11) c9 c9 c9 c12 c12 c12 (aO (Zcc.snd c13) c12 c12 c14 c14 (ZbM.snd c15) c14 c16))))
        ·obtain ⟨x22,c17,h55⟩:=Zad h54;clear h54
         refine iteB h55 (fun c18 h56=>?_) (fun c18 h57=>?_)<;>clear h55
         ·refine iteB h56 (fun c19 h58=>?_) (fun c19 h59=>?_)<;>clear h56
          ·obtain rfl:=Zab h58
           exact af fol hE [.r [],.r [(0,{rs:=[.one (L.bool x1)],st:=st2})],.c false,.r [(2,{rs:=[.one (L.bool x3)],m:=1})],.c false,.r [(2,{rs:=[.one (L.ptr x4),.one (L.int .i64 x5)],st:=st6})],.r [],.r [(2,{rs:=[.one (L.int .i64 x7),.one (L.int .i64 x8),.one (L.int .i64 x9)],st:=st10})],.r [(1,{rs:=[.agg x11.ls,.one (L.bool x12)],st:=st13})],.r [(4,{yes:=false}),(7,{rs:=[.one (L.int .i64 x14)],st:=st15}),(9,{rs:=[.one (L.int .i64 x16)],st:=st17}),(12,{yes:=false}),(16,{rs:=[.one (L.int .i64 x18)],st:=st19}),(18,{yes:=false}),(21,{rs:=[.one (L.bool x20)],st:=st21}),(22,{yes:=false})],.c false,.r [(1,{rs:=[.one (L.bool x22)],m:=1})],.c true,.r []] [] 0 [] (aO (Zch.snd c1) c2 (Zbk.snd c3) c4 (Zcz.snd c5) (Zat.snd c6) (Zcb.snd c7) (aO c8 c8 c9 c9 (Zcf.snd c10) c9 c9 (aO (ZbW.snd c11) c9 c9 c9 c12 c12 c12 (aO (Zcc.snd c13) c12 c12 c14 c14 (ZbM.snd c15) c14 (aM c16 (ZaW.snd c17) c18 c19 c19 c19)))))
          ·obtain rfl:=Zab h59
           exact af fol hE [.r [],.r [(0,{rs:=[.one (L.bool x1)],st:=st2})],.c false,.r [(2,{rs:=[.one (L.bool x3)],m:=1})],.c false,.r [(2,{rs:=[.one (L.ptr x4),.one (L.int .i64 x5)],st:=st6})],.r [],.r [(2,{rs:=[.one (L.int .i64 x7),.one (L.int .i64 x8),.one (L.int .i64 x9)],st:=st10})],.r [(1,{rs:=[.agg x11.ls,.one (L.bool x12)],st:=st13})],.r [(4,{yes:=false}),(7,{rs:=[.one (L.int .i64 x14)],st:=st15}),(9,{rs:=[.one (L.int .i64 x16)],st:=st17}),(12,{yes:=false}),(16,{rs:=[.one (L.int .i64 x18)],st:=st19}),(18,{yes:=false}),(21,{rs:=[.one (L.bool x20)],st:=st21}),(22,{yes:=false})],.c false,.r [(1,{rs:=[.one (L.bool x22)],m:=1})],.c true,.r [(3,{want:=false}),(4,{want:=false}),(5,{yes:=false})]] [] 0 [] (aO (Zch.snd c1) c2 (Zbk.snd c3) c4 (Zcz.snd c5) (Zat.snd c6) (Zcb.snd c7) (aO c8 c8 c9 c9 (Zcf.snd c10) c9 c9 (aO (ZbW.snd c11) c9 c9 c9 c12 c12 c12 (aO (Zcc.snd c13) c12 c12 c14 c14 (ZbM.snd c15) c14 (aM c16 (ZaW.snd c17) c18 c19 c19 c19)))))
         ·obtain ⟨⟨x23,st24⟩,c20,h60⟩:=Zad h57;clear h57
          exact aq fol [.r [],.r [(0,{rs:=[.one (L.bool x1)],st:=st2})],.c false,.r [(2,{rs:=[.one (L.bool x3)],m:=1})],.c false,.r [(2,{rs:=[.one (L.ptr x4),.one (L.int .i64 x5)],st:=st6})],.r [],.r [(2,{rs:=[.one (L.int .i64 x7),.one (L.int .i64 x8),.one (L.int .i64 x9)],st:=st10})],.r [(1,{rs:=[.agg x11.ls,.one (L.bool x12)],st:=st13})],.r [(4,{yes:=false}),(7,{rs:=[.one (L.int .i64 x14)],st:=st15}),(9,{rs:=[.one (L.int .i64 x16)],st:=st17}),(12,{yes:=false}),(16,{rs:=[.one (L.int .i64 x18)],st:=st19}),(18,{yes:=false}),(21,{rs:=[.one (L.bool x20)],st:=st21}),(22,{yes:=false})],.c false,.r [(1,{rs:=[.one (L.bool x22)],m:=1})],.c false,.r [(2,{rs:=[.one (L.ptr x23)],st:=st24})],.r []] [7,15,84,85,86] [] (aO (Zch.snd c1) c2 (Zbk.snd c3) c4 (Zcz.snd c5) (Zat.snd c6) (Zcb.snd c7) (aO c8 c8 c9 c9 (Zcf.snd c10) c9 c9 (aO (ZbW.snd c11) c9 c9 c9 c12 c12 c12 (aO (Zcc.snd c13) c12 c12 c14 c14 (ZbM.snd c15) c14 (aK c16 (ZaW.snd c17) c18 (Zdz.snd c20)))))) (At.loop N (At.loopN (fun y:(Option Nat)×(Option Nat)×Int×LL=>ZaY.p1.S y.1 y.2.1 list_2 y.2.2.1 y.2.2.2) (fun c J hc y h=>ZaY.p1_ok (a_49:=y.1) (m_50:=y.2.1) (v25:=y.2.2.1) (st51:=y.2.2.2) h hE (fun a_49 m_50 v25 st51=>hc (a_49,m_50,v25,st51))) N (x4,x23,0,st24) h60))
end Go.Dn.F
