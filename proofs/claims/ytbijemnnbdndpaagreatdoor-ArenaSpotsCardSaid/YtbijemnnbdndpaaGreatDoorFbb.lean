import Derived.Test.YtbijemnnbdndpaaGreatDoorFba
set_option linter.all false
open Go.Dn.L renaming int→zI,arr→zH,bool→uA
open Go.Proofs.Tryz renaming prog→zF
open Int renaming toNat→zE,tdiv→zN,tmod→zT
open List renaming length→zK,set→zP,getD→zD,replicate→zB
noncomputable section
set_option maxRecDepth 100000
namespace Go.Dn.F
open Go.Proofs
variable {N:Nat} {g0:G} {w0:World} {R:Exit→Act→World→Prop}
def ZdZ.B:Code:=Tryz.f76.body.getD .skip
def ZdZ.rs (r:Int):List CV:=[oI r]
def ZdZ (N:Nat) (times_0:LL):Option Int:=
 chk (0≤(if (11:Int)<(len times_0) then 11 else (len times_0)))<|
 chk ((zE (if (11:Int)<(len times_0) then 11 else (len times_0)))≤(zK times_0))<|
 Zbt (Zbl N (List.take (zE (if (11:Int)<(len times_0) then 11 else (len times_0))) (List.drop 0 times_0))) fun x1=>
 if ((len x1)==0)=true then
  some 0
 else
 chk (isI x1=true)<|
 chk (zK x1<4611686018427387904)<|
 chk (0≤(w64 (zN (len x1) 2)))<|
 chk ((w64 (zN (len x1) 2))<(len x1))<|
 Zds ((Zjw x1)[0+(zE (w64 (zN (len x1) 2)))]?) Zdq fun x2=>
 some x2
theorem ZdZ.snd {times_0:LL} {r:Int} (h:ZdZ N times_0=some r):Zde zF 76 [.one (L.sl 1 times_0)] (ZdZ.rs r):=fun st=>
 sO ZdZ.B Tryz.func76 fun g0 w0 R hE=>by
  unfold ZdZ at h
  obtain ⟨c1,c2,h1⟩:=ck2 h
  obtain ⟨x1,c3,h2⟩:=Zaf h1
  let o1:List PS:=[.r [],.r [(5,{rs:=[.row true 1 x1],ns:=[9],m:=1})],.r []]
  have t1 {Q:Prop} (q:Q):=aL c1 (Nat.zero_le (zE (if (11:Int)<(len times_0) then 11 else (len times_0)))) c2 (Zbl.snd c3) q
  refine ZaY h2 (fun c4 h3=>?_) (fun c4 h4=>?_)
  ·obtain rfl:=Zac h3
   exact af fol hE (o1 ++ [.c true,.r []]) [] 0 [] (t1 c4)
  ·obtain ⟨c5,c6,c7,c8,h5⟩:=ck4 h4
   obtain ⟨x2,c9,h6⟩:=ZcK h5
   obtain rfl:=Zac h6
   exact af fol hE (o1 ++ [.c false,.r [(1,{m:=7})],.r [(5,{oe:=[zI .i64 x2]})]]) [] 0 [] (t1 (aO c4 z0 (@rfl _ (zK x1):(zK x1)=(zK x1)) c5 c6 slices_Sort_int.snd (neI 2) (aJ c7 c8 c9)))
def ZcR.B:Code:=Tryz.f48.body.getD .skip
def ZcR.rs (r:Bool):List CV:=[oB r]
def ZcR (N:Nat) (time_0:Int) (times_1:LL):Option Bool:=
 if ((len times_1)==0)=true then
  some true
 else
 Zbt (ZdZ N times_1) fun x1=>
 some (decide (time_0>x1))
theorem ZcR.snd {time_0:Int} {times_1:LL} {r:Bool} (h:ZcR N time_0 times_1=some r):Zde zF 48 [oI time_0,.one (L.sl 1 times_1)] (ZcR.rs r):=fun st=>
 sO ZcR.B Tryz.func48 fun g0 w0 R hE=>by
  unfold ZcR at h
  refine ZaY h (fun c1 h1=>?_) (fun c1 h2=>?_)
  ·obtain rfl:=Zac h1
   exact af fol hE [.r [],.r [(4,wF),(5,wF),(6,wF),(7,wF)]] [] 0 [] (aL c1 c1 c1 c1 c1)
  ·obtain ⟨x1,c2,h3⟩:=Zaf h2
   obtain rfl:=Zac h3
   exact af fol hE [.r [],.r [(6,q1 [oI x1]),(8,yF)]] [] 0 [] (aM c1 c1 c1 (ZdZ.snd c2) c1 c1)
def Zdp.B:Code:=Tryz.f49.body.getD .skip
def Zdp.rs (r:Bool):List CV:=[oB r]
def Zdp (N:Nat) (time_0 now_1 future_2:Int):Option Bool:=
 if (decide (future_2≥0))=true then
  if (decide (time_0≤now_1))=true then
   some true
  else
  some (decide ((w64 (time_0-now_1))≤future_2))
 else
 some false
theorem Zdp.snd {time_0 now_1 future_2:Int} {r:Bool} (h:Zdp N time_0 now_1 future_2=some r):Zde zF 49 [oI time_0,oI now_1,oI future_2] (Zdp.rs r):=fun st=>
 sO Zdp.B Tryz.func49 fun g0 w0 R hE=>by
  unfold Zdp at h
  refine ZaY h (fun c1 h1=>?_) (fun c1 h2=>?_)
  ·refine ZaY h1 (fun c2 h3=>?_) (fun c2 h4=>?_)
   ·obtain rfl:=Zac h3
    exact af fol hE [.r [],.r [(7,wF),(8,wF),(9,wF),(10,wF),(11,wF)]] [] 0 [] (aO c1 c1 c1 c1 c2 c2 c2 (aL c2 c2 c1 c2 c1))
   ·obtain rfl:=Zac h4
    exact af fol hE [.r [],.r [(12,yF)]] [] 0 [] (aO c1 c1 c1 c1 c2 c2 c2 (aL c2 c2 c1 c2 c1))
  ·obtain rfl:=Zac h2
   exact af fol hE [.r [],.r [(3,wF),(4,wF),(5,wF),(6,wF),(12,wF),(13,yF)]] [] 0 [] (aM c1 c1 c1 c1 c1 c1)
def ZaR.B:Code:=Tryz.f50.body.getD .skip
def ZaR.rs (r:Int):List CV:=[oI r]
def ZaR.p2 (N:Nat) (c1_:(Int×Int)→Option Int) (height_0 least_4:Int) (gates_1:LL) (v2:Int):Option Int:=
 c1_ (least_4,w64 (v2+1))
def ZaR.p1 (N:Nat) (height_0:Int) (gates_1:LL) (c1_:(Int×Int)→Option Int):(Int×Int)→Option Int:=fun (least_1,v2)=>
 if (decide (v2<(len gates_1)))=true then
  chk (0≤v2)<|
  Zds (gates_1[zE v2]?) ZcW fun x3=>
  if (decide (height_0≥x3.Height))=true then
   ZaR.p2 N c1_ height_0 (if x3.Version>least_1 then x3.Version else least_1) gates_1 v2
  else
  ZaR.p2 N c1_ height_0 least_1 gates_1 v2
 else
 some least_1
def ZaR (N:Nat) (height_0:Int) (gates_1:LL):Option Int:=
 loopN (ZaR.p1 N height_0 gates_1) N ((-2147483648),0)
def ZaR.p2.S (height_0 least_4:Int) (gates_1:LL) (v2:Int) (st:LL):S:=mkS 24 [(0,sI height_0),(5,sI least_4),(8,sV 2 gates_1),(9,sI (len gates_1)),(10,sI v2)] [] st
def ZaR.p1.S (height_0 least_1:Int) (gates_1:LL) (v2:Int) (st:LL):S:=mkS 24 [(0,sI height_0),(5,sI least_1),(8,sV 2 gates_1),(9,sI (len gates_1)),(10,sI v2)] [] st
theorem ZaR.p2_ok {height_0 least_4 gates_1 v2 st r c1_ J1} (h:ZaR.p2 N c1_ height_0 least_4 gates_1 v2=some r) (hE:En Tryz.f50 g0 w0 (ZaR.rs r) st R) (hc1 : ∀least_1 v2,c1_ (least_1,v2)=some r→At g0 w0 (ZaR.p1.S height_0 least_1 gates_1 v2 st) J1):At g0 w0 (ZaR.p2.S height_0 least_4 gates_1 v2 st) (XK zF R [.c (Zbn ZaR.B [1,1,0,1,0,0,1,1,1]),.h J1,.b 0,.c (Zbn ZaR.B [1,1,1])]):=by
 unfold ZaR.p2 at h
 exact an fol [.r []] [0,5,8,9,10] [] trivial (hc1 least_4 (w64 (v2+1)) h)
theorem ZaR.p1_ok {height_0 least_1 gates_1 v2 st r c1_ J1} (h:ZaR.p1 N height_0 gates_1 c1_ (least_1,v2)=some r) (hE:En Tryz.f50 g0 w0 (ZaR.rs r) st R) (hc1 : ∀least_1 v2,c1_ (least_1,v2)=some r→At g0 w0 (ZaR.p1.S height_0 least_1 gates_1 v2 st) J1):At g0 w0 (ZaR.p1.S height_0 least_1 gates_1 v2 st) (XK zF R (.c (Zbn ZaR.B [1,1,0,1,0,0]) :: .h J1 :: [.b 0,.c (Zbn ZaR.B [1,1,1])])):=by
 unfold ZaR.p1 at h
 refine ZaY h (fun c1 h1=>?_) (fun c1 h2=>?_)
 ·obtain ⟨c2,h3⟩:=ZaP h1
  obtain ⟨x3,c3,h4⟩:=ZcO h3
  let o1:List PS:=[.r [],.c true,.r [(1,{oe:=x3.ls})],.r []]
  refine ZaY h4 (fun c4 h5=>?_) (fun c4 h6=>?_)
  ·exact aq fol (o1 ++ [.c true,.r [],.s 4]) [0,5,8,9,10] [] (aL c1 c2 (oD c1) c3 c4) (ZaR.p2_ok h5 hE hc1)
  ·exact aq fol (o1 ++ [.c false,.s 4]) [0,5,8,9,10] [] (aL c1 c2 (oD c1) c3 c4) (ZaR.p2_ok h6 hE hc1)
 ·obtain rfl:=Zac h2
  exact af fol hE [.r [],.c false,.r []] [] 0 [] c1
theorem ZaR.snd {height_0:Int} {gates_1:LL} {r:Int} (h:ZaR N height_0 gates_1=some r):Zde zF 50 [oI height_0,.one (L.sl 2 gates_1)] (ZaR.rs r):=fun st=>
 sO ZaR.B Tryz.func50 fun g0 w0 R hE=>by
  unfold ZaR at h
  exact aq fol [.r [],.r [],.r []] [0,5,8,9,10] [] trivial (At.loop N (At.loopN (fun y:Int×Int=>ZaR.p1.S height_0 y.1 gates_1 y.2 st) (fun c J hc y h=>ZaR.p1_ok (least_1:=y.1) (v2:=y.2) h hE (fun least_1 v2=>hc (least_1,v2))) N ((-2147483648),0) h))
def ZbA.B:Code:=Tryz.f51.body.getD .skip
def ZbA.rs (r:Bool):List CV:=[oB r]
def ZbA.p1 (N:Nat) (height_0:Int) (checks_2:LL) (id_1_0:List Int) (c1_:Int→Option Bool):Int→Option Bool:=fun v1=>
 if (decide (v1<(len checks_2)))=true then
  chk (0≤v1)<|
  Zds (checks_2[zE v1]?) Zdz fun x2=>
  if (x2.Height==height_0)=true then
   if (!(x2.Id==id_1_0))=true then
    some false
   else
   c1_ (w64 (v1+1))
  else
  c1_ (w64 (v1+1))
 else
 some true
def ZbA (N:Nat) (height_0:Int) (id_1_0:List Int) (checks_2:LL):Option Bool:=
 loopN (ZbA.p1 N height_0 checks_2 id_1_0) N 0
def ZbA.p1.S (height_0:Int) (checks_2:LL) (v1:Int) (id_1_0:List Int) (st:LL):S:=mkS 26 [(0,sI height_0),(4,sA 4),(9,sV 33 checks_2),(10,sI (len checks_2)),(11,sI v1)] [(4,.cells [zH .u8 32 id_1_0])] st
theorem ZbA.p1_ok {height_0 checks_2 v1 id_1_0 st r c1_ J1} (h:ZbA.p1 N height_0 checks_2 id_1_0 c1_ v1=some r) (hE:En Tryz.f51 g0 w0 (ZbA.rs r) st R) (hc1 : ∀v1,c1_ v1=some r→At g0 w0 (ZbA.p1.S height_0 checks_2 v1 id_1_0 st) J1):At g0 w0 (ZbA.p1.S height_0 checks_2 v1 id_1_0 st) (XK zF R (.c (Zbn ZbA.B [1,0,1,0,0]) :: .h J1 :: [.b 0,.c (Zbn ZbA.B [1,1])])):=by
 unfold ZbA.p1 at h
 refine ZaY h (fun c1 h1=>?_) (fun c1 h2=>?_)
 ·obtain ⟨c2,h3⟩:=ZaP h1
  obtain ⟨x2,c3,h4⟩:=ZdI h3
  let o1:List PS:=[.r [],.c true,.r [(1,{oe:=x2.ls})]]
  refine ZaY h4 (fun c4 h5=>?_) (fun c4 h6=>?_)
  ·have t1 {Q:Prop} (q:Q):=aO c1 c2 (oD c1) c3 c4 c4 c4 (aJ c4 c4 q)
   refine ZaY h5 (fun c5 h7=>?_) (fun c5 h8=>?_)
   ·obtain rfl:=Zac h7
    exact af fol hE (o1 ++ [.r [],.c true,.r []]) [] 0 [] (t1 c5)
   ·exact an fol (o1 ++ [.r [],.c false,.r []]) [0,4,9,10,11] [4] (t1 c5) (hc1 (w64 (v1+1)) h8)
  ·exact an fol (o1 ++ [.r [(5,wF),(6,wF),(7,wF),(8,wF),(9,yF)],.c false,.r []]) [0,4,9,10,11] [4] (aO c1 c2 (oD c1) c3 c4 c4 c4 (aJ c4 c4 eF)) (hc1 (w64 (v1+1)) h6)
 ·obtain rfl:=Zac h2
  exact af fol hE [.r [],.c false,.r []] [] 0 [] c1
theorem ZbA.snd {height_0:Int} {id_1_0:List Int} {checks_2:LL} {r:Bool} (h:ZbA N height_0 id_1_0 checks_2=some r):Zde zF 51 [oI height_0,.agg [zH .u8 32 id_1_0],.one (L.sl 33 checks_2)] (ZbA.rs r):=fun st=>
 sO ZbA.B Tryz.func51 fun g0 w0 R hE=>by
  unfold ZbA at h
  exact aq fol [.r [],.r []] [0,4,9,10,11] [4] trivial (At.loop N (At.loopN (fun y:Int=>ZbA.p1.S height_0 checks_2 y id_1_0 st) (fun c J hc y h=>ZbA.p1_ok h hE (fun v1=>hc v1)) N 0 h))
def ZdC.B:Code:=Tryz.f27.body.getD .skip
def ZdC.rs (r:Int):List CV:=[oI r]
def ZdC (N:Nat) (p_0:Zae) (at_1:Zaz) (h_2:Zaj) (now_3:Int):Option Int:=
 Zbt (ZbY N h_2) fun x1=>
 if (!x1)=true then
  some 1
 else
 if (!(h_2.Prev==at_1.Prev))=true then
  some 2
 else
 Zbt (ZdY N p_0 at_1.Point h_2.Time) fun x2=>
 if (h_2.Bits != x2)=true then
  some 3
 else
 Zbt (Zdo N p_0 h_2) fun x3=>
 if (x3 != 0)=true then
  some 4
 else
 Zbt (ZcR N h_2.Time at_1.Times) fun x4=>
 if (!x4)=true then
  some 5
 else
 Zbt (Zdp N h_2.Time now_3 p_0.Future) fun x5=>
 if (!x5)=true then
  some 6
 else
 Zbt (ZaR N at_1.Point.Height p_0.Gates) fun x6=>
 if (decide (h_2.Version<x6))=true then
  some 7
 else
 Zbt (Zdi N h_2) fun x7=>
 Zbt (ZbA N at_1.Point.Height x7 p_0.Checks) fun x8=>
 if (!x8)=true then
  some 8
 else
 some 0
theorem ZdC.snd {p_0:Zae} {at_1:Zaz} {h_2:Zaj} {now_3:Int} {r:Int} (h:ZdC N p_0 at_1 h_2 now_3=some r):Zde zF 27 [.agg p_0.ls,.agg at_1.ls,.agg h_2.ls,oI now_3] (ZdC.rs r):=fun st=>
 sO ZdC.B Tryz.func27 fun g0 w0 R hE=>by
  unfold ZdC at h
  obtain ⟨x1,c1,h1⟩:=Zaf h
  let o1:List PS:=[.r [],.r [(1,q1 [oB x1])]]
  have t1 {Q:Prop} (q:Q):=aI (ZbY.snd c1) q
  refine ZaY h1 (fun c2 h2=>?_) (fun c2 h3=>?_)
  ·obtain rfl:=Zac h2
   exact af fol hE (o1 ++ [.c true,.r []]) [] 0 [] (t1 c2)
  ·let o2:List PS:=o1 ++ [.c false,.r []]
   refine ZaY h3 (fun c3 h4=>?_) (fun c3 h5=>?_)
   ·obtain rfl:=Zac h4
    exact af fol hE (o2 ++ [.c true,.r []]) [] 0 [] (t1 (aI c2 c3))
   ·obtain ⟨x2,c4,h6⟩:=Zaf h5
    let o3:List PS:=o2 ++ [.c false,.d {ds:=[(7,q1 [oI x2])],hv:=0,Hs:=[]}]
    have t2 {Q:Prop} (q:Q):=t1 (aK c2 c3 (ZdY.snd c4) q)
    refine ZaY h6 (fun c5 h7=>?_) (fun c5 h8=>?_)
    ·obtain rfl:=Zac h7
     exact afd fol hE (o3 ++ [.c true,.r []]) [] 0 [] (t2 c5)
    ·obtain ⟨x3,c6,h9⟩:=Zaf h8
     let o4:List PS:=o3 ++ [.c false,.r [(2,q1 [oI x3])]]
     have t3 {Q:Prop} (q:Q):=t2 (aJ c5 (Zdo.snd c6) q)
     refine ZaY h9 (fun c7 h10=>?_) (fun c7 h11=>?_)
     ·obtain rfl:=Zac h10
      exact afd fol hE (o4 ++ [.c true,.r []]) [] 0 [] (t3 c7)
     ·obtain ⟨x4,c8,h12⟩:=Zaf h11
      let o5:List PS:=o4 ++ [.c false,.r [(4,q1 [oB x4])]]
      have t4 {Q:Prop} (q:Q):=t3 (aJ c7 (ZcR.snd c8) q)
      refine ZaY h12 (fun c9 h13=>?_) (fun c9 h14=>?_)
      ·obtain rfl:=Zac h13
       exact afd fol hE (o5 ++ [.c true,.r []]) [] 0 [] (t4 c9)
      ·obtain ⟨x5,c10,h15⟩:=Zaf h14
       let o6:List PS:=o5 ++ [.c false,.r [(5,q1 [oB x5])]]
       have t5 {Q:Prop} (q:Q):=t4 (aJ c9 (Zdp.snd c10) q)
       refine ZaY h15 (fun c11 h16=>?_) (fun c11 h17=>?_)
       ·obtain rfl:=Zac h16
        exact afd fol hE (o6 ++ [.c true,.r []]) [] 0 [] (t5 c11)
       ·obtain ⟨x6,c12,h18⟩:=Zaf h17
        let o7:List PS:=o6 ++ [.c false,.d {ds:=[(7,q1 [oI x6])],hv:=0,Hs:=[]}]
        have t6 {Q:Prop} (q:Q):=t5 (aJ c11 (ZaR.snd c12) q)
        refine ZaY h18 (fun c13 h19=>?_) (fun c13 h20=>?_)
        ·obtain rfl:=Zac h19
         exact afd fol hE (o7 ++ [.c true,.r []]) [] 0 [] (t6 c13)
        ·obtain ⟨x7,c14,h21⟩:=Zaf h20
         obtain ⟨x8,c15,h22⟩:=Zaf h21
         let o8:List PS:=o7 ++ [.c false,.d {ds:=[(4,q1 [.agg [zH .u8 32 x7]]),(7,q1 [oB x8])],hv:=0,Hs:=[]}]
         have t7 {Q:Prop} (q:Q):=t6 (aK c13 (Zdi.snd c14) (ZbA.snd c15) q)
         refine ZaY h22 (fun c16 h23=>?_) (fun c16 h24=>?_)
         ·obtain rfl:=Zac h23
          exact afd fol hE (o8 ++ [.c true,.r []]) [] 0 [] (t7 c16)
         ·obtain rfl:=Zac h24
          exact afd fol hE (o8 ++ [.c false,.r []]) [] 0 [] (t7 c16)
def ZaB.B:Code:=Tryz.f9.body.getD .skip
def ZaB.rs (r:Int×Int×Int×LL):List CV:=[oI r.1,oI r.2.1,oI r.2.2.1]
def ZaB.p2 (N:Nat) (i2:Nat) (now_2 ahead_12:Int) (is_13:Bool) (h_1:Zaj) (st:LL):Option (Int×Int×Int×LL):=
 if (!is_13)=true then
  some ((-1),2,5,st)
 else
 Zds (st[i2]?) Zcb fun x14=>
 chk (0≤ahead_12)<|
 chk (ahead_12<(len x14.spots))<|
 Zds (x14.spots[0+(zE ahead_12)]?) ZeB fun x15=>
 Zbt (ZdC N x14.rules x15 h_1 now_2) fun x16=>
 if (x16 != 0)=true then
  some ((-1),x16,8,st)
 else
 if (decide ((len x14.list)≥x14.room))=true then
  some ((-1),0,6,st)
 else
 Zbt (ZcE N x14.rules x15 h_1) fun x17=>
 Zbt (ZaN N (some i2) h_1 ahead_12 x17 st) fun (x18,st19)=>
 some (x18,0,0,st19)
def ZaB.p1 (N:Nat) (i2:Nat) (now_2 at_7:Int) (is_8:Bool) (h_1:Zaj) (st:LL):Option (Int×Int×Int×LL):=
 if is_8=true then
  some (at_7,0,0,st)
 else
 Zds (st[i2]?) Zcb fun x9=>
 optM (Zgp x9.places (zH .u8 32 h_1.Prev)) (fun j10 e=>Zdq [e] fun x11=>
  ZaB.p2 N i2 now_2 x11 true h_1 st)
 (
  ZaB.p2 N i2 now_2 0 false h_1 st)
def ZaB (N:Nat) (a_0:Option Nat) (h_1:Zaj) (now_2:Int) (st:LL):Option (Int×Int×Int×LL):=
 if (Option.isNone a_0)=true then
  some ((-1),0,2,st)
 else
 Zbt (ZbY N h_1) fun x1=>
 if (!x1)=true then
  some ((-1),1,8,st)
 else
 Zbt a_0 fun i2=>
 Zds (st[i2]?) Zcb fun x3=>
 Zbt (Zdi N h_1) fun x4=>
 optM (Zgp x3.places (zH .u8 32 x4)) (fun j5 e=>Zdq [e] fun x6=>
  ZaB.p1 N i2 now_2 x6 true h_1 st)
 (
  ZaB.p1 N i2 now_2 0 false h_1 st)
def ZaB.p2.S (i2:Nat) (now_2 ahead_12:Int) (is_13:Bool) (h_1:Zaj) (st:LL):S:=mkS 87 [(0,sP (some i2)),(2,sI now_2),(4,sA 4),(11,sI ahead_12),(12,.one (.l (uA is_13)))] [(4,.cells h_1.ls)] st
def ZaB.p1.S (i2:Nat) (now_2 at_7:Int) (is_8:Bool) (h_1:Zaj) (st:LL):S:=mkS 87 [(0,sP (some i2)),(2,sI now_2),(4,sA 4),(9,sI at_7),(10,.one (.l (uA is_8)))] [(4,.cells h_1.ls)] st
theorem ZaB.p2_ok {i2 now_2 ahead_12 is_13 h_1 st r} (h:ZaB.p2 N i2 now_2 ahead_12 is_13 h_1 st=some r) (hE:En Tryz.f9 g0 w0 (ZaB.rs r) r.2.2.2 R):At g0 w0 (ZaB.p2.S i2 now_2 ahead_12 is_13 h_1 st) (XK zF R [.c (Zbn ZaB.B [1,1,1,1,1])]):=by
 unfold ZaB.p2 at h
 refine ZaY h (fun c11 h1=>?_) (fun c11 h2=>?_)
 ·obtain rfl:=Zac h1
  exact af fol hE [.r [],.c true,.r []] [] 0 [] c11
 ·obtain ⟨x14,c12,h3⟩:=ZbM h2
  obtain ⟨c13,c14,h4⟩:=ck2 h3
  obtain ⟨x15,c15,h5⟩:=ZeM h4
  obtain ⟨x16,c16,h6⟩:=Zaf h5
  let o1:List PS:=[.r [],.c false,.d {ds:=[(3,{oc:=x14.lo}),(7,{oc:=x14.lo}),(10,{oc:=x14.lo,oe:=x15.ls}),(13,q1 [oI x16])],hv:=0,Hs:=[]},.r []]
  have t1 {Q:Prop} (q:Q):=aO c11 c12 c12 c13 c14 c15 c12 (aI (ZdC.snd c16) q)
  refine ZaY h6 (fun c17 h7=>?_) (fun c17 h8=>?_)
  ·obtain rfl:=Zac h7
   exact afd fol hE (o1 ++ [.c true,.r []]) [] 0 [] (t1 c17)
  ·let o2:List PS:=o1 ++ [.c false,.d {ds:=[(3,{oc:=x14.lo}),(8,{oc:=x14.lo})],hv:=0,Hs:=[]}]
   refine ZaY h8 (fun c18 h9=>?_) (fun c18 h10=>?_)
   ·obtain rfl:=Zac h9
    exact afd fol hE (o2 ++ [.c true,.r []]) [] 0 [] (t1 (aK c17 c12 c12 c18))
   ·obtain ⟨x17,c19,h11⟩:=Zaf h10
    obtain ⟨⟨x18,st19⟩,c20,h12⟩:=Zaf h11
    obtain rfl:=Zac h12
    exact afd fol hE (o2 ++ [.c false,.d {ds:=[(6,{oc:=x14.lo}),(10,{oc:=x14.lo}),(13,{oc:=x14.lo,oe:=x15.ls}),(15,q1 [.agg x17.ls]),(16,{rs:=[oI x18],st:=st19})],hv:=65536,Hs:=[65536]}]) [] 0 [] (t1 (aO c17 c12 c12 c18 c12 c12 c13 (aL c14 c15 c12 (ZcE.snd c19) (ZaN.snd c20))))
theorem ZaB.p1_ok {i2 now_2 at_7 is_8 h_1 st r} (h:ZaB.p1 N i2 now_2 at_7 is_8 h_1 st=some r) (hE:En Tryz.f9 g0 w0 (ZaB.rs r) r.2.2.2 R):At g0 w0 (ZaB.p1.S i2 now_2 at_7 is_8 h_1 st) (XK zF R [.c (Zbn ZaB.B [1,1,1,0,1]),.c (Zbn ZaB.B [1,1,1,1])]):=by
 unfold ZaB.p1 at h
 refine ZaY h (fun c8 h13=>?_) (fun c8 h14=>?_)
 ·obtain rfl:=Zac h13
  exact af fol hE [.r [],.c true,.r []] [] 0 [] c8
 ·obtain ⟨x9,c9,h15⟩:=ZbM h14
  rcases Zje h15 with ⟨j10,h19,c10,h16⟩ | ⟨c10,h17⟩
  ·obtain ⟨x11,h20,h18⟩:=Zgf h16
   obtain rfl:=ZgT h20
   exact aqd fol [.r [],.c false,.d {ds:=[(3,{oc:=x9.lo}),(6,{oc:=x9.lo,oe:=[zI .i64 x11]})],hv:=0,Hs:=[]},.s 1] [0,2,4,11,12] [4] (aK c8 c9 (ZnR c10) c9) (ZaB.p2_ok h18 hE)
  ·exact aqd fol [.r [],.c false,.d {ds:=[(3,{oc:=x9.lo}),(6,{oc:=x9.lo,yes:=false})],hv:=0,Hs:=[]},.s 1] [0,2,4,11,12] [4] (aK c8 c9 c10 c9) (ZaB.p2_ok h17 hE)
theorem ZaB.snd {a_0:Option Nat} {h_1:Zaj} {now_2:Int} {st:LL} {r:Int×Int×Int×LL} (h:ZaB N a_0 h_1 now_2 st=some r):Snd zF 9 [.one (L.ptr a_0),.agg h_1.ls,oI now_2] st (ZaB.rs r) r.2.2.2:=
 sO ZaB.B Tryz.func9 fun g0 w0 R hE=>by
  unfold ZaB at h
  refine ZaY h (fun c1 h21=>?_) (fun c1 h22=>?_)
  ·obtain rfl:=Zac h21
   exact af fol hE [.r [],.r [],.c true,.r []] [] 0 [] c1
  ·obtain ⟨x1,c2,h23⟩:=Zaf h22
   let o3:List PS:=[.r [],.r [],.c false,.r [(1,q1 [oB x1])]]
   have t2 {Q:Prop} (q:Q):=aJ c1 (ZbY.snd c2) q
   refine ZaY h23 (fun c3 h24=>?_) (fun c3 h25=>?_)
   ·obtain rfl:=Zac h24
    exact af fol hE (o3 ++ [.c true,.r []]) [] 0 [] (t2 c3)
   ·obtain ⟨i2,rfl,h26⟩:=Zaf h25
    obtain ⟨x3,c5,h27⟩:=ZbM h26
    obtain ⟨x4,c6,h28⟩:=Zaf h27
    rcases Zje h28 with ⟨j5,h32,c7,h29⟩ | ⟨c7,h30⟩
    ·obtain ⟨x6,h33,h31⟩:=Zgf h29
     obtain rfl:=ZgT h33
     exact aqd fol (o3 ++ [.c false,.d {ds:=[(3,{oc:=x3.lo}),(5,q1 [.agg [zH .u8 32 x4]]),(6,{oc:=x3.lo,oe:=[zI .i64 x6]})],hv:=0,Hs:=[]},.s 2]) [0,2,4,9,10] [4] (t2 (aL c3 c5 (Zdi.snd c6) (ZnR c7) c5)) (ZaB.p1_ok h31 hE)
    ·exact aqd fol (o3 ++ [.c false,.d {ds:=[(3,{oc:=x3.lo}),(5,q1 [.agg [zH .u8 32 x4]]),(6,{oc:=x3.lo,yes:=false})],hv:=0,Hs:=[]},.s 2]) [0,2,4,9,10] [4] (t2 (aL c3 c5 (Zdi.snd c6) c7 c5)) (ZaB.p1_ok h30 hE)
def ZaV.B:Code:=Tryz.f28.body.getD .skip
def ZaV.rs (r:Int):List CV:=[oI r]
def ZaV.p1 (N:Nat) (a_0:Zaa) (id_1_0:List Int) (c1_:Int→Option Int):Int→Option Int:=fun v1=>
 if (decide (v1<(len a_0.Ids)))=true then
  chk (0≤v1)<|
  Zds (a_0.Ids[zE v1]?) ZfS fun x2=>
  if (x2==id_1_0)=true then
   some v1
  else
  c1_ (w64 (v1+1))
 else
 some (-1)
def ZaV (N:Nat) (a_0:Zaa) (id_1_0:List Int):Option Int:=
 loopN (ZaV.p1 N a_0 id_1_0) N 0
def ZaV.p1.S (a_0:Zaa) (v1:Int) (id_1_0:List Int) (st:LL):S:=mkS 22 [(3,sA 3),(10,sV 32 a_0.Ids),(11,sI (len a_0.Ids)),(12,sI v1)] [(3,.cells [zH .u8 32 id_1_0])] st
theorem ZaV.p1_ok {a_0 v1 id_1_0 st r c1_ J1} (h:ZaV.p1 N a_0 id_1_0 c1_ v1=some r) (hE:En Tryz.f28 g0 w0 (ZaV.rs r) st R) (hc1 : ∀v1,c1_ v1=some r→At g0 w0 (ZaV.p1.S a_0 v1 id_1_0 st) J1):At g0 w0 (ZaV.p1.S a_0 v1 id_1_0 st) (XK zF R (.c (Zbn ZaV.B [1,0,1,0,0]) :: .h J1 :: [.b 0,.c (Zbn ZaV.B [1,1])])):=by
 unfold ZaV.p1 at h
 refine ZaY h (fun c1 h1=>?_) (fun c1 h2=>?_)
 ·obtain ⟨c2,h3⟩:=ZaP h1
  obtain ⟨x2,c3,h4⟩:=Zge h3
  let o1:List PS:=[.r [],.c true,.r [(2,{oe:=[zH .u8 32 x2]})],.r []]
  refine ZaY h4 (fun c4 h5=>?_) (fun c4 h6=>?_)
  ·obtain rfl:=Zac h5
   exact af fol hE (o1 ++ [.c true,.r []]) [] 0 [] (aL c1 c2 (oD c1) c3 c4)
  ·exact an fol (o1 ++ [.c false,.r []]) [3,10,11,12] [3] (aL c1 c2 (oD c1) c3 c4) (hc1 (w64 (v1+1)) h6)
 ·obtain rfl:=Zac h2
  exact af fol hE [.r [],.c false,.r []] [] 0 [] c1
theorem ZaV.snd {a_0:Zaa} {id_1_0:List Int} {r:Int} (h:ZaV N a_0 id_1_0=some r):Zde zF 28 [.one (L.bx 88 a_0.ls),.agg [zH .u8 32 id_1_0]] (ZaV.rs r):=fun st=>
 sO ZaV.B Tryz.func28 fun g0 w0 R hE=>by
  unfold ZaV at h
  exact aq fol [.r [],.r [(3,{oe:=a_0.ls})]] [3,10,11,12] [3] (eO a_0.ls) (At.loop N (At.loopN (fun y:Int=>ZaV.p1.S a_0 y id_1_0 st) (fun c J hc y h=>ZaV.p1_ok h hE (fun v1=>hc v1)) N 0 h))
def ZaH.B:Code:=Tryz.f12.body.getD .skip
def ZaH.rs (r:LL):List CV:=[.row true 68 r]
def ZaH.p1 (N:Nat) (a_0:Zaa) (c1_:(LL×Int)→Option LL):(LL×Int)→Option LL:=fun (out_4,k_1)=>
 if (decide (k_1≥0))=true then
  chk (0≤k_1)<|
  chk (k_1<(len a_0.List_))<|
  Zds (a_0.List_[zE k_1]?) ZcT fun x5=>
  chk (zK ([x5.ls]++out_4)*96≤140737488355328)<|
  chk (k_1<(len a_0.Ahead))<|
  Zds (a_0.Ahead[zE k_1]?) Zdq fun x6=>
  c1_ ([x5.ls]++out_4,x6)
 else
 some out_4
def ZaH (N:Nat) (a_0:Zaa) (at_1:Int):Option LL:=
 loopN (ZaH.p1 N a_0) N ([],at_1)
def ZaH.p1.S (a_0:Zaa) (out_4:LL) (k_1:Int) (st:LL):S:=mkS 28 [(0,.one (.l (L.bx 88 a_0.ls))),(5,.one (.h (.row 5 0) 68 0 (zK out_4))),(6,sI k_1)] [(5,.row 0 true 68 out_4)] st
theorem ZaH.p1_ok {a_0 out_4 k_1 st r c1_ J1} (h:ZaH.p1 N a_0 c1_ (out_4,k_1)=some r) (hE:En Tryz.f12 g0 w0 (ZaH.rs r) st R) (hc1 : ∀out_4 k_1,c1_ (out_4,k_1)=some r→At g0 w0 (ZaH.p1.S a_0 out_4 k_1 st) J1):At g0 w0 (ZaH.p1.S a_0 out_4 k_1 st) (XK zF R (.c (Zbn ZaH.B [1,1,0,1,0,0]) :: .h J1 :: [.b 0,.c (Zbn ZaH.B [1,1,1])])):=by
 unfold ZaH.p1 at h
 refine ZaY h (fun c8 h1=>?_) (fun c8 h2=>?_)
 ·obtain ⟨c9,c10,h3⟩:=ck2 h1
  obtain ⟨x5,c11,h4⟩:=Zda h3
  obtain ⟨c12,c13,h5⟩:=ck2 h4
  obtain ⟨x6,c14,h6⟩:=ZcK h5
  exact an fol [.r [],.c true,.r [(3,{oe:=a_0.ls}),(6,{oe:=x5.ls}),(10,{m:=4})],.r [(3,{oe:=a_0.ls}),(6,{oe:=[zI .i64 x6]})]] [0,5,6] [5] (aO c8 (eO a_0.ls) c9 c10 c11 z0 (eN (1)) (aN z0 (eN (zK out_4)) c12 (eO a_0.ls) c9 c13 c14)) (hc1 ([x5.ls]++out_4) x6 h6)
 ·obtain rfl:=Zac h2
  exact af fol hE [.r [],.c false,.r []] [] 0 [0] (aJ c8 z0 (eN (zK out_4)))
theorem ZaH.snd {a_0:Zaa} {at_1:Int} {r:LL} (h:ZaH N a_0 at_1=some r):Zde zF 12 [.one (L.bx 88 a_0.ls),oI at_1] (ZaH.rs r):=fun st=>
 sO ZaH.B Tryz.func12 fun g0 w0 R hE=>by
  unfold ZaH at h
  exact aq fol [.r [(0,{m:=2})],.r [(0,{m:=1})],.r []] [0,5,6] [5] trivial (At.loop N (At.loopN (fun y:LL×Int=>ZaH.p1.S a_0 y.1 y.2 st) (fun c J hc y h=>ZaH.p1_ok (out_4:=y.1) (k_1:=y.2) h hE (fun out_4 k_1=>hc (out_4,k_1))) N ([],at_1) h))
def Zar.B:Code:=Tryz.f113.body.getD .skip
def Zar.rs (r:(List Int)×Bool):List CV:=[.agg [zH .u64 4 r.1],oB r.2]
def Zar.p2 (N:Nat) (c1_:(Int×Int×(List Int))→Option ((List Int)×Bool)) (by_1 over_2 c_1 i_2 w_12:Int) (n_0_0 d_11:List Int):Option ((List Int)×Bool):=
 chk (0≤i_2)<|
 chk (i_2<10)<|
 c1_ (w64 (zN (w64 ((w64 (w_12*by_1))+c_1)) 4294967296),w64 (i_2+1),zP d_11 (zE i_2) (zT (w64 ((w64 (w_12*by_1))+c_1)) 4294967296))
def Zar.p4 (N:Nat) (q_17:List Int) (c4_:(Int×(List Int))→Option ((List Int)×Bool)):(Int×(List Int))→Option ((List Int)×Bool):=fun (i_18,out_19)=>
 if (decide (i_18<8))=true then
  chk (0≤(w64 (zN i_18 2)))<|
  chk ((w64 (zN i_18 2))<4)<|
  chk (0≤i_18)<|
  chk (i_18<10)<|
  chk (0≤(v64 (w64 (32*(zT i_18 2)))))<|
  c4_ (w64 (i_18+1),zP out_19 (zE (w64 (zN i_18 2))) (v64 ((zD out_19 (zE (w64 (zN i_18 2))) 0)+(Zbi .u64 (v64 (zD q_17 (zE i_18) 0)) (v64 (w64 (32*(zT i_18 2))))))))
 else
 if ((zD q_17 8 0)==0)=true then
  some (out_19,(zD q_17 9 0)==0)
 else
 some (out_19,false)
def Zar.p3 (N:Nat) (over_2:Int) (d_11:List Int) (c3_:(Int×Int×(List Int))→Option ((List Int)×Bool)):(Int×Int×(List Int))→Option ((List Int)×Bool):=fun (rest_13,i_14,q_17)=>
 if (decide (i_14≥0))=true then
  chk (0≤i_14)<|
  chk (i_14<10)<|
  chk (over_2≠0)<|
  c3_ (zT (w64 ((w64 (rest_13*4294967296))+(zD d_11 (zE i_14) 0))) over_2,w64 (i_14-1),zP q_17 (zE i_14) (w64 (zN (w64 ((w64 (rest_13*4294967296))+(zD d_11 (zE i_14) 0))) over_2)))
 else
 loopN (Zar.p4 N q_17) N (0,zB 4 0)
def Zar.p1 (N:Nat) (by_1 over_2:Int) (n_0_0:List Int) (c1_:(Int×Int×(List Int))→Option ((List Int)×Bool)):(Int×Int×(List Int))→Option ((List Int)×Bool):=fun (c_1,i_2,d_11)=>
 if (decide (i_2<10))=true then
  if (decide (i_2<8))=true then
   chk (0≤(w64 (zN i_2 2)))<|
   chk ((w64 (zN i_2 2))<4)<|
   chk (0≤(v64 (w64 (32*(zT i_2 2)))))<|
   Zar.p2 N c1_ by_1 over_2 c_1 i_2 (w64 (zT (Zba .u64 (zD n_0_0 (zE (w64 (zN i_2 2))) 0) (v64 (w64 (32*(zT i_2 2))))) 4294967296)) n_0_0 d_11
  else
  Zar.p2 N c1_ by_1 over_2 c_1 i_2 0 n_0_0 d_11
 else
 loopN (Zar.p3 N over_2 d_11) N (0,9,zB 10 0)
def Zar (N:Nat) (n_0_0:List Int) (by_1 over_2:Int):Option ((List Int)×Bool):=
 loopN (Zar.p1 N by_1 over_2 n_0_0) N (0,0,zB 10 0)
def Zar.p2.S (by_1 over_2 c_1 i_2 w_12:Int) (n_0_0 d_11:List Int) (st:LL):S:=mkS 96 [(1,sI by_1),(2,sI over_2),(3,sA 3),(6,sA 6),(8,sA 8),(9,sI c_1),(10,sI i_2),(11,sI w_12)] [(3,.cells [zH .u64 4 n_0_0]),(6,.cells [zH .u64 4 (zB 4 0)]),(8,.cells [zH .i64 10 d_11])] st
def Zar.p4.S (i_18:Int) (q_17 out_19:List Int) (st:LL):S:=mkS 96 [(6,sA 6),(14,sA 14),(17,sA 17),(18,sI i_18)] [(6,.cells [zH .u64 4 (zB 4 0)]),(14,.cells [zH .i64 10 q_17]),(17,.cells [zH .u64 4 out_19])] st
def Zar.p3.S (over_2 rest_13 i_14:Int) (d_11 q_17:List Int) (st:LL):S:=mkS 96 [(2,sI over_2),(6,sA 6),(8,sA 8),(13,sI rest_13),(14,sA 14),(15,sI i_14)] [(6,.cells [zH .u64 4 (zB 4 0)]),(8,.cells [zH .i64 10 d_11]),(14,.cells [zH .i64 10 q_17])] st
def Zar.p1.S (by_1 over_2 c_1 i_2:Int) (n_0_0 d_11:List Int) (st:LL):S:=mkS 96 [(1,sI by_1),(2,sI over_2),(3,sA 3),(6,sA 6),(8,sA 8),(9,sI c_1),(10,sI i_2)] [(3,.cells [zH .u64 4 n_0_0]),(6,.cells [zH .u64 4 (zB 4 0)]),(8,.cells [zH .i64 10 d_11])] st
theorem Zar.p2_ok {by_1 over_2 c_1 i_2 w_12 n_0_0 d_11 st r c1_ J1} (h:Zar.p2 N c1_ by_1 over_2 c_1 i_2 w_12 n_0_0 d_11=some r) (hE:En Tryz.f113 g0 w0 (Zar.rs r) st R) (hc1 : ∀c_1 i_2 d_11,c1_ (c_1,i_2,d_11)=some r→At g0 w0 (Zar.p1.S by_1 over_2 c_1 i_2 n_0_0 d_11 st) J1):At g0 w0 (Zar.p2.S by_1 over_2 c_1 i_2 w_12 n_0_0 d_11 st) (XK zF R [.c (Zbn Zar.B [1,1,1,0,1,0,0,1,0,0,1,1]),.b 1,.c (Zbn Zar.B [1,1,1,0,1,0,0,1,1]),.h J1,.b 0,.c (Zbn Zar.B [1,1,1,1])]):=by
 unfold Zar.p2 at h
 obtain ⟨c49,c50,h1⟩:=ck2 h
 exact an fol [.r [],.r [],.r [],.r []] [1,2,3,6,8,9,10] [3,6,8] (aK (neI 4294967296) c49 c50 (neI 4294967296)) (hc1 (w64 (zN (w64 ((w64 (w_12*by_1))+c_1)) 4294967296)) (w64 (i_2+1)) (zP d_11 (zE i_2) (zT (w64 ((w64 (w_12*by_1))+c_1)) 4294967296)) h1)
theorem Zar.p4_ok {i_18 q_17 out_19 st r c4_ J4} (h:Zar.p4 N q_17 c4_ (i_18,out_19)=some r) (hE:En Tryz.f113 g0 w0 (Zar.rs r) st R) (hc4 : ∀i_18 out_19,c4_ (i_18,out_19)=some r→At g0 w0 (Zar.p4.S i_18 q_17 out_19 st) J4):At g0 w0 (Zar.p4.S i_18 q_17 out_19 st) (XK zF R (.c (Zbn Zar.B [1,1,1,1,1,1,1,1,0,1,0,0]) :: .h J4 :: [.b 4,.c (Zbn Zar.B [1,1,1,1,1,1,1,1,1])])):=by
 unfold Zar.p4 at h
 refine ZaY h (fun c80 h2=>?_) (fun c80 h3=>?_)
 ·obtain ⟨c81,c82,c83,c84,c85,h4⟩:=ck5 h2
  exact ZiS fol [.r [],.c true,.d {ds:=[],hv:=131072,Hs:=[131072]},.r []] [6,14,17,18] [6,14,17] (aO c80 (neI 2) (neI 2) c81 c82 c83 c84 (aK (neI 2) c85 c81 c82)) (hc4 (w64 (i_18+1)) (zP out_19 (zE (w64 (zN i_18 2))) (v64 ((zD out_19 (zE (w64 (zN i_18 2))) 0)+(Zbi .u64 (v64 (zD q_17 (zE i_18) 0)) (v64 (w64 (32*(zT i_18 2)))))))) h4)
 ·refine ZaY h3 (fun c86 h5=>?_) (fun c86 h6=>?_)
  ·obtain rfl:=Zac h5
   exact afd fol hE [.r [],.c false,.d {ds:=[],hv:=512,Hs:=[512]}] [] 0 [] (aI c80 (ix 8 10 (aI c86 (ix 9 10 (aI c86 (ix 9 10 (aM c86 c86 c86 c86 c86 c86)))))))
  ·obtain rfl:=Zac h6
   exact afd fol hE [.r [],.c false,.d {ds:=[(5,wF),(6,wF),(7,wF),(8,yF)],hv:=512,Hs:=[512]}] [] 0 [] (aI c80 (ix 8 10 (aO c86 c86 c86 c86 c86 c86 c86 c86)))
theorem Zar.p3_ok {over_2 rest_13 i_14 d_11 q_17 st r c3_ J3} (h:Zar.p3 N over_2 d_11 c3_ (rest_13,i_14,q_17)=some r) (hE:En Tryz.f113 g0 w0 (Zar.rs r) st R) (hc3 : ∀rest_13 i_14 q_17,c3_ (rest_13,i_14,q_17)=some r→At g0 w0 (Zar.p3.S over_2 rest_13 i_14 d_11 q_17 st) J3):At g0 w0 (Zar.p3.S over_2 rest_13 i_14 d_11 q_17 st) (XK zF R (.c (Zbn Zar.B [1,1,1,1,1,1,0,1,0,0]) :: .h J3 :: [.b 2,.c (Zbn Zar.B [1,1,1,1,1,1,1])])):=by
 unfold Zar.p3 at h
 refine ZaY h (fun c69 h7=>?_) (fun c69 h8=>?_)
 ·obtain ⟨c70,c71,c72,h9⟩:=ck3 h7
  exact an fol [.r [],.c true,.r [],.r [],.r [],.r []] [2,6,8,13,14,15] [6,8,14] (aN c69 c70 c71 c72 c70 c71 c72) (hc3 (zT (w64 ((w64 (rest_13*4294967296))+(zD d_11 (zE i_14) 0))) over_2) (w64 (i_14-1)) (zP q_17 (zE i_14) (w64 (zN (w64 ((w64 (rest_13*4294967296))+(zD d_11 (zE i_14) 0))) over_2))) h9)
 ·exact aq fol [.r [],.c false,.r [],.r []] [6,14,17,18] [6,14,17] c69 (At.loop N (At.loopN (fun y:Int×(List Int)=>Zar.p4.S y.1 q_17 y.2 st) (fun c J hc y h=>Zar.p4_ok (i_18:=y.1) (out_19:=y.2) h hE (fun i_18 out_19=>hc (i_18,out_19))) N (0,zB 4 0) h8))
theorem Zar.p1_ok {by_1 over_2 c_1 i_2 n_0_0 d_11 st r c1_ J1} (h:Zar.p1 N by_1 over_2 n_0_0 c1_ (c_1,i_2,d_11)=some r) (hE:En Tryz.f113 g0 w0 (Zar.rs r) st R) (hc1 : ∀c_1 i_2 d_11,c1_ (c_1,i_2,d_11)=some r→At g0 w0 (Zar.p1.S by_1 over_2 c_1 i_2 n_0_0 d_11 st) J1):At g0 w0 (Zar.p1.S by_1 over_2 c_1 i_2 n_0_0 d_11 st) (XK zF R (.c (Zbn Zar.B [1,1,1,0,1,0,0]) :: .h J1 :: [.b 0,.c (Zbn Zar.B [1,1,1,1])])):=by
 unfold Zar.p1 at h
 refine ZaY h (fun c44 h10=>?_) (fun c44 h11=>?_)
 ·refine ZaY h10 (fun c45 h12=>?_) (fun c45 h13=>?_)
  ·obtain ⟨c46,c47,c48,h14⟩:=ck3 h12
   exact aq fol [.r [],.c true,.r [],.r [],.c true,.r [],.s 6] [1,2,3,6,8,9,10,11] [3,6,8] (aO c44 c45 (neI 2) c46 c47 (neI 2) c48 (neI 4294967296)) (Zar.p2_ok h14 hE hc1)
  ·exact aq fol [.r [],.c true,.r [],.r [],.c false,.s 6] [1,2,3,6,8,9,10,11] [3,6,8] (aI c44 c45) (Zar.p2_ok h13 hE hc1)
 ·exact aq fol [.r [],.c false,.r [],.r [],.r []] [2,6,8,13,14,15] [6,8,14] c44 (At.loop N (At.loopN (fun y:Int×Int×(List Int)=>Zar.p3.S over_2 y.1 y.2.1 d_11 y.2.2 st) (fun c J hc y h=>Zar.p3_ok (rest_13:=y.1) (i_14:=y.2.1) (q_17:=y.2.2) h hE (fun rest_13 i_14 q_17=>hc (rest_13,i_14,q_17))) N (0,9,zB 10 0) h11))
theorem Zar.snd {n_0_0:List Int} {by_1 over_2:Int} {r:(List Int)×Bool} (h:Zar N n_0_0 by_1 over_2=some r):Zde zF 113 [.agg [zH .u64 4 n_0_0],oI by_1,oI over_2] (Zar.rs r):=fun st=>
 sO Zar.B Tryz.func113 fun g0 w0 R hE=>by
  unfold Zar at h
  exact aq fol [.r [],.r [],.r [],.r []] [1,2,3,6,8,9,10] [3,6,8] trivial (At.loop N (At.loopN (fun y:Int×Int×(List Int)=>Zar.p1.S by_1 over_2 y.1 y.2.1 n_0_0 y.2.2 st) (fun c J hc y h=>Zar.p1_ok (c_1:=y.1) (i_2:=y.2.1) (d_11:=y.2.2) h hE (fun c_1 i_2 d_11=>hc (c_1,i_2,d_11))) N (0,0,zB 10 0) h))
def Zat.B:Code:=Tryz.f114.body.getD .skip
def Zat.rs (r:Int):List CV:=[oI r]
def Zat.p2 (N:Nat) (c1_:(Int×Int)→Option Int) (size_4 i_2:Int) (n_0_0:List Int):Option Int:=
 c1_ (size_4,w64 (i_2+1))
def Zat.p4 (N:Nat) (size_8 word_9:Int):Option Int:=
 some (w64 ((w64 (size_8*16777216))+word_9))
def Zat.p3 (N:Nat) (size_1 word_7:Int):Option Int:=
 if (decide (word_7≥8388608))=true then
  Zat.p4 N (w64 (size_1+1)) (w64 (zN word_7 256))
 else
 Zat.p4 N size_1 word_7
def Zat.p1 (N:Nat) (n_0_0:List Int) (c1_:(Int×Int)→Option Int):(Int×Int)→Option Int:=fun (size_1,i_2)=>
 if (decide (i_2<32))=true then
  Zbt (Zam N n_0_0 (w64 ((-8)*i_2))) fun x3=>
  if (decide ((zT (zD x3 0 0) 256)>0))=true then
   Zat.p2 N c1_ (w64 (i_2+1)) i_2 n_0_0
  else
  Zat.p2 N c1_ size_1 i_2 n_0_0
 else
 Zbt (Zam N n_0_0 (w64 (8*(w64 (3-size_1))))) fun x5=>
 if (decide (size_1>3))=true then
  Zbt (Zam N n_0_0 (w64 ((-8)*(w64 (size_1-3))))) fun x6=>
  Zat.p3 N size_1 (w64 (zT (zD x6 0 0) 16777216))
 else
 Zat.p3 N size_1 (w64 (zT (zD x5 0 0) 16777216))
def Zat (N:Nat) (n_0_0:List Int):Option Int:=
 loopN (Zat.p1 N n_0_0) N (0,0)
def Zat.p2.S (size_4 i_2:Int) (n_0_0:List Int) (st:LL):S:=mkS 49 [(1,sA 1),(3,sI size_4),(4,sI i_2)] [(1,.cells [zH .u64 4 n_0_0])] st
def Zat.p4.S (size_8 word_9:Int) (st:LL):S:=mkS 49 [(3,sI size_8),(6,sI word_9)] [] st
def Zat.p3.S (size_1 word_7:Int) (st:LL):S:=mkS 49 [(3,sI size_1),(6,sI word_7)] [] st
def Zat.p1.S (size_1 i_2:Int) (n_0_0:List Int) (st:LL):S:=mkS 49 [(1,sA 1),(3,sI size_1),(4,sI i_2)] [(1,.cells [zH .u64 4 n_0_0])] st
theorem Zat.p2_ok {size_4 i_2 n_0_0 st r c1_ J1} (h:Zat.p2 N c1_ size_4 i_2 n_0_0=some r) (hE:En Tryz.f114 g0 w0 (Zat.rs r) st R) (hc1 : ∀size_1 i_2,c1_ (size_1,i_2)=some r→At g0 w0 (Zat.p1.S size_1 i_2 n_0_0 st) J1):At g0 w0 (Zat.p2.S size_4 i_2 n_0_0 st) (XK zF R [.c (Zbn Zat.B [1,1,0,1,0,0,1,1]),.h J1,.b 0,.c (Zbn Zat.B [1,1,1])]):=by
 unfold Zat.p2 at h
 exact an fol [.r []] [1,3,4] [1] trivial (hc1 size_4 (w64 (i_2+1)) h)
theorem Zat.p4_ok {size_8 word_9 st r} (h:Zat.p4 N size_8 word_9=some r) (hE:En Tryz.f114 g0 w0 (Zat.rs r) st R):At g0 w0 (Zat.p4.S size_8 word_9 st) (XK zF R [.c (Zbn Zat.B [1,1,1,1,1,1])]):=by
 unfold Zat.p4 at h
 obtain rfl:=Zac h
 exact af fol hE [.r []] [] 0 [] trivial
theorem Zat.p3_ok {size_1 word_7 st r} (h:Zat.p3 N size_1 word_7=some r) (hE:En Tryz.f114 g0 w0 (Zat.rs r) st R):At g0 w0 (Zat.p3.S size_1 word_7 st) (XK zF R [.c (Zbn Zat.B [1,1,1,1,1])]):=by
 unfold Zat.p3 at h
 refine ZaY h (fun c7 h1=>?_) (fun c7 h2=>?_)
 ·exact aq fol [.r [],.c true,.r [],.r [],.s 1] [3,6] [] (aI c7 (neI 256)) (Zat.p4_ok h1 hE)
 ·exact aq fol [.r [],.c false,.s 1] [3,6] [] c7 (Zat.p4_ok h2 hE)
theorem Zat.p1_ok {size_1 i_2 n_0_0 st r c1_ J1} (h:Zat.p1 N n_0_0 c1_ (size_1,i_2)=some r) (hE:En Tryz.f114 g0 w0 (Zat.rs r) st R) (hc1 : ∀size_1 i_2,c1_ (size_1,i_2)=some r→At g0 w0 (Zat.p1.S size_1 i_2 n_0_0 st) J1):At g0 w0 (Zat.p1.S size_1 i_2 n_0_0 st) (XK zF R (.c (Zbn Zat.B [1,1,0,1,0,0]) :: .h J1 :: [.b 0,.c (Zbn Zat.B [1,1,1])])):=by
 unfold Zat.p1 at h
 refine ZaY h (fun c1 h3=>?_) (fun c1 h4=>?_)
 ·obtain ⟨x3,c2,h5⟩:=Zaf h3
  let o1:List PS:=[.r [],.c true,.r [(3,q1 [.agg [zH .u64 4 x3]])],.r []]
  have t1 {Q:Prop} (q:Q):=aJ c1 (Zam.snd c2) (ix 0 4 (aI (neI 256) q))
  refine ZaY h5 (fun c3 h6=>?_) (fun c3 h7=>?_)
  ·exact aq fol (o1 ++ [.c true,.r [],.s 4]) [1,3,4] [1] (t1 c3) (Zat.p2_ok h6 hE hc1)
  ·exact aq fol (o1 ++ [.c false,.s 4]) [1,3,4] [1] (t1 c3) (Zat.p2_ok h7 hE hc1)
 ·obtain ⟨x5,c4,h8⟩:=Zaf h4
  let o2:List PS:=[.r [],.c false,.r [(4,q1 [.agg [zH .u64 4 x5]])],.r []]
  have t2 {Q:Prop} (q:Q):=aJ c1 (Zam.snd c4) (ix 0 4 (aI (neI 16777216) q))
  refine ZaY h8 (fun c5 h9=>?_) (fun c5 h10=>?_)
  ·obtain ⟨x6,c6,h11⟩:=Zaf h9
   exact aq fol (o2 ++ [.c true,.r [(4,q1 [.agg [zH .u64 4 x6]])],.s 1]) [3,6] [] (t2 (aJ c5 (Zam.snd c6) (ix 0 4 (neI 16777216)))) (Zat.p3_ok h11 hE)
  ·exact aq fol (o2 ++ [.c false,.s 1]) [3,6] [] (t2 c5) (Zat.p3_ok h10 hE)
theorem Zat.snd {n_0_0:List Int} {r:Int} (h:Zat N n_0_0=some r):Zde zF 114 [.agg [zH .u64 4 n_0_0]] (Zat.rs r):=fun st=>
 sO Zat.B Tryz.func114 fun g0 w0 R hE=>by
  unfold Zat at h
  exact aq fol [.r [],.r [],.r []] [1,3,4] [1] trivial (At.loop N (At.loopN (fun y:Int×Int=>Zat.p1.S y.1 y.2 n_0_0 st) (fun c J hc y h=>Zat.p1_ok (size_1:=y.1) (i_2:=y.2) h hE (fun size_1 i_2=>hc (size_1,i_2))) N (0,0) h))
def Zav.B:Code:=Tryz.f103.body.getD .skip
def Zav.rs (r:Int):List CV:=[oI r]
def Zav.p3 (N:Nat) (n_11:List Int):Option Int:=
 Zbt (Zat N n_11) fun x12=>
 some x12
def Zav.p2 (N:Nat) (p_0:Zae) (took_5:Int) (x1:List Int):Option Int:=
 Zbt (Zar N x1 took_5 (w64 (p_0.Interval*p_0.Spacing))) fun (x6,x7)=>
 Zbt (ZbZ N p_0.Limit p_0.Limit) fun (x8,x9)=>
 if (!x7)=true then
  some p_0.Limit
 else
 Zbt (Zbe N x8 x6) fun x10=>
 if x10=true then
  some p_0.Limit
 else
 if (x6==(zB 4 0))=true then
  Zav.p3 N [1,0,0,0]
 else
 Zav.p3 N x6
def Zav.p1 (N:Nat) (p_0:Zae) (took_4:Int) (x1:List Int):Option Int:=
 if (decide (took_4>(w64 ((w64 (p_0.Interval*p_0.Spacing))*4))))=true then
  Zav.p2 N p_0 (w64 ((w64 (p_0.Interval*p_0.Spacing))*4)) x1
 else
 Zav.p2 N p_0 took_4 x1
def Zav (N:Nat) (p_0:Zae) (bits_1 from_2 to_3:Int):Option Int:=
 Zbt (ZbZ N bits_1 p_0.Limit) fun (x1,x2)=>
 Zbt (ZcS N p_0) fun x3=>
 if (!x3)=true then
  some p_0.Limit
 else
 if (!x2)=true then
  some p_0.Limit
 else
 if (decide ((w64 (to_3-from_2))<(w64 (zN (w64 (p_0.Interval*p_0.Spacing)) 4))))=true then
  Zav.p1 N p_0 (w64 (zN (w64 (p_0.Interval*p_0.Spacing)) 4)) x1
 else
 Zav.p1 N p_0 (w64 (to_3-from_2)) x1
def Zav.p3.S (n_11:List Int) (st:LL):S:=mkS 83 [(13,sA 13)] [(13,.cells [zH .u64 4 n_11])] st
def Zav.p2.S (p_0:Zae) (took_5:Int) (x1:List Int) (st:LL):S:=mkS 83 [(4,sA 4),(9,sA 9),(11,sI (w64 (p_0.Interval*p_0.Spacing))),(12,sI took_5)] [(4,.cells p_0.ls),(9,.cells [zH .u64 4 x1])] st
def Zav.p1.S (p_0:Zae) (took_4:Int) (x1:List Int) (st:LL):S:=mkS 83 [(4,sA 4),(9,sA 9),(11,sI (w64 (p_0.Interval*p_0.Spacing))),(12,sI took_4)] [(4,.cells p_0.ls),(9,.cells [zH .u64 4 x1])] st
theorem Zav.p3_ok {n_11 st r} (h:Zav.p3 N n_11=some r) (hE:En Tryz.f103 g0 w0 (Zav.rs r) st R):At g0 w0 (Zav.p3.S n_11 st) (XK zF R [.c (Zbn Zav.B [1,1,1,1,1,1,1,1,1,1,1])]):=by
 unfold Zav.p3 at h
 obtain ⟨x12,c13,h1⟩:=Zaf h
 obtain rfl:=Zac h1
 exact af fol hE [.r [(1,q1 [oI x12])]] [] 0 [] (Zat.snd c13)
theorem Zav.p2_ok {p_0 took_5 x1 st r} (h:Zav.p2 N p_0 took_5 x1=some r) (hE:En Tryz.f103 g0 w0 (Zav.rs r) st R):At g0 w0 (Zav.p2.S p_0 took_5 x1 st) (XK zF R [.c (Zbn Zav.B [1,1,1,1,1,1,1])]):=by
 unfold Zav.p2 at h
 obtain ⟨⟨x6,x7⟩,c7,h2⟩:=Zaf h
 obtain ⟨⟨x8,x9⟩,c8,h3⟩:=Zaf h2
 let o1:List PS:=[.r [(3,q1 [.agg [zH .u64 4 x6],oB x7])],.r [(4,q1 [.agg [zH .u64 4 x8],oB x9])]]
 have t1 {Q:Prop} (q:Q):=aJ (Zar.snd c7) (ZbZ.snd c8) q
 refine ZaY h3 (fun c9 h4=>?_) (fun c9 h5=>?_)
 ·obtain rfl:=Zac h4
  exact af fol hE (o1 ++ [.r [(3,wF),(4,wF),(5,wF)],.c true,.r []]) [] 0 [] (t1 (aL (not_false (ZbB c9)) (not_false (ZbB c9)) (not_false (ZbB c9)) (not_false (ZbB c9)) eT))
 ·obtain ⟨x10,c10,h6⟩:=Zaf h5
  let o2:List PS:=o1 ++ [.r [(5,q1 [oB x10]),(6,yF)]]
  have t2 {Q:Prop} (q:Q):=t1 (aM (not_true (ZbC c9)) (not_true (ZbC c9)) (not_true (ZbC c9)) (Zbe.snd c10) (not_true (ZbC c9)) q)
  refine ZaY h6 (fun c11 h7=>?_) (fun c11 h8=>?_)
  ·obtain rfl:=Zac h7
   exact af fol hE (o2 ++ [.c true,.r []]) [] 0 [] (t2 c11)
  ·refine ZaY h8 (fun c12 h9=>?_) (fun c12 h10=>?_)
   ·exact aq fol (o2 ++ [.c false,.r [],.c true,.r [(0,{m:=3})],.s 1]) [13] [13] (t2 (aI c11 c12)) (Zav.p3_ok h9 hE)
   ·exact aq fol (o2 ++ [.c false,.r [],.c false,.s 1]) [13] [13] (t2 (aI c11 c12)) (Zav.p3_ok h10 hE)
theorem Zav.p1_ok {p_0 took_4 x1 st r} (h:Zav.p1 N p_0 took_4 x1=some r) (hE:En Tryz.f103 g0 w0 (Zav.rs r) st R):At g0 w0 (Zav.p1.S p_0 took_4 x1 st) (XK zF R [.c (Zbn Zav.B [1,1,1,1,1,1])]):=by
 unfold Zav.p1 at h
 refine ZaY h (fun c6 h11=>?_) (fun c6 h12=>?_)
 ·exact aq fol [.r [],.c true,.r [],.s 1] [4,9,11,12] [4,9] c6 (Zav.p2_ok h11 hE)
 ·exact aq fol [.r [],.c false,.s 1] [4,9,11,12] [4,9] c6 (Zav.p2_ok h12 hE)
theorem Zav.snd {p_0:Zae} {bits_1 from_2 to_3:Int} {r:Int} (h:Zav N p_0 bits_1 from_2 to_3=some r):Zde zF 103 [.agg p_0.ls,oI bits_1,oI from_2,oI to_3] (Zav.rs r):=fun st=>
 sO Zav.B Tryz.func103 fun g0 w0 R hE=>by
  unfold Zav at h
  obtain ⟨⟨x1,x2⟩,c1,h13⟩:=Zaf h
  obtain ⟨x3,c2,h14⟩:=Zaf h13
  let o3:List PS:=[.r [],.r [(3,q1 [.agg [zH .u64 4 x1],oB x2])]]
  have t3 {Q:Prop} (q:Q):=aJ (ZbZ.snd c1) (ZcS.snd c2) q
  refine ZaY h14 (fun c3 h15=>?_) (fun c3 h16=>?_)
  ·obtain rfl:=Zac h15
   exact af fol hE (o3 ++ [.r [(1,q1 [oB x3]),(4,wF),(5,wF)],.c true,.r []]) [] 0 [] (t3 (aK (not_false (ZbB c3)) (not_false (ZbB c3)) (not_false (ZbB c3)) eT))
  ·let o4:List PS:=o3 ++ [.r [(1,q1 [oB x3]),(6,yF)]]
   have t4 {Q:Prop} (q:Q):=t3 (aK (not_true (ZbC c3)) (not_true (ZbC c3)) (not_true (ZbC c3)) q)
   refine ZaY h16 (fun c4 h17=>?_) (fun c4 h18=>?_)
   ·obtain rfl:=Zac h17
    exact af fol hE (o4 ++ [.c true,.r []]) [] 0 [] (t4 c4)
   ·refine ZaY h18 (fun c5 h19=>?_) (fun c5 h20=>?_)
    ·exact aq fol (o4 ++ [.c false,.r [],.r [],.r [],.c true,.r [],.s 1]) [4,9,11,12] [4,9] (t4 (aK c4 (neI 4) c5 (neI 4))) (Zav.p1_ok h19 hE)
    ·exact aq fol (o4 ++ [.c false,.r [],.r [],.r [],.c false,.s 1]) [4,9,11,12] [4,9] (t4 (aJ c4 (neI 4) c5)) (Zav.p1_ok h20 hE)
def ZbO.B:Code:=Tryz.f77.body.getD .skip
def ZbO.rs (r:Int):List CV:=[oI r]
def ZbO.p1 (N:Nat) (bits_2 time_3 hard_5 own_6:Int) (p_0:Zae):Option Int:=
 if (!p_0.Easy)=true then
  some bits_2
 else
 if (decide ((w64 (own_6-time_3))>(w64 (2*p_0.Spacing))))=true then
  some p_0.Limit
 else
 some hard_5
def ZbO (N:Nat) (p_0:Zae) (height_1 bits_2 time_3 first_4 hard_5 own_6:Int):Option Int:=
 if (decide (height_1≤0))=true then
  some p_0.Limit
 else
 if (decide (p_0.Interval>0))=true then
  chk (p_0.Interval≠0)<|
  if ((zT height_1 p_0.Interval)==0)=true then
   Zbt (Zav N p_0 bits_2 first_4 time_3) fun x1=>
   some x1
  else
  ZbO.p1 N bits_2 time_3 hard_5 own_6 p_0
 else
 ZbO.p1 N bits_2 time_3 hard_5 own_6 p_0
def ZbO.p1.S (bits_2 time_3 hard_5 own_6:Int) (p_0:Zae) (st:LL):S:=mkS 48 [(2,sI bits_2),(3,sI time_3),(5,sI hard_5),(6,sI own_6),(7,sA 7)] [(7,.cells p_0.ls)] st
theorem ZbO.p1_ok {bits_2 time_3 hard_5 own_6 p_0 st r} (h:ZbO.p1 N bits_2 time_3 hard_5 own_6 p_0=some r) (hE:En Tryz.f77 g0 w0 (ZbO.rs r) st R):At g0 w0 (ZbO.p1.S bits_2 time_3 hard_5 own_6 p_0 st) (XK zF R [.c (Zbn ZbO.B [1,1,1])]):=by
 unfold ZbO.p1 at h
 refine ZaY h (fun c6 h1=>?_) (fun c6 h2=>?_)
 ·obtain rfl:=Zac h1
  exact af fol hE [.r [],.c true,.r []] [] 0 [] c6
 ·refine ZaY h2 (fun c7 h3=>?_) (fun c7 h4=>?_)
  ·obtain rfl:=Zac h3
   exact af fol hE [.r [],.c false,.r [],.c true,.r []] [] 0 [] (aI c6 c7)
  ·obtain rfl:=Zac h4
   exact af fol hE [.r [],.c false,.r [],.c false,.r []] [] 0 [] (aI c6 c7)
theorem ZbO.snd {p_0:Zae} {height_1 bits_2 time_3 first_4 hard_5 own_6:Int} {r:Int} (h:ZbO N p_0 height_1 bits_2 time_3 first_4 hard_5 own_6=some r):Zde zF 77 [.agg p_0.ls,oI height_1,oI bits_2,oI time_3,oI first_4,oI hard_5,oI own_6] (ZbO.rs r):=fun st=>
 sO ZbO.B Tryz.func77 fun g0 w0 R hE=>by
  unfold ZbO at h
  refine ZaY h (fun c1 h5=>?_) (fun c1 h6=>?_)
  ·obtain rfl:=Zac h5
   exact af fol hE [.r [],.r [],.c true,.r []] [] 0 [] c1
  ·let o1:List PS:=[.r [],.r [],.c false]
   refine ZaY h6 (fun c2 h7=>?_) (fun c2 h8=>?_)
   ·obtain ⟨c3,h9⟩:=ZaP h7
    refine ZaY h9 (fun c4 h10=>?_) (fun c4 h11=>?_)
    ·obtain ⟨x1,c5,h12⟩:=Zaf h10
     obtain rfl:=Zac h12
     exact af fol hE (o1 ++ [.r [],.c true,.r [(4,q1 [oI x1])]]) [] 0 [] (aO c1 c2 c2 c2 c2 c3 c2 (aJ c2 c4 (Zav.snd c5)))
    ·exact aq fol (o1 ++ [.r [],.c false,.s 1]) [2,3,5,6,7] [7] (aO c1 c2 c2 c2 c2 c3 c2 (aI c2 c4)) (ZbO.p1_ok h11 hE)
   ·exact aq fol (o1 ++ [.r [(4,wF),(5,wF),(6,wF),(7,wF),(8,wF),(9,yF)],.c false,.s 1]) [2,3,5,6,7] [7] (aO c1 c2 c2 c2 c2 c2 c2 eF) (ZbO.p1_ok h8 hE)
def Zax.B:Code:=Tryz.f52.body.getD .skip
def Zax.rs (r:Int):List CV:=[oI r]
def Zax.p4 (N:Nat) (c1_:(Int×Int×Int)→Option Int) (time_2:Int) (chain_1:LL) (first_7 hard_8 v4:Int) (p_0:Zae) (x1:Zaj):Option Int:=
 c1_ (first_7,hard_8,w64 (v4+1))
def Zax.p3 (N:Nat) (c1_:(Int×Int×Int)→Option Int) (time_2:Int) (chain_1:LL) (first_7 hard_3:Int) (begins_6:Bool) (v4:Int) (p_0:Zae) (x1 x5:Zaj):Option Int:=
 if (!p_0.Easy)=true then
  Zax.p4 N c1_ time_2 chain_1 first_7 x5.Bits v4 p_0 x1
 else
 if (x5.Bits != p_0.Limit)=true then
  Zax.p4 N c1_ time_2 chain_1 first_7 x5.Bits v4 p_0 x1
 else
 if begins_6=true then
  Zax.p4 N c1_ time_2 chain_1 first_7 x5.Bits v4 p_0 x1
 else
 Zax.p4 N c1_ time_2 chain_1 first_7 hard_3 v4 p_0 x1
def Zax.p2 (N:Nat) (c1_:(Int×Int×Int)→Option Int) (time_2:Int) (chain_1:LL) (first_2 hard_3:Int) (begins_6:Bool) (v4:Int) (p_0:Zae) (x1 x5:Zaj):Option Int:=
 if begins_6=true then
  Zax.p3 N c1_ time_2 chain_1 x5.Time hard_3 begins_6 v4 p_0 x1 x5
 else
 Zax.p3 N c1_ time_2 chain_1 first_2 hard_3 begins_6 v4 p_0 x1 x5
def Zax.p1 (N:Nat) (time_2:Int) (chain_1:LL) (p_0:Zae) (x1:Zaj) (c1_:(Int×Int×Int)→Option Int):(Int×Int×Int)→Option Int:=fun (first_2,hard_3,v4)=>
 if (decide (v4<(len chain_1)))=true then
  chk (0≤v4)<|
  Zds (chain_1[zE v4]?) ZcT fun x5=>
  if (decide (p_0.Interval>0))=true then
   chk (p_0.Interval≠0)<|
   Zax.p2 N c1_ time_2 chain_1 first_2 hard_3 ((zT v4 p_0.Interval)==0) v4 p_0 x1 x5
  else
  Zax.p2 N c1_ time_2 chain_1 first_2 hard_3 false v4 p_0 x1 x5
 else
 Zbt (ZbO N p_0 (len chain_1) x1.Bits x1.Time first_2 hard_3 time_2) fun x9=>
 some x9
def Zax (N:Nat) (p_0:Zae) (chain_1:LL) (time_2:Int):Option Int:=
 if ((len chain_1)==0)=true then
  some p_0.Limit
 else
 chk (0≤(w64 ((len chain_1)-1)))<|
 chk ((w64 ((len chain_1)-1))<(len chain_1))<|
 Zds (chain_1[zE (w64 ((len chain_1)-1))]?) ZcT fun x1=>
 loopN (Zax.p1 N time_2 chain_1 p_0 x1) N (0,p_0.Limit,0)
def Zax.p4.S (time_2:Int) (chain_1:LL) (first_7 hard_8 v4:Int) (p_0:Zae) (x1:Zaj) (st:LL):S:=mkS 73 [(2,sI time_2),(3,sA 3),(7,sI (len chain_1)),(8,sA 8),(9,sI first_7),(10,sI hard_8),(27,sV 68 chain_1),(28,sI (len chain_1)),(29,sI v4)] [(3,.cells p_0.ls),(8,.cells x1.ls)] st
def Zax.p3.S (time_2:Int) (chain_1:LL) (first_7 hard_3:Int) (begins_6:Bool) (v4:Int) (p_0:Zae) (x1 x5:Zaj) (st:LL):S:=mkS 73 [(2,sI time_2),(3,sA 3),(7,sI (len chain_1)),(8,sA 8),(9,sI first_7),(10,sI hard_3),(12,sA 12),(13,.one (.l (uA begins_6))),(27,sV 68 chain_1),(28,sI (len chain_1)),(29,sI v4)] [(3,.cells p_0.ls),(8,.cells x1.ls),(12,.cells x5.ls)] st
def Zax.p2.S (time_2:Int) (chain_1:LL) (first_2 hard_3:Int) (begins_6:Bool) (v4:Int) (p_0:Zae) (x1 x5:Zaj) (st:LL):S:=mkS 73 [(2,sI time_2),(3,sA 3),(7,sI (len chain_1)),(8,sA 8),(9,sI first_2),(10,sI hard_3),(12,sA 12),(13,.one (.l (uA begins_6))),(27,sV 68 chain_1),(28,sI (len chain_1)),(29,sI v4)] [(3,.cells p_0.ls),(8,.cells x1.ls),(12,.cells x5.ls)] st
def Zax.p1.S (time_2:Int) (chain_1:LL) (first_2 hard_3 v4:Int) (p_0:Zae) (x1:Zaj) (st:LL):S:=mkS 73 [(2,sI time_2),(3,sA 3),(7,sI (len chain_1)),(8,sA 8),(9,sI first_2),(10,sI hard_3),(27,sV 68 chain_1),(28,sI (len chain_1)),(29,sI v4)] [(3,.cells p_0.ls),(8,.cells x1.ls)] st
theorem Zax.p4_ok {time_2 chain_1 first_7 hard_8 v4 p_0 x1 st r c1_ J1} (h:Zax.p4 N c1_ time_2 chain_1 first_7 hard_8 v4 p_0 x1=some r) (hE:En Tryz.f52 g0 w0 (Zax.rs r) st R) (hc1 : ∀first_2 hard_3 v4,c1_ (first_2,hard_3,v4)=some r→At g0 w0 (Zax.p1.S time_2 chain_1 first_2 hard_3 v4 p_0 x1 st) J1):At g0 w0 (Zax.p4.S time_2 chain_1 first_7 hard_8 v4 p_0 x1 st) (XK zF R [.c (Zbn Zax.B [1,1,1,1,1,1,0,1,0,0,1,1,1]),.h J1,.b 0,.c (Zbn Zax.B [1,1,1,1,1,1,1])]):=by
 unfold Zax.p4 at h
 exact an fol [.r []] [2,3,7,8,9,10,27,28,29] [3,8] trivial (hc1 first_7 hard_8 (w64 (v4+1)) h)
theorem Zax.p3_ok {time_2 chain_1 first_7 hard_3 begins_6 v4 p_0 x1 x5 st r c1_ J1} (h:Zax.p3 N c1_ time_2 chain_1 first_7 hard_3 begins_6 v4 p_0 x1 x5=some r) (hE:En Tryz.f52 g0 w0 (Zax.rs r) st R) (hc1 : ∀first_2 hard_3 v4,c1_ (first_2,hard_3,v4)=some r→At g0 w0 (Zax.p1.S time_2 chain_1 first_2 hard_3 v4 p_0 x1 st) J1):At g0 w0 (Zax.p3.S time_2 chain_1 first_7 hard_3 begins_6 v4 p_0 x1 x5 st) (XK zF R [.c (Zbn Zax.B [1,1,1,1,1,1,0,1,0,0,1,1,0,0,1,1,1]),.b 1,.c (Zbn Zax.B [1,1,1,1,1,1,0,1,0,0,1,1,1]),.h J1,.b 0,.c (Zbn Zax.B [1,1,1,1,1,1,1])]):=by
 unfold Zax.p3 at h
 refine ZaY h (fun c11 h1=>?_) (fun c11 h2=>?_)
 ·exact aq fol [.r [(4,wF),(5,wF),(6,wF),(7,wF),(8,wF),(11,wF)],.c true,.r [],.s 4] [2,3,7,8,9,10,27,28,29] [3,8] (aO (not_false (ZbB c11)) (not_false (ZbB c11)) (not_false (ZbB c11)) (not_false (ZbB c11)) (not_false (ZbB c11)) (not_false (ZbB c11)) eT (aI eT eT)) (Zax.p4_ok h1 hE hc1)
 ·have t1 {Q:Prop} (q:Q):=aN (not_true (ZbC c11)) (not_true (ZbC c11)) (not_true (ZbC c11)) (not_true (ZbC c11)) (not_true (ZbC c11)) (not_true (ZbC c11)) q
  refine ZaY h2 (fun c12 h3=>?_) (fun c12 h4=>?_)
  ·exact aq fol [.r [(9,yF),(11,wF)],.c true,.r [],.s 4] [2,3,7,8,9,10,27,28,29] [3,8] (t1 (aJ c12 c12 eT)) (Zax.p4_ok h3 hE hc1)
  ·let o1:List PS:=[.r [(9,yF),(12,yF)]]
   refine ZaY h4 (fun c13 h5=>?_) (fun c13 h6=>?_)
   ·exact aq fol (o1 ++ [.c true,.r [],.s 4]) [2,3,7,8,9,10,27,28,29] [3,8] (t1 (aJ c12 c12 c13)) (Zax.p4_ok h5 hE hc1)
   ·exact aq fol (o1 ++ [.c false,.s 4]) [2,3,7,8,9,10,27,28,29] [3,8] (t1 (aJ c12 c12 c13)) (Zax.p4_ok h6 hE hc1)
theorem Zax.p2_ok {time_2 chain_1 first_2 hard_3 begins_6 v4 p_0 x1 x5 st r c1_ J1} (h:Zax.p2 N c1_ time_2 chain_1 first_2 hard_3 begins_6 v4 p_0 x1 x5=some r) (hE:En Tryz.f52 g0 w0 (Zax.rs r) st R) (hc1 : ∀first_2 hard_3 v4,c1_ (first_2,hard_3,v4)=some r→At g0 w0 (Zax.p1.S time_2 chain_1 first_2 hard_3 v4 p_0 x1 st) J1):At g0 w0 (Zax.p2.S time_2 chain_1 first_2 hard_3 begins_6 v4 p_0 x1 x5 st) (XK zF R [.c (Zbn Zax.B [1,1,1,1,1,1,0,1,0,0,1,1,0,0,1,1]),.b 1,.c (Zbn Zax.B [1,1,1,1,1,1,0,1,0,0,1,1,1]),.h J1,.b 0,.c (Zbn Zax.B [1,1,1,1,1,1,1])]):=by
 unfold Zax.p2 at h
 refine ZaY h (fun c10 h7=>?_) (fun c10 h8=>?_)
 ·exact aq fol [.r [],.c true,.r [],.s 6] [2,3,7,8,9,10,12,13,27,28,29] [3,8,12] c10 (Zax.p3_ok h7 hE hc1)
 ·exact aq fol [.r [],.c false,.s 6] [2,3,7,8,9,10,12,13,27,28,29] [3,8,12] c10 (Zax.p3_ok h8 hE hc1)
theorem Zax.p1_ok {time_2 chain_1 first_2 hard_3 v4 p_0 x1 st r c1_ J1} (h:Zax.p1 N time_2 chain_1 p_0 x1 c1_ (first_2,hard_3,v4)=some r) (hE:En Tryz.f52 g0 w0 (Zax.rs r) st R) (hc1 : ∀first_2 hard_3 v4,c1_ (first_2,hard_3,v4)=some r→At g0 w0 (Zax.p1.S time_2 chain_1 first_2 hard_3 v4 p_0 x1 st) J1):At g0 w0 (Zax.p1.S time_2 chain_1 first_2 hard_3 v4 p_0 x1 st) (XK zF R (.c (Zbn Zax.B [1,1,1,1,1,1,0,1,0,0]) :: .h J1 :: [.b 0,.c (Zbn Zax.B [1,1,1,1,1,1,1])])):=by
 unfold Zax.p1 at h
 refine ZaY h (fun c5 h9=>?_) (fun c5 h10=>?_)
 ·obtain ⟨c6,h11⟩:=ZaP h9
  obtain ⟨x5,c7,h12⟩:=Zda h11
  let o2:List PS:=[.r [],.c true,.r [(2,{oe:=x5.ls})]]
  refine ZaY h12 (fun c8 h13=>?_) (fun c8 h14=>?_)
  ·obtain ⟨c9,h15⟩:=ZaP h13
   exact aq fol (o2 ++ [.r [],.s 6]) [2,3,7,8,9,10,12,13,27,28,29] [3,8,12] (aO c5 c6 (oD c5) c7 c8 c8 c8 (aK c8 c9 c8 c8)) (Zax.p2_ok h15 hE hc1)
  ·exact aq fol (o2 ++ [.r [(4,wF),(5,wF),(6,wF),(7,wF),(8,wF),(9,yF)],.s 6]) [2,3,7,8,9,10,12,13,27,28,29] [3,8,12] (aO c5 c6 (oD c5) c7 c8 c8 c8 (aJ c8 c8 c8)) (Zax.p2_ok h14 hE hc1)
 ·obtain ⟨x9,c14,h16⟩:=Zaf h10
  obtain rfl:=Zac h16
  exact af fol hE [.r [],.c false,.r [(9,q1 [oI x9])]] [] 0 [] (aI c5 (ZbO.snd c14))
theorem Zax.snd {p_0:Zae} {chain_1:LL} {time_2:Int} {r:Int} (h:Zax N p_0 chain_1 time_2=some r):Zde zF 52 [.agg p_0.ls,.one (L.sl 68 chain_1),oI time_2] (Zax.rs r):=fun st=>
 sO Zax.B Tryz.func52 fun g0 w0 R hE=>by
  unfold Zax at h
  refine ZaY h (fun c1 h17=>?_) (fun c1 h18=>?_)
  ·obtain rfl:=Zac h17
   exact af fol hE [.r [],.r [],.r [],.c true,.r []] [] 0 [] c1
  ·obtain ⟨c2,c3,h19⟩:=ck2 h18
   obtain ⟨x1,c4,h20⟩:=Zda h19
   exact aq fol [.r [],.r [],.r [],.c false,.r [(4,{oe:=x1.ls})],.r [],.r [],.r []] [2,3,7,8,9,10,27,28,29] [3,8] (aK c1 c2 c3 c4) (At.loop N (At.loopN (fun y:Int×Int×Int=>Zax.p1.S time_2 chain_1 y.1 y.2.1 y.2.2 p_0 x1 st) (fun c J hc y h=>Zax.p1_ok (first_2:=y.1) (hard_3:=y.2.1) (v4:=y.2.2) h hE (fun first_2 hard_3 v4=>hc (first_2,hard_3,v4))) N (0,p_0.Limit,0) h20))
def Zbp.B:Code:=Tryz.f78.body.getD .skip
def Zbp.rs (r:(List Int)):List CV:=[.agg [zH .u64 4 r]]
def Zbp.p1 (N:Nat) (h_0_0:List Int) (c1_:(Int×(List Int))→Option (List Int)):(Int×(List Int))→Option (List Int):=fun (i_1,out_3)=>
 if (decide (i_1≥0))=true then
  Zbt (Zam N out_3 8) fun x4=>
  chk (0≤i_1)<|
  chk (i_1<32)<|
  c1_ (w64 (i_1-1),zP x4 0 (v64 ((zD x4 0 0)+(v64 (zD h_0_0 (zE i_1) 0)))))
 else
 some out_3
def Zbp (N:Nat) (h_0_0:List Int):Option (List Int):=
 loopN (Zbp.p1 N h_0_0) N (31,zB 4 0)
def Zbp.p1.S (i_1:Int) (h_0_0 out_3:List Int) (st:LL):S:=mkS 21 [(1,sA 1),(2,sA 2),(3,sA 3),(4,sI i_1)] [(1,.cells [zH .u8 32 h_0_0]),(2,.cells [zH .u64 4 (zB 4 0)]),(3,.cells [zH .u64 4 out_3])] st
theorem Zbp.p1_ok {i_1 h_0_0 out_3 st r c1_ J1} (h:Zbp.p1 N h_0_0 c1_ (i_1,out_3)=some r) (hE:En Tryz.f78 g0 w0 (Zbp.rs r) st R) (hc1 : ∀i_1 out_3,c1_ (i_1,out_3)=some r→At g0 w0 (Zbp.p1.S i_1 h_0_0 out_3 st) J1):At g0 w0 (Zbp.p1.S i_1 h_0_0 out_3 st) (XK zF R (.c (Zbn Zbp.B [1,1,0,1,0,0]) :: .h J1 :: [.b 0,.c (Zbn Zbp.B [1,1,1])])):=by
 unfold Zbp.p1 at h
 refine ZaY h (fun c5 h1=>?_) (fun c5 h2=>?_)
 ·obtain ⟨x4,c6,h3⟩:=Zaf h1
  obtain ⟨c7,c8,h4⟩:=ck2 h3
  exact ZiS fol [.r [],.c true,.r [(1,q1 [.agg [zH .u64 4 x4]])],.d {ds:=[],hv:=256,Hs:=[256]},.r []] [1,2,3,4] [1,2,3] (aJ c5 (Zam.snd c6) (ix 0 4 (aK c7 c8 (leI 0 0) (ltI 0 4)))) (hc1 (w64 (i_1-1)) (zP x4 0 (v64 ((zD x4 0 0)+(v64 (zD h_0_0 (zE i_1) 0))))) h4)
 ·obtain rfl:=Zac h2
  exact af fol hE [.r [],.c false,.r []] [] 0 [] c5
theorem Zbp.snd {h_0_0:List Int} {r:(List Int)} (h:Zbp N h_0_0=some r):Zde zF 78 [.agg [zH .u8 32 h_0_0]] (Zbp.rs r):=fun st=>
 sO Zbp.B Tryz.func78 fun g0 w0 R hE=>by
  unfold Zbp at h
  exact aq fol [.r [],.r [],.r []] [1,2,3,4] [1,2,3] trivial (At.loop N (At.loopN (fun y:Int×(List Int)=>Zbp.p1.S y.1 h_0_0 y.2 st) (fun c J hc y h=>Zbp.p1_ok (i_1:=y.1) (out_3:=y.2) h hE (fun i_1 out_3=>hc (i_1,out_3))) N (31,zB 4 0) h))
def Zdd.B:Code:=Tryz.f53.body.getD .skip
def Zdd.rs (r:Bool):List CV:=[oB r]
def Zdd (N:Nat) (p_0:Zae) (h_1:Zaj):Option Bool:=
 Zbt (ZbZ N h_1.Bits p_0.Limit) fun (x1,x2)=>
 if x2=true then
  Zbt (Zco N h_1) fun x3=>
  Zbt (Zbp N x3) fun x4=>
  Zbt (Zbe N x1 x4) fun x5=>
  some (!x5)
 else
 some false
theorem Zdd.snd {p_0:Zae} {h_1:Zaj} {r:Bool} (h:Zdd N p_0 h_1=some r):Zde zF 53 [.agg p_0.ls,.agg h_1.ls] (Zdd.rs r):=fun st=>
 sO Zdd.B Tryz.func53 fun g0 w0 R hE=>by
  unfold Zdd at h
  obtain ⟨⟨x1,x2⟩,c1,h1⟩:=Zaf h
  let o1:List PS:=[.r [],.r [(4,q1 [.agg [zH .u64 4 x1],oB x2])]]
  refine ZaY h1 (fun c2 h2=>?_) (fun c2 h3=>?_)
  ·obtain ⟨x3,c3,h4⟩:=Zaf h2
   obtain ⟨x4,c4,h5⟩:=Zaf h4
   obtain ⟨x5,c5,h6⟩:=Zaf h5
   obtain rfl:=Zac h6
   exact afd fol hE (o1 ++ [.d {ds:=[(4,q1 [.agg [zH .u8 32 x3]]),(5,q1 [.agg [zH .u64 4 x4]]),(6,q1 [oB x5])],hv:=0,Hs:=[]}]) [] 0 [] (aO (ZbZ.snd c1) c2 c2 c2 (Zco.snd c3) c2 (Zbp.snd c4) (aK c2 (Zbe.snd c5) c2 c2))
  ·obtain rfl:=Zac h3
   exact afd fol hE (o1 ++ [.d {ds:=[(2,wF),(3,wF),(4,wF),(5,wF),(6,wF),(7,wF),(8,yF)],hv:=0,Hs:=[]}]) [] 0 [] (aO (ZbZ.snd c1) c2 c2 c2 c2 c2 c2 c2)
def ZbP.B:Code:=Tryz.f55.body.getD .skip
def ZbP.rs (r:LL):List CV:=[.row true 1 r]
def ZbP.p1 (N:Nat) (row_0:LL) (c1_:(LL×Int)→Option LL):(LL×Int)→Option LL:=fun (out_3,i_1)=>
 if (decide (i_1≥0))=true then
  if (decide ((len out_3)<11))=true then
   chk (0≤i_1)<|
   chk (i_1<(len row_0))<|
   Zds (row_0[zE i_1]?) Zdq fun x4=>
   chk (zK (out_3 ++ [[zI .i64 x4]])*8≤140737488355328)<|
   c1_ (out_3 ++ [[zI .i64 x4]],w64 (i_1-1))
  else
  some out_3
 else
 some out_3
def ZbP (N:Nat) (row_0:LL):Option LL:=
 loopN (ZbP.p1 N row_0) N ([],w64 ((len row_0)-1))
def ZbP.p1.S (row_0 out_3:LL) (i_1:Int) (st:LL):S:=mkS 25 [(0,sV 1 row_0),(3,.one (.h (.row 3 0) 1 0 (zK out_3))),(4,sI i_1)] [(3,.row 0 true 1 out_3)] st
theorem ZbP.p1_ok {row_0 out_3 i_1 st r c1_ J1} (h:ZbP.p1 N row_0 c1_ (out_3,i_1)=some r) (hE:En Tryz.f55 g0 w0 (ZbP.rs r) st R) (hc1 : ∀out_3 i_1,c1_ (out_3,i_1)=some r→At g0 w0 (ZbP.p1.S row_0 out_3 i_1 st) J1):At g0 w0 (ZbP.p1.S row_0 out_3 i_1 st) (XK zF R (.c (Zbn ZbP.B [1,1,0,1,0,0]) :: .h J1 :: [.b 0,.c (Zbn ZbP.B [1,1,1])])):=by
 unfold ZbP.p1 at h
 refine ZaY h (fun c6 h1=>?_) (fun c6 h2=>?_)
 ·refine ZaY h1 (fun c7 h3=>?_) (fun c7 h4=>?_)
  ·obtain ⟨c8,c9,h5⟩:=ck2 h3
   obtain ⟨x4,c10,h6⟩:=ZcK h5
   obtain ⟨c11,h7⟩:=ZaP h6
   exact an fol [.r [],.c true,.r [(4,{oe:=[zI .i64 x4]})],.r []] [0,3,4] [3] (aO c6 c6 c6 c6 c7 c8 c9 (aM c10 z0 (eN (zK out_3)) z0 (eN (1)) c11)) (hc1 (out_3 ++ [[zI .i64 x4]]) (w64 (i_1-1)) h7)
  ·obtain rfl:=Zac h4
   exact af fol hE [.r [],.c false,.r []] [] 0 [0] (aN c6 c6 c6 c6 c7 z0 (eN (zK out_3)))
 ·obtain rfl:=Zac h2
  exact af fol hE [.r [(3,wF),(4,wF),(5,wF),(6,yF)],.c false,.r []] [] 0 [0] (aN c6 c6 c6 c6 eF z0 (eN (zK out_3)))
theorem ZbP.snd {row_0:LL} {r:LL} (h:ZbP N row_0=some r):Zde zF 55 [.one (L.sl 1 row_0)] (ZbP.rs r):=fun st=>
 sO ZbP.B Tryz.func55 fun g0 w0 R hE=>by
  unfold ZbP at h
  exact aq fol [.r [(0,{m:=2})],.r [(0,{m:=1})],.r []] [0,3,4] [3] trivial (At.loop N (At.loopN (fun y:LL×Int=>ZbP.p1.S row_0 y.1 y.2 st) (fun c J hc y h=>ZbP.p1_ok (out_3:=y.1) (i_1:=y.2) h hE (fun out_3 i_1=>hc (out_3,i_1))) N ([],w64 ((len row_0)-1)) h))
def ZaC.B:Code:=Tryz.f54.body.getD .skip
def ZaC.rs (r:Int):List CV:=[oI r]
def ZaC.p4 (N:Nat) (c2_:(Int×Int×Int)→Option Int) (c1_:Int→Option Int) (times_0:LL) (i_1 less_7 same_10 j_4:Int):Option Int:=
 c2_ (less_7,same_10,w64 (j_4+1))
def ZaC.p3 (N:Nat) (c2_:(Int×Int×Int)→Option Int) (c1_:Int→Option Int) (times_0:LL) (i_1 less_7 same_3 j_4:Int):Option Int:=
 chk (0≤j_4)<|
 chk (j_4<(len times_0))<|
 Zds (times_0[zE j_4]?) Zdq fun x8=>
 chk (0≤i_1)<|
 chk (i_1<(len times_0))<|
 Zds (times_0[zE i_1]?) Zdq fun x9=>
 if (x8==x9)=true then
  ZaC.p4 N c2_ c1_ times_0 i_1 less_7 (w64 (same_3+1)) j_4
 else
 ZaC.p4 N c2_ c1_ times_0 i_1 less_7 same_3 j_4
def ZaC.p2 (N:Nat) (c1_:Int→Option Int) (times_0:LL) (i_1:Int) (c2_:(Int×Int×Int)→Option Int):(Int×Int×Int)→Option Int:=fun (less_2,same_3,j_4)=>
 if (decide (j_4<(if (11:Int)<(len times_0) then 11 else (len times_0))))=true then
  chk (0≤j_4)<|
  chk (j_4<(len times_0))<|
  Zds (times_0[zE j_4]?) Zdq fun x5=>
  chk (0≤i_1)<|
  chk (i_1<(len times_0))<|
  Zds (times_0[zE i_1]?) Zdq fun x6=>
  if (decide (x5<x6))=true then
   ZaC.p3 N c2_ c1_ times_0 i_1 (w64 (less_2+1)) same_3 j_4
  else
  ZaC.p3 N c2_ c1_ times_0 i_1 less_2 same_3 j_4
 else
 if (decide (less_2≤(w64 (zN (if (11:Int)<(len times_0) then 11 else (len times_0)) 2))))=true then
  if (decide ((w64 (zN (if (11:Int)<(len times_0) then 11 else (len times_0)) 2))<(w64 (less_2+same_3))))=true then
   chk (0≤i_1)<|
   chk (i_1<(len times_0))<|
   Zds (times_0[zE i_1]?) Zdq fun x11=>
   some x11
  else
  c1_ (w64 (i_1+1))
 else
 c1_ (w64 (i_1+1))
def ZaC.p1 (N:Nat) (times_0:LL) (c1_:Int→Option Int):Int→Option Int:=fun i_1=>
 if (decide (i_1<(if (11:Int)<(len times_0) then 11 else (len times_0))))=true then
  loopN (ZaC.p2 N c1_ times_0 i_1) N (0,0,0)
 else
 some 0
def ZaC (N:Nat) (times_0:LL):Option Int:=
 loopN (ZaC.p1 N times_0) N 0
def ZaC.p4.S (times_0:LL) (i_1 less_7 same_10 j_4:Int) (st:LL):S:=mkS 59 [(0,sV 1 times_0),(3,sI (if (11:Int)<(len times_0) then 11 else (len times_0))),(4,sI i_1),(5,sI less_7),(6,sI same_10),(7,sI j_4)] [] st
def ZaC.p3.S (times_0:LL) (i_1 less_7 same_3 j_4:Int) (st:LL):S:=mkS 59 [(0,sV 1 times_0),(3,sI (if (11:Int)<(len times_0) then 11 else (len times_0))),(4,sI i_1),(5,sI less_7),(6,sI same_3),(7,sI j_4)] [] st
def ZaC.p2.S (times_0:LL) (i_1 less_2 same_3 j_4:Int) (st:LL):S:=mkS 59 [(0,sV 1 times_0),(3,sI (if (11:Int)<(len times_0) then 11 else (len times_0))),(4,sI i_1),(5,sI less_2),(6,sI same_3),(7,sI j_4)] [] st
def ZaC.p1.S (times_0:LL) (i_1:Int) (st:LL):S:=mkS 59 [(0,sV 1 times_0),(3,sI (if (11:Int)<(len times_0) then 11 else (len times_0))),(4,sI i_1)] [] st
theorem ZaC.p4_ok {times_0 i_1 less_7 same_10 j_4 st r c2_ c1_ J2 J1} (h:ZaC.p4 N c2_ c1_ times_0 i_1 less_7 same_10 j_4=some r) (hE:En Tryz.f54 g0 w0 (ZaC.rs r) st R) (hc2 : ∀less_2 same_3 j_4,c2_ (less_2,same_3,j_4)=some r→At g0 w0 (ZaC.p2.S times_0 i_1 less_2 same_3 j_4 st) J2) (hc1 : ∀i_1,c1_ i_1=some r→At g0 w0 (ZaC.p1.S times_0 i_1 st) J1):At g0 w0 (ZaC.p4.S times_0 i_1 less_7 same_10 j_4 st) (XK zF R [.c (Zbn ZaC.B [1,1,0,1,0,0,1,0,0,1,1,0,1,0,0,1,1]),.h J2,.b 2,.c (Zbn ZaC.B [1,1,0,1,0,0,1,0,0,1,1,1]),.b 1,.c (Zbn ZaC.B [1,1,0,1,0,0,1,1]),.h J1,.b 0,.c (Zbn ZaC.B [1,1,1])]):=by
 unfold ZaC.p4 at h
 exact an fol [.r []] [0,3,4,5,6,7] [] trivial (hc2 less_7 same_10 (w64 (j_4+1)) h)
theorem ZaC.p3_ok {times_0 i_1 less_7 same_3 j_4 st r c2_ c1_ J2 J1} (h:ZaC.p3 N c2_ c1_ times_0 i_1 less_7 same_3 j_4=some r) (hE:En Tryz.f54 g0 w0 (ZaC.rs r) st R) (hc2 : ∀less_2 same_3 j_4,c2_ (less_2,same_3,j_4)=some r→At g0 w0 (ZaC.p2.S times_0 i_1 less_2 same_3 j_4 st) J2) (hc1 : ∀i_1,c1_ i_1=some r→At g0 w0 (ZaC.p1.S times_0 i_1 st) J1):At g0 w0 (ZaC.p3.S times_0 i_1 less_7 same_3 j_4 st) (XK zF R [.c (Zbn ZaC.B [1,1,0,1,0,0,1,0,0,1,1,0,1,0,0,1,0,0,1]),.b 3,.c (Zbn ZaC.B [1,1,0,1,0,0,1,0,0,1,1,0,1,0,0,1,1]),.h J2,.b 2,.c (Zbn ZaC.B [1,1,0,1,0,0,1,0,0,1,1,1]),.b 1,.c (Zbn ZaC.B [1,1,0,1,0,0,1,1]),.h J1,.b 0,.c (Zbn ZaC.B [1,1,1])]):=by
 unfold ZaC.p3 at h
 obtain ⟨c10,c11,h1⟩:=ck2 h
 obtain ⟨x8,c12,h2⟩:=ZcK h1
 obtain ⟨c13,c14,h3⟩:=ck2 h2
 obtain ⟨x9,c15,h4⟩:=ZcK h3
 let o1:List PS:=[.d {ds:=[(3,{oe:=[zI .i64 x8]}),(7,{oe:=[zI .i64 x9]})],hv:=0,Hs:=[]}]
 refine ZaY h4 (fun c16 h5=>?_) (fun c16 h6=>?_)
 ·exact aqd fol (o1 ++ [.c true,.r [],.s 9]) [0,3,4,5,6,7] [] (aN c10 c11 c12 c13 c14 c15 c16) (ZaC.p4_ok h5 hE hc2 hc1)
 ·exact aqd fol (o1 ++ [.c false,.s 9]) [0,3,4,5,6,7] [] (aN c10 c11 c12 c13 c14 c15 c16) (ZaC.p4_ok h6 hE hc2 hc1)
theorem ZaC.p2_ok {times_0 i_1 less_2 same_3 j_4 st r c1_ c2_ J1 J2} (h:ZaC.p2 N c1_ times_0 i_1 c2_ (less_2,same_3,j_4)=some r) (hE:En Tryz.f54 g0 w0 (ZaC.rs r) st R) (hc1 : ∀i_1,c1_ i_1=some r→At g0 w0 (ZaC.p1.S times_0 i_1 st) J1) (hc2 : ∀less_2 same_3 j_4,c2_ (less_2,same_3,j_4)=some r→At g0 w0 (ZaC.p2.S times_0 i_1 less_2 same_3 j_4 st) J2):At g0 w0 (ZaC.p2.S times_0 i_1 less_2 same_3 j_4 st) (XK zF R (.c (Zbn ZaC.B [1,1,0,1,0,0,1,0,0,1,1,0,1,0,0]) :: .h J2 :: [.b 2,.c (Zbn ZaC.B [1,1,0,1,0,0,1,0,0,1,1,1]),.b 1,.c (Zbn ZaC.B [1,1,0,1,0,0,1,1]),.h J1,.b 0,.c (Zbn ZaC.B [1,1,1])])):=by
 unfold ZaC.p2 at h
 refine ZaY h (fun c2 h7=>?_) (fun c2 h8=>?_)
 ·obtain ⟨c3,c4,h9⟩:=ck2 h7
  obtain ⟨x5,c5,h10⟩:=ZcK h9
  obtain ⟨c6,c7,h11⟩:=ck2 h10
  obtain ⟨x6,c8,h12⟩:=ZcK h11
  let o2:List PS:=[.r [],.c true,.d {ds:=[(3,{oe:=[zI .i64 x5]}),(7,{oe:=[zI .i64 x6]})],hv:=0,Hs:=[]}]
  refine ZaY h12 (fun c9 h13=>?_) (fun c9 h14=>?_)
  ·exact aqd fol (o2 ++ [.c true,.r [],.s 11]) [0,3,4,5,6,7] [] (aO c2 c3 c4 c5 c6 c7 c8 c9) (ZaC.p3_ok h13 hE hc2 hc1)
  ·exact aqd fol (o2 ++ [.c false,.s 11]) [0,3,4,5,6,7] [] (aO c2 c3 c4 c5 c6 c7 c8 c9) (ZaC.p3_ok h14 hE hc2 hc1)
 ·refine ZaY h8 (fun c17 h15=>?_) (fun c17 h16=>?_)
  ·have t1 {Q:Prop} (q:Q):=aO c2 (neI 2) c17 c17 (neI 2) c17 c17 (aK c17 c17 c17 q)
   refine ZaY h15 (fun c18 h17=>?_) (fun c18 h18=>?_)
   ·obtain ⟨c19,c20,h19⟩:=ck2 h17
    obtain ⟨x11,c21,h20⟩:=ZcK h19
    obtain rfl:=Zac h20
    exact af fol hE [.r [],.c false,.r [],.c true,.r [(3,{oe:=[zI .i64 x11]})]] [] 0 [] (t1 (aK c18 c19 c20 c21))
   ·exact an fol [.r [],.c false,.r [],.c false,.r []] [0,3,4] [] (t1 c18) (hc1 (w64 (i_1+1)) h18)
  ·exact an fol [.r [],.c false,.r [(5,wF),(6,wF),(7,wF),(8,wF),(9,wF),(10,wF),(11,yF)],.c false,.r []] [0,3,4] [] (aO c2 (neI 2) c17 c17 c17 c17 c17 (aJ c17 c17 eF)) (hc1 (w64 (i_1+1)) h16)
theorem ZaC.p1_ok {times_0 i_1 st r c1_ J1} (h:ZaC.p1 N times_0 c1_ i_1=some r) (hE:En Tryz.f54 g0 w0 (ZaC.rs r) st R) (hc1 : ∀i_1,c1_ i_1=some r→At g0 w0 (ZaC.p1.S times_0 i_1 st) J1):At g0 w0 (ZaC.p1.S times_0 i_1 st) (XK zF R (.c (Zbn ZaC.B [1,1,0,1,0,0]) :: .h J1 :: [.b 0,.c (Zbn ZaC.B [1,1,1])])):=by
 unfold ZaC.p1 at h
 refine ZaY h (fun c1 h21=>?_) (fun c1 h22=>?_)
 ·exact aq fol [.r [],.c true,.r [],.r [],.r []] [0,3,4,5,6,7] [] c1 (At.loop N (At.loopN (fun y:Int×Int×Int=>ZaC.p2.S times_0 i_1 y.1 y.2.1 y.2.2 st) (fun c J hc y h=>ZaC.p2_ok (less_2:=y.1) (same_3:=y.2.1) (j_4:=y.2.2) h hE hc1 (fun less_2 same_3 j_4=>hc (less_2,same_3,j_4))) N (0,0,0) h21))
 ·obtain rfl:=Zac h22
  exact af fol hE [.r [],.c false,.r []] [] 0 [] c1
theorem ZaC.snd {times_0:LL} {r:Int} (h:ZaC N times_0=some r):Zde zF 54 [.one (L.sl 1 times_0)] (ZaC.rs r):=fun st=>
 sO ZaC.B Tryz.func54 fun g0 w0 R hE=>by
  unfold ZaC at h
  exact aq fol [.r [],.r [],.r []] [0,3,4] [] trivial (At.loop N (At.loopN (fun y:Int=>ZaC.p1.S times_0 y st) (fun c J hc y h=>ZaC.p1_ok h hE (fun i_1=>hc i_1)) N 0 h))
def Zap.B:Code:=Tryz.f29.body.getD .skip
def Zap.rs (r:Int):List CV:=[oI r]
def Zap.p6 (N:Nat) (chain_1:LL) (p_0:Zae) (h_2:Zaj) (c6_:Int→Option Int):Int→Option Int:=fun v21=>
 if (decide (v21<(len p_0.Checks)))=true then
  chk (0≤v21)<|
  Zds (p_0.Checks[zE v21]?) Zdz fun x22=>
  if (x22.Height==(len chain_1))=true then
   Zbt (Zco N h_2) fun x23=>
   if (!(x22.Id==x23))=true then
    some 8
   else
   c6_ (w64 (v21+1))
  else
  c6_ (w64 (v21+1))
 else
 some 0
def Zap.p5 (N:Nat) (chain_1:LL) (p_0:Zae) (h_2:Zaj) (c5_:Int→Option Int):Int→Option Int:=fun v19=>
 if (decide (v19<(len p_0.Gates)))=true then
  chk (0≤v19)<|
  Zds (p_0.Gates[zE v19]?) ZcW fun x20=>
  if (decide (x20.Height≤(len chain_1)))=true then
   if (decide (h_2.Version<x20.Version))=true then
    some 7
   else
   c5_ (w64 (v19+1))
  else
  c5_ (w64 (v19+1))
 else
 loopN (Zap.p6 N chain_1 p_0 h_2) N 0
def Zap.p4 (N:Nat) (chain_1:LL) (p_0:Zae) (h_2:Zaj):Option Int:=
 loopN (Zap.p5 N chain_1 p_0 h_2) N 0
def Zap.p3 (N:Nat) (now_3:Int) (chain_1:LL) (p_0:Zae) (h_2:Zaj):Option Int:=
 if (decide (p_0.Future<0))=true then
  some 6
 else
 if (decide (h_2.Time>now_3))=true then
  if (decide ((w64 (h_2.Time-now_3))>p_0.Future))=true then
   some 6
  else
  Zap.p4 N chain_1 p_0 h_2
 else
 Zap.p4 N chain_1 p_0 h_2
def Zap.p2 (N:Nat) (now_3:Int) (chain_1:LL) (p_0:Zae) (h_2:Zaj) (c2_:(LL×Int)→Option Int):(LL×Int)→Option Int:=fun (times_15,v6)=>
 if (decide (v6<(len chain_1)))=true then
  chk (0≤v6)<|
  Zds (chain_1[zE v6]?) ZcT fun x16=>
  chk (zK (times_15 ++ [[zI .i64 x16.Time]])*8≤140737488355328)<|
  c2_ (times_15 ++ [[zI .i64 x16.Time]],w64 (v6+1))
 else
 if (decide ((len chain_1)>0))=true then
  Zbt (ZbP N times_15) fun x17=>
  chk (ZdB x17=true)<|
  Zbt (ZaC N x17) fun x18=>
  if (decide (h_2.Time≤x18))=true then
   some 5
  else
  Zap.p3 N now_3 chain_1 p_0 h_2
 else
 Zap.p3 N now_3 chain_1 p_0 h_2
def Zap.p1 (N:Nat) (chain_1:LL) (now_3:Int) (p_0:Zae) (h_2:Zaj):Option Int:=
 Zbt (Zax N p_0 chain_1 h_2.Time) fun x4=>
 if (h_2.Bits != x4)=true then
  some 3
 else
 Zbt (Zdd N p_0 h_2) fun x5=>
 if (!x5)=true then
  some 4
 else
 loopN (Zap.p2 N now_3 chain_1 p_0 h_2) N ([],0)
def Zap (N:Nat) (p_0:Zae) (chain_1:LL) (h_2:Zaj) (now_3:Int):Option Int:=
 Zbt (Zcq N h_2) fun x1=>
 if (!x1)=true then
  some 1
 else
 if (decide ((len chain_1)>0))=true then
  chk (0≤(w64 ((len chain_1)-1)))<|
  chk ((w64 ((len chain_1)-1))<(len chain_1))<|
  Zds (chain_1[zE (w64 ((len chain_1)-1))]?) ZcT fun x2=>
  Zbt (Zco N x2) fun x3=>
  if (!(h_2.Prev==x3))=true then
   some 2
  else
  Zap.p1 N chain_1 now_3 p_0 h_2
 else
 Zap.p1 N chain_1 now_3 p_0 h_2
def Zap.p6.S (chain_1:LL) (p_0:Zae) (v21:Int) (h_2:Zaj) (st:LL):S:=mkS 125 [(6,sA 6),(9,sI (len chain_1)),(107,sV 33 p_0.Checks),(108,sI (len p_0.Checks)),(109,sI v21)] [(6,.cells h_2.ls)] st
def Zap.p5.S (chain_1:LL) (p_0:Zae) (v19:Int) (h_2:Zaj) (st:LL):S:=mkS 125 [(4,sA 4),(6,sA 6),(9,sI (len chain_1)),(88,sV 2 p_0.Gates),(89,sI (len p_0.Gates)),(90,sI v19)] [(4,.cells p_0.ls),(6,.cells h_2.ls)] st
def Zap.p4.S (chain_1:LL) (p_0:Zae) (h_2:Zaj) (st:LL):S:=mkS 125 [(4,sA 4),(6,sA 6),(9,sI (len chain_1))] [(4,.cells p_0.ls),(6,.cells h_2.ls)] st
def Zap.p3.S (now_3:Int) (chain_1:LL) (p_0:Zae) (h_2:Zaj) (st:LL):S:=mkS 125 [(3,sI now_3),(4,sA 4),(6,sA 6),(9,sI (len chain_1))] [(4,.cells p_0.ls),(6,.cells h_2.ls)] st
def Zap.p2.S (now_3:Int) (chain_1 times_15:LL) (v6:Int) (p_0:Zae) (h_2:Zaj) (st:LL):S:=mkS 125 [(3,sI now_3),(4,sA 4),(6,sA 6),(9,sI (len chain_1)),(10,.one (.h (.row 10 0) 1 0 (zK times_15))),(47,sV 68 chain_1),(48,sI (len chain_1)),(49,sI v6)] [(4,.cells p_0.ls),(6,.cells h_2.ls),(10,.row 0 true 1 times_15)] st
def Zap.p1.S (chain_1:LL) (now_3:Int) (p_0:Zae) (h_2:Zaj) (st:LL):S:=mkS 125 [(1,sV 68 chain_1),(3,sI now_3),(4,sA 4),(6,sA 6),(9,sI (len chain_1))] [(4,.cells p_0.ls),(6,.cells h_2.ls)] st
theorem Zap.p6_ok {chain_1 p_0 v21 h_2 st r c6_ J6} (h:Zap.p6 N chain_1 p_0 h_2 c6_ v21=some r) (hE:En Tryz.f29 g0 w0 (Zap.rs r) st R) (hc6 : ∀v21,c6_ v21=some r→At g0 w0 (Zap.p6.S chain_1 p_0 v21 h_2 st) J6):At g0 w0 (Zap.p6.S chain_1 p_0 v21 h_2 st) (XK zF R (.c (Zbn Zap.B [1,1,1,1,1,1,1,1,1,1,1,0,1,0,0]) :: .h J6 :: [.b 4,.c (Zbn Zap.B [1,1,1,1,1,1,1,1,1,1,1,1])])):=by
 unfold Zap.p6 at h
 refine ZaY h (fun c53 h1=>?_) (fun c53 h2=>?_)
 ·obtain ⟨c54,h3⟩:=ZaP h1
  obtain ⟨x22,c55,h4⟩:=ZdI h3
  let o1:List PS:=[.r [],.c true,.r [(1,{oe:=x22.ls})]]
  have t1 {Q:Prop} (q:Q):=aL c53 c54 (oD c53) c55 q
  refine ZaY h4 (fun c56 h5=>?_) (fun c56 h6=>?_)
  ·obtain ⟨x23,c57,h7⟩:=Zaf h5
   let o2:List PS:=o1 ++ [.d {ds:=[(8,q1 [.agg [zH .u8 32 x23]])],hv:=0,Hs:=[]}]
   have t2 {Q:Prop} (q:Q):=t1 (aO c56 c56 c56 c56 (Zco.snd c57) c56 c56 q)
   refine ZaY h7 (fun c58 h8=>?_) (fun c58 h9=>?_)
   ·obtain rfl:=Zac h8
    exact afd fol hE (o2 ++ [.c true,.r []]) [] 0 [] (t2 c58)
   ·exact ZiS fol (o2 ++ [.c false,.r []]) [6,9,107,108,109] [6] (t2 c58) (hc6 (w64 (v21+1)) h9)
  ·exact ZiS fol (o1 ++ [.d {ds:=[(5,wF),(6,wF),(7,wF),(8,wF),(9,wF),(10,yF)],hv:=0,Hs:=[]},.c false,.r []]) [6,9,107,108,109] [6] (t1 (aN c56 c56 c56 c56 c56 c56 eF)) (hc6 (w64 (v21+1)) h6)
 ·obtain rfl:=Zac h2
  exact af fol hE [.r [],.c false,.r []] [] 0 [] c53
theorem Zap.p5_ok {chain_1 p_0 v19 h_2 st r c5_ J5} (h:Zap.p5 N chain_1 p_0 h_2 c5_ v19=some r) (hE:En Tryz.f29 g0 w0 (Zap.rs r) st R) (hc5 : ∀v19,c5_ v19=some r→At g0 w0 (Zap.p5.S chain_1 p_0 v19 h_2 st) J5):At g0 w0 (Zap.p5.S chain_1 p_0 v19 h_2 st) (XK zF R (.c (Zbn Zap.B [1,1,1,1,1,1,1,1,1,1,0,1,0,0]) :: .h J5 :: [.b 2,.c (Zbn Zap.B [1,1,1,1,1,1,1,1,1,1,1])])):=by
 unfold Zap.p5 at h
 refine ZaY h (fun c48 h10=>?_) (fun c48 h11=>?_)
 ·obtain ⟨c49,h12⟩:=ZaP h10
  obtain ⟨x20,c50,h13⟩:=ZcO h12
  let o3:List PS:=[.r [],.c true,.r [(1,{oe:=x20.ls})]]
  have t3 {Q:Prop} (q:Q):=aL c48 c49 (oD c48) c50 q
  refine ZaY h13 (fun c51 h14=>?_) (fun c51 h15=>?_)
  ·refine ZaY h14 (fun c52 h16=>?_) (fun c52 h17=>?_)
   ·obtain rfl:=Zac h16
    exact af fol hE (o3 ++ [.r [],.c true,.r []]) [] 0 [] (t3 (aN c51 c51 c51 c51 c51 c51 c52))
   ·exact an fol (o3 ++ [.r [],.c false,.r []]) [4,6,9,88,89,90] [4,6] (t3 (aN c51 c51 c51 c51 c51 c51 c52)) (hc5 (w64 (v19+1)) h17)
  ·exact an fol (o3 ++ [.r [(5,wF),(6,wF),(7,wF),(8,wF),(9,wF),(10,yF)],.c false,.r []]) [4,6,9,88,89,90] [4,6] (t3 (aN c51 c51 c51 c51 c51 c51 eF)) (hc5 (w64 (v19+1)) h15)
 ·exact aq fol [.r [],.c false,.r []] [6,9,107,108,109] [6] c48 (At.loop N (At.loopN (fun y:Int=>Zap.p6.S chain_1 p_0 y h_2 st) (fun c J hc y h=>Zap.p6_ok h hE (fun v21=>hc v21)) N 0 h11))
theorem Zap.p4_ok {chain_1 p_0 h_2 st r} (h:Zap.p4 N chain_1 p_0 h_2=some r) (hE:En Tryz.f29 g0 w0 (Zap.rs r) st R):At g0 w0 (Zap.p4.S chain_1 p_0 h_2 st) (XK zF R [.c (Zbn Zap.B [1,1,1,1,1,1,1,1,1,1])]):=by
 unfold Zap.p4 at h
 exact aq fol [.r []] [4,6,9,88,89,90] [4,6] trivial (At.loop N (At.loopN (fun y:Int=>Zap.p5.S chain_1 p_0 y h_2 st) (fun c J hc y h=>Zap.p5_ok h hE (fun v19=>hc v19)) N 0 h))
theorem Zap.p3_ok {now_3 chain_1 p_0 h_2 st r} (h:Zap.p3 N now_3 chain_1 p_0 h_2=some r) (hE:En Tryz.f29 g0 w0 (Zap.rs r) st R):At g0 w0 (Zap.p3.S now_3 chain_1 p_0 h_2 st) (XK zF R [.c (Zbn Zap.B [1,1,1,1,1,1,1,1,1])]):=by
 unfold Zap.p3 at h
 refine ZaY h (fun c45 h18=>?_) (fun c45 h19=>?_)
 ·obtain rfl:=Zac h18
  exact af fol hE [.r [(4,wF),(5,wF),(6,wF),(7,wF),(8,wF),(16,wF)],.c true,.r []] [] 0 [] (aO c45 c45 c45 c45 c45 c45 c45 eT)
 ·have t4 {Q:Prop} (q:Q):=aM c45 c45 c45 c45 c45 q
  refine ZaY h19 (fun c46 h20=>?_) (fun c46 h21=>?_)
  ·have t5 {Q:Prop} (q:Q):=t4 (aO c46 c46 c46 c46 c46 c46 c46 (aK c45 c46 c45 q))
   refine ZaY h20 (fun c47 h22=>?_) (fun c47 h23=>?_)
   ·obtain rfl:=Zac h22
    exact af fol hE [.r [(17,yF)],.c true,.r []] [] 0 [] (t5 c47)
   ·exact aq fol [.r [(17,yF)],.c false,.s 1] [4,6,9] [4,6] (t5 c47) (Zap.p4_ok h23 hE)
  ·exact aq fol [.r [(9,wF),(10,wF),(11,wF),(12,wF),(13,wF),(14,wF),(15,wF),(16,yF),(17,yF)],.c false,.s 1] [4,6,9] [4,6] (t4 (aO c46 c46 c46 c46 c46 c46 c46 (aK c45 c46 c45 eF))) (Zap.p4_ok h21 hE)
theorem Zap.p2_ok {now_3 chain_1 times_15 v6 p_0 h_2 st r c2_ J2} (h:Zap.p2 N now_3 chain_1 p_0 h_2 c2_ (times_15,v6)=some r) (hE:En Tryz.f29 g0 w0 (Zap.rs r) st R) (hc2 : ∀times_15 v6,c2_ (times_15,v6)=some r→At g0 w0 (Zap.p2.S now_3 chain_1 times_15 v6 p_0 h_2 st) J2):At g0 w0 (Zap.p2.S now_3 chain_1 times_15 v6 p_0 h_2 st) (XK zF R (.c (Zbn Zap.B [1,1,1,1,1,1,1,0,1,0,0]) :: .h J2 :: [.b 0,.c (Zbn Zap.B [1,1,1,1,1,1,1,1])])):=by
 unfold Zap.p2 at h
 refine ZaY h (fun c36 h24=>?_) (fun c36 h25=>?_)
 ·obtain ⟨c37,h26⟩:=ZaP h24
  obtain ⟨x16,c38,h27⟩:=Zda h26
  obtain ⟨c39,h28⟩:=ZaP h27
  exact an fol [.r [],.c true,.r [(1,{oe:=x16.ls})],.r [],.r []] [3,4,6,9,10,47,48,49] [4,6,10] (aO c36 c37 (oD c36) c38 z0 (eN (zK times_15)) z0 (aI (eN (1)) c39)) (hc2 (times_15 ++ [[zI .i64 x16.Time]]) (w64 (v6+1)) h28)
 ·refine ZaY h25 (fun c40 h29=>?_) (fun c40 h30=>?_)
  ·obtain ⟨x17,c41,h31⟩:=Zaf h29
   obtain ⟨c42,h32⟩:=ZaP h31
   obtain ⟨x18,c43,h33⟩:=Zaf h32
   let o4:List PS:=[.r [],.c false,.d {ds:=[(6,{rs:=[.row true 1 x17],ns:=[65],m:=2}),(7,{rs:=[oI x18],m:=2})],hv:=64,Hs:=[64]}]
   have t6 {Q:Prop} (q:Q):=aO c36 c40 c40 c40 c40 c40 c40 (aO z0 (eN (zK times_15)) c42 (ZbP.snd c41) c40 z0 (eN (zK x17)) (aK (ZaC.snd c43) c40 c40 q))
   refine ZaY h33 (fun c44 h34=>?_) (fun c44 h35=>?_)
   ·obtain rfl:=Zac h34
    exact afd fol hE (o4 ++ [.c true,.r []]) [] 0 [] (t6 c44)
   ·exact aqd fol (o4 ++ [.c false,.s 1]) [3,4,6,9] [4,6] (t6 c44) (Zap.p3_ok h35 hE)
  ·exact aqd fol [.r [],.c false,.d {ds:=[(3,wF),(4,wF),(5,wF),(6,wF),(7,wF),(8,wF),(9,yF)],hv:=0,Hs:=[]},.c false,.s 1] [3,4,6,9] [4,6] (aO c36 c40 c40 c40 c40 c40 c40 (aI c40 eF)) (Zap.p3_ok h30 hE)
theorem Zap.p1_ok {chain_1 now_3 p_0 h_2 st r} (h:Zap.p1 N chain_1 now_3 p_0 h_2=some r) (hE:En Tryz.f29 g0 w0 (Zap.rs r) st R):At g0 w0 (Zap.p1.S chain_1 now_3 p_0 h_2 st) (XK zF R [.c (Zbn Zap.B [1,1,1,1])]):=by
 unfold Zap.p1 at h
 obtain ⟨x4,c9,h36⟩:=Zaf h
 let o5:List PS:=[.d {ds:=[(6,q1 [oI x4])],hv:=0,Hs:=[]}]
 have t7 {Q:Prop} (q:Q):=aI (Zax.snd c9) q
 refine ZaY h36 (fun c10 h37=>?_) (fun c10 h38=>?_)
 ·obtain rfl:=Zac h37
  exact afd fol hE (o5 ++ [.c true,.r []]) [] 0 [] (t7 c10)
 ·obtain ⟨x5,c11,h39⟩:=Zaf h38
  let o6:List PS:=o5 ++ [.c false,.r [(2,q1 [oB x5])]]
  refine ZaY h39 (fun c12 h40=>?_) (fun c12 h41=>?_)
  ·obtain rfl:=Zac h40
   exact afd fol hE (o6 ++ [.c true,.r []]) [] 0 [] (t7 (aJ c10 (Zdd.snd c11) c12))
  ·exact aqd fol (o6 ++ [.c false,.r [(0,{m:=1})],.r []]) [3,4,6,9,10,47,48,49] [4,6,10] (t7 (aJ c10 (Zdd.snd c11) c12)) (At.loop N (At.loopN (fun y:LL×Int=>Zap.p2.S now_3 chain_1 y.1 y.2 p_0 h_2 st) (fun c J hc y h=>Zap.p2_ok (times_15:=y.1) (v6:=y.2) h hE (fun times_15 v6=>hc (times_15,v6))) N ([],0) h41))
theorem Zap.snd {p_0:Zae} {chain_1:LL} {h_2:Zaj} {now_3:Int} {r:Int} (h:Zap N p_0 chain_1 h_2 now_3=some r):Zde zF 29 [.agg p_0.ls,.one (L.sl 68 chain_1),.agg h_2.ls,oI now_3] (Zap.rs r):=fun st=>
 sO Zap.B Tryz.func29 fun g0 w0 R hE=>by
  unfold Zap at h
  obtain ⟨x1,c1,h42⟩:=Zaf h
  let o7:List PS:=[.r [],.r [],.r [(1,q1 [oB x1])]]
  have t8 {Q:Prop} (q:Q):=aI (Zcq.snd c1) q
  refine ZaY h42 (fun c2 h43=>?_) (fun c2 h44=>?_)
  ·obtain rfl:=Zac h43
   exact af fol hE (o7 ++ [.c true,.r []]) [] 0 [] (t8 c2)
  ·refine ZaY h44 (fun c3 h45=>?_) (fun c3 h46=>?_)
   ·obtain ⟨c4,c5,h47⟩:=ck2 h45
    obtain ⟨x2,c6,h48⟩:=Zda h47
    obtain ⟨x3,c7,h49⟩:=Zaf h48
    let o8:List PS:=o7 ++ [.c false,.d {ds:=[(9,{oe:=x2.ls}),(10,q1 [.agg [zH .u8 32 x3]])],hv:=0,Hs:=[]}]
    have t9 {Q:Prop} (q:Q):=t8 (aO c2 c3 c3 c3 c3 c3 c3 (aO c4 c5 c3 c6 c3 (Zco.snd c7) c3 (aI c3 q)))
    refine ZaY h49 (fun c8 h50=>?_) (fun c8 h51=>?_)
    ·obtain rfl:=Zac h50
     exact afd fol hE (o8 ++ [.c true,.r []]) [] 0 [] (t9 c8)
    ·exact aqd fol (o8 ++ [.c false,.s 1]) [1,3,4,6,9] [4,6] (t9 c8) (Zap.p1_ok h51 hE)
   ·exact aqd fol (o7 ++ [.c false,.d {ds:=[(3,wF),(4,wF),(5,wF),(6,wF),(7,wF),(8,wF),(9,wF),(10,wF),(11,wF),(12,yF)],hv:=0,Hs:=[]},.c false,.s 1]) [1,3,4,6,9] [4,6] (t8 (aO c2 c3 c3 c3 c3 c3 c3 (aL c3 c3 c3 c3 eF))) (Zap.p1_ok h46 hE)
def ZaO.B:Code:=Tryz.f28.body.getD .skip
def ZaO.rs (r:Int×LL):List CV:=[oI r.1]
def ZaO.p1 (N:Nat) (i1:Nat) (x2:Zaa) (id_1_0:List Int) (st:LL) (c1_:Int→Option (Int×LL)):Int→Option (Int×LL):=fun v3=>
 if (decide (v3<(len x2.Ids)))=true then
  chk (0≤v3)<|
  Zds (st[i1]?) ZbQ fun x4=>
  Zds (x4.Ids[0+(zE v3)]?) ZfS fun x5=>
  if (x5==id_1_0)=true then
   some (v3,st)
  else
  c1_ (w64 (v3+1))
 else
 some ((-1),st)
def ZaO (N:Nat) (a_0:Option Nat) (id_1_0:List Int) (st:LL):Option (Int×LL):=
 Zbt a_0 fun i1=>
 Zds (st[i1]?) ZbQ fun x2=>
 loopN (ZaO.p1 N i1 x2 id_1_0 st) N 0
def ZaO.p1.S (i1:Nat) (x2:Zaa) (v3:Int) (id_1_0:List Int) (st:LL):S:=mkS 22 [(3,sA 3),(10,.one (.h (.mem (.obj i1) 84 0) 32 0 (zK x2.Ids))),(11,sI (len x2.Ids)),(12,sI v3)] [(3,.cells [zH .u8 32 id_1_0])] st
theorem ZaO.p1_ok {i1 x2 v3 id_1_0 st r c1_ J1} (h:ZaO.p1 N i1 x2 id_1_0 st c1_ v3=some r) (hE:En Tryz.f28 g0 w0 (ZaO.rs r) r.2 R) (hc1 : ∀v3,c1_ v3=some r→At g0 w0 (ZaO.p1.S i1 x2 v3 id_1_0 st) J1):At g0 w0 (ZaO.p1.S i1 x2 v3 id_1_0 st) (XK zF R (.c (Zbn ZaO.B [1,0,1,0,0]) :: .h J1 :: [.b 0,.c (Zbn ZaO.B [1,1])])):=by
 unfold ZaO.p1 at h
 refine ZaY h (fun c3 h1=>?_) (fun c3 h2=>?_)
 ·obtain ⟨c4,h3⟩:=ZaP h1
  obtain ⟨x4,c5,h4⟩:=Zci h3
  obtain ⟨x5,c6,h5⟩:=Zge h4
  let o1:List PS:=[.r [],.c true,.r [(2,{oc:=x4.lo,oe:=[zH .u8 32 x5]})],.r []]
  refine ZaY h5 (fun c7 h6=>?_) (fun c7 h7=>?_)
  ·obtain rfl:=Zac h6
   exact af fol hE (o1 ++ [.c true,.r []]) [] 0 [] (aM c3 c4 (oD c3) c6 c5 c7)
  ·exact an fol (o1 ++ [.c false,.r []]) [3,10,11,12] [3] (aM c3 c4 (oD c3) c6 c5 c7) (hc1 (w64 (v3+1)) h7)
 ·obtain rfl:=Zac h2
  exact af fol hE [.r [],.c false,.r []] [] 0 [] c3
theorem ZaO.snd {a_0:Option Nat} {id_1_0:List Int} {st:LL} {r:Int×LL} (h:ZaO N a_0 id_1_0 st=some r):Snd zF 28 [.one (L.ptr a_0),.agg [zH .u8 32 id_1_0]] st (ZaO.rs r) r.2:=
 sO ZaO.B Tryz.func28 fun g0 w0 R hE=>by
  unfold ZaO at h
  obtain ⟨i1,rfl,h8⟩:=Zaf h
  obtain ⟨x2,c2,h9⟩:=Zci h8
  exact aq fol [.r [],.r [(3,{oc:=x2.lo})]] [3,10,11,12] [3] c2 (At.loop N (At.loopN (fun y:Int=>ZaO.p1.S i1 x2 y id_1_0 st) (fun c J hc y h=>ZaO.p1_ok h hE (fun v3=>hc v3)) N 0 h9))
def ZdK.B:Code:=Tryz.f30.body.getD .skip
def ZdK.rs (r:(List Int)):List CV:=[.agg [zH .u64 4 r]]
def ZdK (N:Nat) (a_0_0 b_1_0:List Int):Option (List Int):=
 Zbt (ZaQ N a_0_0 b_1_0) fun (x1,x2)=>
 if x2=true then
  Zbt (Zcv N ) fun x3=>
  some x3
 else
 some x1
theorem ZdK.snd {a_0_0 b_1_0:List Int} {r:(List Int)} (h:ZdK N a_0_0 b_1_0=some r):Zde zF 30 [.agg [zH .u64 4 a_0_0],.agg [zH .u64 4 b_1_0]] (ZdK.rs r):=fun st=>
 sO ZdK.B Tryz.func30 fun g0 w0 R hE=>by
  unfold ZdK at h
  obtain ⟨⟨x1,x2⟩,c1,h1⟩:=Zaf h
  let o1:List PS:=[.r [],.r [(2,q1 [.agg [zH .u64 4 x1],oB x2])],.r []]
  refine ZaY h1 (fun c2 h2=>?_) (fun c2 h3=>?_)
  ·obtain ⟨x3,c3,h4⟩:=Zaf h2
   obtain rfl:=Zac h4
   exact af fol hE (o1 ++ [.c true,.r [(0,q1 [.agg [zH .u64 4 x3]])]]) [] 0 [] (aJ (ZaQ.snd c1) c2 (Zcv.snd c3))
  ·obtain rfl:=Zac h3
   exact af fol hE (o1 ++ [.c false,.r []]) [] 0 [] (aI (ZaQ.snd c1) c2)
def Zcn.B:Code:=Tryz.f10.body.getD .skip
def Zcn.rs (r:Int×Int×Int×LL):List CV:=[oI r.1,oI r.2.1,oI r.2.2.1]
def Zcn (N:Nat) (a_0:Option Nat) (h_1:Zaj) (now_2:Int) (st:LL):Option (Int×Int×Int×LL):=
 Zbt (Zcq N h_1) fun x1=>
 if (!x1)=true then
  some ((-1),1,8,st)
 else
 Zbt (Zco N h_1) fun x2=>
 Zbt (ZaO N a_0 x2 st) fun (x3,st4)=>
 if (decide (x3≥0))=true then
  some (x3,0,0,st4)
 else
 Zbt (ZaO N a_0 h_1.Prev st4) fun (x5,st6)=>
 if (decide (x5<0))=true then
  some ((-1),2,5,st6)
 else
 Zbt a_0 fun i7=>
 Zds (st6[i7]?) ZbQ fun x8=>
 Zbt (ZaH N x8 x5) fun x9=>
 chk (ZdB x9=true)<|
 Zbt (Zap N x8.Rules x9 h_1 now_2) fun x10=>
 if (decide (x10>0))=true then
  some ((-1),x10,8,st6)
 else
 if (decide ((len x8.List_)≥x8.Room))=true then
  some ((-1),0,6,st6)
 else
 chk (zK (x8.List_ ++ [h_1.ls])*96≤140737488355328)<|
 chk (zK (x8.Ids ++ [[zH .u8 32 x2]])*32≤140737488355328)<|
 chk (0≤x5)<|
 chk (x5<(len x8.Works))<|
 Zds (x8.Works[0+(zE x5)]?) ZgK fun x11=>
 Zbt (ZbN N h_1.Bits) fun x12=>
 Zbt (ZdK N x11 x12) fun x13=>
 chk (zK (x8.Works ++ [[zH .u64 4 x13]])*32≤140737488355328)<|
 chk (zK (x8.Ahead ++ [[zI .i64 x5]])*8≤140737488355328)<|
 some (w64 ((len (x8.List_ ++ [h_1.ls]))-1),0,0,zP (zP (zP (zP (zP (zP (zP (zP st6 i7 (gs x8.lo 15)) i7 (Zaa.lo {x8 with List_:=x8.List_ ++ [h_1.ls]})) i7 (gs (Zaa.lo {x8 with List_:=x8.List_ ++ [h_1.ls]}) 16)) i7 (Zaa.lo {x8 with List_:=x8.List_ ++ [h_1.ls],Ids:=x8.Ids ++ [[zH .u8 32 x2]]})) i7 (gs (Zaa.lo {x8 with List_:=x8.List_ ++ [h_1.ls],Ids:=x8.Ids ++ [[zH .u8 32 x2]]}) 18)) i7 (Zaa.lo {x8 with List_:=x8.List_ ++ [h_1.ls],Ids:=x8.Ids ++ [[zH .u8 32 x2]],Works:=x8.Works ++ [[zH .u64 4 x13]]})) i7 (gs (Zaa.lo {x8 with List_:=x8.List_ ++ [h_1.ls],Ids:=x8.Ids ++ [[zH .u8 32 x2]],Works:=x8.Works ++ [[zH .u64 4 x13]]}) 17)) i7 (Zaa.lo (Zaa.mk x8.Rules (x8.List_ ++ [h_1.ls]) (x8.Ids ++ [[zH .u8 32 x2]]) (x8.Ahead ++ [[zI .i64 x5]]) (x8.Works ++ [[zH .u64 4 x13]]) x8.Room)))
theorem Zcn.snd {a_0:Option Nat} {h_1:Zaj} {now_2:Int} {st:LL} {r:Int×Int×Int×LL} (h:Zcn N a_0 h_1 now_2 st=some r):Snd zF 10 [.one (L.ptr a_0),.agg h_1.ls,oI now_2] st (Zcn.rs r) r.2.2.2:=
 sO Zcn.B Tryz.func10 fun g0 w0 R hE=>by
  unfold Zcn at h
  obtain ⟨x1,c1,h1⟩:=Zaf h
  let o1:List PS:=[.r [],.r [(1,q1 [oB x1])]]
  have t1 {Q:Prop} (q:Q):=aI (Zcq.snd c1) q
  refine ZaY h1 (fun c2 h2=>?_) (fun c2 h3=>?_)
  ·obtain rfl:=Zac h2
   exact af fol hE (o1 ++ [.c true,.r []]) [] 0 [] (t1 c2)
  ·obtain ⟨x2,c3,h4⟩:=Zaf h3
   obtain ⟨⟨x3,st4⟩,c4,h5⟩:=Zaf h4
   let o2:List PS:=o1 ++ [.c false,.r [(2,q1 [.agg [zH .u8 32 x2]]),(3,{rs:=[oI x3],st:=st4})],.r []]
   have t2 {Q:Prop} (q:Q):=t1 (aK c2 (Zco.snd c3) (ZaO.snd c4) q)
   refine ZaY h5 (fun c5 h6=>?_) (fun c5 h7=>?_)
   ·obtain rfl:=Zac h6
    exact af fol hE (o2 ++ [.c true,.r []]) [] 0 [] (t2 c5)
   ·obtain ⟨⟨x5,st6⟩,c6,h8⟩:=Zaf h7
    let o3:List PS:=o2 ++ [.c false,.r [(3,{rs:=[oI x5],st:=st6})],.r []]
    have t3 {Q:Prop} (q:Q):=t2 (aJ c5 (ZaO.snd c6) q)
    refine ZaY h8 (fun c7 h9=>?_) (fun c7 h10=>?_)
    ·obtain rfl:=Zac h9
     exact af fol hE (o3 ++ [.c true,.r []]) [] 0 [] (t3 c7)
    ·obtain ⟨i7,rfl,h11⟩:=Zaf h10
     obtain ⟨x8,c9,h12⟩:=Zci h11
     obtain ⟨x9,c10,h13⟩:=Zaf h12
     obtain ⟨c11,h14⟩:=ZaP h13
     obtain ⟨x10,c12,h15⟩:=Zaf h14
     let o4:List PS:=o3 ++ [.c false,.d {ds:=[(3,{oc:=x8.lo}),(6,{rs:=[.row true 68 x9],ns:=[34],m:=10,cv:=[.one (L.bx 88 x8.ls)]}),(9,{rs:=[oI x10],m:=2})],hv:=64,Hs:=[64]},.r []]
     have t4 {Q:Prop} (q:Q):=t3 (aO c7 c9 c9 (bO 88 c9 (Zaa.bv x8)) c11 (ZaH.snd c10) z0 (aJ (eN (zK x9)) (Zap.snd c12) q))
     refine ZaY h15 (fun c13 h16=>?_) (fun c13 h17=>?_)
     ·obtain rfl:=Zac h16
      exact afd fol hE (o4 ++ [.c true,.r []]) [] 0 [] (t4 c13)
     ·let o5:List PS:=o4 ++ [.c false,.d {ds:=[(3,{oc:=x8.lo}),(8,{oc:=x8.lo})],hv:=0,Hs:=[]}]
      refine ZaY h17 (fun c14 h18=>?_) (fun c14 h19=>?_)
      ·obtain rfl:=Zac h18
       exact afd fol hE (o5 ++ [.c true,.r []]) [] 0 [] (t4 (aK c13 c9 c9 c14))
      ·obtain ⟨c15,c16,c17,c18,h20⟩:=ck4 h19
       obtain ⟨x11,c19,h21⟩:=ZhW h20
       obtain ⟨x12,c20,h22⟩:=Zaf h21
       obtain ⟨x13,c21,h23⟩:=Zaf h22
       obtain ⟨c22,c23,h24⟩:=ck2 h23
       obtain rfl:=Zac h24
       exact afd fol hE (o5 ++ [.c false,.d {ds:=[(4,{oc:=x8.lo}),(7,{oe:=x8.lo}),(10,{oc:=gs x8.lo 15,mv:=[58]})],hv:=1216,Hs:=[64,192,1216]},.d {ds:=[(4,{oc:=Zaa.lo {x8 with List_:=x8.List_ ++ [h_1.ls]}}),(6,q1 [.agg [zH .u8 32 x2]]),(8,{oe:=Zaa.lo {x8 with List_:=x8.List_ ++ [h_1.ls]}}),(11,{oc:=gs (Zaa.lo {x8 with List_:=x8.List_ ++ [h_1.ls]}) 16,mv:=[69]})],hv:=2432,Hs:=[128,384,2432]},.d {ds:=[(4,{oc:=Zaa.lo {x8 with List_:=x8.List_ ++ [h_1.ls],Ids:=x8.Ids ++ [[zH .u8 32 x2]]}}),(8,{oc:=Zaa.lo {x8 with List_:=x8.List_ ++ [h_1.ls],Ids:=x8.Ids ++ [[zH .u8 32 x2]]}}),(11,{oc:=Zaa.lo {x8 with List_:=x8.List_ ++ [h_1.ls],Ids:=x8.Ids ++ [[zH .u8 32 x2]]},oe:=[zH .u64 4 x11]}),(14,q1 [.agg [zH .u64 4 x12]]),(15,q1 [.agg [zH .u64 4 x13]]),(17,{oe:=Zaa.lo {x8 with List_:=x8.List_ ++ [h_1.ls],Ids:=x8.Ids ++ [[zH .u8 32 x2]]}}),(20,{oc:=gs (Zaa.lo {x8 with List_:=x8.List_ ++ [h_1.ls],Ids:=x8.Ids ++ [[zH .u8 32 x2]]}) 18,mv:=[89]})],hv:=1245184,Hs:=[65536,196608,1245184]},.r [(4,{oc:=Zaa.lo {x8 with List_:=x8.List_ ++ [h_1.ls],Ids:=x8.Ids ++ [[zH .u8 32 x2]],Works:=x8.Works ++ [[zH .u64 4 x13]]}}),(7,{oe:=Zaa.lo {x8 with List_:=x8.List_ ++ [h_1.ls],Ids:=x8.Ids ++ [[zH .u8 32 x2]],Works:=x8.Works ++ [[zH .u64 4 x13]]}}),(10,{oc:=gs (Zaa.lo {x8 with List_:=x8.List_ ++ [h_1.ls],Ids:=x8.Ids ++ [[zH .u8 32 x2]],Works:=x8.Works ++ [[zH .u64 4 x13]]}) 17,mv:=[99]})],.r [(3,{oc:=Zaa.lo (Zaa.mk x8.Rules (x8.List_ ++ [h_1.ls]) (x8.Ids ++ [[zH .u8 32 x2]]) (x8.Ahead ++ [[zI .i64 x5]]) (x8.Works ++ [[zH .u64 4 x13]]) x8.Room)})]]) [] 0 [] (t4 (aO c13 c9 c9 c14 c9 c9 z0 (aO (eN (zK x8.List_)) c9 z0 (eN (1)) c15 (Zaq c9 (gs x8.lo 15)) z0 (aO (eN (zK (x8.List_ ++ [h_1.ls]))) (Zaq (Zaq c9 (gs x8.lo 15)) (Zaa.lo {x8 with List_:=x8.List_ ++ [h_1.ls]})) (Zaq (Zaq c9 (gs x8.lo 15)) (Zaa.lo {x8 with List_:=x8.List_ ++ [h_1.ls]})) (Zco.snd c3) z0 (eN (zK x8.Ids)) (Zaq (Zaq c9 (gs x8.lo 15)) (Zaa.lo {x8 with List_:=x8.List_ ++ [h_1.ls]})) (aO z0 (eN (1)) c16 (Zaq (Zaq (Zaq c9 (gs x8.lo 15)) (Zaa.lo {x8 with List_:=x8.List_ ++ [h_1.ls]})) (gs (Zaa.lo {x8 with List_:=x8.List_ ++ [h_1.ls]}) 16)) z0 (eN (zK (x8.Ids ++ [[zH .u8 32 x2]]))) (Zaq (Zaq (Zaq (Zaq c9 (gs x8.lo 15)) (Zaa.lo {x8 with List_:=x8.List_ ++ [h_1.ls]})) (gs (Zaa.lo {x8 with List_:=x8.List_ ++ [h_1.ls]}) 16)) (Zaa.lo {x8 with List_:=x8.List_ ++ [h_1.ls],Ids:=x8.Ids ++ [[zH .u8 32 x2]]})) (aO (Zaq (Zaq (Zaq (Zaq c9 (gs x8.lo 15)) (Zaa.lo {x8 with List_:=x8.List_ ++ [h_1.ls]})) (gs (Zaa.lo {x8 with List_:=x8.List_ ++ [h_1.ls]}) 16)) (Zaa.lo {x8 with List_:=x8.List_ ++ [h_1.ls],Ids:=x8.Ids ++ [[zH .u8 32 x2]]})) (Zaq (Zaq (Zaq (Zaq c9 (gs x8.lo 15)) (Zaa.lo {x8 with List_:=x8.List_ ++ [h_1.ls]})) (gs (Zaa.lo {x8 with List_:=x8.List_ ++ [h_1.ls]}) 16)) (Zaa.lo {x8 with List_:=x8.List_ ++ [h_1.ls],Ids:=x8.Ids ++ [[zH .u8 32 x2]]})) c17 c18 c19 (Zaq (Zaq (Zaq (Zaq c9 (gs x8.lo 15)) (Zaa.lo {x8 with List_:=x8.List_ ++ [h_1.ls]})) (gs (Zaa.lo {x8 with List_:=x8.List_ ++ [h_1.ls]}) 16)) (Zaa.lo {x8 with List_:=x8.List_ ++ [h_1.ls],Ids:=x8.Ids ++ [[zH .u8 32 x2]]})) (ZbN.snd c20) (aO (ZdK.snd c21) z0 (eN (zK x8.Works)) (Zaq (Zaq (Zaq (Zaq c9 (gs x8.lo 15)) (Zaa.lo {x8 with List_:=x8.List_ ++ [h_1.ls]})) (gs (Zaa.lo {x8 with List_:=x8.List_ ++ [h_1.ls]}) 16)) (Zaa.lo {x8 with List_:=x8.List_ ++ [h_1.ls],Ids:=x8.Ids ++ [[zH .u8 32 x2]]})) z0 (eN (1)) c22 (aO (Zaq (Zaq (Zaq (Zaq (Zaq c9 (gs x8.lo 15)) (Zaa.lo {x8 with List_:=x8.List_ ++ [h_1.ls]})) (gs (Zaa.lo {x8 with List_:=x8.List_ ++ [h_1.ls]}) 16)) (Zaa.lo {x8 with List_:=x8.List_ ++ [h_1.ls],Ids:=x8.Ids ++ [[zH .u8 32 x2]]})) (gs (Zaa.lo {x8 with List_:=x8.List_ ++ [h_1.ls],Ids:=x8.Ids ++ [[zH .u8 32 x2]]}) 18)) z0 (eN (zK (x8.Works ++ [[zH .u64 4 x13]]))) (Zaq (Zaq (Zaq (Zaq (Zaq (Zaq c9 (gs x8.lo 15)) (Zaa.lo {x8 with List_:=x8.List_ ++ [h_1.ls]})) (gs (Zaa.lo {x8 with List_:=x8.List_ ++ [h_1.ls]}) 16)) (Zaa.lo {x8 with List_:=x8.List_ ++ [h_1.ls],Ids:=x8.Ids ++ [[zH .u8 32 x2]]})) (gs (Zaa.lo {x8 with List_:=x8.List_ ++ [h_1.ls],Ids:=x8.Ids ++ [[zH .u8 32 x2]]}) 18)) (Zaa.lo {x8 with List_:=x8.List_ ++ [h_1.ls],Ids:=x8.Ids ++ [[zH .u8 32 x2]],Works:=x8.Works ++ [[zH .u64 4 x13]]})) z0 (eN (zK x8.Ahead)) (Zaq (Zaq (Zaq (Zaq (Zaq (Zaq c9 (gs x8.lo 15)) (Zaa.lo {x8 with List_:=x8.List_ ++ [h_1.ls]})) (gs (Zaa.lo {x8 with List_:=x8.List_ ++ [h_1.ls]}) 16)) (Zaa.lo {x8 with List_:=x8.List_ ++ [h_1.ls],Ids:=x8.Ids ++ [[zH .u8 32 x2]]})) (gs (Zaa.lo {x8 with List_:=x8.List_ ++ [h_1.ls],Ids:=x8.Ids ++ [[zH .u8 32 x2]]}) 18)) (Zaa.lo {x8 with List_:=x8.List_ ++ [h_1.ls],Ids:=x8.Ids ++ [[zH .u8 32 x2]],Works:=x8.Works ++ [[zH .u64 4 x13]]})) (aN z0 (eN (1)) c23 (Zaq (Zaq (Zaq (Zaq (Zaq (Zaq (Zaq c9 (gs x8.lo 15)) (Zaa.lo {x8 with List_:=x8.List_ ++ [h_1.ls]})) (gs (Zaa.lo {x8 with List_:=x8.List_ ++ [h_1.ls]}) 16)) (Zaa.lo {x8 with List_:=x8.List_ ++ [h_1.ls],Ids:=x8.Ids ++ [[zH .u8 32 x2]]})) (gs (Zaa.lo {x8 with List_:=x8.List_ ++ [h_1.ls],Ids:=x8.Ids ++ [[zH .u8 32 x2]]}) 18)) (Zaa.lo {x8 with List_:=x8.List_ ++ [h_1.ls],Ids:=x8.Ids ++ [[zH .u8 32 x2]],Works:=x8.Works ++ [[zH .u64 4 x13]]})) (gs (Zaa.lo {x8 with List_:=x8.List_ ++ [h_1.ls],Ids:=x8.Ids ++ [[zH .u8 32 x2]],Works:=x8.Works ++ [[zH .u64 4 x13]]}) 17)) z0 (eN (zK (x8.Ahead ++ [[zI .i64 x5]]))) (Zaq (Zaq (Zaq (Zaq (Zaq (Zaq (Zaq (Zaq c9 (gs x8.lo 15)) (Zaa.lo {x8 with List_:=x8.List_ ++ [h_1.ls]})) (gs (Zaa.lo {x8 with List_:=x8.List_ ++ [h_1.ls]}) 16)) (Zaa.lo {x8 with List_:=x8.List_ ++ [h_1.ls],Ids:=x8.Ids ++ [[zH .u8 32 x2]]})) (gs (Zaa.lo {x8 with List_:=x8.List_ ++ [h_1.ls],Ids:=x8.Ids ++ [[zH .u8 32 x2]]}) 18)) (Zaa.lo {x8 with List_:=x8.List_ ++ [h_1.ls],Ids:=x8.Ids ++ [[zH .u8 32 x2]],Works:=x8.Works ++ [[zH .u64 4 x13]]})) (gs (Zaa.lo {x8 with List_:=x8.List_ ++ [h_1.ls],Ids:=x8.Ids ++ [[zH .u8 32 x2]],Works:=x8.Works ++ [[zH .u64 4 x13]]}) 17)) (Zaa.lo (Zaa.mk x8.Rules (x8.List_ ++ [h_1.ls]) (x8.Ids ++ [[zH .u8 32 x2]]) (x8.Ahead ++ [[zI .i64 x5]]) (x8.Works ++ [[zH .u64 4 x13]]) x8.Room))))))))))))
def Zab.B:Code:=Tryz.f3.body.getD .skip
def Zab.rs (r:Bool×LL):List CV:=[oB r.1]
def Zab.p5 (N:Nat) (c4_:((Option Nat)×Int×LL)→Option (Bool×LL)) (c2_:((Option Nat)×Int×LL)→Option (Bool×LL)) (i394 i235:Nat) (v237:Int) (x236:Zaa) (v378:Int) (x395 want_375:Zaz) (p_0:Zae) (st397:LL) (c5_:(Int×Zaz)→Option (Bool×LL)):(Int×Zaz)→Option (Bool×LL):=fun (v398,s_404)=>
 if (decide (v398<(len x395.Times)))=true then
  chk (0≤v398)<|
  chk (v398<(len s_404.Times))<|
  Zds (s_404.Times[0+(zE v398)]?) Zdq fun x405=>
  chk (v398<(len want_375.Times))<|
  Zds (want_375.Times[zE v398]?) Zdq fun x406=>
  if (x405 != x406)=true then
   some (false,st397)
  else
  c5_ (w64 (v398+1),{s_404 with Times:=zP s_404.Times (0+(zE v398)) [zI .i64 (-1)]})
 else
 c4_ ((some i394),w64 (v378+1),st397)
def Zab.p4 (N:Nat) (c2_:((Option Nat)×Int×LL)→Option (Bool×LL)) (i235:Nat) (v237:Int) (x236:Zaa) (p_0:Zae) (want_375:Zaz) (c4_:((Option Nat)×Int×LL)→Option (Bool×LL)):((Option Nat)×Int×LL)→Option (Bool×LL):=fun (a_392,v378,st393)=>
 if (decide (v378<2))=true then
  Zbt a_392 fun i394=>
  Zbt (Zbo N (some i394) v237 st393) fun (x395,x396,st397)=>
  chk (x396=true)<|
  if (!((x395.Point.Height==want_375.Point.Height)&&((x395.Point.Bits==want_375.Point.Bits)&&((x395.Point.Time==want_375.Point.Time)&&((x395.Point.First==want_375.Point.First)&&((x395.Point.Hard==want_375.Point.Hard)&&true))))))=true then
   some (false,st397)
  else
  if (!(x395.Prev==want_375.Prev))=true then
   some (false,st397)
  else
  if ((len x395.Times) != (len want_375.Times))=true then
   some (false,st397)
  else
  loopN (Zab.p5 N c4_ c2_ i394 i235 v237 x236 v378 x395 want_375 p_0 st397) N (0,x395)
 else
 c2_ (a_392,w64 (v237+1),st393)
def Zab.p3 (N:Nat) (c2_:((Option Nat)×Int×LL)→Option (Bool×LL)) (a_338:Option Nat) (i235:Nat) (v237:Int) (x236:Zaa) (x342:LL) (p_0:Zae) (st339:LL) (c3_:(Int×Zaz)→Option (Bool×LL)):(Int×Zaz)→Option (Bool×LL):=fun (v343,want_375)=>
 if (decide (v343<(((zK x342)-1:Nat):Int)))=true then
  chk (0≤v343)<|
  Zds (x342[1+(zE v343)]?) ZcT fun x376=>
  Zbt (ZcE N p_0 want_375 x376) fun x377=>
  c3_ (w64 (v343+1),x377)
 else
 loopN (Zab.p4 N c2_ i235 v237 x236 p_0 want_375) N (a_338,0,st339)
def Zab.p7 (N:Nat) (i407:Nat) (x432 p_0:Zae) (st433:LL) (c7_:Int→Option (Bool×LL)):Int→Option (Bool×LL):=fun v434=>
 if (decide (v434<(len x432.Gates)))=true then
  chk (0≤v434)<|
  Zds (x432.Gates[0+(zE v434)]?) ZcW fun x435=>
  chk (v434<(len p_0.Gates))<|
  Zds (p_0.Gates[zE v434]?) ZcW fun x436=>
  if (!((x435.Height==x436.Height)&&((x435.Version==x436.Version)&&true)))=true then
   some (false,st433)
  else
  c7_ (w64 (v434+1))
 else
 Zbt (Zbo N (some i407) (-1) st433) fun (x437,x438,st439)=>
 if (!x438)=true then
  if ((x432.Genesis.Version==p_0.Genesis.Version)&&((x432.Genesis.Prev==p_0.Genesis.Prev)&&((x432.Genesis.Root==p_0.Genesis.Root)&&((x432.Genesis.Time==p_0.Genesis.Time)&&((x432.Genesis.Bits==p_0.Genesis.Bits)&&((x432.Genesis.Nonce==p_0.Genesis.Nonce)&&true))))))=true then
   if (x432.Limit==p_0.Limit)=true then
    if ((len x432.Gates)==(len p_0.Gates))=true then
     some ((len x432.Checks)==(len p_0.Checks),st439)
    else
    some (false,st439)
   else
   some (false,st439)
  else
  some (false,st439)
 else
 some (false,st439)
def Zab.p6 (N:Nat) (i407:Nat) (x408 p_0:Zae) (st409:LL) (c6_:(Int×Zae)→Option (Bool×LL)):(Int×Zae)→Option (Bool×LL):=fun (v410,q_430)=>
 if (decide (v410<(len x408.Gates)))=true then
  chk (0≤v410)<|
  chk (v410<(len q_430.Gates))<|
  Zds (q_430.Gates[0+(zE v410)]?) ZcW fun x431=>
  c6_ (w64 (v410+1),{q_430 with Gates:=zP q_430.Gates (0+(zE v410)) (ZbR.ls {x431 with Height:=(-5)})})
 else
 Zbt (Zbw N (some i407) st409) fun (x432,st433)=>
 loopN (Zab.p7 N i407 x432 p_0 st433) N 0
def Zab.p2 (N:Nat) (i235:Nat) (x236:Zaa) (p_0:Zae) (c2_:((Option Nat)×Int×LL)→Option (Bool×LL)):((Option Nat)×Int×LL)→Option (Bool×LL):=fun (a_338,v237,st339)=>
 if (decide (v237<(len x236.List_)))=true then
  Zbt (ZdV N p_0) fun x340=>
  Zds (st339[i235]?) ZbQ fun x341=>
  Zbt (ZaH N x341 v237) fun x342=>
  chk (ZdB x342=true)<|
  chk (1≤(zK x342))<|
  loopN (Zab.p3 N c2_ a_338 i235 v237 x236 x342 p_0 st339) N (0,x340)
 else
 Zbt a_338 fun i407=>
 Zbt (Zbw N (some i407) st339) fun (x408,st409)=>
 loopN (Zab.p6 N i407 x408 p_0 st409) N (0,x408)
def Zab.p1 (N:Nat) (x5 x8:Option Nat) (list_1:LL) (p_0:Zae) (c1_:(Int×LL)→Option (Bool×LL)):(Int×LL)→Option (Bool×LL):=fun (v10,st225)=>
 if (decide (v10<(len list_1)))=true then
  chk (0≤v10)<|
  Zds (list_1[zE v10]?) ZcJ fun x226=>
  Zbt (ZaB N x5 x226.Header x226.Now st225) fun (x227,x228,x229,st230)=>
  Zbt (Zcn N x8 x226.Header x226.Now st230) fun (x231,x232,x233,st234)=>
  c1_ (w64 (v10+1),st234)
 else
 Zbt x8 fun i235=>
 Zds (st225[i235]?) ZbQ fun x236=>
 loopN (Zab.p2 N i235 x236 p_0) N (x5,0,st225)
def Zab (N:Nat) (p_0:Zae) (list_1 st:LL):Option (Bool×LL):=
 Zbt (ZcY N st) fun (x1,st2)=>
 if (!x1)=true then
  some (false,st2)
 else
 Zbt (ZbD N p_0 list_1) fun x3=>
 if x3=true then
  some (true,st2)
 else
 Zbt (ZaW N p_0) fun x4=>
 if (!x4)=true then
  some (true,st2)
 else
 Zbt (ZdA N p_0 100 st2) fun (x5,x6,st7)=>
 Zbt (ZdJ N p_0 100 st7) fun (x8,st9)=>
 loopN (Zab.p1 N x5 x8 list_1 p_0) N (0,st9)
def Zab.p5.S (i394 i235:Nat) (v237:Int) (x236:Zaa) (v378:Int) (x395 want_375:Zaz) (v398:Int) (p_0:Zae) (s_404:Zaz) (st397:LL):S:=mkS 213 [(2,sA 2),(5,sP (some i394)),(7,sP (some i235)),(10,sI v237),(11,sA 11),(14,sA 14),(63,sI (len x236.List_)),(64,sI v237),(83,sI v378),(94,sA 14),(95,.agg (lsT x395.Point.ls)),(96,sA 11),(97,.agg (lsT want_375.Point.ls)),(98,.one (.l (uA (!((x395.Point.Height==want_375.Point.Height)&&((x395.Point.Bits==want_375.Point.Bits)&&((x395.Point.Time==want_375.Point.Time)&&((x395.Point.First==want_375.Point.First)&&((x395.Point.Hard==want_375.Point.Hard)&&true))))))))),(101,.one (.adr (.site 14) 5)),(102,.agg [.l (zH .u8 32 x395.Prev)]),(103,.one (.adr (.site 11) 5)),(104,.agg [.l (zH .u8 32 want_375.Prev)]),(105,.one (.l (uA (!(x395.Prev==want_375.Prev))))),(108,.one (.adr (.site 14) 37)),(109,.one (.h (.mem (.site 14) 37 0) 1 0 (zK x395.Times))),(110,sI (len x395.Times)),(111,.one (.adr (.site 11) 37)),(112,sV 1 want_375.Times),(113,sI (len want_375.Times)),(114,.one (.l (uA ((len x395.Times) != (len want_375.Times))))),(118,sI (len x395.Times)),(119,sI v398)] [(2,.cells p_0.ls),(11,.cells want_375.ls),(14,.cells s_404.lo)] st397
def Zab.p4.S (a_392:Option Nat) (i235:Nat) (v237:Int) (x236:Zaa) (v378:Int) (p_0:Zae) (want_375:Zaz) (st393:LL):S:=mkS 213 [(2,sA 2),(5,sP a_392),(7,sP (some i235)),(10,sI v237),(11,sA 11),(63,sI (len x236.List_)),(64,sI v237),(83,sI v378)] [(2,.cells p_0.ls),(11,.cells want_375.ls)] st393
def Zab.p3.S (a_338:Option Nat) (i235:Nat) (v237:Int) (x236:Zaa) (x342:LL) (v343:Int) (p_0:Zae) (want_375:Zaz) (st339:LL):S:=mkS 213 [(2,sA 2),(5,sP a_338),(7,sP (some i235)),(10,sI v237),(11,sA 11),(63,sI (len x236.List_)),(64,sI v237),(72,.one (.h (.row 71 0) 68 1 ((zK x342)-1))),(73,sI (((zK x342)-1:Nat):Int)),(74,sI v343)] [(2,.cells p_0.ls),(11,.cells want_375.ls),(71,.row 0 true 68 x342)] st339
def Zab.p7.S (i407:Nat) (x432:Zae) (v434:Int) (p_0:Zae) (st433:LL):S:=mkS 213 [(2,sA 2),(5,sP (some i407)),(19,sA 19),(158,sI (len x432.Gates)),(159,sI v434)] [(2,.cells p_0.ls),(19,.cells x432.lo)] st433
def Zab.p6.S (i407:Nat) (x408:Zae) (v410:Int) (p_0 q_430:Zae) (st409:LL):S:=mkS 213 [(2,sA 2),(5,sP (some i407)),(17,sA 17),(144,sI (len x408.Gates)),(145,sI v410)] [(2,.cells p_0.ls),(17,.cells q_430.lo)] st409
def Zab.p2.S (a_338:Option Nat) (i235:Nat) (x236:Zaa) (v237:Int) (p_0:Zae) (st339:LL):S:=mkS 213 [(2,sA 2),(5,sP a_338),(7,sP (some i235)),(63,sI (len x236.List_)),(64,sI v237)] [(2,.cells p_0.ls)] st339
def Zab.p1.S (x5 x8:Option Nat) (list_1:LL) (v10:Int) (p_0:Zae) (st225:LL):S:=mkS 213 [(2,sA 2),(5,sP x5),(7,sP x8),(40,sV 69 list_1),(41,sI (len list_1)),(42,sI v10)] [(2,.cells p_0.ls)] st225
theorem Zab.p5_ok {i394 i235 v237 x236 v378 x395 want_375 v398 p_0 s_404 st397 r c4_ c2_ c5_ J4 J2 J5} (h:Zab.p5 N c4_ c2_ i394 i235 v237 x236 v378 x395 want_375 p_0 st397 c5_ (v398,s_404)=some r) (hE:En Tryz.f3 g0 w0 (Zab.rs r) r.2 R) (hc4 : ∀a_392 v378 st393,c4_ (a_392,v378,st393)=some r→At g0 w0 (Zab.p4.S a_392 i235 v237 x236 v378 p_0 want_375 st393) J4) (hc2 : ∀a_338 v237 st339,c2_ (a_338,v237,st339)=some r→At g0 w0 (Zab.p2.S a_338 i235 x236 v237 p_0 st339) J2) (hc5 : ∀v398 s_404,c5_ (v398,s_404)=some r→At g0 w0 (Zab.p5.S i394 i235 v237 x236 v378 x395 want_375 v398 p_0 s_404 st397) J5):At g0 w0 (Zab.p5.S i394 i235 v237 x236 v378 x395 want_375 v398 p_0 s_404 st397) (XK zF R (.c (Zbn Zab.B [1,1,1,1,1,1,0,1,0,0,1,1,0,0,1,1,1,1,0,0,1,1,0,0,1,1,1,0,0]) :: .h J5 :: [.b 8,.b 7,.c (Zbn Zab.B [1,1,1,1,1,1,0,1,0,0,1,1,0,0,1,1,1,1,0,0,1,1,1]),.h J4,.b 6,.b 3,.c (Zbn Zab.B [1,1,1,1,1,1,0,1,0,0,1,1,1]),.h J2,.b 2,.c (Zbn Zab.B [1,1,1,1,1,1,1])])):=by
 unfold Zab.p5 at h
 refine ZaY h (fun c651 h1=>?_) (fun c651 h2=>?_)
 ·obtain ⟨c652,c653,h3⟩:=ck2 h1
  obtain ⟨x405,c654,h4⟩:=ZcK h3
  obtain ⟨c655,h5⟩:=ZaP h4
  obtain ⟨x406,c656,h6⟩:=ZcK h5
  let o1:List PS:=[.r [],.c true,.r [],.d {ds:=[(4,{oe:=[zI .i64 x405]}),(9,{oe:=[zI .i64 x406]})],hv:=0,Hs:=[]}]
  refine ZaY h6 (fun c657 h7=>?_) (fun c657 h8=>?_)
  ·obtain rfl:=Zac h7
   exact afd fol hE (o1 ++ [.c true,.r []]) [] 0 [] (aO c651 c652 c653 c654 c652 c655 c656 c657)
  ·exact ZiS fol (o1 ++ [.c false,.r [],.r []]) [2,5,7,10,11,14,63,64,83,94,95,96,97,98,101,102,103,104,105,108,109,110,111,112,113,114,118,119] [2,11,14] (aO c651 c652 c653 c654 c652 c655 c656 (aJ c657 c652 c653)) (hc5 (w64 (v398+1)) {s_404 with Times:=zP s_404.Times (0+(zE v398)) [zI .i64 (-1)]} h8)
 ·exact an fol [.r [],.c false,.r []] [2,5,7,10,11,63,64,83] [2,11] c651 (hc4 (some i394) (w64 (v378+1)) st397 h2)
theorem Zab.p4_ok {a_392 i235 v237 x236 v378 p_0 want_375 st393 r c2_ c4_ J2 J4} (h:Zab.p4 N c2_ i235 v237 x236 p_0 want_375 c4_ (a_392,v378,st393)=some r) (hE:En Tryz.f3 g0 w0 (Zab.rs r) r.2 R) (hc2 : ∀a_338 v237 st339,c2_ (a_338,v237,st339)=some r→At g0 w0 (Zab.p2.S a_338 i235 x236 v237 p_0 st339) J2) (hc4 : ∀a_392 v378 st393,c4_ (a_392,v378,st393)=some r→At g0 w0 (Zab.p4.S a_392 i235 v237 x236 v378 p_0 want_375 st393) J4):At g0 w0 (Zab.p4.S a_392 i235 v237 x236 v378 p_0 want_375 st393) (XK zF R (.c (Zbn Zab.B [1,1,1,1,1,1,0,1,0,0,1,1,0,0,1,1,1,1,0,0]) :: .h J4 :: [.b 6,.b 3,.c (Zbn Zab.B [1,1,1,1,1,1,0,1,0,0,1,1,1]),.h J2,.b 2,.c (Zbn Zab.B [1,1,1,1,1,1,1])])):=by
 unfold Zab.p4 at h
 refine ZaY h (fun c631 h9=>?_) (fun c631 h10=>?_)
 ·obtain ⟨i394,rfl,h11⟩:=Zaf h9
  obtain ⟨⟨x395,x396,st397⟩,c633,h12⟩:=Zaf h11
  obtain ⟨c634,h13⟩:=ZaP h12
  let o2:List PS:=[.r [],.c true,.r [(2,{rs:=[.row true 1 x395.Times,.agg (gs x395.ls 6),oB x396],st:=st397,m:=17}),(7,{mv:=[88]})]]
  have t1 {Q:Prop} (q:Q):=aO c631 (Zbo.sndW c633 c634) z0 (eN (zK x395.Times)) (not_true c634) (not_true c634) (not_true c634) (aK (not_true c634) (not_true c634) (not_true c634) q)
  refine ZaY h13 (fun c635 h14=>?_) (fun c635 h15=>?_)
  ·obtain rfl:=Zac h14
   exact af fol hE (o2 ++ [.r [(8,yF),(10,wF),(11,wF),(12,wF),(13,wF),(14,wF),(17,wF),(18,wF),(19,wF),(20,wF),(21,wF),(22,wF),(23,wF)],.c true,.r []]) [] 0 [] (t1 (aO c635 c635 c635 c635 c635 c635 eT (aO eT eT eT eT eT eT eT eT)))
  ·have t2 {Q:Prop} (q:Q):=t1 (aN c635 c635 c635 c635 c635 c635 q)
   refine ZaY h15 (fun c636 h16=>?_) (fun c636 h17=>?_)
   ·obtain rfl:=Zac h16
    exact af fol hE (o2 ++ [.r [(8,yF),(15,yF),(17,wF),(18,wF),(19,wF),(20,wF),(21,wF),(22,wF),(23,wF)],.c true,.r []]) [] 0 [] (t2 (aO c636 c636 c636 c636 c636 c636 c636 (aI c636 eT)))
   ·let o3:List PS:=o2 ++ [.r [(8,yF),(15,yF),(24,yF)]]
    have t3 {Q:Prop} (q:Q):=t2 (aO c636 c636 c636 c636 c636 c636 c636 (aI c636 q))
    refine ZaY h17 (fun c637 h18=>?_) (fun c637 h19=>?_)
    ·obtain rfl:=Zac h18
     exact af fol hE (o3 ++ [.c true,.r []]) [] 0 [] (t3 c637)
    ·exact aq fol (o3 ++ [.c false,.r []]) [2,5,7,10,11,14,63,64,83,94,95,96,97,98,101,102,103,104,105,108,109,110,111,112,113,114,118,119] [2,11,14] (t3 c637) (At.loop N (At.loopN (fun y:Int×Zaz=>Zab.p5.S i394 i235 v237 x236 v378 x395 want_375 y.1 p_0 y.2 st397) (fun c J hc y h=>Zab.p5_ok (v398:=y.1) (s_404:=y.2) h hE hc4 hc2 (fun v398 s_404=>hc (v398,s_404))) N (0,x395) h19))
 ·exact an fol [.r [],.c false,.r []] [2,5,7,63,64] [2] c631 (hc2 a_392 (w64 (v237+1)) st393 h10)
theorem Zab.p3_ok {a_338 i235 v237 x236 x342 v343 p_0 want_375 st339 r c2_ c3_ J2 J3} (h:Zab.p3 N c2_ a_338 i235 v237 x236 x342 p_0 st339 c3_ (v343,want_375)=some r) (hE:En Tryz.f3 g0 w0 (Zab.rs r) r.2 R) (hc2 : ∀a_338 v237 st339,c2_ (a_338,v237,st339)=some r→At g0 w0 (Zab.p2.S a_338 i235 x236 v237 p_0 st339) J2) (hc3 : ∀v343 want_375,c3_ (v343,want_375)=some r→At g0 w0 (Zab.p3.S a_338 i235 v237 x236 x342 v343 p_0 want_375 st339) J3):At g0 w0 (Zab.p3.S a_338 i235 v237 x236 x342 v343 p_0 want_375 st339) (XK zF R (.c (Zbn Zab.B [1,1,1,1,1,1,0,1,0,0,1,1,0,0,1,1,0,1,0,0]) :: .h J3 :: [.b 4,.c (Zbn Zab.B [1,1,1,1,1,1,0,1,0,0,1,1,0,0,1,1,1]),.b 3,.c (Zbn Zab.B [1,1,1,1,1,1,0,1,0,0,1,1,1]),.h J2,.b 2,.c (Zbn Zab.B [1,1,1,1,1,1,1])])):=by
 unfold Zab.p3 at h
 refine ZaY h (fun c600 h20=>?_) (fun c600 h21=>?_)
 ·obtain ⟨c601,h22⟩:=ZaP h20
  obtain ⟨x376,c602,h23⟩:=Zda h22
  obtain ⟨x377,c603,h24⟩:=Zaf h23
  exact an fol [.r [],.c true,.r [(1,{oe:=x376.ls})],.r [(3,q1 [.agg x377.ls])],.r []] [2,5,7,10,11,63,64,72,73,74] [2,11,71] (aL c600 c601 (oD c600) c602 (ZcE.snd c603)) (hc3 (w64 (v343+1)) x377 h24)
 ·exact aq fol [.r [],.c false,.r []] [2,5,7,10,11,63,64,83] [2,11] c600 (At.loop N (At.loopN (fun y:(Option Nat)×Int×LL=>Zab.p4.S y.1 i235 v237 x236 y.2.1 p_0 want_375 y.2.2) (fun c J hc y h=>Zab.p4_ok (a_392:=y.1) (v378:=y.2.1) (st393:=y.2.2) h hE hc2 (fun a_392 v378 st393=>hc (a_392,v378,st393))) N (a_338,0,st339) h21))
theorem Zab.p7_ok {i407 x432 v434 p_0 st433 r c7_ J7} (h:Zab.p7 N i407 x432 p_0 st433 c7_ v434=some r) (hE:En Tryz.f3 g0 w0 (Zab.rs r) r.2 R) (hc7 : ∀v434,c7_ v434=some r→At g0 w0 (Zab.p7.S i407 x432 v434 p_0 st433) J7):At g0 w0 (Zab.p7.S i407 x432 v434 p_0 st433) (XK zF R (.c (Zbn Zab.B [1,1,1,1,1,1,1,1,1,1,0,1,0,0]) :: .h J7 :: [.b 12,.c (Zbn Zab.B [1,1,1,1,1,1,1,1,1,1,1])])):=by
 unfold Zab.p7 at h
 refine ZaY h (fun c696 h25=>?_) (fun c696 h26=>?_)
 ·obtain ⟨c697,h27⟩:=ZaP h25
  obtain ⟨x435,c698,h28⟩:=ZcO h27
  obtain ⟨c699,h29⟩:=ZaP h28
  obtain ⟨x436,c700,h30⟩:=ZcO h29
  let o4:List PS:=[.r [],.c true,.r [],.d {ds:=[(4,{oe:=x435.ls}),(9,{oe:=x436.ls})],hv:=0,Hs:=[]}]
  have t4 {Q:Prop} (q:Q):=aO c696 c697 (oD c696) c698 c697 c699 c700 q
  refine ZaY h30 (fun c701 h31=>?_) (fun c701 h32=>?_)
  ·obtain rfl:=Zac h31
   exact afd fol hE (o4 ++ [.c true,.r []]) [] 0 [] (t4 c701)
  ·exact ZiS fol (o4 ++ [.c false,.r []]) [2,5,19,158,159] [2,19] (t4 c701) (hc7 (w64 (v434+1)) h32)
 ·obtain ⟨⟨x437,x438,st439⟩,c702,h33⟩:=Zaf h26
  let o5:List PS:=[.r [],.c false,.r [(1,{rs:=[.agg x437.ls,oB x438],st:=st439})]]
  have t5 {Q:Prop} (q:Q):=aJ c696 (Zbo.snd c702) q
  refine ZaY h33 (fun c703 h34=>?_) (fun c703 h35=>?_)
  ·have t6 {Q:Prop} (q:Q):=t5 (aN (not_false (ZbB c703)) (not_false (ZbB c703)) (not_false (ZbB c703)) (not_false (ZbB c703)) (not_false (ZbB c703)) (not_false (ZbB c703)) q)
   refine ZaY h34 (fun c704 h36=>?_) (fun c704 h37=>?_)
   ·have t7 {Q:Prop} (q:Q):=t6 (aN c704 c704 c704 c704 c704 c704 q)
    refine ZaY h36 (fun c705 h38=>?_) (fun c705 h39=>?_)
    ·have t8 {Q:Prop} (q:Q):=t7 (aO c705 c705 c705 c705 c705 c705 c705 (aI c705 q))
     refine ZaY h38 (fun c706 h40=>?_) (fun c706 h41=>?_)
     ·obtain rfl:=Zac h40
      exact af fol hE (o5 ++ [.r []]) [] 0 [] (t8 (aO c706 c706 c706 c706 c706 c706 c706 c706))
     ·obtain rfl:=Zac h41
      exact af fol hE (o5 ++ [.r [(26,wF),(27,wF),(28,wF),(29,wF),(30,wF),(31,wF),(32,wF),(33,yF)]]) [] 0 [] (t8 (aO c706 c706 c706 c706 c706 c706 c706 c706))
    ·obtain rfl:=Zac h39
     exact af fol hE (o5 ++ [.r [(17,wF),(18,wF),(19,wF),(20,wF),(21,wF),(22,wF),(23,wF),(24,yF),(26,wF),(27,wF),(28,wF),(29,wF),(30,wF),(31,wF),(32,wF),(33,yF)]]) [] 0 [] (t7 (aO c705 c705 c705 c705 c705 c705 c705 (aO c705 eF eF eF eF eF eF (aI eF eF))))
   ·obtain rfl:=Zac h37
    exact af fol hE (o5 ++ [.r [(10,wF),(11,wF),(12,wF),(13,wF),(14,wF),(15,yF),(17,wF),(18,wF),(19,wF),(20,wF),(21,wF),(22,wF),(23,wF),(24,yF),(26,wF),(27,wF),(28,wF),(29,wF),(30,wF),(31,wF),(32,wF),(33,yF)]]) [] 0 [] (t6 (aO c704 c704 c704 c704 c704 c704 eF (aO eF eF eF eF eF eF eF (aO eF eF eF eF eF eF eF eF))))
  ·obtain rfl:=Zac h35
   exact af fol hE (o5 ++ [.r [(3,wF),(4,wF),(5,wF),(6,wF),(7,wF),(8,yF),(10,wF),(11,wF),(12,wF),(13,wF),(14,wF),(15,yF),(17,wF),(18,wF),(19,wF),(20,wF),(21,wF),(22,wF),(23,wF),(24,yF),(26,wF),(27,wF),(28,wF),(29,wF),(30,wF),(31,wF),(32,wF),(33,yF)]]) [] 0 [] (t5 (aO (not_true (ZbC c703)) (not_true (ZbC c703)) (not_true (ZbC c703)) (not_true (ZbC c703)) (not_true (ZbC c703)) (not_true (ZbC c703)) eF (aO eF eF eF eF eF eF eF (aO eF eF eF eF eF eF eF (aN eF eF eF eF eF eF eF)))))
theorem Zab.p6_ok {i407 x408 v410 p_0 q_430 st409 r c6_ J6} (h:Zab.p6 N i407 x408 p_0 st409 c6_ (v410,q_430)=some r) (hE:En Tryz.f3 g0 w0 (Zab.rs r) r.2 R) (hc6 : ∀v410 q_430,c6_ (v410,q_430)=some r→At g0 w0 (Zab.p6.S i407 x408 v410 p_0 q_430 st409) J6):At g0 w0 (Zab.p6.S i407 x408 v410 p_0 q_430 st409) (XK zF R (.c (Zbn Zab.B [1,1,1,1,1,1,1,1,0,1,0,0]) :: .h J6 :: [.b 10,.c (Zbn Zab.B [1,1,1,1,1,1,1,1,1])])):=by
 unfold Zab.p6 at h
 refine ZaY h (fun c691 h42=>?_) (fun c691 h43=>?_)
 ·obtain ⟨c692,c693,h44⟩:=ck2 h42
  obtain ⟨x431,c694,h45⟩:=ZcO h44
  exact an fol [.r [],.c true,.r [],.r [(5,{oe:=x431.ls,yes:=false})],.r []] [2,5,17,144,145] [2,17] (aK c691 c692 c693 c694) (hc6 (w64 (v410+1)) {q_430 with Gates:=zP q_430.Gates (0+(zE v410)) (ZbR.ls {x431 with Height:=(-5)})} h45)
 ·obtain ⟨⟨x432,st433⟩,c695,h46⟩:=Zaf h43
  exact aq fol [.r [],.c false,.r [(1,{rs:=[.row true 2 x432.Gates,.agg (gs x432.ls 5)],st:=st433,m:=17}),(3,{mv:=[155]})],.r []] [2,5,19,158,159] [2,19] (aK c691 (Zbw.sndW c695) z0 (eN (zK x432.Gates))) (At.loop N (At.loopN (fun y:Int=>Zab.p7.S i407 x432 y p_0 st433) (fun c J hc y h=>Zab.p7_ok h hE (fun v434=>hc v434)) N 0 h46))
theorem Zab.p2_ok {a_338 i235 x236 v237 p_0 st339 r c2_ J2} (h:Zab.p2 N i235 x236 p_0 c2_ (a_338,v237,st339)=some r) (hE:En Tryz.f3 g0 w0 (Zab.rs r) r.2 R) (hc2 : ∀a_338 v237 st339,c2_ (a_338,v237,st339)=some r→At g0 w0 (Zab.p2.S a_338 i235 x236 v237 p_0 st339) J2):At g0 w0 (Zab.p2.S a_338 i235 x236 v237 p_0 st339) (XK zF R (.c (Zbn Zab.B [1,1,1,1,1,1,0,1,0,0]) :: .h J2 :: [.b 2,.c (Zbn Zab.B [1,1,1,1,1,1,1])])):=by
 unfold Zab.p2 at h
 refine ZaY h (fun c536 h47=>?_) (fun c536 h48=>?_)
 ·obtain ⟨x340,c537,h49⟩:=Zaf h47
  obtain ⟨x341,c538,h50⟩:=Zci h49
  obtain ⟨x342,c539,h51⟩:=Zaf h50
  obtain ⟨c540,c541,h52⟩:=ck2 h51
  exact aq fol [.r [],.c true,.r [],.r [(1,q1 [.agg x340.ls])],.r [(2,{rs:=[.row true 68 x342],ns:=[71],m:=10,cv:=[.one (L.bx 88 x341.ls)]})]] [2,5,7,10,11,63,64,72,73,74] [2,11,71] (aO c536 (ZdV.snd c537) (bO 88 c538 (Zaa.bv x341)) c540 (ZaH.snd c539) (leI 0 1) c541 (Nat.le_refl (zK x342))) (At.loop N (At.loopN (fun y:Int×Zaz=>Zab.p3.S a_338 i235 v237 x236 x342 y.1 p_0 y.2 st339) (fun c J hc y h=>Zab.p3_ok (v343:=y.1) (want_375:=y.2) h hE hc2 (fun v343 want_375=>hc (v343,want_375))) N (0,x340) h52))
 ·obtain ⟨i407,rfl,h53⟩:=Zaf h48
  obtain ⟨⟨x408,st409⟩,c659,h54⟩:=Zaf h53
  exact aq fol [.r [],.c false,.r [(1,{rs:=[.row true 2 x408.Gates,.agg (gs x408.ls 5)],st:=st409,m:=17}),(3,{mv:=[141]})],.r []] [2,5,17,144,145] [2,17] (aK c536 (Zbw.sndW c659) z0 (eN (zK x408.Gates))) (At.loop N (At.loopN (fun y:Int×Zae=>Zab.p6.S i407 x408 y.1 p_0 y.2 st409) (fun c J hc y h=>Zab.p6_ok (v410:=y.1) (q_430:=y.2) h hE (fun v410 q_430=>hc (v410,q_430))) N (0,x408) h54))
theorem Zab.p1_ok {x5 x8 list_1 v10 p_0 st225 r c1_ J1} (h:Zab.p1 N x5 x8 list_1 p_0 c1_ (v10,st225)=some r) (hE:En Tryz.f3 g0 w0 (Zab.rs r) r.2 R) (hc1 : ∀v10 st225,c1_ (v10,st225)=some r→At g0 w0 (Zab.p1.S x5 x8 list_1 v10 p_0 st225) J1):At g0 w0 (Zab.p1.S x5 x8 list_1 v10 p_0 st225) (XK zF R (.c (Zbn Zab.B [1,1,1,1,1,0,1,0,0]) :: .h J1 :: [.b 0,.c (Zbn Zab.B [1,1,1,1,1,1])])):=by
 unfold Zab.p1 at h
 refine ZaY h (fun c358 h55=>?_) (fun c358 h56=>?_)
 ·obtain ⟨c359,h57⟩:=ZaP h55
  obtain ⟨x226,c360,h58⟩:=Zea h57
  obtain ⟨⟨x227,x228,x229,st230⟩,c361,h59⟩:=Zaf h58
  obtain ⟨⟨x231,x232,x233,st234⟩,c362,h60⟩:=Zaf h59
  exact an fol [.r [],.c true,.r [(1,{oe:=x226.ls})],.r [(5,{rs:=[oI x227,oI x228,oI x229],st:=st230})],.r [(5,{rs:=[oI x231,oI x232,oI x233],st:=st234})],.r []] [2,5,7,40,41,42] [2] (aM c358 c359 (oD c358) c360 (ZaB.snd c361) (Zcn.snd c362)) (hc1 (w64 (v10+1)) st234 h60)
 ·obtain ⟨i235,rfl,h61⟩:=Zaf h56
  obtain ⟨x236,c364,h62⟩:=Zci h61
  exact aq fol [.r [],.c false,.r [(3,{oc:=x236.lo})]] [2,5,7,63,64] [2] (aI c358 c364) (At.loop N (At.loopN (fun y:(Option Nat)×Int×LL=>Zab.p2.S y.1 i235 x236 y.2.1 p_0 y.2.2) (fun c J hc y h=>Zab.p2_ok (a_338:=y.1) (v237:=y.2.1) (st339:=y.2.2) h hE (fun a_338 v237 st339=>hc (a_338,v237,st339))) N (x5,0,st225) h62))
theorem Zab.snd {p_0:Zae} {list_1:LL} {st:LL} {r:Bool×LL} (h:Zab N p_0 list_1 st=some r):Snd zF 3 [.agg p_0.ls,.one (L.sl 69 list_1)] st (Zab.rs r) r.2:=
 sO Zab.B Tryz.func3 fun g0 w0 R hE=>by
  unfold Zab at h
  obtain ⟨⟨x1,st2⟩,c1,h63⟩:=Zaf h
  let o6:List PS:=[.r [],.r [(0,{rs:=[oB x1],st:=st2})]]
  have t9 {Q:Prop} (q:Q):=aI (ZcY.snd c1) q
  refine ZaY h63 (fun c2 h64=>?_) (fun c2 h65=>?_)
  ·obtain rfl:=Zac h64
   exact af fol hE (o6 ++ [.c true,.r []]) [] 0 [] (t9 c2)
  ·obtain ⟨x3,c3,h66⟩:=Zaf h65
   have t10 {Q:Prop} (q:Q):=t9 (aJ c2 (ZbD.snd c3) q)
   refine ZaY h66 (fun c4 h67=>?_) (fun c4 h68=>?_)
   ·obtain rfl:=Zac h67
    exact af fol hE (o6 ++ [.c false,.r [(2,q1 [oB x3]),(4,wF),(5,wF),(6,wF)],.c true,.r []]) [] 0 [] (t10 (aL c4 c4 c4 c4 eT))
   ·obtain ⟨x4,c5,h69⟩:=Zaf h68
    let o7:List PS:=o6 ++ [.c false,.r [(2,q1 [oB x3]),(5,q1 [oB x4]),(7,yF)]]
    refine ZaY h69 (fun c6 h70=>?_) (fun c6 h71=>?_)
    ·obtain rfl:=Zac h70
     exact af fol hE (o7 ++ [.c true,.r []]) [] 0 [] (t10 (aM c4 c4 (ZaW.snd c5) c4 c4 c6))
    ·obtain ⟨⟨x5,x6,st7⟩,c7,h72⟩:=Zaf h71
     obtain ⟨⟨x8,st9⟩,c8,h73⟩:=Zaf h72
     exact aq fol (o7 ++ [.c false,.r [(1,{rs:=[.one (L.ptr x5),oI x6],st:=st7})],.r [(1,{rs:=[.one (L.ptr x8)],st:=st9})],.r []]) [2,5,7,40,41,42] [2] (t10 (aO c4 c4 (ZaW.snd c5) c4 c4 c6 (ZdA.snd c7) (ZdJ.snd c8))) (At.loop N (At.loopN (fun y:Int×LL=>Zab.p1.S x5 x8 list_1 y.1 p_0 y.2) (fun c J hc y h=>Zab.p1_ok (v10:=y.1) (st225:=y.2) h hE (fun v10 st225=>hc (v10,st225))) N (0,st9) h73))
end Go.Dn.F
end
