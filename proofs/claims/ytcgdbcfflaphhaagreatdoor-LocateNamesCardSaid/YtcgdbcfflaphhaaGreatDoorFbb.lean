/- Contracts of functions of the program, as shallow functions, and their proofs. -/
import Derived.Test.YtcgdbcfflaphhaaGreatDoorFba
set_option linter.all false
set_option maxRecDepth 100000
namespace Go.Dn.F
open Go.Proofs
variable {N:Nat} {g0:G} {w0:World} {R:Exit→Act→World→Prop}
noncomputable def Zbs.B:Code:=Tryz.f217.body.getD .skip
noncomputable def Zbs.rs (r:(List Int)):List CV:=[.agg [L.arr .u64 4 r]]
noncomputable def Zbs.p1 (N:Nat) (h_0_0:List Int) (c1_:(Int×(List Int))→Option (List Int)):(Int×(List Int))→Option (List Int):=fun (v1,out_2)=>
 if (decide (v1<32))=true then
  chk (0≤v1)<|
  chk (0≤(w64 (Int.tdiv v1 8)))<|
  chk ((w64 (Int.tdiv v1 8))<4)<|
  chk (0≤(w64 (8*(Int.tmod v1 8))))<|
  c1_ (w64 (v1+1),List.set out_2 (Int.toNat (w64 (Int.tdiv v1 8))) (bitsOf .or .u64 (List.getD out_2 (Int.toNat (w64 (Int.tdiv v1 8))) 0) (shlOf .u64 (v64 (List.getD h_0_0 (Int.toNat v1) 0)) (w64 (8*(Int.tmod v1 8))))))
 else
 some out_2
noncomputable def Zbs (N:Nat) (h_0_0:List Int):Option (List Int):=
 loopN (Zbs.p1 N h_0_0) N (0,List.replicate 4 0)
noncomputable def Zbs.p1.S (h_0_0:List Int) (v1:Int) (out_2:List Int) (st:LL):S:=mkS 25 [(2,sA 2),(3,sA 3),(6,.agg [.l (L.arr .u8 32 h_0_0)]),(7,sI v1)] [(2,.cells [L.arr .u64 4 (List.replicate 4 0)]),(3,.cells [L.arr .u64 4 out_2])] st
theorem Zbs.p1_ok {h_0_0 v1 out_2 st r c1_ J1} (h:Zbs.p1 N h_0_0 c1_ (v1,out_2)=some r) (hE:En Tryz.f217 g0 w0 (Zbs.rs r) st R) (hc1 : ∀v1 out_2,c1_ (v1,out_2)=some r→At g0 w0 (Zbs.p1.S h_0_0 v1 out_2 st) J1):At g0 w0 (Zbs.p1.S h_0_0 v1 out_2 st) (XK Tryz.prog R (.c (csub Zbs.B [1,1,0,1,0,0]) :: .h J1 :: [.b 0,.c (csub Zbs.B [1,1,1])])):=by
 unfold Zbs.p1 at h
 refine iteB h (fun c6 h1=>?_) (fun c6 h2=>?_)
 ·obtain ⟨c7,c8,c9,c10,h3⟩:=ck4 h1
  exact and_ fol [.r [],.c true,.r [],.d {ds:=[],hv:=4096,Hs:=[4096]},.r []] [2,3,6,7] [2,3] (aO c6 c7 (oD c6) (neI 8) c8 c9 (neI 8) (aJ c10 c8 c9)) (hc1 (w64 (v1+1)) (List.set out_2 (Int.toNat (w64 (Int.tdiv v1 8))) (bitsOf .or .u64 (List.getD out_2 (Int.toNat (w64 (Int.tdiv v1 8))) 0) (shlOf .u64 (v64 (List.getD h_0_0 (Int.toNat v1) 0)) (w64 (8*(Int.tmod v1 8)))))) h3)
 ·obtain rfl:=Zab h2
  exact af fol hE [.r [],.c false,.r []] [] 0 [] c6
theorem Zbs.snd {h_0_0:List Int} {r:(List Int)} (h:Zbs N h_0_0=some r):SndQ Tryz.prog 217 [.agg [L.arr .u8 32 h_0_0]] (Zbs.rs r):=fun st=>
 sO Zbs.B Tryz.func217 fun g0 w0 R hE=>by
  unfold Zbs at h
  exact aq fol [.r [],.r [],.r []] [2,3,6,7] [2,3] trivial (At.loop N (At.loopN (fun y:Int×(List Int)=>Zbs.p1.S h_0_0 y.1 y.2 st) (fun c J hc y h=>Zbs.p1_ok (v1:=y.1) (out_2:=y.2) h hE (fun v1 out_2=>hc (v1,out_2))) N (0,List.replicate 4 0) h))
noncomputable def ZcZ.B:Code:=Tryz.f190.body.getD .skip
noncomputable def ZcZ.rs (r:Bool):List CV:=[oB r]
noncomputable def ZcZ (N:Nat) (h_0_0 target_1_0:List Int):Option Bool:=
 optE (Zbs N h_0_0) fun x1=>
 optE (ZcO N target_1_0 x1) fun x2=>
 some (!x2)
theorem ZcZ.snd {h_0_0 target_1_0:List Int} {r:Bool} (h:ZcZ N h_0_0 target_1_0=some r):SndQ Tryz.prog 190 [.agg [L.arr .u8 32 h_0_0],.agg [L.arr .u64 4 target_1_0]] (ZcZ.rs r):=fun st=>
 sO ZcZ.B Tryz.func190 fun g0 w0 R hE=>by
  unfold ZcZ at h
  obtain ⟨x1,c1,h1⟩:=Zad h
  obtain ⟨x2,c2,h2⟩:=Zad h1
  obtain rfl:=Zab h2
  exact afd fol hE [.r [],.d {ds:=[(2,q1 [.agg [L.arr .u64 4 x1]]),(3,q1 [oB x2])],hv:=0,Hs:=[]}] [] 0 [] (aI (Zbs.snd c1) (ZcO.snd c2))
noncomputable def ZdE.B:Code:=Tryz.f150.body.getD .skip
noncomputable def ZdE.rs (r:Int):List CV:=[oI r]
noncomputable def ZdE (N:Nat) (p_0:Zae) (h_1:Zai):Option Int:=
 optE (Zcr N h_1) fun x1=>
 if (!x1)=true then
  some 1
 else
 optE (Zcn N h_1.Bits p_0.Limit) fun (x2,x3)=>
 if (!x3)=true then
  some 4
 else
 optE (Zdh N h_1) fun x4=>
 optE (ZcZ N x4 x2) fun x5=>
 if (!x5)=true then
  some 4
 else
 some 0
theorem ZdE.snd {p_0:Zae} {h_1:Zai} {r:Int} (h:ZdE N p_0 h_1=some r):SndQ Tryz.prog 150 [.agg p_0.ls,.agg h_1.ls] (ZdE.rs r):=fun st=>
 sO ZdE.B Tryz.func150 fun g0 w0 R hE=>by
  unfold ZdE at h
  obtain ⟨x1,c1,h1⟩:=Zad h
  let o1:List PS:=[.r [],.r [(1,q1 [oB x1])]]
  have t1 {Q:Prop} (q:Q):=aI (Zcr.snd c1) q
  refine iteB h1 (fun c2 h2=>?_) (fun c2 h3=>?_)
  ·obtain rfl:=Zab h2
   exact af fol hE (o1 ++ [.c true,.r []]) [] 0 [] (t1 c2)
  ·obtain ⟨⟨x2,x3⟩,c3,h4⟩:=Zad h3
   let o2:List PS:=o1 ++ [.c false,.r [(4,q1 [.agg [L.arr .u64 4 x2],oB x3])]]
   have t2 {Q:Prop} (q:Q):=t1 (aJ c2 (Zcn.snd c3) q)
   refine iteB h4 (fun c4 h5=>?_) (fun c4 h6=>?_)
   ·obtain rfl:=Zab h5
    exact afd fol hE (o2 ++ [.d {ds:=[(3,wF),(4,wF),(5,wF),(6,wF),(7,wF)],hv:=0,Hs:=[]},.c true,.r []]) [] 0 [] (t2 (aN (not_false (Zby c4)) (not_false (Zby c4)) (not_false (Zby c4)) (not_false (Zby c4)) (not_false (Zby c4)) (not_false (Zby c4)) eT))
   ·obtain ⟨x4,c5,h7⟩:=Zad h6
    obtain ⟨x5,c6,h8⟩:=Zad h7
    let o3:List PS:=o2 ++ [.d {ds:=[(4,q1 [.agg [L.arr .u8 32 x4]]),(6,q1 [oB x5]),(8,yF)],hv:=0,Hs:=[]}]
    have t3 {Q:Prop} (q:Q):=t2 (aO (not_true (Zbz c4)) (not_true (Zbz c4)) (Zdh.snd c5) (not_true (Zbz c4)) (not_true (Zbz c4)) (ZcZ.snd c6) (not_true (Zbz c4)) (aI (not_true (Zbz c4)) q))
    refine iteB h8 (fun c7 h9=>?_) (fun c7 h10=>?_)
    ·obtain rfl:=Zab h9
     exact afd fol hE (o3 ++ [.c true,.r []]) [] 0 [] (t3 c7)
    ·obtain rfl:=Zab h10
     exact afd fol hE (o3 ++ [.c false,.r []]) [] 0 [] (t3 c7)
noncomputable def Zeh.B:Code:=Tryz.f162.body.getD .skip
noncomputable def Zeh.rs (r:Int):List CV:=[oI r]
noncomputable def Zeh (N:Nat) (times_0:LL):Option Int:=
 chk (0≤(if (11:Int)<(len times_0) then 11 else (len times_0)))<|
 chk ((Int.toNat (if (11:Int)<(len times_0) then 11 else (len times_0)))≤(List.length times_0))<|
 optE (ZbB N (List.take (Int.toNat (if (11:Int)<(len times_0) then 11 else (len times_0))) (List.drop 0 times_0))) fun x1=>
 if ((len x1)==0)=true then
  some 0
 else
 chk (isI x1=true)<|
 chk (List.length x1<4611686018427387904)<|
 chk (0≤(w64 (Int.tdiv (len x1) 2)))<|
 chk ((w64 (Int.tdiv (len x1) 2))<(len x1))<|
 getE ((sortR x1)[0+(Int.toNat (w64 (Int.tdiv (len x1) 2)))]?) ZcG fun x2=>
 some x2
theorem Zeh.snd {times_0:LL} {r:Int} (h:Zeh N times_0=some r):SndQ Tryz.prog 162 [.one (L.sl 1 times_0)] (Zeh.rs r):=fun st=>
 sO Zeh.B Tryz.func162 fun g0 w0 R hE=>by
  unfold Zeh at h
  obtain ⟨c1,c2,h1⟩:=ck2 h
  obtain ⟨x1,c3,h2⟩:=Zad h1
  let o1:List PS:=[.r [],.r [(5,{rs:=[.row true 1 x1],ns:=[9],m:=1})],.r []]
  have t1 {Q:Prop} (q:Q):=aL c1 (Nat.zero_le (Int.toNat (if (11:Int)<(len times_0) then 11 else (len times_0)))) c2 (ZbB.snd c3) q
  refine iteB h2 (fun c4 h3=>?_) (fun c4 h4=>?_)
  ·obtain rfl:=Zab h3
   exact af fol hE (o1 ++ [.c true,.r []]) [] 0 [] (t1 c4)
  ·obtain ⟨c5,c6,c7,c8,h5⟩:=ck4 h4
   obtain ⟨x2,c9,h6⟩:=Zcf h5
   obtain rfl:=Zab h6
   exact af fol hE (o1 ++ [.c false,.r [(1,{m:=7})],.r [(5,{oe:=[L.int .i64 x2]})]]) [] 0 [] (t1 (aO c4 z0 (@rfl _ (List.length x1):(List.length x1)=(List.length x1)) c5 c6 slices_Sort_int.snd (neI 2) (aJ c7 c8 c9)))
noncomputable def Zdg.B:Code:=Tryz.f151.body.getD .skip
noncomputable def Zdg.rs (r:Bool):List CV:=[oB r]
noncomputable def Zdg (N:Nat) (time_0:Int) (times_1:LL):Option Bool:=
 if ((len times_1)==0)=true then
  some true
 else
 optE (Zeh N times_1) fun x1=>
 some (decide (time_0>x1))
theorem Zdg.snd {time_0:Int} {times_1:LL} {r:Bool} (h:Zdg N time_0 times_1=some r):SndQ Tryz.prog 151 [oI time_0,.one (L.sl 1 times_1)] (Zdg.rs r):=fun st=>
 sO Zdg.B Tryz.func151 fun g0 w0 R hE=>by
  unfold Zdg at h
  refine iteB h (fun c1 h1=>?_) (fun c1 h2=>?_)
  ·obtain rfl:=Zab h1
   exact af fol hE [.r [],.r [(4,wF),(5,wF),(6,wF),(7,wF)]] [] 0 [] (aL c1 c1 c1 c1 c1)
  ·obtain ⟨x1,c2,h3⟩:=Zad h2
   obtain rfl:=Zab h3
   exact af fol hE [.r [],.r [(6,q1 [oI x1]),(8,yF)]] [] 0 [] (aM c1 c1 c1 (Zeh.snd c2) c1 c1)
noncomputable def ZdF.B:Code:=Tryz.f152.body.getD .skip
noncomputable def ZdF.rs (r:Bool):List CV:=[oB r]
noncomputable def ZdF (N:Nat) (time_0 now_1 future_2:Int):Option Bool:=
 if (decide (future_2≥0))=true then
  if (decide (time_0≤now_1))=true then
   some true
  else
  some (decide ((w64 (time_0-now_1))≤future_2))
 else
 some false
theorem ZdF.snd {time_0 now_1 future_2:Int} {r:Bool} (h:ZdF N time_0 now_1 future_2=some r):SndQ Tryz.prog 152 [oI time_0,oI now_1,oI future_2] (ZdF.rs r):=fun st=>
 sO ZdF.B Tryz.func152 fun g0 w0 R hE=>by
  unfold ZdF at h
  refine iteB h (fun c1 h1=>?_) (fun c1 h2=>?_)
  ·refine iteB h1 (fun c2 h3=>?_) (fun c2 h4=>?_)
   ·obtain rfl:=Zab h3
    exact af fol hE [.r [],.r [(7,wF),(8,wF),(9,wF),(10,wF),(11,wF)]] [] 0 [] (aO c1 c1 c1 c1 c2 c2 c2 (aL c2 c2 c1 c2 c1))
   ·obtain rfl:=Zab h4
    exact af fol hE [.r [],.r [(12,yF)]] [] 0 [] (aO c1 c1 c1 c1 c2 c2 c2 (aL c2 c2 c1 c2 c1))
  ·obtain rfl:=Zab h2
   exact af fol hE [.r [],.r [(3,wF),(4,wF),(5,wF),(6,wF),(12,wF),(13,yF)]] [] 0 [] (aM c1 c1 c1 c1 c1 c1)
noncomputable def Zba.B:Code:=Tryz.f153.body.getD .skip
noncomputable def Zba.rs (r:Int):List CV:=[oI r]
noncomputable def Zba.p2 (N:Nat) (c1_:(Int×Int)→Option Int) (height_0 least_4:Int) (gates_1:LL) (v2:Int):Option Int:=
 c1_ (least_4,w64 (v2+1))
noncomputable def Zba.p1 (N:Nat) (height_0:Int) (gates_1:LL) (c1_:(Int×Int)→Option Int):(Int×Int)→Option Int:=fun (least_1,v2)=>
 if (decide (v2<(len gates_1)))=true then
  chk (0≤v2)<|
  getE (gates_1[Int.toNat v2]?) ZdU fun x3=>
  if (decide (height_0≥x3.Height))=true then
   Zba.p2 N c1_ height_0 (if x3.Version>least_1 then x3.Version else least_1) gates_1 v2
  else
  Zba.p2 N c1_ height_0 least_1 gates_1 v2
 else
 some least_1
noncomputable def Zba (N:Nat) (height_0:Int) (gates_1:LL):Option Int:=
 loopN (Zba.p1 N height_0 gates_1) N ((-2147483648),0)
noncomputable def Zba.p2.S (height_0 least_4:Int) (gates_1:LL) (v2:Int) (st:LL):S:=mkS 24 [(0,sI height_0),(5,sI least_4),(8,sV 2 gates_1),(9,sI (len gates_1)),(10,sI v2)] [] st
noncomputable def Zba.p1.S (height_0 least_1:Int) (gates_1:LL) (v2:Int) (st:LL):S:=mkS 24 [(0,sI height_0),(5,sI least_1),(8,sV 2 gates_1),(9,sI (len gates_1)),(10,sI v2)] [] st
theorem Zba.p2_ok {height_0 least_4 gates_1 v2 st r c1_ J1} (h:Zba.p2 N c1_ height_0 least_4 gates_1 v2=some r) (hE:En Tryz.f153 g0 w0 (Zba.rs r) st R) (hc1 : ∀least_1 v2,c1_ (least_1,v2)=some r→At g0 w0 (Zba.p1.S height_0 least_1 gates_1 v2 st) J1):At g0 w0 (Zba.p2.S height_0 least_4 gates_1 v2 st) (XK Tryz.prog R [.c (csub Zba.B [1,1,0,1,0,0,1,1,1]),.h J1,.b 0,.c (csub Zba.B [1,1,1])]):=by
 unfold Zba.p2 at h
 exact an fol [.r []] [0,5,8,9,10] [] trivial (hc1 least_4 (w64 (v2+1)) h)
theorem Zba.p1_ok {height_0 least_1 gates_1 v2 st r c1_ J1} (h:Zba.p1 N height_0 gates_1 c1_ (least_1,v2)=some r) (hE:En Tryz.f153 g0 w0 (Zba.rs r) st R) (hc1 : ∀least_1 v2,c1_ (least_1,v2)=some r→At g0 w0 (Zba.p1.S height_0 least_1 gates_1 v2 st) J1):At g0 w0 (Zba.p1.S height_0 least_1 gates_1 v2 st) (XK Tryz.prog R (.c (csub Zba.B [1,1,0,1,0,0]) :: .h J1 :: [.b 0,.c (csub Zba.B [1,1,1])])):=by
 unfold Zba.p1 at h
 refine iteB h (fun c1 h1=>?_) (fun c1 h2=>?_)
 ·obtain ⟨c2,h3⟩:=ZaI h1
  obtain ⟨x3,c3,h4⟩:=ZdX h3
  let o1:List PS:=[.r [],.c true,.r [(1,{oe:=x3.ls})],.r []]
  refine iteB h4 (fun c4 h5=>?_) (fun c4 h6=>?_)
  ·exact aq fol (o1 ++ [.c true,.r [],.s 4]) [0,5,8,9,10] [] (aL c1 c2 (oD c1) c3 c4) (Zba.p2_ok h5 hE hc1)
  ·exact aq fol (o1 ++ [.c false,.s 4]) [0,5,8,9,10] [] (aL c1 c2 (oD c1) c3 c4) (Zba.p2_ok h6 hE hc1)
 ·obtain rfl:=Zab h2
  exact af fol hE [.r [],.c false,.r []] [] 0 [] c1
theorem Zba.snd {height_0:Int} {gates_1:LL} {r:Int} (h:Zba N height_0 gates_1=some r):SndQ Tryz.prog 153 [oI height_0,.one (L.sl 2 gates_1)] (Zba.rs r):=fun st=>
 sO Zba.B Tryz.func153 fun g0 w0 R hE=>by
  unfold Zba at h
  exact aq fol [.r [],.r [],.r []] [0,5,8,9,10] [] trivial (At.loop N (At.loopN (fun y:Int×Int=>Zba.p1.S height_0 y.1 gates_1 y.2 st) (fun c J hc y h=>Zba.p1_ok (least_1:=y.1) (v2:=y.2) h hE (fun least_1 v2=>hc (least_1,v2))) N ((-2147483648),0) h))
noncomputable def ZbS.B:Code:=Tryz.f154.body.getD .skip
noncomputable def ZbS.rs (r:Bool):List CV:=[oB r]
noncomputable def ZbS.p1 (N:Nat) (height_0:Int) (checks_2:LL) (id_1_0:List Int) (c1_:Int→Option Bool):Int→Option Bool:=fun v1=>
 if (decide (v1<(len checks_2)))=true then
  chk (0≤v1)<|
  getE (checks_2[Int.toNat v1]?) ZdM fun x2=>
  if (x2.Height==height_0)=true then
   if (!(x2.Id==id_1_0))=true then
    some false
   else
   c1_ (w64 (v1+1))
  else
  c1_ (w64 (v1+1))
 else
 some true
noncomputable def ZbS (N:Nat) (height_0:Int) (id_1_0:List Int) (checks_2:LL):Option Bool:=
 loopN (ZbS.p1 N height_0 checks_2 id_1_0) N 0
noncomputable def ZbS.p1.S (height_0:Int) (checks_2:LL) (v1:Int) (id_1_0:List Int) (st:LL):S:=mkS 26 [(0,sI height_0),(4,sA 4),(9,sV 33 checks_2),(10,sI (len checks_2)),(11,sI v1)] [(4,.cells [L.arr .u8 32 id_1_0])] st
theorem ZbS.p1_ok {height_0 checks_2 v1 id_1_0 st r c1_ J1} (h:ZbS.p1 N height_0 checks_2 id_1_0 c1_ v1=some r) (hE:En Tryz.f154 g0 w0 (ZbS.rs r) st R) (hc1 : ∀v1,c1_ v1=some r→At g0 w0 (ZbS.p1.S height_0 checks_2 v1 id_1_0 st) J1):At g0 w0 (ZbS.p1.S height_0 checks_2 v1 id_1_0 st) (XK Tryz.prog R (.c (csub ZbS.B [1,0,1,0,0]) :: .h J1 :: [.b 0,.c (csub ZbS.B [1,1])])):=by
 unfold ZbS.p1 at h
 refine iteB h (fun c1 h1=>?_) (fun c1 h2=>?_)
 ·obtain ⟨c2,h3⟩:=ZaI h1
  obtain ⟨x2,c3,h4⟩:=ZdR h3
  let o1:List PS:=[.r [],.c true,.r [(1,{oe:=x2.ls})]]
  refine iteB h4 (fun c4 h5=>?_) (fun c4 h6=>?_)
  ·have t1 {Q:Prop} (q:Q):=aO c1 c2 (oD c1) c3 c4 c4 c4 (aJ c4 c4 q)
   refine iteB h5 (fun c5 h7=>?_) (fun c5 h8=>?_)
   ·obtain rfl:=Zab h7
    exact af fol hE (o1 ++ [.r [],.c true,.r []]) [] 0 [] (t1 c5)
   ·exact an fol (o1 ++ [.r [],.c false,.r []]) [0,4,9,10,11] [4] (t1 c5) (hc1 (w64 (v1+1)) h8)
  ·exact an fol (o1 ++ [.r [(5,wF),(6,wF),(7,wF),(8,wF),(9,yF)],.c false,.r []]) [0,4,9,10,11] [4] (aO c1 c2 (oD c1) c3 c4 c4 c4 (aJ c4 c4 eF)) (hc1 (w64 (v1+1)) h6)
 ·obtain rfl:=Zab h2
  exact af fol hE [.r [],.c false,.r []] [] 0 [] c1
theorem ZbS.snd {height_0:Int} {id_1_0:List Int} {checks_2:LL} {r:Bool} (h:ZbS N height_0 id_1_0 checks_2=some r):SndQ Tryz.prog 154 [oI height_0,.agg [L.arr .u8 32 id_1_0],.one (L.sl 33 checks_2)] (ZbS.rs r):=fun st=>
 sO ZbS.B Tryz.func154 fun g0 w0 R hE=>by
  unfold ZbS at h
  exact aq fol [.r [],.r []] [0,4,9,10,11] [4] trivial (At.loop N (At.loopN (fun y:Int=>ZbS.p1.S height_0 checks_2 y id_1_0 st) (fun c J hc y h=>ZbS.p1_ok h hE (fun v1=>hc v1)) N 0 h))
noncomputable def ZdN.B:Code:=Tryz.f92.body.getD .skip
noncomputable def ZdN.rs (r:Int):List CV:=[oI r]
noncomputable def ZdN (N:Nat) (p_0:Zae) (at_1:ZaN) (h_2:Zai) (now_3:Int):Option Int:=
 optE (Zcr N h_2) fun x1=>
 if (!x1)=true then
  some 1
 else
 if (!(h_2.Prev==at_1.Prev))=true then
  some 2
 else
 optE (Zeg N p_0 at_1.Point h_2.Time) fun x2=>
 if (h_2.Bits != x2)=true then
  some 3
 else
 optE (ZdE N p_0 h_2) fun x3=>
 if (x3 != 0)=true then
  some 4
 else
 optE (Zdg N h_2.Time at_1.Times) fun x4=>
 if (!x4)=true then
  some 5
 else
 optE (ZdF N h_2.Time now_3 p_0.Future) fun x5=>
 if (!x5)=true then
  some 6
 else
 optE (Zba N at_1.Point.Height p_0.Gates) fun x6=>
 if (decide (h_2.Version<x6))=true then
  some 7
 else
 optE (Zdh N h_2) fun x7=>
 optE (ZbS N at_1.Point.Height x7 p_0.Checks) fun x8=>
 if (!x8)=true then
  some 8
 else
 some 0
theorem ZdN.snd {p_0:Zae} {at_1:ZaN} {h_2:Zai} {now_3:Int} {r:Int} (h:ZdN N p_0 at_1 h_2 now_3=some r):SndQ Tryz.prog 92 [.agg p_0.ls,.agg at_1.ls,.agg h_2.ls,oI now_3] (ZdN.rs r):=fun st=>
 sO ZdN.B Tryz.func92 fun g0 w0 R hE=>by
  unfold ZdN at h
  obtain ⟨x1,c1,h1⟩:=Zad h
  let o1:List PS:=[.r [],.r [(1,q1 [oB x1])]]
  have t1 {Q:Prop} (q:Q):=aI (Zcr.snd c1) q
  refine iteB h1 (fun c2 h2=>?_) (fun c2 h3=>?_)
  ·obtain rfl:=Zab h2
   exact af fol hE (o1 ++ [.c true,.r []]) [] 0 [] (t1 c2)
  ·let o2:List PS:=o1 ++ [.c false,.r []]
   refine iteB h3 (fun c3 h4=>?_) (fun c3 h5=>?_)
   ·obtain rfl:=Zab h4
    exact af fol hE (o2 ++ [.c true,.r []]) [] 0 [] (t1 (aI c2 c3))
   ·obtain ⟨x2,c4,h6⟩:=Zad h5
    let o3:List PS:=o2 ++ [.c false,.d {ds:=[(7,q1 [oI x2])],hv:=0,Hs:=[]}]
    have t2 {Q:Prop} (q:Q):=t1 (aK c2 c3 (Zeg.snd c4) q)
    refine iteB h6 (fun c5 h7=>?_) (fun c5 h8=>?_)
    ·obtain rfl:=Zab h7
     exact afd fol hE (o3 ++ [.c true,.r []]) [] 0 [] (t2 c5)
    ·obtain ⟨x3,c6,h9⟩:=Zad h8
     let o4:List PS:=o3 ++ [.c false,.r [(2,q1 [oI x3])]]
     have t3 {Q:Prop} (q:Q):=t2 (aJ c5 (ZdE.snd c6) q)
     refine iteB h9 (fun c7 h10=>?_) (fun c7 h11=>?_)
     ·obtain rfl:=Zab h10
      exact afd fol hE (o4 ++ [.c true,.r []]) [] 0 [] (t3 c7)
     ·obtain ⟨x4,c8,h12⟩:=Zad h11
      let o5:List PS:=o4 ++ [.c false,.r [(4,q1 [oB x4])]]
      have t4 {Q:Prop} (q:Q):=t3 (aJ c7 (Zdg.snd c8) q)
      refine iteB h12 (fun c9 h13=>?_) (fun c9 h14=>?_)
      ·obtain rfl:=Zab h13
       exact afd fol hE (o5 ++ [.c true,.r []]) [] 0 [] (t4 c9)
      ·obtain ⟨x5,c10,h15⟩:=Zad h14
       let o6:List PS:=o5 ++ [.c false,.r [(5,q1 [oB x5])]]
       have t5 {Q:Prop} (q:Q):=t4 (aJ c9 (ZdF.snd c10) q)
       refine iteB h15 (fun c11 h16=>?_) (fun c11 h17=>?_)
       ·obtain rfl:=Zab h16
        exact afd fol hE (o6 ++ [.c true,.r []]) [] 0 [] (t5 c11)
       ·obtain ⟨x6,c12,h18⟩:=Zad h17
        let o7:List PS:=o6 ++ [.c false,.d {ds:=[(7,q1 [oI x6])],hv:=0,Hs:=[]}]
        have t6 {Q:Prop} (q:Q):=t5 (aJ c11 (Zba.snd c12) q)
        refine iteB h18 (fun c13 h19=>?_) (fun c13 h20=>?_)
        ·obtain rfl:=Zab h19
         exact afd fol hE (o7 ++ [.c true,.r []]) [] 0 [] (t6 c13)
        ·obtain ⟨x7,c14,h21⟩:=Zad h20
         obtain ⟨x8,c15,h22⟩:=Zad h21
         let o8:List PS:=o7 ++ [.c false,.d {ds:=[(4,q1 [.agg [L.arr .u8 32 x7]]),(7,q1 [oB x8])],hv:=0,Hs:=[]}]
         have t7 {Q:Prop} (q:Q):=t6 (aK c13 (Zdh.snd c14) (ZbS.snd c15) q)
         refine iteB h22 (fun c16 h23=>?_) (fun c16 h24=>?_)
         ·obtain rfl:=Zab h23
          exact afd fol hE (o8 ++ [.c true,.r []]) [] 0 [] (t7 c16)
         ·obtain rfl:=Zab h24
          exact afd fol hE (o8 ++ [.c false,.r []]) [] 0 [] (t7 c16)
noncomputable def ZaG.B:Code:=Tryz.f26.body.getD .skip
noncomputable def ZaG.rs (r:Int×Int×Int×LL):List CV:=[oI r.1,oI r.2.1,oI r.2.2.1]
noncomputable def ZaG.p2 (N:Nat) (i2:Nat) (now_2 ahead_12:Int) (is_13:Bool) (h_1:Zai) (st:LL):Option (Int×Int×Int×LL):=
 if (!is_13)=true then
  some ((-1),2,5,st)
 else
 getE (st[i2]?) ZbR fun x14=>
 chk (0≤ahead_12)<|
 chk (ahead_12<(len x14.spots))<|
 getE (x14.spots[0+(Int.toNat ahead_12)]?) ZeW fun x15=>
 optE (ZdN N x14.rules x15 h_1 now_2) fun x16=>
 if (x16 != 0)=true then
  some ((-1),x16,8,st)
 else
 if (decide ((len x14.list)≥x14.room))=true then
  some ((-1),0,6,st)
 else
 optE (Zdm N x14.rules x15 h_1) fun x17=>
 optE (ZaU N (some i2) h_1 ahead_12 x17 st) fun (x18,st19)=>
 some (x18,0,0,st19)
noncomputable def ZaG.p1 (N:Nat) (i2:Nat) (now_2 at_7:Int) (is_8:Bool) (h_1:Zai) (st:LL):Option (Int×Int×Int×LL):=
 if is_8=true then
  some (at_7,0,0,st)
 else
 getE (st[i2]?) ZbR fun x9=>
 optM (mfind x9.places (L.arr .u8 32 h_1.Prev)) (fun j10 e=>ZcG [e] fun x11=>
  ZaG.p2 N i2 now_2 x11 true h_1 st)
 (
  ZaG.p2 N i2 now_2 0 false h_1 st)
noncomputable def ZaG (N:Nat) (a_0:Option Nat) (h_1:Zai) (now_2:Int) (st:LL):Option (Int×Int×Int×LL):=
 if (Option.isNone a_0)=true then
  some ((-1),0,2,st)
 else
 optE (Zcr N h_1) fun x1=>
 if (!x1)=true then
  some ((-1),1,8,st)
 else
 optE a_0 fun i2=>
 getE (st[i2]?) ZbR fun x3=>
 optE (Zdh N h_1) fun x4=>
 optM (mfind x3.places (L.arr .u8 32 x4)) (fun j5 e=>ZcG [e] fun x6=>
  ZaG.p1 N i2 now_2 x6 true h_1 st)
 (
  ZaG.p1 N i2 now_2 0 false h_1 st)
noncomputable def ZaG.p2.S (i2:Nat) (now_2 ahead_12:Int) (is_13:Bool) (h_1:Zai) (st:LL):S:=mkS 87 [(0,sP (some i2)),(2,sI now_2),(4,sA 4),(11,sI ahead_12),(12,.one (.l (L.bool is_13)))] [(4,.cells h_1.ls)] st
noncomputable def ZaG.p1.S (i2:Nat) (now_2 at_7:Int) (is_8:Bool) (h_1:Zai) (st:LL):S:=mkS 87 [(0,sP (some i2)),(2,sI now_2),(4,sA 4),(9,sI at_7),(10,.one (.l (L.bool is_8)))] [(4,.cells h_1.ls)] st
theorem ZaG.p2_ok {i2 now_2 ahead_12 is_13 h_1 st r} (h:ZaG.p2 N i2 now_2 ahead_12 is_13 h_1 st=some r) (hE:En Tryz.f26 g0 w0 (ZaG.rs r) r.2.2.2 R):At g0 w0 (ZaG.p2.S i2 now_2 ahead_12 is_13 h_1 st) (XK Tryz.prog R [.c (csub ZaG.B [1,1,1,1,1])]):=by
 unfold ZaG.p2 at h
 refine iteB h (fun c11 h1=>?_) (fun c11 h2=>?_)
 ·obtain rfl:=Zab h1
  exact af fol hE [.r [],.c true,.r []] [] 0 [] c11
 ·obtain ⟨x14,c12,h3⟩:=ZbK h2
  obtain ⟨c13,c14,h4⟩:=ck2 h3
  obtain ⟨x15,c15,h5⟩:=ZhB h4
  obtain ⟨x16,c16,h6⟩:=Zad h5
  let o1:List PS:=[.r [],.c false,.d {ds:=[(3,{oc:=x14.lo}),(7,{oc:=x14.lo}),(10,{oc:=x14.lo,oe:=x15.ls}),(13,q1 [oI x16])],hv:=0,Hs:=[]},.r []]
  have t1 {Q:Prop} (q:Q):=aO c11 c12 c12 c13 c14 c15 c12 (aI (ZdN.snd c16) q)
  refine iteB h6 (fun c17 h7=>?_) (fun c17 h8=>?_)
  ·obtain rfl:=Zab h7
   exact afd fol hE (o1 ++ [.c true,.r []]) [] 0 [] (t1 c17)
  ·let o2:List PS:=o1 ++ [.c false,.d {ds:=[(3,{oc:=x14.lo}),(8,{oc:=x14.lo})],hv:=0,Hs:=[]}]
   refine iteB h8 (fun c18 h9=>?_) (fun c18 h10=>?_)
   ·obtain rfl:=Zab h9
    exact afd fol hE (o2 ++ [.c true,.r []]) [] 0 [] (t1 (aK c17 c12 c12 c18))
   ·obtain ⟨x17,c19,h11⟩:=Zad h10
    obtain ⟨⟨x18,st19⟩,c20,h12⟩:=Zad h11
    obtain rfl:=Zab h12
    exact afd fol hE (o2 ++ [.c false,.d {ds:=[(6,{oc:=x14.lo}),(10,{oc:=x14.lo}),(13,{oc:=x14.lo,oe:=x15.ls}),(15,q1 [.agg x17.ls]),(16,{rs:=[oI x18],st:=st19})],hv:=65536,Hs:=[65536]}]) [] 0 [] (t1 (aO c17 c12 c12 c18 c12 c12 c13 (aL c14 c15 c12 (Zdm.snd c19) (ZaU.snd c20))))
theorem ZaG.p1_ok {i2 now_2 at_7 is_8 h_1 st r} (h:ZaG.p1 N i2 now_2 at_7 is_8 h_1 st=some r) (hE:En Tryz.f26 g0 w0 (ZaG.rs r) r.2.2.2 R):At g0 w0 (ZaG.p1.S i2 now_2 at_7 is_8 h_1 st) (XK Tryz.prog R [.c (csub ZaG.B [1,1,1,0,1]),.c (csub ZaG.B [1,1,1,1])]):=by
 unfold ZaG.p1 at h
 refine iteB h (fun c8 h13=>?_) (fun c8 h14=>?_)
 ·obtain rfl:=Zab h13
  exact af fol hE [.r [],.c true,.r []] [] 0 [] c8
 ·obtain ⟨x9,c9,h15⟩:=ZbK h14
  rcases ZgY h15 with ⟨j10,h19,c10,h16⟩ | ⟨c10,h17⟩
  ·obtain ⟨x11,h20,h18⟩:=Zff h16
   obtain rfl:=Zfr h20
   exact aqd fol [.r [],.c false,.d {ds:=[(3,{oc:=x9.lo}),(6,{oc:=x9.lo,oe:=[L.int .i64 x11]})],hv:=0,Hs:=[]},.s 1] [0,2,4,11,12] [4] (aK c8 c9 (Zkj c10) c9) (ZaG.p2_ok h18 hE)
  ·exact aqd fol [.r [],.c false,.d {ds:=[(3,{oc:=x9.lo}),(6,{oc:=x9.lo,yes:=false})],hv:=0,Hs:=[]},.s 1] [0,2,4,11,12] [4] (aK c8 c9 c10 c9) (ZaG.p2_ok h17 hE)
theorem ZaG.snd {a_0:Option Nat} {h_1:Zai} {now_2:Int} {st:LL} {r:Int×Int×Int×LL} (h:ZaG N a_0 h_1 now_2 st=some r):Snd Tryz.prog 26 [.one (L.ptr a_0),.agg h_1.ls,oI now_2] st (ZaG.rs r) r.2.2.2:=
 sO ZaG.B Tryz.func26 fun g0 w0 R hE=>by
  unfold ZaG at h
  refine iteB h (fun c1 h21=>?_) (fun c1 h22=>?_)
  ·obtain rfl:=Zab h21
   exact af fol hE [.r [],.r [],.c true,.r []] [] 0 [] c1
  ·obtain ⟨x1,c2,h23⟩:=Zad h22
   let o3:List PS:=[.r [],.r [],.c false,.r [(1,q1 [oB x1])]]
   have t2 {Q:Prop} (q:Q):=aJ c1 (Zcr.snd c2) q
   refine iteB h23 (fun c3 h24=>?_) (fun c3 h25=>?_)
   ·obtain rfl:=Zab h24
    exact af fol hE (o3 ++ [.c true,.r []]) [] 0 [] (t2 c3)
   ·obtain ⟨i2,rfl,h26⟩:=Zad h25
    obtain ⟨x3,c5,h27⟩:=ZbK h26
    obtain ⟨x4,c6,h28⟩:=Zad h27
    rcases ZgY h28 with ⟨j5,h32,c7,h29⟩ | ⟨c7,h30⟩
    ·obtain ⟨x6,h33,h31⟩:=Zff h29
     obtain rfl:=Zfr h33
     exact aqd fol (o3 ++ [.c false,.d {ds:=[(3,{oc:=x3.lo}),(5,q1 [.agg [L.arr .u8 32 x4]]),(6,{oc:=x3.lo,oe:=[L.int .i64 x6]})],hv:=0,Hs:=[]},.s 2]) [0,2,4,9,10] [4] (t2 (aL c3 c5 (Zdh.snd c6) (Zkj c7) c5)) (ZaG.p1_ok h31 hE)
    ·exact aqd fol (o3 ++ [.c false,.d {ds:=[(3,{oc:=x3.lo}),(5,q1 [.agg [L.arr .u8 32 x4]]),(6,{oc:=x3.lo,yes:=false})],hv:=0,Hs:=[]},.s 2]) [0,2,4,9,10] [4] (t2 (aL c3 c5 (Zdh.snd c6) c7 c5)) (ZaG.p1_ok h30 hE)
noncomputable def Zcw.B:Code:=Tryz.f94.body.getD .skip
noncomputable def Zcw.rs (r:Bool):List CV:=[oB r]
noncomputable def Zcw (N:Nat) (a_0:ZaD) (at_1:Int):Option Bool:=
 if (decide (at_1≥0))=true then
  some (decide (at_1<(len a_0.list)))
 else
 some false
theorem Zcw.snd {a_0:ZaD} {at_1:Int} {r:Bool} (h:Zcw N a_0 at_1=some r):SndQ Tryz.prog 94 [.one (L.bx 87 a_0.ls),oI at_1] (Zcw.rs r):=fun st=>
 sO Zcw.B Tryz.func94 fun g0 w0 R hE=>by
  unfold Zcw at h
  refine iteB h (fun c1 h1=>?_) (fun c1 h2=>?_)
  ·obtain rfl:=Zab h1
   exact af fol hE [.r [],.r [(11,{oe:=a_0.ls})]] [] 0 [] (aO eT eT eT c1 c1 c1 c1 (aL c1 (eO a_0.ls) c1 c1 c1))
  ·obtain rfl:=Zab h2
   exact af fol hE [.r [],.r [(7,wF),(8,wF),(9,wF),(10,wF),(11,wF),(12,wF),(13,wF),(14,yF)]] [] 0 [] (aO eT eT eT c1 c1 c1 c1 (aK c1 c1 c1 c1))
noncomputable def ZbU.B:Code:=Tryz.f29.body.getD .skip
noncomputable def ZbU.rs (r:ZbM×Bool):List CV:=[.agg r.1.ls,oB r.2]
noncomputable def ZbU (N:Nat) (a_0:ZaD) (at_1:Int):Option (ZbM×Bool):=
 optE (Zcw N a_0 at_1) fun x1=>
 if (!x1)=true then
  some (ZbM.mk (Zai.mk 0 (List.replicate 32 0) (List.replicate 32 0) 0 0 0) (List.replicate 32 0) (-1) 0 (List.replicate 4 0),false)
 else
 chk (0≤at_1)<|
 chk (at_1<(len a_0.list))<|
 getE (a_0.list[Int.toNat at_1]?) Zej fun x2=>
 some (x2,true)
theorem ZbU.snd {a_0:ZaD} {at_1:Int} {r:ZbM×Bool} (h:ZbU N a_0 at_1=some r):SndQ Tryz.prog 29 [.one (L.bx 87 a_0.ls),oI at_1] (ZbU.rs r):=fun st=>
 sO ZbU.B Tryz.func29 fun g0 w0 R hE=>by
  unfold ZbU at h
  obtain ⟨x1,c1,h1⟩:=Zad h
  let o1:List PS:=[.r [],.r [(2,q0 [oB x1])]]
  refine iteB h1 (fun c2 h2=>?_) (fun c2 h3=>?_)
  ·obtain rfl:=Zab h2
   exact af fol hE (o1 ++ [.c true,.r []]) [] 0 [] (aI (Zcw.snd c1) c2)
  ·obtain ⟨c3,c4,h4⟩:=ck2 h3
   obtain ⟨x2,c5,h5⟩:=Zfg h4
   obtain rfl:=Zab h5
   exact af fol hE (o1 ++ [.c false,.r [(3,{oe:=a_0.ls}),(6,{oe:=x2.ls})]]) [] 0 [] (aM (Zcw.snd c1) c2 (eO a_0.ls) c3 c4 c5)
noncomputable def Zdo.B:Code:=Tryz.f144.body.getD .skip
noncomputable def Zdo.rs (r:Int):List CV:=[oI r]
noncomputable def Zdo (N:Nat) (n_0:Int):Option Int:=
 some (bitsOf .and .i64 n_0 (w64 (n_0-1)))
theorem Zdo.snd {n_0:Int} {r:Int} (h:Zdo N n_0=some r):SndQ Tryz.prog 144 [oI n_0] (Zdo.rs r):=fun st=>
 sO Zdo.B Tryz.func144 fun g0 w0 R hE=>by
  unfold Zdo at h
  obtain rfl:=Zab h
  exact af fol hE [.r [],.r []] [] 0 [] trivial
noncomputable def ZdD.B:Code:=Tryz.f86.body.getD .skip
noncomputable def ZdD.rs (r:Int):List CV:=[oI r]
noncomputable def ZdD (N:Nat) (h_0:Int):Option Int:=
 if (decide (h_0<2))=true then
  some 0
 else
 if ((bitsOf .and .i64 h_0 1)==0)=true then
  optE (Zdo N h_0) fun x1=>
  some x1
 else
 optE (Zdo N (w64 (h_0-1))) fun x2=>
 optE (Zdo N x2) fun x3=>
 some (w64 (x3+1))
theorem ZdD.snd {h_0:Int} {r:Int} (h:ZdD N h_0=some r):SndQ Tryz.prog 86 [oI h_0] (ZdD.rs r):=fun st=>
 sO ZdD.B Tryz.func86 fun g0 w0 R hE=>by
  unfold ZdD at h
  refine iteB h (fun c1 h1=>?_) (fun c1 h2=>?_)
  ·obtain rfl:=Zab h1
   exact af fol hE [.r [],.r [],.c true,.r []] [] 0 [] c1
  ·refine iteB h2 (fun c2 h3=>?_) (fun c2 h4=>?_)
   ·obtain ⟨x1,c3,h5⟩:=Zad h3
    obtain rfl:=Zab h5
    exact af fol hE [.r [],.r [],.c false,.r [],.c true,.r [(1,q1 [oI x1])]] [] 0 [] (aJ c1 c2 (Zdo.snd c3))
   ·obtain ⟨x2,c4,h6⟩:=Zad h4
    obtain ⟨x3,c5,h7⟩:=Zad h6
    obtain rfl:=Zab h7
    exact af fol hE [.r [],.r [],.c false,.r [],.c false,.r [(2,q1 [oI x2]),(3,q1 [oI x3])]] [] 0 [] (aK c1 c2 (Zdo.snd c4) (Zdo.snd c5))
noncomputable def Zbx.B:Code:=Tryz.f28.body.getD .skip
noncomputable def Zbx.rs (r:ZbM×Bool):List CV:=[.agg r.1.ls,oB r.2]
noncomputable def Zbx (N:Nat) (t_0:Zau) (at_1:Int):Option (ZbM×Bool):=
 optE (ZbU N t_0.store at_1) fun (x1,x2)=>
 some (x1,x2)
theorem Zbx.snd {t_0:Zau} {at_1:Int} {r:ZbM×Bool} (h:Zbx N t_0 at_1=some r):SndQ Tryz.prog 28 [.one (L.bx 2 t_0.ls),oI at_1] (Zbx.rs r):=fun st=>
 sO Zbx.B Tryz.func28 fun g0 w0 R hE=>by
  unfold Zbx at h
  obtain ⟨⟨x1,x2⟩,c1,h1⟩:=Zad h
  obtain rfl:=Zab h1
  exact af fol hE [.r [],.r [],.c false,.r [(3,{oe:=t_0.ls}),(5,q0 [.agg x1.ls,oB x2])]] [] 0 [] (aJ eF (eO t_0.ls) (ZbU.snd c1))
noncomputable def ZaT.B:Code:=Tryz.f98.body.getD .skip
noncomputable def ZaT.rs (r:Int):List CV:=[oI r]
noncomputable def ZaT (N:Nat) (t_0:Zau) (at_1:Int):Option Int:=
 optE (Zbx N t_0 at_1) fun (x1,x2)=>
 if (!x2)=true then
  some (-1)
 else
 some x1.Height
theorem ZaT.snd {t_0:Zau} {at_1:Int} {r:Int} (h:ZaT N t_0 at_1=some r):SndQ Tryz.prog 98 [.one (L.bx 2 t_0.ls),oI at_1] (ZaT.rs r):=fun st=>
 sO ZaT.B Tryz.func98 fun g0 w0 R hE=>by
  unfold ZaT at h
  obtain ⟨⟨x1,x2⟩,c1,h1⟩:=Zad h
  let o1:List PS:=[.r [],.r [(2,q0 [.agg x1.ls,oB x2])],.r []]
  refine iteB h1 (fun c2 h2=>?_) (fun c2 h3=>?_)
  ·obtain rfl:=Zab h2
   exact af fol hE (o1 ++ [.c true,.r []]) [] 0 [] (aI (Zbx.snd c1) c2)
  ·obtain rfl:=Zab h3
   exact af fol hE (o1 ++ [.c false,.r []]) [] 0 [] (aI (Zbx.snd c1) c2)
noncomputable def Zaq.B:Code:=Tryz.f47.body.getD .skip
noncomputable def Zaq.rs (r:Int):List CV:=[oI r]
noncomputable def Zaq.p2 (N:Nat) (c1_:(Int×Int)→Option Int) (t_0:Zau) (height_2 next_8 x6 x7:Int):Option Int:=
 optE (ZaT N t_0 next_8) fun x9=>
 c1_ (next_8,x9)
noncomputable def Zaq.p1 (N:Nat) (t_0:Zau) (height_2:Int) (c1_:(Int×Int)→Option Int):(Int×Int)→Option Int:=fun (at_2,h_3)=>
 if (decide (h_3>height_2))=true then
  optE (Zbx N t_0 at_2) fun (x4,x5)=>
  chk (0≤at_2)<|
  chk (at_2<(len t_0.leaps))<|
  getE (t_0.leaps[Int.toNat at_2]?) ZcG fun x6=>
  if (x6 != (-1))=true then
   optE (ZaT N t_0 x6) fun x7=>
   if (decide (x7≥height_2))=true then
    Zaq.p2 N c1_ t_0 height_2 x6 x6 x7
   else
   Zaq.p2 N c1_ t_0 height_2 x4.Ahead x6 x7
  else
  optE (ZaT N t_0 x4.Ahead) fun x10=>
  c1_ (x4.Ahead,x10)
 else
 some at_2
noncomputable def Zaq (N:Nat) (t_0:Zau) (at_1 height_2:Int):Option Int:=
 optE (ZaT N t_0 at_1) fun x1=>
 if (decide (height_2<0))=true then
  some (-1)
 else
 if (decide (height_2>x1))=true then
  some (-1)
 else
 loopN (Zaq.p1 N t_0 height_2) N (at_1,x1)
noncomputable def Zaq.p2.S (t_0:Zau) (height_2 next_8 x6 x7:Int) (st:LL):S:=mkS 55 [(0,.one (.l (L.bx 2 t_0.ls))),(2,sI height_2),(10,sI next_8),(43,.one (.l (L.bx 2 t_0.ls))),(44,sI x6),(45,sI x7),(46,sI height_2),(47,.one (.l (L.bool (decide (x7≥height_2)))))] [] st
noncomputable def Zaq.p1.S (t_0:Zau) (at_2 height_2 h_3:Int) (st:LL):S:=mkS 55 [(0,.one (.l (L.bx 2 t_0.ls))),(1,sI at_2),(2,sI height_2),(7,sI h_3)] [] st
theorem Zaq.p2_ok {t_0 height_2 next_8 x6 x7 st r c1_ J1} (h:Zaq.p2 N c1_ t_0 height_2 next_8 x6 x7=some r) (hE:En Tryz.f47 g0 w0 (Zaq.rs r) st R) (hc1 : ∀at_2 h_3,c1_ (at_2,h_3)=some r→At g0 w0 (Zaq.p1.S t_0 at_2 height_2 h_3 st) J1):At g0 w0 (Zaq.p2.S t_0 height_2 next_8 x6 x7 st) (XK Tryz.prog R [.c (csub Zaq.B [1,1,1,0,0,0,1,0,1,1,1]),.b 1,.h J1,.b 0,.c (csub Zaq.B [1,1,1,1])]):=by
 unfold Zaq.p2 at h
 obtain ⟨x9,c12,h1⟩:=Zad h
 exact an fol [.r [(3,q0 [oI x9])]] [0,1,2,7] [] (ZaT.snd c12) (hc1 next_8 x9 h1)
theorem Zaq.p1_ok {t_0 at_2 height_2 h_3 st r c1_ J1} (h:Zaq.p1 N t_0 height_2 c1_ (at_2,h_3)=some r) (hE:En Tryz.f47 g0 w0 (Zaq.rs r) st R) (hc1 : ∀at_2 h_3,c1_ (at_2,h_3)=some r→At g0 w0 (Zaq.p1.S t_0 at_2 height_2 h_3 st) J1):At g0 w0 (Zaq.p1.S t_0 at_2 height_2 h_3 st) (XK Tryz.prog R (.c (csub Zaq.B [1,1,1,0,0,0]) :: .h J1 :: [.b 0,.c (csub Zaq.B [1,1,1,1])])):=by
 unfold Zaq.p1 at h
 refine iteB h (fun c4 h2=>?_) (fun c4 h3=>?_)
 ·obtain ⟨⟨x4,x5⟩,c5,h4⟩:=Zad h2
  obtain ⟨c6,c7,h5⟩:=ck2 h4
  obtain ⟨x6,c8,h6⟩:=Zcf h5
  let o1:List PS:=[.r [],.c true,.r [(2,q0 [.agg x4.ls,oB x5])],.r [],.r [(3,{oe:=t_0.ls}),(6,{oe:=[L.int .i64 x6]})]]
  have t1 {Q:Prop} (q:Q):=aN c4 (Zbx.snd c5) (eO t_0.ls) c6 c7 c8 q
  refine iteB h6 (fun c9 h7=>?_) (fun c9 h8=>?_)
  ·obtain ⟨x7,c10,h9⟩:=Zad h7
   let o2:List PS:=o1 ++ [.r [(5,q0 [oI x7])]]
   have t2 {Q:Prop} (q:Q):=t1 (aO c9 c9 c9 (ZaT.snd c10) c9 c9 c9 q)
   refine iteB h9 (fun c11 h10=>?_) (fun c11 h11=>?_)
   ·exact aq fol (o2 ++ [.c true,.r [],.s 5]) [0,2,10,43,44,45,46,47] [] (t2 c11) (Zaq.p2_ok h10 hE hc1)
   ·exact aq fol (o2 ++ [.c false,.s 5]) [0,2,10,43,44,45,46,47] [] (t2 c11) (Zaq.p2_ok h11 hE hc1)
  ·obtain ⟨x10,c13,h12⟩:=Zad h8
   exact an fol (o1 ++ [.r [(3,wF),(4,wF),(5,wF),(6,wF),(7,wF),(8,yF)],.c false,.r [(3,q0 [oI x10])]]) [0,1,2,7] [] (t1 (aO c9 c9 c9 c9 c9 c9 eF (ZaT.snd c13))) (hc1 x4.Ahead x10 h12)
 ·obtain rfl:=Zab h3
  exact af fol hE [.r [],.c false,.r []] [] 0 [] c4
theorem Zaq.snd {t_0:Zau} {at_1 height_2:Int} {r:Int} (h:Zaq N t_0 at_1 height_2=some r):SndQ Tryz.prog 47 [.one (L.bx 2 t_0.ls),oI at_1,oI height_2] (Zaq.rs r):=fun st=>
 sO Zaq.B Tryz.func47 fun g0 w0 R hE=>by
  unfold Zaq at h
  obtain ⟨x1,c1,h13⟩:=Zad h
  let o3:List PS:=[.r [],.r [(2,q0 [oI x1])]]
  have t3 {Q:Prop} (q:Q):=aI (ZaT.snd c1) q
  refine iteB h13 (fun c2 h14=>?_) (fun c2 h15=>?_)
  ·obtain rfl:=Zab h14
   exact af fol hE (o3 ++ [.r [(3,wF),(4,wF),(5,wF)],.c true,.r []]) [] 0 [] (t3 (aL c2 c2 c2 c2 eT))
  ·refine iteB h15 (fun c3 h16=>?_) (fun c3 h17=>?_)
   ·obtain rfl:=Zab h16
    exact af fol hE (o3 ++ [.r [(6,yF)],.c true,.r []]) [] 0 [] (t3 (aL c2 c2 c2 c2 c3))
   ·exact aq fol (o3 ++ [.r [(6,yF)],.c false]) [0,1,2,7] [] (t3 (aL c2 c2 c2 c2 c3)) (At.loop N (At.loopN (fun y:Int×Int=>Zaq.p1.S t_0 y.1 height_2 y.2 st) (fun c J hc y h=>Zaq.p1_ok (at_2:=y.1) (h_3:=y.2) h hE (fun at_2 h_3=>hc (at_2,h_3))) N (at_1,x1) h17))
noncomputable def Zcm.B:Code:=Tryz.f28.body.getD .skip
noncomputable def Zcm.rs (r:ZbM×Bool×LL):List CV:=[.agg r.1.ls,oB r.2.1]
noncomputable def Zcm (N:Nat) (t_0:Option Nat) (at_1:Int) (st:LL):Option (ZbM×Bool×LL):=
 if (Option.isNone t_0)=true then
  some (ZbM.mk (Zai.mk 0 (List.replicate 32 0) (List.replicate 32 0) 0 0 0) (List.replicate 32 0) (-1) 0 (List.replicate 4 0),false,st)
 else
 optE t_0 fun i1=>
 getE (st[i1]?) ZcW fun x2 x3=>
 optE x2 fun i4=>
 getE (st[i4]?) ZbR fun x5=>
 optE (ZbU N x5 at_1) fun (x6,x7)=>
 some (x6,x7,st)
theorem Zcm.snd {t_0:Option Nat} {at_1:Int} {st:LL} {r:ZbM×Bool×LL} (h:Zcm N t_0 at_1 st=some r):Snd Tryz.prog 28 [.one (L.ptr t_0),oI at_1] st (Zcm.rs r) r.2.2:=
 sO Zcm.B Tryz.func28 fun g0 w0 R hE=>by
  unfold Zcm at h
  refine iteB h (fun c1 h1=>?_) (fun c1 h2=>?_)
  ·obtain rfl:=Zab h1
   exact af fol hE [.r [],.r [],.c true,.r []] [] 0 [] c1
  ·obtain ⟨i1,rfl,h3⟩:=Zad h2
   obtain ⟨x2,x3,c3,h4⟩:=ZcS h3
   obtain ⟨i4,rfl,h5⟩:=Zad h4
   obtain ⟨x5,c5,h6⟩:=ZbK h5
   obtain ⟨⟨x6,x7⟩,c6,h7⟩:=Zad h6
   obtain rfl:=Zab h7
   exact af fol hE [.r [],.r [],.c false,.r [(3,{oc:=[L.ptr (some i4),L.own true 1 x3]}),(5,{rs:=[.agg x6.ls,oB x7],m:=10,cv:=[.one (L.bx 87 x5.ls)]})]] [] 0 [] (aK c1 c3 (bO 87 c5 (ZaD.bv x5)) (ZbU.snd c6))
noncomputable def Zco.B:Code:=Tryz.f98.body.getD .skip
noncomputable def Zco.rs (r:Int×LL):List CV:=[oI r.1]
noncomputable def Zco (N:Nat) (t_0:Option Nat) (at_1:Int) (st:LL):Option (Int×LL):=
 optE (Zcm N t_0 at_1 st) fun (x1,x2,st3)=>
 if (!x2)=true then
  some ((-1),st3)
 else
 some (x1.Height,st3)
theorem Zco.snd {t_0:Option Nat} {at_1:Int} {st:LL} {r:Int×LL} (h:Zco N t_0 at_1 st=some r):Snd Tryz.prog 98 [.one (L.ptr t_0),oI at_1] st (Zco.rs r) r.2:=
 sO Zco.B Tryz.func98 fun g0 w0 R hE=>by
  unfold Zco at h
  obtain ⟨⟨x1,x2,st3⟩,c1,h1⟩:=Zad h
  let o1:List PS:=[.r [],.r [(2,{rs:=[.agg x1.ls,oB x2],st:=st3})],.r []]
  refine iteB h1 (fun c2 h2=>?_) (fun c2 h3=>?_)
  ·obtain rfl:=Zab h2
   exact af fol hE (o1 ++ [.c true,.r []]) [] 0 [] (aI (Zcm.snd c1) c2)
  ·obtain rfl:=Zab h3
   exact af fol hE (o1 ++ [.c false,.r []]) [] 0 [] (aI (Zcm.snd c1) c2)
noncomputable def ZaA.B:Code:=Tryz.f47.body.getD .skip
noncomputable def ZaA.rs (r:Int×LL):List CV:=[oI r.1]
noncomputable def ZaA.p2 (N:Nat) (c1_:((Option Nat)×Int×Int×LL)→Option (Int×LL)) (i26:Nat) (height_2 next_35 x33 x34:Int) (st25:LL):Option (Int×LL):=
 getE (st25[i26]?) ZcW fun x36 x37=>
 optE x36 fun i38=>
 getE (st25[i38]?) ZbR fun x39=>
 optE (ZaT N (Zau.mk x39 x37) next_35) fun x40=>
 c1_ ((some i26),next_35,x40,st25)
noncomputable def ZaA.p1 (N:Nat) (height_2:Int) (c1_:((Option Nat)×Int×Int×LL)→Option (Int×LL)):((Option Nat)×Int×Int×LL)→Option (Int×LL):=fun (t_24,at_3,h_4,st25)=>
 if (decide (h_4>height_2))=true then
  optE t_24 fun i26=>
  getE (st25[i26]?) ZcW fun x27 x28=>
  optE x27 fun i29=>
  getE (st25[i29]?) ZbR fun x30=>
  optE (Zbx N (Zau.mk x30 x28) at_3) fun (x31,x32)=>
  chk (0≤at_3)<|
  chk (at_3<(len x28))<|
  getE (x28[0+(Int.toNat at_3)]?) ZcG fun x33=>
  if (x33 != (-1))=true then
   optE (ZaT N (Zau.mk x30 x28) x33) fun x34=>
   if (decide (x34≥height_2))=true then
    ZaA.p2 N c1_ i26 height_2 x33 x33 x34 st25
   else
   ZaA.p2 N c1_ i26 height_2 x31.Ahead x33 x34 st25
  else
  optE (ZaT N (Zau.mk x30 x28) x31.Ahead) fun x41=>
  c1_ ((some i26),x31.Ahead,x41,st25)
 else
 some (at_3,st25)
noncomputable def ZaA (N:Nat) (t_0:Option Nat) (at_1 height_2:Int) (st:LL):Option (Int×LL):=
 optE (Zco N t_0 at_1 st) fun (x1,st2)=>
 if (decide (height_2<0))=true then
  some ((-1),st2)
 else
 if (decide (height_2>x1))=true then
  some ((-1),st2)
 else
 loopN (ZaA.p1 N height_2) N (t_0,at_1,x1,st2)
noncomputable def ZaA.p2.S (i26:Nat) (height_2 next_35 x33 x34:Int) (st25:LL):S:=mkS 55 [(0,sP (some i26)),(2,sI height_2),(10,sI next_35),(43,sP (some i26)),(44,sI x33),(45,sI x34),(46,sI height_2),(47,.one (.l (L.bool (decide (x34≥height_2)))))] [] st25
noncomputable def ZaA.p1.S (t_24:Option Nat) (at_3 height_2 h_4:Int) (st25:LL):S:=mkS 55 [(0,sP t_24),(1,sI at_3),(2,sI height_2),(7,sI h_4)] [] st25
theorem ZaA.p2_ok {i26 height_2 next_35 x33 x34 st25 r c1_ J1} (h:ZaA.p2 N c1_ i26 height_2 next_35 x33 x34 st25=some r) (hE:En Tryz.f47 g0 w0 (ZaA.rs r) r.2 R) (hc1 : ∀t_24 at_3 h_4 st25,c1_ (t_24,at_3,h_4,st25)=some r→At g0 w0 (ZaA.p1.S t_24 at_3 height_2 h_4 st25) J1):At g0 w0 (ZaA.p2.S i26 height_2 next_35 x33 x34 st25) (XK Tryz.prog R [.c (csub ZaA.B [1,1,1,0,0,0,1,0,1,1,1]),.b 1,.h J1,.b 0,.c (csub ZaA.B [1,1,1,1])]):=by
 unfold ZaA.p2 at h
 obtain ⟨x36,x37,c35,h1⟩:=ZcS h
 obtain ⟨i38,rfl,h2⟩:=Zad h1
 obtain ⟨x39,c37,h3⟩:=ZbK h2
 obtain ⟨x40,c38,h4⟩:=Zad h3
 exact an fol [.r [(3,{rs:=[oI x40],m:=10,cv:=[.one (L.bx 2 (Zau.ls (Zau.mk x39 x37)))]})]] [0,1,2,7] [] (aI (bO 2 c35 ((bC 87 c37 (ZaD.bv x39) (bW bN)):BVs st25 [L.ptr (some i38),L.own true 1 x37] (Zau.ls (Zau.mk x39 x37)))) (ZaT.snd c38)) (hc1 (some i26) next_35 x40 st25 h4)
theorem ZaA.p1_ok {t_24 at_3 height_2 h_4 st25 r c1_ J1} (h:ZaA.p1 N height_2 c1_ (t_24,at_3,h_4,st25)=some r) (hE:En Tryz.f47 g0 w0 (ZaA.rs r) r.2 R) (hc1 : ∀t_24 at_3 h_4 st25,c1_ (t_24,at_3,h_4,st25)=some r→At g0 w0 (ZaA.p1.S t_24 at_3 height_2 h_4 st25) J1):At g0 w0 (ZaA.p1.S t_24 at_3 height_2 h_4 st25) (XK Tryz.prog R (.c (csub ZaA.B [1,1,1,0,0,0]) :: .h J1 :: [.b 0,.c (csub ZaA.B [1,1,1,1])])):=by
 unfold ZaA.p1 at h
 refine iteB h (fun c23 h5=>?_) (fun c23 h6=>?_)
 ·obtain ⟨i26,rfl,h7⟩:=Zad h5
  obtain ⟨x27,x28,c25,h8⟩:=ZcS h7
  obtain ⟨i29,rfl,h9⟩:=Zad h8
  obtain ⟨x30,c27,h10⟩:=ZbK h9
  obtain ⟨⟨x31,x32⟩,c28,h11⟩:=Zad h10
  obtain ⟨c29,c30,h12⟩:=ck2 h11
  obtain ⟨x33,c31,h13⟩:=Zcf h12
  let o1:List PS:=[.r [],.c true,.r [(2,{rs:=[.agg x31.ls,oB x32],m:=10,cv:=[.one (L.bx 2 (Zau.ls (Zau.mk x30 x28)))]})],.r [],.r [(3,{oc:=[L.ptr (some i29),L.own true 1 x28]}),(6,{oc:=[L.ptr (some i29),L.own true 1 x28],oe:=[L.int .i64 x33]})]]
  have t1 {Q:Prop} (q:Q):=aO c23 (bO 2 c25 ((bC 87 c27 (ZaD.bv x30) (bW bN)):BVs st25 [L.ptr (some i29),L.own true 1 x28] (Zau.ls (Zau.mk x30 x28)))) (Zbx.snd c28) c25 c29 c30 c31 (aI c25 q)
  refine iteB h13 (fun c32 h14=>?_) (fun c32 h15=>?_)
  ·obtain ⟨x34,c33,h16⟩:=Zad h14
   let o2:List PS:=o1 ++ [.r [(5,{rs:=[oI x34],m:=10,cv:=[.one (L.bx 2 (Zau.ls (Zau.mk x30 x28)))]})]]
   have t2 {Q:Prop} (q:Q):=t1 (aO c32 c32 c32 (bO 2 c25 ((bC 87 c27 (ZaD.bv x30) (bW bN)):BVs st25 [L.ptr (some i29),L.own true 1 x28] (Zau.ls (Zau.mk x30 x28)))) (ZaT.snd c33) c32 c32 (aI c32 q))
   refine iteB h16 (fun c34 h17=>?_) (fun c34 h18=>?_)
   ·exact aq fol (o2 ++ [.c true,.r [],.s 5]) [0,2,10,43,44,45,46,47] [] (t2 c34) (ZaA.p2_ok h17 hE hc1)
   ·exact aq fol (o2 ++ [.c false,.s 5]) [0,2,10,43,44,45,46,47] [] (t2 c34) (ZaA.p2_ok h18 hE hc1)
  ·obtain ⟨x41,c39,h19⟩:=Zad h15
   exact an fol (o1 ++ [.r [(3,wF),(4,wF),(5,wF),(6,wF),(7,wF),(8,yF)],.c false,.r [(3,{rs:=[oI x41],m:=10,cv:=[.one (L.bx 2 (Zau.ls (Zau.mk x30 x28)))]})]]) [0,1,2,7] [] (t1 (aO c32 c32 c32 c32 c32 c32 eF (aI (bO 2 c25 ((bC 87 c27 (ZaD.bv x30) (bW bN)):BVs st25 [L.ptr (some i29),L.own true 1 x28] (Zau.ls (Zau.mk x30 x28)))) (ZaT.snd c39)))) (hc1 (some i26) x31.Ahead x41 st25 h19)
 ·obtain rfl:=Zab h6
  exact af fol hE [.r [],.c false,.r []] [] 0 [] c23
theorem ZaA.snd {t_0:Option Nat} {at_1 height_2:Int} {st:LL} {r:Int×LL} (h:ZaA N t_0 at_1 height_2 st=some r):Snd Tryz.prog 47 [.one (L.ptr t_0),oI at_1,oI height_2] st (ZaA.rs r) r.2:=
 sO ZaA.B Tryz.func47 fun g0 w0 R hE=>by
  unfold ZaA at h
  obtain ⟨⟨x1,st2⟩,c1,h20⟩:=Zad h
  let o3:List PS:=[.r [],.r [(2,{rs:=[oI x1],st:=st2})]]
  have t3 {Q:Prop} (q:Q):=aI (Zco.snd c1) q
  refine iteB h20 (fun c2 h21=>?_) (fun c2 h22=>?_)
  ·obtain rfl:=Zab h21
   exact af fol hE (o3 ++ [.r [(3,wF),(4,wF),(5,wF)],.c true,.r []]) [] 0 [] (t3 (aL c2 c2 c2 c2 eT))
  ·refine iteB h22 (fun c3 h23=>?_) (fun c3 h24=>?_)
   ·obtain rfl:=Zab h23
    exact af fol hE (o3 ++ [.r [(6,yF)],.c true,.r []]) [] 0 [] (t3 (aL c2 c2 c2 c2 c3))
   ·exact aq fol (o3 ++ [.r [(6,yF)],.c false]) [0,1,2,7] [] (t3 (aL c2 c2 c2 c2 c3)) (At.loop N (At.loopN (fun y:(Option Nat)×Int×Int×LL=>ZaA.p1.S y.1 y.2.1 height_2 y.2.2.1 y.2.2.2) (fun c J hc y h=>ZaA.p1_ok (t_24:=y.1) (at_3:=y.2.1) (h_4:=y.2.2.1) (st25:=y.2.2.2) h hE (fun t_24 at_3 h_4 st25=>hc (t_24,at_3,h_4,st25))) N (t_0,at_1,x1,st2) h24))
noncomputable def ZbL.B:Code:=Tryz.f25.body.getD .skip
noncomputable def ZbL.rs (r:Int×Int×Int×LL):List CV:=[oI r.1,oI r.2.1,oI r.2.2.1]
noncomputable def ZbL.p1 (N:Nat) (x4 x5 x6:Int) (st16:LL):Option (Int×Int×Int×LL):=
 some (x4,x5,x6,st16)
noncomputable def ZbL (N:Nat) (t_0:Option Nat) (h_1:Zai) (now_2:Int) (st:LL):Option (Int×Int×Int×LL):=
 if (Option.isNone t_0)=true then
  some ((-1),0,2,st)
 else
 optE t_0 fun i1=>
 getE (st[i1]?) ZcW fun x2 x3=>
 optE (ZaG N x2 h_1 now_2 st) fun (x4,x5,x6,st7)=>
 if (x6==0)=true then
  getE (st7[i1]?) ZcW fun x8 x9=>
  if (x4==(len x9))=true then
   optE x8 fun i10=>
   getE (st7[i10]?) ZbR fun x11=>
   optE (ZbU N x11 x4) fun (x12,x13)=>
   optE (ZdD N x12.Height) fun x14=>
   optE (Zaq N (Zau.mk x11 x9) x12.Ahead x14) fun x15=>
   chk (List.length (x9 ++ [[L.int .i64 x15]])*8≤140737488355328)<|
   ZbL.p1 N x4 x5 x6 (List.set (List.set st7 i1 [L.ptr (some i10),L.gone]) i1 [L.ptr (some i10),L.own true 1 (x9 ++ [[L.int .i64 x15]])])
  else
  ZbL.p1 N x4 x5 x6 st7
 else
 some (x4,x5,x6,st7)
noncomputable def ZbL.p1.S (x4 x5 x6:Int) (st16:LL):S:=mkS 66 [(9,sI x4),(10,sI x5),(11,sI x6)] [] st16
theorem ZbL.p1_ok {x4 x5 x6 st16 r} (h:ZbL.p1 N x4 x5 x6 st16=some r) (hE:En Tryz.f25 g0 w0 (ZbL.rs r) r.2.2.2 R):At g0 w0 (ZbL.p1.S x4 x5 x6 st16) (XK Tryz.prog R [.c (csub ZbL.B [1,1,1,1])]):=by
 unfold ZbL.p1 at h
 obtain rfl:=Zab h
 exact af fol hE [.r []] [] 0 [] trivial
theorem ZbL.snd {t_0:Option Nat} {h_1:Zai} {now_2:Int} {st:LL} {r:Int×Int×Int×LL} (h:ZbL N t_0 h_1 now_2 st=some r):Snd Tryz.prog 25 [.one (L.ptr t_0),.agg h_1.ls,oI now_2] st (ZbL.rs r) r.2.2.2:=
 sO ZbL.B Tryz.func25 fun g0 w0 R hE=>by
  unfold ZbL at h
  refine iteB h (fun c1 h1=>?_) (fun c1 h2=>?_)
  ·obtain rfl:=Zab h1
   exact af fol hE [.r [],.r [],.c true,.r []] [] 0 [] c1
  ·obtain ⟨i1,rfl,h3⟩:=Zad h2
   obtain ⟨x2,x3,c3,h4⟩:=ZcS h3
   obtain ⟨⟨x4,x5,x6,st7⟩,c4,h5⟩:=Zad h4
   let o1:List PS:=[.r [],.r [],.c false,.d {ds:=[(3,{oc:=[L.ptr x2,L.own true 1 x3]}),(6,{rs:=[oI x4,oI x5,oI x6],st:=st7})],hv:=64,Hs:=[64]}]
   have t1 {Q:Prop} (q:Q):=aK c1 c3 (ZaG.snd c4) q
   refine iteB h5 (fun c5 h6=>?_) (fun c5 h7=>?_)
   ·obtain ⟨x8,x9,c6,h8⟩:=ZcS h6
    refine iteB h8 (fun c7 h9=>?_) (fun c7 h10=>?_)
    ·obtain ⟨i10,rfl,h11⟩:=Zad h9
     obtain ⟨x11,c9,h12⟩:=ZbK h11
     obtain ⟨⟨x12,x13⟩,c10,h13⟩:=Zad h12
     obtain ⟨x14,c11,h14⟩:=Zad h13
     obtain ⟨x15,c12,h15⟩:=Zad h14
     obtain ⟨c13,h16⟩:=ZaI h15
     exact aqd fol (o1 ++ [.r [(7,{oc:=[L.ptr (some i10),L.own true 1 x9]})],.c true,.r [(3,{oc:=[L.ptr (some i10),L.own true 1 x9]}),(5,{rs:=[.agg x12.ls,oB x13],m:=10,cv:=[.one (L.bx 87 x11.ls)]})],.d {ds:=[(4,{oc:=[L.ptr (some i10),L.own true 1 x9]}),(10,q1 [oI x14]),(11,{rs:=[oI x15],m:=10,cv:=[.one (L.bx 2 (Zau.ls (Zau.mk x11 x9)))]}),(13,{oe:=[L.ptr (some i10),L.own true 1 x9]}),(16,{oc:=[L.ptr (some i10),L.gone],mv:=[60]})],hv:=79872,Hs:=[2048,6144,14336,79872]},.s 1]) [9,10,11] [] (t1 (aO c5 c5 c5 c5 c5 c6 c5 (aO c5 c5 c7 c6 (bO 87 c9 (ZaD.bv x11)) (ZbU.snd c10) c6 (aO c6 c6 (ZdD.snd c11) (bO 2 c6 ((bC 87 c9 (ZaD.bv x11) (bW bN)):BVs st7 [L.ptr (some i10),L.own true 1 x9] (Zau.ls (Zau.mk x11 x9)))) (Zaq.snd c12) z0 (eN (List.length x9)) (aN c6 z0 (eN (1)) c13 (Zap c6 [L.ptr (some i10),L.gone]) z0 (eN (List.length (x9 ++ [[L.int .i64 x15]])))))))) (ZbL.p1_ok h16 hE)
    ·exact aqd fol (o1 ++ [.r [(7,{oc:=[L.ptr x8,L.own true 1 x9]})],.c false,.s 1]) [9,10,11] [] (t1 (aO c5 c5 c5 c5 c5 c6 c5 (aJ c5 c5 c7))) (ZbL.p1_ok h10 hE)
   ·obtain rfl:=Zab h7
    exact afd fol hE (o1 ++ [.r [(3,wF),(4,wF),(5,wF),(6,wF),(7,wF),(8,wF),(9,wF),(10,yF)],.c false,.r []]) [] 0 [] (t1 (aO c5 c5 c5 c5 c5 c5 c5 (aI c5 eF)))
noncomputable def Zbg.B:Code:=Tryz.f143.body.getD .skip
noncomputable def Zbg.rs (r:Int):List CV:=[oI r]
noncomputable def Zbg.p1 (N:Nat) (a_0:Zaa) (id_1_0:List Int) (c1_:Int→Option Int):Int→Option Int:=fun v1=>
 if (decide (v1<(len a_0.Ids)))=true then
  chk (0≤v1)<|
  getE (a_0.Ids[Int.toNat v1]?) Zdt fun x2=>
  if (x2==id_1_0)=true then
   some v1
  else
  c1_ (w64 (v1+1))
 else
 some (-1)
noncomputable def Zbg (N:Nat) (a_0:Zaa) (id_1_0:List Int):Option Int:=
 loopN (Zbg.p1 N a_0 id_1_0) N 0
noncomputable def Zbg.p1.S (a_0:Zaa) (v1:Int) (id_1_0:List Int) (st:LL):S:=mkS 22 [(3,sA 3),(10,sV 32 a_0.Ids),(11,sI (len a_0.Ids)),(12,sI v1)] [(3,.cells [L.arr .u8 32 id_1_0])] st
theorem Zbg.p1_ok {a_0 v1 id_1_0 st r c1_ J1} (h:Zbg.p1 N a_0 id_1_0 c1_ v1=some r) (hE:En Tryz.f143 g0 w0 (Zbg.rs r) st R) (hc1 : ∀v1,c1_ v1=some r→At g0 w0 (Zbg.p1.S a_0 v1 id_1_0 st) J1):At g0 w0 (Zbg.p1.S a_0 v1 id_1_0 st) (XK Tryz.prog R (.c (csub Zbg.B [1,0,1,0,0]) :: .h J1 :: [.b 0,.c (csub Zbg.B [1,1])])):=by
 unfold Zbg.p1 at h
 refine iteB h (fun c1 h1=>?_) (fun c1 h2=>?_)
 ·obtain ⟨c2,h3⟩:=ZaI h1
  obtain ⟨x2,c3,h4⟩:=ZcM h3
  let o1:List PS:=[.r [],.c true,.r [(2,{oe:=[L.arr .u8 32 x2]})],.r []]
  refine iteB h4 (fun c4 h5=>?_) (fun c4 h6=>?_)
  ·obtain rfl:=Zab h5
   exact af fol hE (o1 ++ [.c true,.r []]) [] 0 [] (aL c1 c2 (oD c1) c3 c4)
  ·exact an fol (o1 ++ [.c false,.r []]) [3,10,11,12] [3] (aL c1 c2 (oD c1) c3 c4) (hc1 (w64 (v1+1)) h6)
 ·obtain rfl:=Zab h2
  exact af fol hE [.r [],.c false,.r []] [] 0 [] c1
theorem Zbg.snd {a_0:Zaa} {id_1_0:List Int} {r:Int} (h:Zbg N a_0 id_1_0=some r):SndQ Tryz.prog 143 [.one (L.bx 88 a_0.ls),.agg [L.arr .u8 32 id_1_0]] (Zbg.rs r):=fun st=>
 sO Zbg.B Tryz.func143 fun g0 w0 R hE=>by
  unfold Zbg at h
  exact aq fol [.r [],.r [(3,{oe:=a_0.ls})]] [3,10,11,12] [3] (eO a_0.ls) (At.loop N (At.loopN (fun y:Int=>Zbg.p1.S a_0 y id_1_0 st) (fun c J hc y h=>Zbg.p1_ok h hE (fun v1=>hc v1)) N 0 h))
noncomputable def ZaO.B:Code:=Tryz.f44.body.getD .skip
noncomputable def ZaO.rs (r:LL):List CV:=[.row true 68 r]
noncomputable def ZaO.p1 (N:Nat) (a_0:Zaa) (c1_:(LL×Int)→Option LL):(LL×Int)→Option LL:=fun (out_4,k_1)=>
 if (decide (k_1≥0))=true then
  chk (0≤k_1)<|
  chk (k_1<(len a_0.List_))<|
  getE (a_0.List_[Int.toNat k_1]?) Zdk fun x5=>
  chk (List.length ([x5.ls]++out_4)*96≤140737488355328)<|
  chk (k_1<(len a_0.Ahead))<|
  getE (a_0.Ahead[Int.toNat k_1]?) ZcG fun x6=>
  c1_ ([x5.ls]++out_4,x6)
 else
 some out_4
noncomputable def ZaO (N:Nat) (a_0:Zaa) (at_1:Int):Option LL:=
 loopN (ZaO.p1 N a_0) N ([],at_1)
noncomputable def ZaO.p1.S (a_0:Zaa) (out_4:LL) (k_1:Int) (st:LL):S:=mkS 28 [(0,.one (.l (L.bx 88 a_0.ls))),(5,.one (.h (.row 5 0) 68 0 (List.length out_4))),(6,sI k_1)] [(5,.row 0 true 68 out_4)] st
theorem ZaO.p1_ok {a_0 out_4 k_1 st r c1_ J1} (h:ZaO.p1 N a_0 c1_ (out_4,k_1)=some r) (hE:En Tryz.f44 g0 w0 (ZaO.rs r) st R) (hc1 : ∀out_4 k_1,c1_ (out_4,k_1)=some r→At g0 w0 (ZaO.p1.S a_0 out_4 k_1 st) J1):At g0 w0 (ZaO.p1.S a_0 out_4 k_1 st) (XK Tryz.prog R (.c (csub ZaO.B [1,1,0,1,0,0]) :: .h J1 :: [.b 0,.c (csub ZaO.B [1,1,1])])):=by
 unfold ZaO.p1 at h
 refine iteB h (fun c8 h1=>?_) (fun c8 h2=>?_)
 ·obtain ⟨c9,c10,h3⟩:=ck2 h1
  obtain ⟨x5,c11,h4⟩:=Zdp h3
  obtain ⟨c12,c13,h5⟩:=ck2 h4
  obtain ⟨x6,c14,h6⟩:=Zcf h5
  exact an fol [.r [],.c true,.r [(3,{oe:=a_0.ls}),(6,{oe:=x5.ls}),(10,{m:=4})],.r [(3,{oe:=a_0.ls}),(6,{oe:=[L.int .i64 x6]})]] [0,5,6] [5] (aO c8 (eO a_0.ls) c9 c10 c11 z0 (eN (1)) (aN z0 (eN (List.length out_4)) c12 (eO a_0.ls) c9 c13 c14)) (hc1 ([x5.ls]++out_4) x6 h6)
 ·obtain rfl:=Zab h2
  exact af fol hE [.r [],.c false,.r []] [] 0 [0] (aJ c8 z0 (eN (List.length out_4)))
theorem ZaO.snd {a_0:Zaa} {at_1:Int} {r:LL} (h:ZaO N a_0 at_1=some r):SndQ Tryz.prog 44 [.one (L.bx 88 a_0.ls),oI at_1] (ZaO.rs r):=fun st=>
 sO ZaO.B Tryz.func44 fun g0 w0 R hE=>by
  unfold ZaO at h
  exact aq fol [.r [(0,{m:=2})],.r [(0,{m:=1})],.r []] [0,5,6] [5] trivial (At.loop N (At.loopN (fun y:LL×Int=>ZaO.p1.S a_0 y.1 y.2 st) (fun c J hc y h=>ZaO.p1_ok (out_4:=y.1) (k_1:=y.2) h hE (fun out_4 k_1=>hc (out_4,k_1))) N ([],at_1) h))
noncomputable def Zar.B:Code:=Tryz.f220.body.getD .skip
noncomputable def Zar.rs (r:(List Int)×Bool):List CV:=[.agg [L.arr .u64 4 r.1],oB r.2]
noncomputable def Zar.p2 (N:Nat) (c1_:(Int×Int×(List Int))→Option ((List Int)×Bool)) (by_1 over_2 c_1 i_2 w_12:Int) (n_0_0 d_11:List Int):Option ((List Int)×Bool):=
 chk (0≤i_2)<|
 chk (i_2<10)<|
 c1_ (w64 (Int.tdiv (w64 ((w64 (w_12*by_1))+c_1)) 4294967296),w64 (i_2+1),List.set d_11 (Int.toNat i_2) (Int.tmod (w64 ((w64 (w_12*by_1))+c_1)) 4294967296))
noncomputable def Zar.p4 (N:Nat) (q_17:List Int) (c4_:(Int×(List Int))→Option ((List Int)×Bool)):(Int×(List Int))→Option ((List Int)×Bool):=fun (i_18,out_19)=>
 if (decide (i_18<8))=true then
  chk (0≤(w64 (Int.tdiv i_18 2)))<|
  chk ((w64 (Int.tdiv i_18 2))<4)<|
  chk (0≤i_18)<|
  chk (i_18<10)<|
  chk (0≤(v64 (w64 (32*(Int.tmod i_18 2)))))<|
  c4_ (w64 (i_18+1),List.set out_19 (Int.toNat (w64 (Int.tdiv i_18 2))) (v64 ((List.getD out_19 (Int.toNat (w64 (Int.tdiv i_18 2))) 0)+(shlOf .u64 (v64 (List.getD q_17 (Int.toNat i_18) 0)) (v64 (w64 (32*(Int.tmod i_18 2))))))))
 else
 if ((List.getD q_17 8 0)==0)=true then
  some (out_19,(List.getD q_17 9 0)==0)
 else
 some (out_19,false)
noncomputable def Zar.p3 (N:Nat) (over_2:Int) (d_11:List Int) (c3_:(Int×Int×(List Int))→Option ((List Int)×Bool)):(Int×Int×(List Int))→Option ((List Int)×Bool):=fun (rest_13,i_14,q_17)=>
 if (decide (i_14≥0))=true then
  chk (0≤i_14)<|
  chk (i_14<10)<|
  chk (over_2≠0)<|
  c3_ (Int.tmod (w64 ((w64 (rest_13*4294967296))+(List.getD d_11 (Int.toNat i_14) 0))) over_2,w64 (i_14-1),List.set q_17 (Int.toNat i_14) (w64 (Int.tdiv (w64 ((w64 (rest_13*4294967296))+(List.getD d_11 (Int.toNat i_14) 0))) over_2)))
 else
 loopN (Zar.p4 N q_17) N (0,List.replicate 4 0)
noncomputable def Zar.p1 (N:Nat) (by_1 over_2:Int) (n_0_0:List Int) (c1_:(Int×Int×(List Int))→Option ((List Int)×Bool)):(Int×Int×(List Int))→Option ((List Int)×Bool):=fun (c_1,i_2,d_11)=>
 if (decide (i_2<10))=true then
  if (decide (i_2<8))=true then
   chk (0≤(w64 (Int.tdiv i_2 2)))<|
   chk ((w64 (Int.tdiv i_2 2))<4)<|
   chk (0≤(v64 (w64 (32*(Int.tmod i_2 2)))))<|
   Zar.p2 N c1_ by_1 over_2 c_1 i_2 (w64 (Int.tmod (shrOf .u64 (List.getD n_0_0 (Int.toNat (w64 (Int.tdiv i_2 2))) 0) (v64 (w64 (32*(Int.tmod i_2 2))))) 4294967296)) n_0_0 d_11
  else
  Zar.p2 N c1_ by_1 over_2 c_1 i_2 0 n_0_0 d_11
 else
 loopN (Zar.p3 N over_2 d_11) N (0,9,List.replicate 10 0)
noncomputable def Zar (N:Nat) (n_0_0:List Int) (by_1 over_2:Int):Option ((List Int)×Bool):=
 loopN (Zar.p1 N by_1 over_2 n_0_0) N (0,0,List.replicate 10 0)
noncomputable def Zar.p2.S (by_1 over_2 c_1 i_2 w_12:Int) (n_0_0 d_11:List Int) (st:LL):S:=mkS 96 [(1,sI by_1),(2,sI over_2),(3,sA 3),(6,sA 6),(8,sA 8),(9,sI c_1),(10,sI i_2),(11,sI w_12)] [(3,.cells [L.arr .u64 4 n_0_0]),(6,.cells [L.arr .u64 4 (List.replicate 4 0)]),(8,.cells [L.arr .i64 10 d_11])] st
noncomputable def Zar.p4.S (i_18:Int) (q_17 out_19:List Int) (st:LL):S:=mkS 96 [(6,sA 6),(14,sA 14),(17,sA 17),(18,sI i_18)] [(6,.cells [L.arr .u64 4 (List.replicate 4 0)]),(14,.cells [L.arr .i64 10 q_17]),(17,.cells [L.arr .u64 4 out_19])] st
noncomputable def Zar.p3.S (over_2 rest_13 i_14:Int) (d_11 q_17:List Int) (st:LL):S:=mkS 96 [(2,sI over_2),(6,sA 6),(8,sA 8),(13,sI rest_13),(14,sA 14),(15,sI i_14)] [(6,.cells [L.arr .u64 4 (List.replicate 4 0)]),(8,.cells [L.arr .i64 10 d_11]),(14,.cells [L.arr .i64 10 q_17])] st
noncomputable def Zar.p1.S (by_1 over_2 c_1 i_2:Int) (n_0_0 d_11:List Int) (st:LL):S:=mkS 96 [(1,sI by_1),(2,sI over_2),(3,sA 3),(6,sA 6),(8,sA 8),(9,sI c_1),(10,sI i_2)] [(3,.cells [L.arr .u64 4 n_0_0]),(6,.cells [L.arr .u64 4 (List.replicate 4 0)]),(8,.cells [L.arr .i64 10 d_11])] st
theorem Zar.p2_ok {by_1 over_2 c_1 i_2 w_12 n_0_0 d_11 st r c1_ J1} (h:Zar.p2 N c1_ by_1 over_2 c_1 i_2 w_12 n_0_0 d_11=some r) (hE:En Tryz.f220 g0 w0 (Zar.rs r) st R) (hc1 : ∀c_1 i_2 d_11,c1_ (c_1,i_2,d_11)=some r→At g0 w0 (Zar.p1.S by_1 over_2 c_1 i_2 n_0_0 d_11 st) J1):At g0 w0 (Zar.p2.S by_1 over_2 c_1 i_2 w_12 n_0_0 d_11 st) (XK Tryz.prog R [.c (csub Zar.B [1,1,1,0,1,0,0,1,0,0,1,1]),.b 1,.c (csub Zar.B [1,1,1,0,1,0,0,1,1]),.h J1,.b 0,.c (csub Zar.B [1,1,1,1])]):=by
 unfold Zar.p2 at h
 obtain ⟨c49,c50,h1⟩:=ck2 h
 exact an fol [.r [],.r [],.r [],.r []] [1,2,3,6,8,9,10] [3,6,8] (aK (neI 4294967296) c49 c50 (neI 4294967296)) (hc1 (w64 (Int.tdiv (w64 ((w64 (w_12*by_1))+c_1)) 4294967296)) (w64 (i_2+1)) (List.set d_11 (Int.toNat i_2) (Int.tmod (w64 ((w64 (w_12*by_1))+c_1)) 4294967296)) h1)
theorem Zar.p4_ok {i_18 q_17 out_19 st r c4_ J4} (h:Zar.p4 N q_17 c4_ (i_18,out_19)=some r) (hE:En Tryz.f220 g0 w0 (Zar.rs r) st R) (hc4 : ∀i_18 out_19,c4_ (i_18,out_19)=some r→At g0 w0 (Zar.p4.S i_18 q_17 out_19 st) J4):At g0 w0 (Zar.p4.S i_18 q_17 out_19 st) (XK Tryz.prog R (.c (csub Zar.B [1,1,1,1,1,1,1,1,0,1,0,0]) :: .h J4 :: [.b 4,.c (csub Zar.B [1,1,1,1,1,1,1,1,1])])):=by
 unfold Zar.p4 at h
 refine iteB h (fun c80 h2=>?_) (fun c80 h3=>?_)
 ·obtain ⟨c81,c82,c83,c84,c85,h4⟩:=ck5 h2
  exact and_ fol [.r [],.c true,.d {ds:=[],hv:=131072,Hs:=[131072]},.r []] [6,14,17,18] [6,14,17] (aO c80 (neI 2) (neI 2) c81 c82 c83 c84 (aK (neI 2) c85 c81 c82)) (hc4 (w64 (i_18+1)) (List.set out_19 (Int.toNat (w64 (Int.tdiv i_18 2))) (v64 ((List.getD out_19 (Int.toNat (w64 (Int.tdiv i_18 2))) 0)+(shlOf .u64 (v64 (List.getD q_17 (Int.toNat i_18) 0)) (v64 (w64 (32*(Int.tmod i_18 2)))))))) h4)
 ·refine iteB h3 (fun c86 h5=>?_) (fun c86 h6=>?_)
  ·obtain rfl:=Zab h5
   exact afd fol hE [.r [],.c false,.d {ds:=[],hv:=512,Hs:=[512]}] [] 0 [] (aI c80 (ix 8 10 (aI c86 (ix 9 10 (aI c86 (ix 9 10 (aM c86 c86 c86 c86 c86 c86)))))))
  ·obtain rfl:=Zab h6
   exact afd fol hE [.r [],.c false,.d {ds:=[(5,wF),(6,wF),(7,wF),(8,yF)],hv:=512,Hs:=[512]}] [] 0 [] (aI c80 (ix 8 10 (aO c86 c86 c86 c86 c86 c86 c86 c86)))
theorem Zar.p3_ok {over_2 rest_13 i_14 d_11 q_17 st r c3_ J3} (h:Zar.p3 N over_2 d_11 c3_ (rest_13,i_14,q_17)=some r) (hE:En Tryz.f220 g0 w0 (Zar.rs r) st R) (hc3 : ∀rest_13 i_14 q_17,c3_ (rest_13,i_14,q_17)=some r→At g0 w0 (Zar.p3.S over_2 rest_13 i_14 d_11 q_17 st) J3):At g0 w0 (Zar.p3.S over_2 rest_13 i_14 d_11 q_17 st) (XK Tryz.prog R (.c (csub Zar.B [1,1,1,1,1,1,0,1,0,0]) :: .h J3 :: [.b 2,.c (csub Zar.B [1,1,1,1,1,1,1])])):=by
 unfold Zar.p3 at h
 refine iteB h (fun c69 h7=>?_) (fun c69 h8=>?_)
 ·obtain ⟨c70,c71,c72,h9⟩:=ck3 h7
  exact an fol [.r [],.c true,.r [],.r [],.r [],.r []] [2,6,8,13,14,15] [6,8,14] (aN c69 c70 c71 c72 c70 c71 c72) (hc3 (Int.tmod (w64 ((w64 (rest_13*4294967296))+(List.getD d_11 (Int.toNat i_14) 0))) over_2) (w64 (i_14-1)) (List.set q_17 (Int.toNat i_14) (w64 (Int.tdiv (w64 ((w64 (rest_13*4294967296))+(List.getD d_11 (Int.toNat i_14) 0))) over_2))) h9)
 ·exact aq fol [.r [],.c false,.r [],.r []] [6,14,17,18] [6,14,17] c69 (At.loop N (At.loopN (fun y:Int×(List Int)=>Zar.p4.S y.1 q_17 y.2 st) (fun c J hc y h=>Zar.p4_ok (i_18:=y.1) (out_19:=y.2) h hE (fun i_18 out_19=>hc (i_18,out_19))) N (0,List.replicate 4 0) h8))
theorem Zar.p1_ok {by_1 over_2 c_1 i_2 n_0_0 d_11 st r c1_ J1} (h:Zar.p1 N by_1 over_2 n_0_0 c1_ (c_1,i_2,d_11)=some r) (hE:En Tryz.f220 g0 w0 (Zar.rs r) st R) (hc1 : ∀c_1 i_2 d_11,c1_ (c_1,i_2,d_11)=some r→At g0 w0 (Zar.p1.S by_1 over_2 c_1 i_2 n_0_0 d_11 st) J1):At g0 w0 (Zar.p1.S by_1 over_2 c_1 i_2 n_0_0 d_11 st) (XK Tryz.prog R (.c (csub Zar.B [1,1,1,0,1,0,0]) :: .h J1 :: [.b 0,.c (csub Zar.B [1,1,1,1])])):=by
 unfold Zar.p1 at h
 refine iteB h (fun c44 h10=>?_) (fun c44 h11=>?_)
 ·refine iteB h10 (fun c45 h12=>?_) (fun c45 h13=>?_)
  ·obtain ⟨c46,c47,c48,h14⟩:=ck3 h12
   exact aq fol [.r [],.c true,.r [],.r [],.c true,.r [],.s 6] [1,2,3,6,8,9,10,11] [3,6,8] (aO c44 c45 (neI 2) c46 c47 (neI 2) c48 (neI 4294967296)) (Zar.p2_ok h14 hE hc1)
  ·exact aq fol [.r [],.c true,.r [],.r [],.c false,.s 6] [1,2,3,6,8,9,10,11] [3,6,8] (aI c44 c45) (Zar.p2_ok h13 hE hc1)
 ·exact aq fol [.r [],.c false,.r [],.r [],.r []] [2,6,8,13,14,15] [6,8,14] c44 (At.loop N (At.loopN (fun y:Int×Int×(List Int)=>Zar.p3.S over_2 y.1 y.2.1 d_11 y.2.2 st) (fun c J hc y h=>Zar.p3_ok (rest_13:=y.1) (i_14:=y.2.1) (q_17:=y.2.2) h hE (fun rest_13 i_14 q_17=>hc (rest_13,i_14,q_17))) N (0,9,List.replicate 10 0) h11))
theorem Zar.snd {n_0_0:List Int} {by_1 over_2:Int} {r:(List Int)×Bool} (h:Zar N n_0_0 by_1 over_2=some r):SndQ Tryz.prog 220 [.agg [L.arr .u64 4 n_0_0],oI by_1,oI over_2] (Zar.rs r):=fun st=>
 sO Zar.B Tryz.func220 fun g0 w0 R hE=>by
  unfold Zar at h
  exact aq fol [.r [],.r [],.r [],.r []] [1,2,3,6,8,9,10] [3,6,8] trivial (At.loop N (At.loopN (fun y:Int×Int×(List Int)=>Zar.p1.S by_1 over_2 y.1 y.2.1 n_0_0 y.2.2 st) (fun c J hc y h=>Zar.p1_ok (c_1:=y.1) (i_2:=y.2.1) (d_11:=y.2.2) h hE (fun c_1 i_2 d_11=>hc (c_1,i_2,d_11))) N (0,0,List.replicate 10 0) h))
noncomputable def Zat.B:Code:=Tryz.f221.body.getD .skip
noncomputable def Zat.rs (r:Int):List CV:=[oI r]
noncomputable def Zat.p2 (N:Nat) (c1_:(Int×Int)→Option Int) (size_4 i_2:Int) (n_0_0:List Int):Option Int:=
 c1_ (size_4,w64 (i_2+1))
noncomputable def Zat.p4 (N:Nat) (size_8 word_9:Int):Option Int:=
 some (w64 ((w64 (size_8*16777216))+word_9))
noncomputable def Zat.p3 (N:Nat) (size_1 word_7:Int):Option Int:=
 if (decide (word_7≥8388608))=true then
  Zat.p4 N (w64 (size_1+1)) (w64 (Int.tdiv word_7 256))
 else
 Zat.p4 N size_1 word_7
noncomputable def Zat.p1 (N:Nat) (n_0_0:List Int) (c1_:(Int×Int)→Option Int):(Int×Int)→Option Int:=fun (size_1,i_2)=>
 if (decide (i_2<32))=true then
  optE (Zal N n_0_0 (w64 ((-8)*i_2))) fun x3=>
  if (decide ((Int.tmod (List.getD x3 0 0) 256)>0))=true then
   Zat.p2 N c1_ (w64 (i_2+1)) i_2 n_0_0
  else
  Zat.p2 N c1_ size_1 i_2 n_0_0
 else
 optE (Zal N n_0_0 (w64 (8*(w64 (3-size_1))))) fun x5=>
 if (decide (size_1>3))=true then
  optE (Zal N n_0_0 (w64 ((-8)*(w64 (size_1-3))))) fun x6=>
  Zat.p3 N size_1 (w64 (Int.tmod (List.getD x6 0 0) 16777216))
 else
 Zat.p3 N size_1 (w64 (Int.tmod (List.getD x5 0 0) 16777216))
noncomputable def Zat (N:Nat) (n_0_0:List Int):Option Int:=
 loopN (Zat.p1 N n_0_0) N (0,0)
noncomputable def Zat.p2.S (size_4 i_2:Int) (n_0_0:List Int) (st:LL):S:=mkS 49 [(1,sA 1),(3,sI size_4),(4,sI i_2)] [(1,.cells [L.arr .u64 4 n_0_0])] st
noncomputable def Zat.p4.S (size_8 word_9:Int) (st:LL):S:=mkS 49 [(3,sI size_8),(6,sI word_9)] [] st
noncomputable def Zat.p3.S (size_1 word_7:Int) (st:LL):S:=mkS 49 [(3,sI size_1),(6,sI word_7)] [] st
noncomputable def Zat.p1.S (size_1 i_2:Int) (n_0_0:List Int) (st:LL):S:=mkS 49 [(1,sA 1),(3,sI size_1),(4,sI i_2)] [(1,.cells [L.arr .u64 4 n_0_0])] st
theorem Zat.p2_ok {size_4 i_2 n_0_0 st r c1_ J1} (h:Zat.p2 N c1_ size_4 i_2 n_0_0=some r) (hE:En Tryz.f221 g0 w0 (Zat.rs r) st R) (hc1 : ∀size_1 i_2,c1_ (size_1,i_2)=some r→At g0 w0 (Zat.p1.S size_1 i_2 n_0_0 st) J1):At g0 w0 (Zat.p2.S size_4 i_2 n_0_0 st) (XK Tryz.prog R [.c (csub Zat.B [1,1,0,1,0,0,1,1]),.h J1,.b 0,.c (csub Zat.B [1,1,1])]):=by
 unfold Zat.p2 at h
 exact an fol [.r []] [1,3,4] [1] trivial (hc1 size_4 (w64 (i_2+1)) h)
theorem Zat.p4_ok {size_8 word_9 st r} (h:Zat.p4 N size_8 word_9=some r) (hE:En Tryz.f221 g0 w0 (Zat.rs r) st R):At g0 w0 (Zat.p4.S size_8 word_9 st) (XK Tryz.prog R [.c (csub Zat.B [1,1,1,1,1,1])]):=by
 unfold Zat.p4 at h
 obtain rfl:=Zab h
 exact af fol hE [.r []] [] 0 [] trivial
theorem Zat.p3_ok {size_1 word_7 st r} (h:Zat.p3 N size_1 word_7=some r) (hE:En Tryz.f221 g0 w0 (Zat.rs r) st R):At g0 w0 (Zat.p3.S size_1 word_7 st) (XK Tryz.prog R [.c (csub Zat.B [1,1,1,1,1])]):=by
 unfold Zat.p3 at h
 refine iteB h (fun c7 h1=>?_) (fun c7 h2=>?_)
 ·exact aq fol [.r [],.c true,.r [],.r [],.s 1] [3,6] [] (aI c7 (neI 256)) (Zat.p4_ok h1 hE)
 ·exact aq fol [.r [],.c false,.s 1] [3,6] [] c7 (Zat.p4_ok h2 hE)
theorem Zat.p1_ok {size_1 i_2 n_0_0 st r c1_ J1} (h:Zat.p1 N n_0_0 c1_ (size_1,i_2)=some r) (hE:En Tryz.f221 g0 w0 (Zat.rs r) st R) (hc1 : ∀size_1 i_2,c1_ (size_1,i_2)=some r→At g0 w0 (Zat.p1.S size_1 i_2 n_0_0 st) J1):At g0 w0 (Zat.p1.S size_1 i_2 n_0_0 st) (XK Tryz.prog R (.c (csub Zat.B [1,1,0,1,0,0]) :: .h J1 :: [.b 0,.c (csub Zat.B [1,1,1])])):=by
 unfold Zat.p1 at h
 refine iteB h (fun c1 h3=>?_) (fun c1 h4=>?_)
 ·obtain ⟨x3,c2,h5⟩:=Zad h3
  let o1:List PS:=[.r [],.c true,.r [(3,q1 [.agg [L.arr .u64 4 x3]])],.r []]
  have t1 {Q:Prop} (q:Q):=aJ c1 (Zal.snd c2) (ix 0 4 (aI (neI 256) q))
  refine iteB h5 (fun c3 h6=>?_) (fun c3 h7=>?_)
  ·exact aq fol (o1 ++ [.c true,.r [],.s 4]) [1,3,4] [1] (t1 c3) (Zat.p2_ok h6 hE hc1)
  ·exact aq fol (o1 ++ [.c false,.s 4]) [1,3,4] [1] (t1 c3) (Zat.p2_ok h7 hE hc1)
 ·obtain ⟨x5,c4,h8⟩:=Zad h4
  let o2:List PS:=[.r [],.c false,.r [(4,q1 [.agg [L.arr .u64 4 x5]])],.r []]
  have t2 {Q:Prop} (q:Q):=aJ c1 (Zal.snd c4) (ix 0 4 (aI (neI 16777216) q))
  refine iteB h8 (fun c5 h9=>?_) (fun c5 h10=>?_)
  ·obtain ⟨x6,c6,h11⟩:=Zad h9
   exact aq fol (o2 ++ [.c true,.r [(4,q1 [.agg [L.arr .u64 4 x6]])],.s 1]) [3,6] [] (t2 (aJ c5 (Zal.snd c6) (ix 0 4 (neI 16777216)))) (Zat.p3_ok h11 hE)
  ·exact aq fol (o2 ++ [.c false,.s 1]) [3,6] [] (t2 c5) (Zat.p3_ok h10 hE)
theorem Zat.snd {n_0_0:List Int} {r:Int} (h:Zat N n_0_0=some r):SndQ Tryz.prog 221 [.agg [L.arr .u64 4 n_0_0]] (Zat.rs r):=fun st=>
 sO Zat.B Tryz.func221 fun g0 w0 R hE=>by
  unfold Zat at h
  exact aq fol [.r [],.r [],.r []] [1,3,4] [1] trivial (At.loop N (At.loopN (fun y:Int×Int=>Zat.p1.S y.1 y.2 n_0_0 st) (fun c J hc y h=>Zat.p1_ok (size_1:=y.1) (i_2:=y.2) h hE (fun size_1 i_2=>hc (size_1,i_2))) N (0,0) h))
noncomputable def Zaw.B:Code:=Tryz.f204.body.getD .skip
noncomputable def Zaw.rs (r:Int):List CV:=[oI r]
noncomputable def Zaw.p3 (N:Nat) (n_11:List Int):Option Int:=
 optE (Zat N n_11) fun x12=>
 some x12
noncomputable def Zaw.p2 (N:Nat) (p_0:Zae) (took_5:Int) (x1:List Int):Option Int:=
 optE (Zar N x1 took_5 (w64 (p_0.Interval*p_0.Spacing))) fun (x6,x7)=>
 optE (Zcs N p_0.Limit p_0.Limit) fun (x8,x9)=>
 if (!x7)=true then
  some p_0.Limit
 else
 optE (Zbn N x8 x6) fun x10=>
 if x10=true then
  some p_0.Limit
 else
 if (x6==(List.replicate 4 0))=true then
  Zaw.p3 N [1,0,0,0]
 else
 Zaw.p3 N x6
noncomputable def Zaw.p1 (N:Nat) (p_0:Zae) (took_4:Int) (x1:List Int):Option Int:=
 if (decide (took_4>(w64 ((w64 (p_0.Interval*p_0.Spacing))*4))))=true then
  Zaw.p2 N p_0 (w64 ((w64 (p_0.Interval*p_0.Spacing))*4)) x1
 else
 Zaw.p2 N p_0 took_4 x1
noncomputable def Zaw (N:Nat) (p_0:Zae) (bits_1 from_2 to_3:Int):Option Int:=
 optE (Zcs N bits_1 p_0.Limit) fun (x1,x2)=>
 optE (Zdi N p_0) fun x3=>
 if (!x3)=true then
  some p_0.Limit
 else
 if (!x2)=true then
  some p_0.Limit
 else
 if (decide ((w64 (to_3-from_2))<(w64 (Int.tdiv (w64 (p_0.Interval*p_0.Spacing)) 4))))=true then
  Zaw.p1 N p_0 (w64 (Int.tdiv (w64 (p_0.Interval*p_0.Spacing)) 4)) x1
 else
 Zaw.p1 N p_0 (w64 (to_3-from_2)) x1
noncomputable def Zaw.p3.S (n_11:List Int) (st:LL):S:=mkS 83 [(13,sA 13)] [(13,.cells [L.arr .u64 4 n_11])] st
noncomputable def Zaw.p2.S (p_0:Zae) (took_5:Int) (x1:List Int) (st:LL):S:=mkS 83 [(4,sA 4),(9,sA 9),(11,sI (w64 (p_0.Interval*p_0.Spacing))),(12,sI took_5)] [(4,.cells p_0.ls),(9,.cells [L.arr .u64 4 x1])] st
noncomputable def Zaw.p1.S (p_0:Zae) (took_4:Int) (x1:List Int) (st:LL):S:=mkS 83 [(4,sA 4),(9,sA 9),(11,sI (w64 (p_0.Interval*p_0.Spacing))),(12,sI took_4)] [(4,.cells p_0.ls),(9,.cells [L.arr .u64 4 x1])] st
theorem Zaw.p3_ok {n_11 st r} (h:Zaw.p3 N n_11=some r) (hE:En Tryz.f204 g0 w0 (Zaw.rs r) st R):At g0 w0 (Zaw.p3.S n_11 st) (XK Tryz.prog R [.c (csub Zaw.B [1,1,1,1,1,1,1,1,1,1,1])]):=by
 unfold Zaw.p3 at h
 obtain ⟨x12,c13,h1⟩:=Zad h
 obtain rfl:=Zab h1
 exact af fol hE [.r [(1,q1 [oI x12])]] [] 0 [] (Zat.snd c13)
theorem Zaw.p2_ok {p_0 took_5 x1 st r} (h:Zaw.p2 N p_0 took_5 x1=some r) (hE:En Tryz.f204 g0 w0 (Zaw.rs r) st R):At g0 w0 (Zaw.p2.S p_0 took_5 x1 st) (XK Tryz.prog R [.c (csub Zaw.B [1,1,1,1,1,1,1])]):=by
 unfold Zaw.p2 at h
 obtain ⟨⟨x6,x7⟩,c7,h2⟩:=Zad h
 obtain ⟨⟨x8,x9⟩,c8,h3⟩:=Zad h2
 let o1:List PS:=[.r [(3,q1 [.agg [L.arr .u64 4 x6],oB x7])],.r [(4,q1 [.agg [L.arr .u64 4 x8],oB x9])]]
 have t1 {Q:Prop} (q:Q):=aJ (Zar.snd c7) (Zcs.snd c8) q
 refine iteB h3 (fun c9 h4=>?_) (fun c9 h5=>?_)
 ·obtain rfl:=Zab h4
  exact af fol hE (o1 ++ [.r [(3,wF),(4,wF),(5,wF)],.c true,.r []]) [] 0 [] (t1 (aL (not_false (Zby c9)) (not_false (Zby c9)) (not_false (Zby c9)) (not_false (Zby c9)) eT))
 ·obtain ⟨x10,c10,h6⟩:=Zad h5
  let o2:List PS:=o1 ++ [.r [(5,q1 [oB x10]),(6,yF)]]
  have t2 {Q:Prop} (q:Q):=t1 (aM (not_true (Zbz c9)) (not_true (Zbz c9)) (not_true (Zbz c9)) (Zbn.snd c10) (not_true (Zbz c9)) q)
  refine iteB h6 (fun c11 h7=>?_) (fun c11 h8=>?_)
  ·obtain rfl:=Zab h7
   exact af fol hE (o2 ++ [.c true,.r []]) [] 0 [] (t2 c11)
  ·refine iteB h8 (fun c12 h9=>?_) (fun c12 h10=>?_)
   ·exact aq fol (o2 ++ [.c false,.r [],.c true,.r [(0,{m:=3})],.s 1]) [13] [13] (t2 (aI c11 c12)) (Zaw.p3_ok h9 hE)
   ·exact aq fol (o2 ++ [.c false,.r [],.c false,.s 1]) [13] [13] (t2 (aI c11 c12)) (Zaw.p3_ok h10 hE)
theorem Zaw.p1_ok {p_0 took_4 x1 st r} (h:Zaw.p1 N p_0 took_4 x1=some r) (hE:En Tryz.f204 g0 w0 (Zaw.rs r) st R):At g0 w0 (Zaw.p1.S p_0 took_4 x1 st) (XK Tryz.prog R [.c (csub Zaw.B [1,1,1,1,1,1])]):=by
 unfold Zaw.p1 at h
 refine iteB h (fun c6 h11=>?_) (fun c6 h12=>?_)
 ·exact aq fol [.r [],.c true,.r [],.s 1] [4,9,11,12] [4,9] c6 (Zaw.p2_ok h11 hE)
 ·exact aq fol [.r [],.c false,.s 1] [4,9,11,12] [4,9] c6 (Zaw.p2_ok h12 hE)
theorem Zaw.snd {p_0:Zae} {bits_1 from_2 to_3:Int} {r:Int} (h:Zaw N p_0 bits_1 from_2 to_3=some r):SndQ Tryz.prog 204 [.agg p_0.ls,oI bits_1,oI from_2,oI to_3] (Zaw.rs r):=fun st=>
 sO Zaw.B Tryz.func204 fun g0 w0 R hE=>by
  unfold Zaw at h
  obtain ⟨⟨x1,x2⟩,c1,h13⟩:=Zad h
  obtain ⟨x3,c2,h14⟩:=Zad h13
  let o3:List PS:=[.r [],.r [(3,q1 [.agg [L.arr .u64 4 x1],oB x2])]]
  have t3 {Q:Prop} (q:Q):=aJ (Zcs.snd c1) (Zdi.snd c2) q
  refine iteB h14 (fun c3 h15=>?_) (fun c3 h16=>?_)
  ·obtain rfl:=Zab h15
   exact af fol hE (o3 ++ [.r [(1,q1 [oB x3]),(4,wF),(5,wF)],.c true,.r []]) [] 0 [] (t3 (aK (not_false (Zby c3)) (not_false (Zby c3)) (not_false (Zby c3)) eT))
  ·let o4:List PS:=o3 ++ [.r [(1,q1 [oB x3]),(6,yF)]]
   have t4 {Q:Prop} (q:Q):=t3 (aK (not_true (Zbz c3)) (not_true (Zbz c3)) (not_true (Zbz c3)) q)
   refine iteB h16 (fun c4 h17=>?_) (fun c4 h18=>?_)
   ·obtain rfl:=Zab h17
    exact af fol hE (o4 ++ [.c true,.r []]) [] 0 [] (t4 c4)
   ·refine iteB h18 (fun c5 h19=>?_) (fun c5 h20=>?_)
    ·exact aq fol (o4 ++ [.c false,.r [],.r [],.r [],.c true,.r [],.s 1]) [4,9,11,12] [4,9] (t4 (aK c4 (neI 4) c5 (neI 4))) (Zaw.p1_ok h19 hE)
    ·exact aq fol (o4 ++ [.c false,.r [],.r [],.r [],.c false,.s 1]) [4,9,11,12] [4,9] (t4 (aJ c4 (neI 4) c5)) (Zaw.p1_ok h20 hE)
noncomputable def Zcg.B:Code:=Tryz.f171.body.getD .skip
noncomputable def Zcg.rs (r:Int):List CV:=[oI r]
noncomputable def Zcg.p1 (N:Nat) (bits_2 time_3 hard_5 own_6:Int) (p_0:Zae):Option Int:=
 if (!p_0.Easy)=true then
  some bits_2
 else
 if (decide ((w64 (own_6-time_3))>(w64 (2*p_0.Spacing))))=true then
  some p_0.Limit
 else
 some hard_5
noncomputable def Zcg (N:Nat) (p_0:Zae) (height_1 bits_2 time_3 first_4 hard_5 own_6:Int):Option Int:=
 if (decide (height_1≤0))=true then
  some p_0.Limit
 else
 if (decide (p_0.Interval>0))=true then
  chk (p_0.Interval≠0)<|
  if ((Int.tmod height_1 p_0.Interval)==0)=true then
   optE (Zaw N p_0 bits_2 first_4 time_3) fun x1=>
   some x1
  else
  Zcg.p1 N bits_2 time_3 hard_5 own_6 p_0
 else
 Zcg.p1 N bits_2 time_3 hard_5 own_6 p_0
noncomputable def Zcg.p1.S (bits_2 time_3 hard_5 own_6:Int) (p_0:Zae) (st:LL):S:=mkS 48 [(2,sI bits_2),(3,sI time_3),(5,sI hard_5),(6,sI own_6),(7,sA 7)] [(7,.cells p_0.ls)] st
theorem Zcg.p1_ok {bits_2 time_3 hard_5 own_6 p_0 st r} (h:Zcg.p1 N bits_2 time_3 hard_5 own_6 p_0=some r) (hE:En Tryz.f171 g0 w0 (Zcg.rs r) st R):At g0 w0 (Zcg.p1.S bits_2 time_3 hard_5 own_6 p_0 st) (XK Tryz.prog R [.c (csub Zcg.B [1,1,1])]):=by
 unfold Zcg.p1 at h
 refine iteB h (fun c6 h1=>?_) (fun c6 h2=>?_)
 ·obtain rfl:=Zab h1
  exact af fol hE [.r [],.c true,.r []] [] 0 [] c6
 ·refine iteB h2 (fun c7 h3=>?_) (fun c7 h4=>?_)
  ·obtain rfl:=Zab h3
   exact af fol hE [.r [],.c false,.r [],.c true,.r []] [] 0 [] (aI c6 c7)
  ·obtain rfl:=Zab h4
   exact af fol hE [.r [],.c false,.r [],.c false,.r []] [] 0 [] (aI c6 c7)
theorem Zcg.snd {p_0:Zae} {height_1 bits_2 time_3 first_4 hard_5 own_6:Int} {r:Int} (h:Zcg N p_0 height_1 bits_2 time_3 first_4 hard_5 own_6=some r):SndQ Tryz.prog 171 [.agg p_0.ls,oI height_1,oI bits_2,oI time_3,oI first_4,oI hard_5,oI own_6] (Zcg.rs r):=fun st=>
 sO Zcg.B Tryz.func171 fun g0 w0 R hE=>by
  unfold Zcg at h
  refine iteB h (fun c1 h5=>?_) (fun c1 h6=>?_)
  ·obtain rfl:=Zab h5
   exact af fol hE [.r [],.r [],.c true,.r []] [] 0 [] c1
  ·let o1:List PS:=[.r [],.r [],.c false]
   refine iteB h6 (fun c2 h7=>?_) (fun c2 h8=>?_)
   ·obtain ⟨c3,h9⟩:=ZaI h7
    refine iteB h9 (fun c4 h10=>?_) (fun c4 h11=>?_)
    ·obtain ⟨x1,c5,h12⟩:=Zad h10
     obtain rfl:=Zab h12
     exact af fol hE (o1 ++ [.r [],.c true,.r [(4,q1 [oI x1])]]) [] 0 [] (aO c1 c2 c2 c2 c2 c3 c2 (aJ c2 c4 (Zaw.snd c5)))
    ·exact aq fol (o1 ++ [.r [],.c false,.s 1]) [2,3,5,6,7] [7] (aO c1 c2 c2 c2 c2 c3 c2 (aI c2 c4)) (Zcg.p1_ok h11 hE)
   ·exact aq fol (o1 ++ [.r [(4,wF),(5,wF),(6,wF),(7,wF),(8,wF),(9,yF)],.c false,.s 1]) [2,3,5,6,7] [7] (aO c1 c2 c2 c2 c2 c2 c2 eF) (Zcg.p1_ok h8 hE)
noncomputable def Zay.B:Code:=Tryz.f111.body.getD .skip
noncomputable def Zay.rs (r:Int):List CV:=[oI r]
noncomputable def Zay.p4 (N:Nat) (c1_:(Int×Int×Int)→Option Int) (time_2:Int) (chain_1:LL) (first_7 hard_8 v4:Int) (p_0:Zae) (x1:Zai):Option Int:=
 c1_ (first_7,hard_8,w64 (v4+1))
noncomputable def Zay.p3 (N:Nat) (c1_:(Int×Int×Int)→Option Int) (time_2:Int) (chain_1:LL) (first_7 hard_3:Int) (begins_6:Bool) (v4:Int) (p_0:Zae) (x1 x5:Zai):Option Int:=
 if (!p_0.Easy)=true then
  Zay.p4 N c1_ time_2 chain_1 first_7 x5.Bits v4 p_0 x1
 else
 if (x5.Bits != p_0.Limit)=true then
  Zay.p4 N c1_ time_2 chain_1 first_7 x5.Bits v4 p_0 x1
 else
 if begins_6=true then
  Zay.p4 N c1_ time_2 chain_1 first_7 x5.Bits v4 p_0 x1
 else
 Zay.p4 N c1_ time_2 chain_1 first_7 hard_3 v4 p_0 x1
noncomputable def Zay.p2 (N:Nat) (c1_:(Int×Int×Int)→Option Int) (time_2:Int) (chain_1:LL) (first_2 hard_3:Int) (begins_6:Bool) (v4:Int) (p_0:Zae) (x1 x5:Zai):Option Int:=
 if begins_6=true then
  Zay.p3 N c1_ time_2 chain_1 x5.Time hard_3 begins_6 v4 p_0 x1 x5
 else
 Zay.p3 N c1_ time_2 chain_1 first_2 hard_3 begins_6 v4 p_0 x1 x5
noncomputable def Zay.p1 (N:Nat) (time_2:Int) (chain_1:LL) (p_0:Zae) (x1:Zai) (c1_:(Int×Int×Int)→Option Int):(Int×Int×Int)→Option Int:=fun (first_2,hard_3,v4)=>
 if (decide (v4<(len chain_1)))=true then
  chk (0≤v4)<|
  getE (chain_1[Int.toNat v4]?) Zdk fun x5=>
  if (decide (p_0.Interval>0))=true then
   chk (p_0.Interval≠0)<|
   Zay.p2 N c1_ time_2 chain_1 first_2 hard_3 ((Int.tmod v4 p_0.Interval)==0) v4 p_0 x1 x5
  else
  Zay.p2 N c1_ time_2 chain_1 first_2 hard_3 false v4 p_0 x1 x5
 else
 optE (Zcg N p_0 (len chain_1) x1.Bits x1.Time first_2 hard_3 time_2) fun x9=>
 some x9
noncomputable def Zay (N:Nat) (p_0:Zae) (chain_1:LL) (time_2:Int):Option Int:=
 if ((len chain_1)==0)=true then
  some p_0.Limit
 else
 chk (0≤(w64 ((len chain_1)-1)))<|
 chk ((w64 ((len chain_1)-1))<(len chain_1))<|
 getE (chain_1[Int.toNat (w64 ((len chain_1)-1))]?) Zdk fun x1=>
 loopN (Zay.p1 N time_2 chain_1 p_0 x1) N (0,p_0.Limit,0)
noncomputable def Zay.p4.S (time_2:Int) (chain_1:LL) (first_7 hard_8 v4:Int) (p_0:Zae) (x1:Zai) (st:LL):S:=mkS 73 [(2,sI time_2),(3,sA 3),(7,sI (len chain_1)),(8,sA 8),(9,sI first_7),(10,sI hard_8),(27,sV 68 chain_1),(28,sI (len chain_1)),(29,sI v4)] [(3,.cells p_0.ls),(8,.cells x1.ls)] st
noncomputable def Zay.p3.S (time_2:Int) (chain_1:LL) (first_7 hard_3:Int) (begins_6:Bool) (v4:Int) (p_0:Zae) (x1 x5:Zai) (st:LL):S:=mkS 73 [(2,sI time_2),(3,sA 3),(7,sI (len chain_1)),(8,sA 8),(9,sI first_7),(10,sI hard_3),(12,sA 12),(13,.one (.l (L.bool begins_6))),(27,sV 68 chain_1),(28,sI (len chain_1)),(29,sI v4)] [(3,.cells p_0.ls),(8,.cells x1.ls),(12,.cells x5.ls)] st
noncomputable def Zay.p2.S (time_2:Int) (chain_1:LL) (first_2 hard_3:Int) (begins_6:Bool) (v4:Int) (p_0:Zae) (x1 x5:Zai) (st:LL):S:=mkS 73 [(2,sI time_2),(3,sA 3),(7,sI (len chain_1)),(8,sA 8),(9,sI first_2),(10,sI hard_3),(12,sA 12),(13,.one (.l (L.bool begins_6))),(27,sV 68 chain_1),(28,sI (len chain_1)),(29,sI v4)] [(3,.cells p_0.ls),(8,.cells x1.ls),(12,.cells x5.ls)] st
noncomputable def Zay.p1.S (time_2:Int) (chain_1:LL) (first_2 hard_3 v4:Int) (p_0:Zae) (x1:Zai) (st:LL):S:=mkS 73 [(2,sI time_2),(3,sA 3),(7,sI (len chain_1)),(8,sA 8),(9,sI first_2),(10,sI hard_3),(27,sV 68 chain_1),(28,sI (len chain_1)),(29,sI v4)] [(3,.cells p_0.ls),(8,.cells x1.ls)] st
theorem Zay.p4_ok {time_2 chain_1 first_7 hard_8 v4 p_0 x1 st r c1_ J1} (h:Zay.p4 N c1_ time_2 chain_1 first_7 hard_8 v4 p_0 x1=some r) (hE:En Tryz.f111 g0 w0 (Zay.rs r) st R) (hc1 : ∀first_2 hard_3 v4,c1_ (first_2,hard_3,v4)=some r→At g0 w0 (Zay.p1.S time_2 chain_1 first_2 hard_3 v4 p_0 x1 st) J1):At g0 w0 (Zay.p4.S time_2 chain_1 first_7 hard_8 v4 p_0 x1 st) (XK Tryz.prog R [.c (csub Zay.B [1,1,1,1,1,1,0,1,0,0,1,1,1]),.h J1,.b 0,.c (csub Zay.B [1,1,1,1,1,1,1])]):=by
 unfold Zay.p4 at h
 exact an fol [.r []] [2,3,7,8,9,10,27,28,29] [3,8] trivial (hc1 first_7 hard_8 (w64 (v4+1)) h)
theorem Zay.p3_ok {time_2 chain_1 first_7 hard_3 begins_6 v4 p_0 x1 x5 st r c1_ J1} (h:Zay.p3 N c1_ time_2 chain_1 first_7 hard_3 begins_6 v4 p_0 x1 x5=some r) (hE:En Tryz.f111 g0 w0 (Zay.rs r) st R) (hc1 : ∀first_2 hard_3 v4,c1_ (first_2,hard_3,v4)=some r→At g0 w0 (Zay.p1.S time_2 chain_1 first_2 hard_3 v4 p_0 x1 st) J1):At g0 w0 (Zay.p3.S time_2 chain_1 first_7 hard_3 begins_6 v4 p_0 x1 x5 st) (XK Tryz.prog R [.c (csub Zay.B [1,1,1,1,1,1,0,1,0,0,1,1,0,0,1,1,1]),.b 1,.c (csub Zay.B [1,1,1,1,1,1,0,1,0,0,1,1,1]),.h J1,.b 0,.c (csub Zay.B [1,1,1,1,1,1,1])]):=by
 unfold Zay.p3 at h
 refine iteB h (fun c11 h1=>?_) (fun c11 h2=>?_)
 ·exact aq fol [.r [(4,wF),(5,wF),(6,wF),(7,wF),(8,wF),(11,wF)],.c true,.r [],.s 4] [2,3,7,8,9,10,27,28,29] [3,8] (aO (not_false (Zby c11)) (not_false (Zby c11)) (not_false (Zby c11)) (not_false (Zby c11)) (not_false (Zby c11)) (not_false (Zby c11)) eT (aI eT eT)) (Zay.p4_ok h1 hE hc1)
 ·have t1 {Q:Prop} (q:Q):=aN (not_true (Zbz c11)) (not_true (Zbz c11)) (not_true (Zbz c11)) (not_true (Zbz c11)) (not_true (Zbz c11)) (not_true (Zbz c11)) q
  refine iteB h2 (fun c12 h3=>?_) (fun c12 h4=>?_)
  ·exact aq fol [.r [(9,yF),(11,wF)],.c true,.r [],.s 4] [2,3,7,8,9,10,27,28,29] [3,8] (t1 (aJ c12 c12 eT)) (Zay.p4_ok h3 hE hc1)
  ·let o1:List PS:=[.r [(9,yF),(12,yF)]]
   refine iteB h4 (fun c13 h5=>?_) (fun c13 h6=>?_)
   ·exact aq fol (o1 ++ [.c true,.r [],.s 4]) [2,3,7,8,9,10,27,28,29] [3,8] (t1 (aJ c12 c12 c13)) (Zay.p4_ok h5 hE hc1)
   ·exact aq fol (o1 ++ [.c false,.s 4]) [2,3,7,8,9,10,27,28,29] [3,8] (t1 (aJ c12 c12 c13)) (Zay.p4_ok h6 hE hc1)
theorem Zay.p2_ok {time_2 chain_1 first_2 hard_3 begins_6 v4 p_0 x1 x5 st r c1_ J1} (h:Zay.p2 N c1_ time_2 chain_1 first_2 hard_3 begins_6 v4 p_0 x1 x5=some r) (hE:En Tryz.f111 g0 w0 (Zay.rs r) st R) (hc1 : ∀first_2 hard_3 v4,c1_ (first_2,hard_3,v4)=some r→At g0 w0 (Zay.p1.S time_2 chain_1 first_2 hard_3 v4 p_0 x1 st) J1):At g0 w0 (Zay.p2.S time_2 chain_1 first_2 hard_3 begins_6 v4 p_0 x1 x5 st) (XK Tryz.prog R [.c (csub Zay.B [1,1,1,1,1,1,0,1,0,0,1,1,0,0,1,1]),.b 1,.c (csub Zay.B [1,1,1,1,1,1,0,1,0,0,1,1,1]),.h J1,.b 0,.c (csub Zay.B [1,1,1,1,1,1,1])]):=by
 unfold Zay.p2 at h
 refine iteB h (fun c10 h7=>?_) (fun c10 h8=>?_)
 ·exact aq fol [.r [],.c true,.r [],.s 6] [2,3,7,8,9,10,12,13,27,28,29] [3,8,12] c10 (Zay.p3_ok h7 hE hc1)
 ·exact aq fol [.r [],.c false,.s 6] [2,3,7,8,9,10,12,13,27,28,29] [3,8,12] c10 (Zay.p3_ok h8 hE hc1)
theorem Zay.p1_ok {time_2 chain_1 first_2 hard_3 v4 p_0 x1 st r c1_ J1} (h:Zay.p1 N time_2 chain_1 p_0 x1 c1_ (first_2,hard_3,v4)=some r) (hE:En Tryz.f111 g0 w0 (Zay.rs r) st R) (hc1 : ∀first_2 hard_3 v4,c1_ (first_2,hard_3,v4)=some r→At g0 w0 (Zay.p1.S time_2 chain_1 first_2 hard_3 v4 p_0 x1 st) J1):At g0 w0 (Zay.p1.S time_2 chain_1 first_2 hard_3 v4 p_0 x1 st) (XK Tryz.prog R (.c (csub Zay.B [1,1,1,1,1,1,0,1,0,0]) :: .h J1 :: [.b 0,.c (csub Zay.B [1,1,1,1,1,1,1])])):=by
 unfold Zay.p1 at h
 refine iteB h (fun c5 h9=>?_) (fun c5 h10=>?_)
 ·obtain ⟨c6,h11⟩:=ZaI h9
  obtain ⟨x5,c7,h12⟩:=Zdp h11
  let o2:List PS:=[.r [],.c true,.r [(2,{oe:=x5.ls})]]
  refine iteB h12 (fun c8 h13=>?_) (fun c8 h14=>?_)
  ·obtain ⟨c9,h15⟩:=ZaI h13
   exact aq fol (o2 ++ [.r [],.s 6]) [2,3,7,8,9,10,12,13,27,28,29] [3,8,12] (aO c5 c6 (oD c5) c7 c8 c8 c8 (aK c8 c9 c8 c8)) (Zay.p2_ok h15 hE hc1)
  ·exact aq fol (o2 ++ [.r [(4,wF),(5,wF),(6,wF),(7,wF),(8,wF),(9,yF)],.s 6]) [2,3,7,8,9,10,12,13,27,28,29] [3,8,12] (aO c5 c6 (oD c5) c7 c8 c8 c8 (aJ c8 c8 c8)) (Zay.p2_ok h14 hE hc1)
 ·obtain ⟨x9,c14,h16⟩:=Zad h10
  obtain rfl:=Zab h16
  exact af fol hE [.r [],.c false,.r [(9,q1 [oI x9])]] [] 0 [] (aI c5 (Zcg.snd c14))
theorem Zay.snd {p_0:Zae} {chain_1:LL} {time_2:Int} {r:Int} (h:Zay N p_0 chain_1 time_2=some r):SndQ Tryz.prog 111 [.agg p_0.ls,.one (L.sl 68 chain_1),oI time_2] (Zay.rs r):=fun st=>
 sO Zay.B Tryz.func111 fun g0 w0 R hE=>by
  unfold Zay at h
  refine iteB h (fun c1 h17=>?_) (fun c1 h18=>?_)
  ·obtain rfl:=Zab h17
   exact af fol hE [.r [],.r [],.r [],.c true,.r []] [] 0 [] c1
  ·obtain ⟨c2,c3,h19⟩:=ck2 h18
   obtain ⟨x1,c4,h20⟩:=Zdp h19
   exact aq fol [.r [],.r [],.r [],.c false,.r [(4,{oe:=x1.ls})],.r [],.r [],.r []] [2,3,7,8,9,10,27,28,29] [3,8] (aK c1 c2 c3 c4) (At.loop N (At.loopN (fun y:Int×Int×Int=>Zay.p1.S time_2 chain_1 y.1 y.2.1 y.2.2 p_0 x1 st) (fun c J hc y h=>Zay.p1_ok (first_2:=y.1) (hard_3:=y.2.1) (v4:=y.2.2) h hE (fun first_2 hard_3 v4=>hc (first_2,hard_3,v4))) N (0,p_0.Limit,0) h20))
noncomputable def ZbD.B:Code:=Tryz.f173.body.getD .skip
noncomputable def ZbD.rs (r:(List Int)):List CV:=[.agg [L.arr .u64 4 r]]
noncomputable def ZbD.p1 (N:Nat) (h_0_0:List Int) (c1_:(Int×(List Int))→Option (List Int)):(Int×(List Int))→Option (List Int):=fun (i_1,out_3)=>
 if (decide (i_1≥0))=true then
  optE (Zal N out_3 8) fun x4=>
  chk (0≤i_1)<|
  chk (i_1<32)<|
  c1_ (w64 (i_1-1),List.set x4 0 (v64 ((List.getD x4 0 0)+(v64 (List.getD h_0_0 (Int.toNat i_1) 0)))))
 else
 some out_3
noncomputable def ZbD (N:Nat) (h_0_0:List Int):Option (List Int):=
 loopN (ZbD.p1 N h_0_0) N (31,List.replicate 4 0)
noncomputable def ZbD.p1.S (i_1:Int) (h_0_0 out_3:List Int) (st:LL):S:=mkS 21 [(1,sA 1),(2,sA 2),(3,sA 3),(4,sI i_1)] [(1,.cells [L.arr .u8 32 h_0_0]),(2,.cells [L.arr .u64 4 (List.replicate 4 0)]),(3,.cells [L.arr .u64 4 out_3])] st
theorem ZbD.p1_ok {i_1 h_0_0 out_3 st r c1_ J1} (h:ZbD.p1 N h_0_0 c1_ (i_1,out_3)=some r) (hE:En Tryz.f173 g0 w0 (ZbD.rs r) st R) (hc1 : ∀i_1 out_3,c1_ (i_1,out_3)=some r→At g0 w0 (ZbD.p1.S i_1 h_0_0 out_3 st) J1):At g0 w0 (ZbD.p1.S i_1 h_0_0 out_3 st) (XK Tryz.prog R (.c (csub ZbD.B [1,1,0,1,0,0]) :: .h J1 :: [.b 0,.c (csub ZbD.B [1,1,1])])):=by
 unfold ZbD.p1 at h
 refine iteB h (fun c5 h1=>?_) (fun c5 h2=>?_)
 ·obtain ⟨x4,c6,h3⟩:=Zad h1
  obtain ⟨c7,c8,h4⟩:=ck2 h3
  exact and_ fol [.r [],.c true,.r [(1,q1 [.agg [L.arr .u64 4 x4]])],.d {ds:=[],hv:=256,Hs:=[256]},.r []] [1,2,3,4] [1,2,3] (aJ c5 (Zal.snd c6) (ix 0 4 (aK c7 c8 (leI 0 0) (ltI 0 4)))) (hc1 (w64 (i_1-1)) (List.set x4 0 (v64 ((List.getD x4 0 0)+(v64 (List.getD h_0_0 (Int.toNat i_1) 0))))) h4)
 ·obtain rfl:=Zab h2
  exact af fol hE [.r [],.c false,.r []] [] 0 [] c5
theorem ZbD.snd {h_0_0:List Int} {r:(List Int)} (h:ZbD N h_0_0=some r):SndQ Tryz.prog 173 [.agg [L.arr .u8 32 h_0_0]] (ZbD.rs r):=fun st=>
 sO ZbD.B Tryz.func173 fun g0 w0 R hE=>by
  unfold ZbD at h
  exact aq fol [.r [],.r [],.r []] [1,2,3,4] [1,2,3] trivial (At.loop N (At.loopN (fun y:Int×(List Int)=>ZbD.p1.S y.1 h_0_0 y.2 st) (fun c J hc y h=>ZbD.p1_ok (i_1:=y.1) (out_3:=y.2) h hE (fun i_1 out_3=>hc (i_1,out_3))) N (31,List.replicate 4 0) h))
noncomputable def Zds.B:Code:=Tryz.f112.body.getD .skip
noncomputable def Zds.rs (r:Bool):List CV:=[oB r]
noncomputable def Zds (N:Nat) (p_0:Zae) (h_1:Zai):Option Bool:=
 optE (Zcs N h_1.Bits p_0.Limit) fun (x1,x2)=>
 if x2=true then
  optE (ZcC N h_1) fun x3=>
  optE (ZbD N x3) fun x4=>
  optE (Zbn N x1 x4) fun x5=>
  some (!x5)
 else
 some false
theorem Zds.snd {p_0:Zae} {h_1:Zai} {r:Bool} (h:Zds N p_0 h_1=some r):SndQ Tryz.prog 112 [.agg p_0.ls,.agg h_1.ls] (Zds.rs r):=fun st=>
 sO Zds.B Tryz.func112 fun g0 w0 R hE=>by
  unfold Zds at h
  obtain ⟨⟨x1,x2⟩,c1,h1⟩:=Zad h
  let o1:List PS:=[.r [],.r [(4,q1 [.agg [L.arr .u64 4 x1],oB x2])]]
  refine iteB h1 (fun c2 h2=>?_) (fun c2 h3=>?_)
  ·obtain ⟨x3,c3,h4⟩:=Zad h2
   obtain ⟨x4,c4,h5⟩:=Zad h4
   obtain ⟨x5,c5,h6⟩:=Zad h5
   obtain rfl:=Zab h6
   exact afd fol hE (o1 ++ [.d {ds:=[(4,q1 [.agg [L.arr .u8 32 x3]]),(5,q1 [.agg [L.arr .u64 4 x4]]),(6,q1 [oB x5])],hv:=0,Hs:=[]}]) [] 0 [] (aO (Zcs.snd c1) c2 c2 c2 (ZcC.snd c3) c2 (ZbD.snd c4) (aK c2 (Zbn.snd c5) c2 c2))
  ·obtain rfl:=Zab h3
   exact afd fol hE (o1 ++ [.d {ds:=[(2,wF),(3,wF),(4,wF),(5,wF),(6,wF),(7,wF),(8,yF)],hv:=0,Hs:=[]}]) [] 0 [] (aO (Zcs.snd c1) c2 c2 c2 c2 c2 c2 c2)
noncomputable def Zch.B:Code:=Tryz.f113.body.getD .skip
noncomputable def Zch.rs (r:LL):List CV:=[.row true 1 r]
noncomputable def Zch.p1 (N:Nat) (row_0:LL) (c1_:(LL×Int)→Option LL):(LL×Int)→Option LL:=fun (out_3,i_1)=>
 if (decide (i_1≥0))=true then
  if (decide ((len out_3)<11))=true then
   chk (0≤i_1)<|
   chk (i_1<(len row_0))<|
   getE (row_0[Int.toNat i_1]?) ZcG fun x4=>
   chk (List.length (out_3 ++ [[L.int .i64 x4]])*8≤140737488355328)<|
   c1_ (out_3 ++ [[L.int .i64 x4]],w64 (i_1-1))
  else
  some out_3
 else
 some out_3
noncomputable def Zch (N:Nat) (row_0:LL):Option LL:=
 loopN (Zch.p1 N row_0) N ([],w64 ((len row_0)-1))
noncomputable def Zch.p1.S (row_0 out_3:LL) (i_1:Int) (st:LL):S:=mkS 25 [(0,sV 1 row_0),(3,.one (.h (.row 3 0) 1 0 (List.length out_3))),(4,sI i_1)] [(3,.row 0 true 1 out_3)] st
theorem Zch.p1_ok {row_0 out_3 i_1 st r c1_ J1} (h:Zch.p1 N row_0 c1_ (out_3,i_1)=some r) (hE:En Tryz.f113 g0 w0 (Zch.rs r) st R) (hc1 : ∀out_3 i_1,c1_ (out_3,i_1)=some r→At g0 w0 (Zch.p1.S row_0 out_3 i_1 st) J1):At g0 w0 (Zch.p1.S row_0 out_3 i_1 st) (XK Tryz.prog R (.c (csub Zch.B [1,1,0,1,0,0]) :: .h J1 :: [.b 0,.c (csub Zch.B [1,1,1])])):=by
 unfold Zch.p1 at h
 refine iteB h (fun c6 h1=>?_) (fun c6 h2=>?_)
 ·refine iteB h1 (fun c7 h3=>?_) (fun c7 h4=>?_)
  ·obtain ⟨c8,c9,h5⟩:=ck2 h3
   obtain ⟨x4,c10,h6⟩:=Zcf h5
   obtain ⟨c11,h7⟩:=ZaI h6
   exact an fol [.r [],.c true,.r [(4,{oe:=[L.int .i64 x4]})],.r []] [0,3,4] [3] (aO c6 c6 c6 c6 c7 c8 c9 (aM c10 z0 (eN (List.length out_3)) z0 (eN (1)) c11)) (hc1 (out_3 ++ [[L.int .i64 x4]]) (w64 (i_1-1)) h7)
  ·obtain rfl:=Zab h4
   exact af fol hE [.r [],.c false,.r []] [] 0 [0] (aN c6 c6 c6 c6 c7 z0 (eN (List.length out_3)))
 ·obtain rfl:=Zab h2
  exact af fol hE [.r [(3,wF),(4,wF),(5,wF),(6,yF)],.c false,.r []] [] 0 [0] (aN c6 c6 c6 c6 eF z0 (eN (List.length out_3)))
theorem Zch.snd {row_0:LL} {r:LL} (h:Zch N row_0=some r):SndQ Tryz.prog 113 [.one (L.sl 1 row_0)] (Zch.rs r):=fun st=>
 sO Zch.B Tryz.func113 fun g0 w0 R hE=>by
  unfold Zch at h
  exact aq fol [.r [(0,{m:=2})],.r [(0,{m:=1})],.r []] [0,3,4] [3] trivial (At.loop N (At.loopN (fun y:LL×Int=>Zch.p1.S row_0 y.1 y.2 st) (fun c J hc y h=>Zch.p1_ok (out_3:=y.1) (i_1:=y.2) h hE (fun out_3 i_1=>hc (out_3,i_1))) N ([],w64 ((len row_0)-1)) h))
noncomputable def ZaH.B:Code:=Tryz.f106.body.getD .skip
noncomputable def ZaH.rs (r:Int):List CV:=[oI r]
noncomputable def ZaH.p4 (N:Nat) (c2_:(Int×Int×Int)→Option Int) (c1_:Int→Option Int) (times_0:LL) (i_1 less_7 same_10 j_4:Int):Option Int:=
 c2_ (less_7,same_10,w64 (j_4+1))
noncomputable def ZaH.p3 (N:Nat) (c2_:(Int×Int×Int)→Option Int) (c1_:Int→Option Int) (times_0:LL) (i_1 less_7 same_3 j_4:Int):Option Int:=
 chk (0≤j_4)<|
 chk (j_4<(len times_0))<|
 getE (times_0[Int.toNat j_4]?) ZcG fun x8=>
 chk (0≤i_1)<|
 chk (i_1<(len times_0))<|
 getE (times_0[Int.toNat i_1]?) ZcG fun x9=>
 if (x8==x9)=true then
  ZaH.p4 N c2_ c1_ times_0 i_1 less_7 (w64 (same_3+1)) j_4
 else
 ZaH.p4 N c2_ c1_ times_0 i_1 less_7 same_3 j_4
noncomputable def ZaH.p2 (N:Nat) (c1_:Int→Option Int) (times_0:LL) (i_1:Int) (c2_:(Int×Int×Int)→Option Int):(Int×Int×Int)→Option Int:=fun (less_2,same_3,j_4)=>
 if (decide (j_4<(if (11:Int)<(len times_0) then 11 else (len times_0))))=true then
  chk (0≤j_4)<|
  chk (j_4<(len times_0))<|
  getE (times_0[Int.toNat j_4]?) ZcG fun x5=>
  chk (0≤i_1)<|
  chk (i_1<(len times_0))<|
  getE (times_0[Int.toNat i_1]?) ZcG fun x6=>
  if (decide (x5<x6))=true then
   ZaH.p3 N c2_ c1_ times_0 i_1 (w64 (less_2+1)) same_3 j_4
  else
  ZaH.p3 N c2_ c1_ times_0 i_1 less_2 same_3 j_4
 else
 if (decide (less_2≤(w64 (Int.tdiv (if (11:Int)<(len times_0) then 11 else (len times_0)) 2))))=true then
  if (decide ((w64 (Int.tdiv (if (11:Int)<(len times_0) then 11 else (len times_0)) 2))<(w64 (less_2+same_3))))=true then
   chk (0≤i_1)<|
   chk (i_1<(len times_0))<|
   getE (times_0[Int.toNat i_1]?) ZcG fun x11=>
   some x11
  else
  c1_ (w64 (i_1+1))
 else
 c1_ (w64 (i_1+1))
noncomputable def ZaH.p1 (N:Nat) (times_0:LL) (c1_:Int→Option Int):Int→Option Int:=fun i_1=>
 if (decide (i_1<(if (11:Int)<(len times_0) then 11 else (len times_0))))=true then
  loopN (ZaH.p2 N c1_ times_0 i_1) N (0,0,0)
 else
 some 0
noncomputable def ZaH (N:Nat) (times_0:LL):Option Int:=
 loopN (ZaH.p1 N times_0) N 0
noncomputable def ZaH.p4.S (times_0:LL) (i_1 less_7 same_10 j_4:Int) (st:LL):S:=mkS 59 [(0,sV 1 times_0),(3,sI (if (11:Int)<(len times_0) then 11 else (len times_0))),(4,sI i_1),(5,sI less_7),(6,sI same_10),(7,sI j_4)] [] st
noncomputable def ZaH.p3.S (times_0:LL) (i_1 less_7 same_3 j_4:Int) (st:LL):S:=mkS 59 [(0,sV 1 times_0),(3,sI (if (11:Int)<(len times_0) then 11 else (len times_0))),(4,sI i_1),(5,sI less_7),(6,sI same_3),(7,sI j_4)] [] st
noncomputable def ZaH.p2.S (times_0:LL) (i_1 less_2 same_3 j_4:Int) (st:LL):S:=mkS 59 [(0,sV 1 times_0),(3,sI (if (11:Int)<(len times_0) then 11 else (len times_0))),(4,sI i_1),(5,sI less_2),(6,sI same_3),(7,sI j_4)] [] st
noncomputable def ZaH.p1.S (times_0:LL) (i_1:Int) (st:LL):S:=mkS 59 [(0,sV 1 times_0),(3,sI (if (11:Int)<(len times_0) then 11 else (len times_0))),(4,sI i_1)] [] st
theorem ZaH.p4_ok {times_0 i_1 less_7 same_10 j_4 st r c2_ c1_ J2 J1} (h:ZaH.p4 N c2_ c1_ times_0 i_1 less_7 same_10 j_4=some r) (hE:En Tryz.f106 g0 w0 (ZaH.rs r) st R) (hc2 : ∀less_2 same_3 j_4,c2_ (less_2,same_3,j_4)=some r→At g0 w0 (ZaH.p2.S times_0 i_1 less_2 same_3 j_4 st) J2) (hc1 : ∀i_1,c1_ i_1=some r→At g0 w0 (ZaH.p1.S times_0 i_1 st) J1):At g0 w0 (ZaH.p4.S times_0 i_1 less_7 same_10 j_4 st) (XK Tryz.prog R [.c (csub ZaH.B [1,1,0,1,0,0,1,0,0,1,1,0,1,0,0,1,1]),.h J2,.b 2,.c (csub ZaH.B [1,1,0,1,0,0,1,0,0,1,1,1]),.b 1,.c (csub ZaH.B [1,1,0,1,0,0,1,1]),.h J1,.b 0,.c (csub ZaH.B [1,1,1])]):=by
 unfold ZaH.p4 at h
 exact an fol [.r []] [0,3,4,5,6,7] [] trivial (hc2 less_7 same_10 (w64 (j_4+1)) h)
theorem ZaH.p3_ok {times_0 i_1 less_7 same_3 j_4 st r c2_ c1_ J2 J1} (h:ZaH.p3 N c2_ c1_ times_0 i_1 less_7 same_3 j_4=some r) (hE:En Tryz.f106 g0 w0 (ZaH.rs r) st R) (hc2 : ∀less_2 same_3 j_4,c2_ (less_2,same_3,j_4)=some r→At g0 w0 (ZaH.p2.S times_0 i_1 less_2 same_3 j_4 st) J2) (hc1 : ∀i_1,c1_ i_1=some r→At g0 w0 (ZaH.p1.S times_0 i_1 st) J1):At g0 w0 (ZaH.p3.S times_0 i_1 less_7 same_3 j_4 st) (XK Tryz.prog R [.c (csub ZaH.B [1,1,0,1,0,0,1,0,0,1,1,0,1,0,0,1,0,0,1]),.b 3,.c (csub ZaH.B [1,1,0,1,0,0,1,0,0,1,1,0,1,0,0,1,1]),.h J2,.b 2,.c (csub ZaH.B [1,1,0,1,0,0,1,0,0,1,1,1]),.b 1,.c (csub ZaH.B [1,1,0,1,0,0,1,1]),.h J1,.b 0,.c (csub ZaH.B [1,1,1])]):=by
 unfold ZaH.p3 at h
 obtain ⟨c10,c11,h1⟩:=ck2 h
 obtain ⟨x8,c12,h2⟩:=Zcf h1
 obtain ⟨c13,c14,h3⟩:=ck2 h2
 obtain ⟨x9,c15,h4⟩:=Zcf h3
 let o1:List PS:=[.d {ds:=[(3,{oe:=[L.int .i64 x8]}),(7,{oe:=[L.int .i64 x9]})],hv:=0,Hs:=[]}]
 refine iteB h4 (fun c16 h5=>?_) (fun c16 h6=>?_)
 ·exact aqd fol (o1 ++ [.c true,.r [],.s 9]) [0,3,4,5,6,7] [] (aN c10 c11 c12 c13 c14 c15 c16) (ZaH.p4_ok h5 hE hc2 hc1)
 ·exact aqd fol (o1 ++ [.c false,.s 9]) [0,3,4,5,6,7] [] (aN c10 c11 c12 c13 c14 c15 c16) (ZaH.p4_ok h6 hE hc2 hc1)
theorem ZaH.p2_ok {times_0 i_1 less_2 same_3 j_4 st r c1_ c2_ J1 J2} (h:ZaH.p2 N c1_ times_0 i_1 c2_ (less_2,same_3,j_4)=some r) (hE:En Tryz.f106 g0 w0 (ZaH.rs r) st R) (hc1 : ∀i_1,c1_ i_1=some r→At g0 w0 (ZaH.p1.S times_0 i_1 st) J1) (hc2 : ∀less_2 same_3 j_4,c2_ (less_2,same_3,j_4)=some r→At g0 w0 (ZaH.p2.S times_0 i_1 less_2 same_3 j_4 st) J2):At g0 w0 (ZaH.p2.S times_0 i_1 less_2 same_3 j_4 st) (XK Tryz.prog R (.c (csub ZaH.B [1,1,0,1,0,0,1,0,0,1,1,0,1,0,0]) :: .h J2 :: [.b 2,.c (csub ZaH.B [1,1,0,1,0,0,1,0,0,1,1,1]),.b 1,.c (csub ZaH.B [1,1,0,1,0,0,1,1]),.h J1,.b 0,.c (csub ZaH.B [1,1,1])])):=by
 unfold ZaH.p2 at h
 refine iteB h (fun c2 h7=>?_) (fun c2 h8=>?_)
 ·obtain ⟨c3,c4,h9⟩:=ck2 h7
  obtain ⟨x5,c5,h10⟩:=Zcf h9
  obtain ⟨c6,c7,h11⟩:=ck2 h10
  obtain ⟨x6,c8,h12⟩:=Zcf h11
  let o2:List PS:=[.r [],.c true,.d {ds:=[(3,{oe:=[L.int .i64 x5]}),(7,{oe:=[L.int .i64 x6]})],hv:=0,Hs:=[]}]
  refine iteB h12 (fun c9 h13=>?_) (fun c9 h14=>?_)
  ·exact aqd fol (o2 ++ [.c true,.r [],.s 11]) [0,3,4,5,6,7] [] (aO c2 c3 c4 c5 c6 c7 c8 c9) (ZaH.p3_ok h13 hE hc2 hc1)
  ·exact aqd fol (o2 ++ [.c false,.s 11]) [0,3,4,5,6,7] [] (aO c2 c3 c4 c5 c6 c7 c8 c9) (ZaH.p3_ok h14 hE hc2 hc1)
 ·refine iteB h8 (fun c17 h15=>?_) (fun c17 h16=>?_)
  ·have t1 {Q:Prop} (q:Q):=aO c2 (neI 2) c17 c17 (neI 2) c17 c17 (aK c17 c17 c17 q)
   refine iteB h15 (fun c18 h17=>?_) (fun c18 h18=>?_)
   ·obtain ⟨c19,c20,h19⟩:=ck2 h17
    obtain ⟨x11,c21,h20⟩:=Zcf h19
    obtain rfl:=Zab h20
    exact af fol hE [.r [],.c false,.r [],.c true,.r [(3,{oe:=[L.int .i64 x11]})]] [] 0 [] (t1 (aK c18 c19 c20 c21))
   ·exact an fol [.r [],.c false,.r [],.c false,.r []] [0,3,4] [] (t1 c18) (hc1 (w64 (i_1+1)) h18)
  ·exact an fol [.r [],.c false,.r [(5,wF),(6,wF),(7,wF),(8,wF),(9,wF),(10,wF),(11,yF)],.c false,.r []] [0,3,4] [] (aO c2 (neI 2) c17 c17 c17 c17 c17 (aJ c17 c17 eF)) (hc1 (w64 (i_1+1)) h16)
theorem ZaH.p1_ok {times_0 i_1 st r c1_ J1} (h:ZaH.p1 N times_0 c1_ i_1=some r) (hE:En Tryz.f106 g0 w0 (ZaH.rs r) st R) (hc1 : ∀i_1,c1_ i_1=some r→At g0 w0 (ZaH.p1.S times_0 i_1 st) J1):At g0 w0 (ZaH.p1.S times_0 i_1 st) (XK Tryz.prog R (.c (csub ZaH.B [1,1,0,1,0,0]) :: .h J1 :: [.b 0,.c (csub ZaH.B [1,1,1])])):=by
 unfold ZaH.p1 at h
 refine iteB h (fun c1 h21=>?_) (fun c1 h22=>?_)
 ·exact aq fol [.r [],.c true,.r [],.r [],.r []] [0,3,4,5,6,7] [] c1 (At.loop N (At.loopN (fun y:Int×Int×Int=>ZaH.p2.S times_0 i_1 y.1 y.2.1 y.2.2 st) (fun c J hc y h=>ZaH.p2_ok (less_2:=y.1) (same_3:=y.2.1) (j_4:=y.2.2) h hE hc1 (fun less_2 same_3 j_4=>hc (less_2,same_3,j_4))) N (0,0,0) h21))
 ·obtain rfl:=Zab h22
  exact af fol hE [.r [],.c false,.r []] [] 0 [] c1
theorem ZaH.snd {times_0:LL} {r:Int} (h:ZaH N times_0=some r):SndQ Tryz.prog 106 [.one (L.sl 1 times_0)] (ZaH.rs r):=fun st=>
 sO ZaH.B Tryz.func106 fun g0 w0 R hE=>by
  unfold ZaH at h
  exact aq fol [.r [],.r [],.r []] [0,3,4] [] trivial (At.loop N (At.loopN (fun y:Int=>ZaH.p1.S times_0 y st) (fun c J hc y h=>ZaH.p1_ok h hE (fun i_1=>hc i_1)) N 0 h))
noncomputable def Zao.B:Code:=Tryz.f61.body.getD .skip
noncomputable def Zao.rs (r:Int):List CV:=[oI r]
noncomputable def Zao.p6 (N:Nat) (chain_1:LL) (p_0:Zae) (h_2:Zai) (c6_:Int→Option Int):Int→Option Int:=fun v21=>
 if (decide (v21<(len p_0.Checks)))=true then
  chk (0≤v21)<|
  getE (p_0.Checks[Int.toNat v21]?) ZdM fun x22=>
  if (x22.Height==(len chain_1))=true then
   optE (ZcC N h_2) fun x23=>
   if (!(x22.Id==x23))=true then
    some 8
   else
   c6_ (w64 (v21+1))
  else
  c6_ (w64 (v21+1))
 else
 some 0
noncomputable def Zao.p5 (N:Nat) (chain_1:LL) (p_0:Zae) (h_2:Zai) (c5_:Int→Option Int):Int→Option Int:=fun v19=>
 if (decide (v19<(len p_0.Gates)))=true then
  chk (0≤v19)<|
  getE (p_0.Gates[Int.toNat v19]?) ZdU fun x20=>
  if (decide (x20.Height≤(len chain_1)))=true then
   if (decide (h_2.Version<x20.Version))=true then
    some 7
   else
   c5_ (w64 (v19+1))
  else
  c5_ (w64 (v19+1))
 else
 loopN (Zao.p6 N chain_1 p_0 h_2) N 0
noncomputable def Zao.p4 (N:Nat) (chain_1:LL) (p_0:Zae) (h_2:Zai):Option Int:=
 loopN (Zao.p5 N chain_1 p_0 h_2) N 0
noncomputable def Zao.p3 (N:Nat) (now_3:Int) (chain_1:LL) (p_0:Zae) (h_2:Zai):Option Int:=
 if (decide (p_0.Future<0))=true then
  some 6
 else
 if (decide (h_2.Time>now_3))=true then
  if (decide ((w64 (h_2.Time-now_3))>p_0.Future))=true then
   some 6
  else
  Zao.p4 N chain_1 p_0 h_2
 else
 Zao.p4 N chain_1 p_0 h_2
noncomputable def Zao.p2 (N:Nat) (now_3:Int) (chain_1:LL) (p_0:Zae) (h_2:Zai) (c2_:(LL×Int)→Option Int):(LL×Int)→Option Int:=fun (times_15,v6)=>
 if (decide (v6<(len chain_1)))=true then
  chk (0≤v6)<|
  getE (chain_1[Int.toNat v6]?) Zdk fun x16=>
  chk (List.length (times_15 ++ [[L.int .i64 x16.Time]])*8≤140737488355328)<|
  c2_ (times_15 ++ [[L.int .i64 x16.Time]],w64 (v6+1))
 else
 if (decide ((len chain_1)>0))=true then
  optE (Zch N times_15) fun x17=>
  chk (plainRow x17=true)<|
  optE (ZaH N x17) fun x18=>
  if (decide (h_2.Time≤x18))=true then
   some 5
  else
  Zao.p3 N now_3 chain_1 p_0 h_2
 else
 Zao.p3 N now_3 chain_1 p_0 h_2
noncomputable def Zao.p1 (N:Nat) (chain_1:LL) (now_3:Int) (p_0:Zae) (h_2:Zai):Option Int:=
 optE (Zay N p_0 chain_1 h_2.Time) fun x4=>
 if (h_2.Bits != x4)=true then
  some 3
 else
 optE (Zds N p_0 h_2) fun x5=>
 if (!x5)=true then
  some 4
 else
 loopN (Zao.p2 N now_3 chain_1 p_0 h_2) N ([],0)
noncomputable def Zao (N:Nat) (p_0:Zae) (chain_1:LL) (h_2:Zai) (now_3:Int):Option Int:=
 optE (ZcE N h_2) fun x1=>
 if (!x1)=true then
  some 1
 else
 if (decide ((len chain_1)>0))=true then
  chk (0≤(w64 ((len chain_1)-1)))<|
  chk ((w64 ((len chain_1)-1))<(len chain_1))<|
  getE (chain_1[Int.toNat (w64 ((len chain_1)-1))]?) Zdk fun x2=>
  optE (ZcC N x2) fun x3=>
  if (!(h_2.Prev==x3))=true then
   some 2
  else
  Zao.p1 N chain_1 now_3 p_0 h_2
 else
 Zao.p1 N chain_1 now_3 p_0 h_2
noncomputable def Zao.p6.S (chain_1:LL) (p_0:Zae) (v21:Int) (h_2:Zai) (st:LL):S:=mkS 125 [(6,sA 6),(9,sI (len chain_1)),(107,sV 33 p_0.Checks),(108,sI (len p_0.Checks)),(109,sI v21)] [(6,.cells h_2.ls)] st
noncomputable def Zao.p5.S (chain_1:LL) (p_0:Zae) (v19:Int) (h_2:Zai) (st:LL):S:=mkS 125 [(4,sA 4),(6,sA 6),(9,sI (len chain_1)),(88,sV 2 p_0.Gates),(89,sI (len p_0.Gates)),(90,sI v19)] [(4,.cells p_0.ls),(6,.cells h_2.ls)] st
noncomputable def Zao.p4.S (chain_1:LL) (p_0:Zae) (h_2:Zai) (st:LL):S:=mkS 125 [(4,sA 4),(6,sA 6),(9,sI (len chain_1))] [(4,.cells p_0.ls),(6,.cells h_2.ls)] st
noncomputable def Zao.p3.S (now_3:Int) (chain_1:LL) (p_0:Zae) (h_2:Zai) (st:LL):S:=mkS 125 [(3,sI now_3),(4,sA 4),(6,sA 6),(9,sI (len chain_1))] [(4,.cells p_0.ls),(6,.cells h_2.ls)] st
noncomputable def Zao.p2.S (now_3:Int) (chain_1 times_15:LL) (v6:Int) (p_0:Zae) (h_2:Zai) (st:LL):S:=mkS 125 [(3,sI now_3),(4,sA 4),(6,sA 6),(9,sI (len chain_1)),(10,.one (.h (.row 10 0) 1 0 (List.length times_15))),(47,sV 68 chain_1),(48,sI (len chain_1)),(49,sI v6)] [(4,.cells p_0.ls),(6,.cells h_2.ls),(10,.row 0 true 1 times_15)] st
noncomputable def Zao.p1.S (chain_1:LL) (now_3:Int) (p_0:Zae) (h_2:Zai) (st:LL):S:=mkS 125 [(1,sV 68 chain_1),(3,sI now_3),(4,sA 4),(6,sA 6),(9,sI (len chain_1))] [(4,.cells p_0.ls),(6,.cells h_2.ls)] st
theorem Zao.p6_ok {chain_1 p_0 v21 h_2 st r c6_ J6} (h:Zao.p6 N chain_1 p_0 h_2 c6_ v21=some r) (hE:En Tryz.f61 g0 w0 (Zao.rs r) st R) (hc6 : ∀v21,c6_ v21=some r→At g0 w0 (Zao.p6.S chain_1 p_0 v21 h_2 st) J6):At g0 w0 (Zao.p6.S chain_1 p_0 v21 h_2 st) (XK Tryz.prog R (.c (csub Zao.B [1,1,1,1,1,1,1,1,1,1,1,0,1,0,0]) :: .h J6 :: [.b 4,.c (csub Zao.B [1,1,1,1,1,1,1,1,1,1,1,1])])):=by
 unfold Zao.p6 at h
 refine iteB h (fun c53 h1=>?_) (fun c53 h2=>?_)
 ·obtain ⟨c54,h3⟩:=ZaI h1
  obtain ⟨x22,c55,h4⟩:=ZdR h3
  let o1:List PS:=[.r [],.c true,.r [(1,{oe:=x22.ls})]]
  have t1 {Q:Prop} (q:Q):=aL c53 c54 (oD c53) c55 q
  refine iteB h4 (fun c56 h5=>?_) (fun c56 h6=>?_)
  ·obtain ⟨x23,c57,h7⟩:=Zad h5
   let o2:List PS:=o1 ++ [.d {ds:=[(8,q1 [.agg [L.arr .u8 32 x23]])],hv:=0,Hs:=[]}]
   have t2 {Q:Prop} (q:Q):=t1 (aO c56 c56 c56 c56 (ZcC.snd c57) c56 c56 q)
   refine iteB h7 (fun c58 h8=>?_) (fun c58 h9=>?_)
   ·obtain rfl:=Zab h8
    exact afd fol hE (o2 ++ [.c true,.r []]) [] 0 [] (t2 c58)
   ·exact and_ fol (o2 ++ [.c false,.r []]) [6,9,107,108,109] [6] (t2 c58) (hc6 (w64 (v21+1)) h9)
  ·exact and_ fol (o1 ++ [.d {ds:=[(5,wF),(6,wF),(7,wF),(8,wF),(9,wF),(10,yF)],hv:=0,Hs:=[]},.c false,.r []]) [6,9,107,108,109] [6] (t1 (aN c56 c56 c56 c56 c56 c56 eF)) (hc6 (w64 (v21+1)) h6)
 ·obtain rfl:=Zab h2
  exact af fol hE [.r [],.c false,.r []] [] 0 [] c53
theorem Zao.p5_ok {chain_1 p_0 v19 h_2 st r c5_ J5} (h:Zao.p5 N chain_1 p_0 h_2 c5_ v19=some r) (hE:En Tryz.f61 g0 w0 (Zao.rs r) st R) (hc5 : ∀v19,c5_ v19=some r→At g0 w0 (Zao.p5.S chain_1 p_0 v19 h_2 st) J5):At g0 w0 (Zao.p5.S chain_1 p_0 v19 h_2 st) (XK Tryz.prog R (.c (csub Zao.B [1,1,1,1,1,1,1,1,1,1,0,1,0,0]) :: .h J5 :: [.b 2,.c (csub Zao.B [1,1,1,1,1,1,1,1,1,1,1])])):=by
 unfold Zao.p5 at h
 refine iteB h (fun c48 h10=>?_) (fun c48 h11=>?_)
 ·obtain ⟨c49,h12⟩:=ZaI h10
  obtain ⟨x20,c50,h13⟩:=ZdX h12
  let o3:List PS:=[.r [],.c true,.r [(1,{oe:=x20.ls})]]
  have t3 {Q:Prop} (q:Q):=aL c48 c49 (oD c48) c50 q
  refine iteB h13 (fun c51 h14=>?_) (fun c51 h15=>?_)
  ·refine iteB h14 (fun c52 h16=>?_) (fun c52 h17=>?_)
   ·obtain rfl:=Zab h16
    exact af fol hE (o3 ++ [.r [],.c true,.r []]) [] 0 [] (t3 (aN c51 c51 c51 c51 c51 c51 c52))
   ·exact an fol (o3 ++ [.r [],.c false,.r []]) [4,6,9,88,89,90] [4,6] (t3 (aN c51 c51 c51 c51 c51 c51 c52)) (hc5 (w64 (v19+1)) h17)
  ·exact an fol (o3 ++ [.r [(5,wF),(6,wF),(7,wF),(8,wF),(9,wF),(10,yF)],.c false,.r []]) [4,6,9,88,89,90] [4,6] (t3 (aN c51 c51 c51 c51 c51 c51 eF)) (hc5 (w64 (v19+1)) h15)
 ·exact aq fol [.r [],.c false,.r []] [6,9,107,108,109] [6] c48 (At.loop N (At.loopN (fun y:Int=>Zao.p6.S chain_1 p_0 y h_2 st) (fun c J hc y h=>Zao.p6_ok h hE (fun v21=>hc v21)) N 0 h11))
theorem Zao.p4_ok {chain_1 p_0 h_2 st r} (h:Zao.p4 N chain_1 p_0 h_2=some r) (hE:En Tryz.f61 g0 w0 (Zao.rs r) st R):At g0 w0 (Zao.p4.S chain_1 p_0 h_2 st) (XK Tryz.prog R [.c (csub Zao.B [1,1,1,1,1,1,1,1,1,1])]):=by
 unfold Zao.p4 at h
 exact aq fol [.r []] [4,6,9,88,89,90] [4,6] trivial (At.loop N (At.loopN (fun y:Int=>Zao.p5.S chain_1 p_0 y h_2 st) (fun c J hc y h=>Zao.p5_ok h hE (fun v19=>hc v19)) N 0 h))
theorem Zao.p3_ok {now_3 chain_1 p_0 h_2 st r} (h:Zao.p3 N now_3 chain_1 p_0 h_2=some r) (hE:En Tryz.f61 g0 w0 (Zao.rs r) st R):At g0 w0 (Zao.p3.S now_3 chain_1 p_0 h_2 st) (XK Tryz.prog R [.c (csub Zao.B [1,1,1,1,1,1,1,1,1])]):=by
 unfold Zao.p3 at h
 refine iteB h (fun c45 h18=>?_) (fun c45 h19=>?_)
 ·obtain rfl:=Zab h18
  exact af fol hE [.r [(4,wF),(5,wF),(6,wF),(7,wF),(8,wF),(16,wF)],.c true,.r []] [] 0 [] (aO c45 c45 c45 c45 c45 c45 c45 eT)
 ·have t4 {Q:Prop} (q:Q):=aM c45 c45 c45 c45 c45 q
  refine iteB h19 (fun c46 h20=>?_) (fun c46 h21=>?_)
  ·have t5 {Q:Prop} (q:Q):=t4 (aO c46 c46 c46 c46 c46 c46 c46 (aK c45 c46 c45 q))
   refine iteB h20 (fun c47 h22=>?_) (fun c47 h23=>?_)
   ·obtain rfl:=Zab h22
    exact af fol hE [.r [(17,yF)],.c true,.r []] [] 0 [] (t5 c47)
   ·exact aq fol [.r [(17,yF)],.c false,.s 1] [4,6,9] [4,6] (t5 c47) (Zao.p4_ok h23 hE)
  ·exact aq fol [.r [(9,wF),(10,wF),(11,wF),(12,wF),(13,wF),(14,wF),(15,wF),(16,yF),(17,yF)],.c false,.s 1] [4,6,9] [4,6] (t4 (aO c46 c46 c46 c46 c46 c46 c46 (aK c45 c46 c45 eF))) (Zao.p4_ok h21 hE)
theorem Zao.p2_ok {now_3 chain_1 times_15 v6 p_0 h_2 st r c2_ J2} (h:Zao.p2 N now_3 chain_1 p_0 h_2 c2_ (times_15,v6)=some r) (hE:En Tryz.f61 g0 w0 (Zao.rs r) st R) (hc2 : ∀times_15 v6,c2_ (times_15,v6)=some r→At g0 w0 (Zao.p2.S now_3 chain_1 times_15 v6 p_0 h_2 st) J2):At g0 w0 (Zao.p2.S now_3 chain_1 times_15 v6 p_0 h_2 st) (XK Tryz.prog R (.c (csub Zao.B [1,1,1,1,1,1,1,0,1,0,0]) :: .h J2 :: [.b 0,.c (csub Zao.B [1,1,1,1,1,1,1,1])])):=by
 unfold Zao.p2 at h
 refine iteB h (fun c36 h24=>?_) (fun c36 h25=>?_)
 ·obtain ⟨c37,h26⟩:=ZaI h24
  obtain ⟨x16,c38,h27⟩:=Zdp h26
  obtain ⟨c39,h28⟩:=ZaI h27
  exact an fol [.r [],.c true,.r [(1,{oe:=x16.ls})],.r [],.r []] [3,4,6,9,10,47,48,49] [4,6,10] (aO c36 c37 (oD c36) c38 z0 (eN (List.length times_15)) z0 (aI (eN (1)) c39)) (hc2 (times_15 ++ [[L.int .i64 x16.Time]]) (w64 (v6+1)) h28)
 ·refine iteB h25 (fun c40 h29=>?_) (fun c40 h30=>?_)
  ·obtain ⟨x17,c41,h31⟩:=Zad h29
   obtain ⟨c42,h32⟩:=ZaI h31
   obtain ⟨x18,c43,h33⟩:=Zad h32
   let o4:List PS:=[.r [],.c false,.d {ds:=[(6,{rs:=[.row true 1 x17],ns:=[65],m:=2}),(7,{rs:=[oI x18],m:=2})],hv:=64,Hs:=[64]}]
   have t6 {Q:Prop} (q:Q):=aO c36 c40 c40 c40 c40 c40 c40 (aO z0 (eN (List.length times_15)) c42 (Zch.snd c41) c40 z0 (eN (List.length x17)) (aK (ZaH.snd c43) c40 c40 q))
   refine iteB h33 (fun c44 h34=>?_) (fun c44 h35=>?_)
   ·obtain rfl:=Zab h34
    exact afd fol hE (o4 ++ [.c true,.r []]) [] 0 [] (t6 c44)
   ·exact aqd fol (o4 ++ [.c false,.s 1]) [3,4,6,9] [4,6] (t6 c44) (Zao.p3_ok h35 hE)
  ·exact aqd fol [.r [],.c false,.d {ds:=[(3,wF),(4,wF),(5,wF),(6,wF),(7,wF),(8,wF),(9,yF)],hv:=0,Hs:=[]},.c false,.s 1] [3,4,6,9] [4,6] (aO c36 c40 c40 c40 c40 c40 c40 (aI c40 eF)) (Zao.p3_ok h30 hE)
theorem Zao.p1_ok {chain_1 now_3 p_0 h_2 st r} (h:Zao.p1 N chain_1 now_3 p_0 h_2=some r) (hE:En Tryz.f61 g0 w0 (Zao.rs r) st R):At g0 w0 (Zao.p1.S chain_1 now_3 p_0 h_2 st) (XK Tryz.prog R [.c (csub Zao.B [1,1,1,1])]):=by
 unfold Zao.p1 at h
 obtain ⟨x4,c9,h36⟩:=Zad h
 let o5:List PS:=[.d {ds:=[(6,q1 [oI x4])],hv:=0,Hs:=[]}]
 have t7 {Q:Prop} (q:Q):=aI (Zay.snd c9) q
 refine iteB h36 (fun c10 h37=>?_) (fun c10 h38=>?_)
 ·obtain rfl:=Zab h37
  exact afd fol hE (o5 ++ [.c true,.r []]) [] 0 [] (t7 c10)
 ·obtain ⟨x5,c11,h39⟩:=Zad h38
  let o6:List PS:=o5 ++ [.c false,.r [(2,q1 [oB x5])]]
  refine iteB h39 (fun c12 h40=>?_) (fun c12 h41=>?_)
  ·obtain rfl:=Zab h40
   exact afd fol hE (o6 ++ [.c true,.r []]) [] 0 [] (t7 (aJ c10 (Zds.snd c11) c12))
  ·exact aqd fol (o6 ++ [.c false,.r [(0,{m:=1})],.r []]) [3,4,6,9,10,47,48,49] [4,6,10] (t7 (aJ c10 (Zds.snd c11) c12)) (At.loop N (At.loopN (fun y:LL×Int=>Zao.p2.S now_3 chain_1 y.1 y.2 p_0 h_2 st) (fun c J hc y h=>Zao.p2_ok (times_15:=y.1) (v6:=y.2) h hE (fun times_15 v6=>hc (times_15,v6))) N ([],0) h41))
theorem Zao.snd {p_0:Zae} {chain_1:LL} {h_2:Zai} {now_3:Int} {r:Int} (h:Zao N p_0 chain_1 h_2 now_3=some r):SndQ Tryz.prog 61 [.agg p_0.ls,.one (L.sl 68 chain_1),.agg h_2.ls,oI now_3] (Zao.rs r):=fun st=>
 sO Zao.B Tryz.func61 fun g0 w0 R hE=>by
  unfold Zao at h
  obtain ⟨x1,c1,h42⟩:=Zad h
  let o7:List PS:=[.r [],.r [],.r [(1,q1 [oB x1])]]
  have t8 {Q:Prop} (q:Q):=aI (ZcE.snd c1) q
  refine iteB h42 (fun c2 h43=>?_) (fun c2 h44=>?_)
  ·obtain rfl:=Zab h43
   exact af fol hE (o7 ++ [.c true,.r []]) [] 0 [] (t8 c2)
  ·refine iteB h44 (fun c3 h45=>?_) (fun c3 h46=>?_)
   ·obtain ⟨c4,c5,h47⟩:=ck2 h45
    obtain ⟨x2,c6,h48⟩:=Zdp h47
    obtain ⟨x3,c7,h49⟩:=Zad h48
    let o8:List PS:=o7 ++ [.c false,.d {ds:=[(9,{oe:=x2.ls}),(10,q1 [.agg [L.arr .u8 32 x3]])],hv:=0,Hs:=[]}]
    have t9 {Q:Prop} (q:Q):=t8 (aO c2 c3 c3 c3 c3 c3 c3 (aO c4 c5 c3 c6 c3 (ZcC.snd c7) c3 (aI c3 q)))
    refine iteB h49 (fun c8 h50=>?_) (fun c8 h51=>?_)
    ·obtain rfl:=Zab h50
     exact afd fol hE (o8 ++ [.c true,.r []]) [] 0 [] (t9 c8)
    ·exact aqd fol (o8 ++ [.c false,.s 1]) [1,3,4,6,9] [4,6] (t9 c8) (Zao.p1_ok h51 hE)
   ·exact aqd fol (o7 ++ [.c false,.d {ds:=[(3,wF),(4,wF),(5,wF),(6,wF),(7,wF),(8,wF),(9,wF),(10,wF),(11,wF),(12,yF)],hv:=0,Hs:=[]},.c false,.s 1]) [1,3,4,6,9] [4,6] (t8 (aO c2 c3 c3 c3 c3 c3 c3 (aL c3 c3 c3 c3 eF))) (Zao.p1_ok h46 hE)
noncomputable def ZaV.B:Code:=Tryz.f143.body.getD .skip
noncomputable def ZaV.rs (r:Int×LL):List CV:=[oI r.1]
noncomputable def ZaV.p1 (N:Nat) (i1:Nat) (x2:Zaa) (id_1_0:List Int) (st:LL) (c1_:Int→Option (Int×LL)):Int→Option (Int×LL):=fun v3=>
 if (decide (v3<(len x2.Ids)))=true then
  chk (0≤v3)<|
  getE (st[i1]?) Zbo fun x4=>
  getE (x4.Ids[0+(Int.toNat v3)]?) Zdt fun x5=>
  if (x5==id_1_0)=true then
   some (v3,st)
  else
  c1_ (w64 (v3+1))
 else
 some ((-1),st)
noncomputable def ZaV (N:Nat) (a_0:Option Nat) (id_1_0:List Int) (st:LL):Option (Int×LL):=
 optE a_0 fun i1=>
 getE (st[i1]?) Zbo fun x2=>
 loopN (ZaV.p1 N i1 x2 id_1_0 st) N 0
noncomputable def ZaV.p1.S (i1:Nat) (x2:Zaa) (v3:Int) (id_1_0:List Int) (st:LL):S:=mkS 22 [(3,sA 3),(10,.one (.h (.mem (.obj i1) 84 0) 32 0 (List.length x2.Ids))),(11,sI (len x2.Ids)),(12,sI v3)] [(3,.cells [L.arr .u8 32 id_1_0])] st
theorem ZaV.p1_ok {i1 x2 v3 id_1_0 st r c1_ J1} (h:ZaV.p1 N i1 x2 id_1_0 st c1_ v3=some r) (hE:En Tryz.f143 g0 w0 (ZaV.rs r) r.2 R) (hc1 : ∀v3,c1_ v3=some r→At g0 w0 (ZaV.p1.S i1 x2 v3 id_1_0 st) J1):At g0 w0 (ZaV.p1.S i1 x2 v3 id_1_0 st) (XK Tryz.prog R (.c (csub ZaV.B [1,0,1,0,0]) :: .h J1 :: [.b 0,.c (csub ZaV.B [1,1])])):=by
 unfold ZaV.p1 at h
 refine iteB h (fun c3 h1=>?_) (fun c3 h2=>?_)
 ·obtain ⟨c4,h3⟩:=ZaI h1
  obtain ⟨x4,c5,h4⟩:=Zbv h3
  obtain ⟨x5,c6,h5⟩:=ZcM h4
  let o1:List PS:=[.r [],.c true,.r [(2,{oc:=x4.lo,oe:=[L.arr .u8 32 x5]})],.r []]
  refine iteB h5 (fun c7 h6=>?_) (fun c7 h7=>?_)
  ·obtain rfl:=Zab h6
   exact af fol hE (o1 ++ [.c true,.r []]) [] 0 [] (aM c3 c4 (oD c3) c6 c5 c7)
  ·exact an fol (o1 ++ [.c false,.r []]) [3,10,11,12] [3] (aM c3 c4 (oD c3) c6 c5 c7) (hc1 (w64 (v3+1)) h7)
 ·obtain rfl:=Zab h2
  exact af fol hE [.r [],.c false,.r []] [] 0 [] c3
theorem ZaV.snd {a_0:Option Nat} {id_1_0:List Int} {st:LL} {r:Int×LL} (h:ZaV N a_0 id_1_0 st=some r):Snd Tryz.prog 143 [.one (L.ptr a_0),.agg [L.arr .u8 32 id_1_0]] st (ZaV.rs r) r.2:=
 sO ZaV.B Tryz.func143 fun g0 w0 R hE=>by
  unfold ZaV at h
  obtain ⟨i1,rfl,h8⟩:=Zad h
  obtain ⟨x2,c2,h9⟩:=Zbv h8
  exact aq fol [.r [],.r [(3,{oc:=x2.lo})]] [3,10,11,12] [3] c2 (At.loop N (At.loopN (fun y:Int=>ZaV.p1.S i1 x2 y id_1_0 st) (fun c J hc y h=>ZaV.p1_ok h hE (fun v3=>hc v3)) N 0 h9))
noncomputable def ZdT.B:Code:=Tryz.f105.body.getD .skip
noncomputable def ZdT.rs (r:(List Int)):List CV:=[.agg [L.arr .u64 4 r]]
noncomputable def ZdT (N:Nat) (a_0_0 b_1_0:List Int):Option (List Int):=
 optE (ZaY N a_0_0 b_1_0) fun (x1,x2)=>
 if x2=true then
  optE (ZcH N ) fun x3=>
  some x3
 else
 some x1
theorem ZdT.snd {a_0_0 b_1_0:List Int} {r:(List Int)} (h:ZdT N a_0_0 b_1_0=some r):SndQ Tryz.prog 105 [.agg [L.arr .u64 4 a_0_0],.agg [L.arr .u64 4 b_1_0]] (ZdT.rs r):=fun st=>
 sO ZdT.B Tryz.func105 fun g0 w0 R hE=>by
  unfold ZdT at h
  obtain ⟨⟨x1,x2⟩,c1,h1⟩:=Zad h
  let o1:List PS:=[.r [],.r [(2,q1 [.agg [L.arr .u64 4 x1],oB x2])],.r []]
  refine iteB h1 (fun c2 h2=>?_) (fun c2 h3=>?_)
  ·obtain ⟨x3,c3,h4⟩:=Zad h2
   obtain rfl:=Zab h4
   exact af fol hE (o1 ++ [.c true,.r [(0,q1 [.agg [L.arr .u64 4 x3]])]]) [] 0 [] (aJ (ZaY.snd c1) c2 (ZcH.snd c3))
  ·obtain rfl:=Zab h3
   exact af fol hE (o1 ++ [.c false,.r []]) [] 0 [] (aI (ZaY.snd c1) c2)
noncomputable def ZcB.B:Code:=Tryz.f85.body.getD .skip
noncomputable def ZcB.rs (r:Int×Int×Int×LL):List CV:=[oI r.1,oI r.2.1,oI r.2.2.1]
noncomputable def ZcB (N:Nat) (a_0:Option Nat) (h_1:Zai) (now_2:Int) (st:LL):Option (Int×Int×Int×LL):=
 optE (ZcE N h_1) fun x1=>
 if (!x1)=true then
  some ((-1),1,8,st)
 else
 optE (ZcC N h_1) fun x2=>
 optE (ZaV N a_0 x2 st) fun (x3,st4)=>
 if (decide (x3≥0))=true then
  some (x3,0,0,st4)
 else
 optE (ZaV N a_0 h_1.Prev st4) fun (x5,st6)=>
 if (decide (x5<0))=true then
  some ((-1),2,5,st6)
 else
 optE a_0 fun i7=>
 getE (st6[i7]?) Zbo fun x8=>
 optE (ZaO N x8 x5) fun x9=>
 chk (plainRow x9=true)<|
 optE (Zao N x8.Rules x9 h_1 now_2) fun x10=>
 if (decide (x10>0))=true then
  some ((-1),x10,8,st6)
 else
 if (decide ((len x8.List_)≥x8.Room))=true then
  some ((-1),0,6,st6)
 else
 chk (List.length (x8.List_ ++ [h_1.ls])*96≤140737488355328)<|
 chk (List.length (x8.Ids ++ [[L.arr .u8 32 x2]])*32≤140737488355328)<|
 chk (0≤x5)<|
 chk (x5<(len x8.Works))<|
 getE (x8.Works[0+(Int.toNat x5)]?) Zgg fun x11=>
 optE (Zce N h_1.Bits) fun x12=>
 optE (ZdT N x11 x12) fun x13=>
 chk (List.length (x8.Works ++ [[L.arr .u64 4 x13]])*32≤140737488355328)<|
 chk (List.length (x8.Ahead ++ [[L.int .i64 x5]])*8≤140737488355328)<|
 some (w64 ((len (x8.List_ ++ [h_1.ls]))-1),0,0,List.set (List.set (List.set (List.set (List.set (List.set (List.set (List.set st6 i7 (gs x8.lo 15)) i7 (Zaa.lo {x8 with List_:=x8.List_ ++ [h_1.ls]})) i7 (gs (Zaa.lo {x8 with List_:=x8.List_ ++ [h_1.ls]}) 16)) i7 (Zaa.lo {x8 with List_:=x8.List_ ++ [h_1.ls],Ids:=x8.Ids ++ [[L.arr .u8 32 x2]]})) i7 (gs (Zaa.lo {x8 with List_:=x8.List_ ++ [h_1.ls],Ids:=x8.Ids ++ [[L.arr .u8 32 x2]]}) 18)) i7 (Zaa.lo {x8 with List_:=x8.List_ ++ [h_1.ls],Ids:=x8.Ids ++ [[L.arr .u8 32 x2]],Works:=x8.Works ++ [[L.arr .u64 4 x13]]})) i7 (gs (Zaa.lo {x8 with List_:=x8.List_ ++ [h_1.ls],Ids:=x8.Ids ++ [[L.arr .u8 32 x2]],Works:=x8.Works ++ [[L.arr .u64 4 x13]]}) 17)) i7 (Zaa.lo (Zaa.mk x8.Rules (x8.List_ ++ [h_1.ls]) (x8.Ids ++ [[L.arr .u8 32 x2]]) (x8.Ahead ++ [[L.int .i64 x5]]) (x8.Works ++ [[L.arr .u64 4 x13]]) x8.Room)))
theorem ZcB.snd {a_0:Option Nat} {h_1:Zai} {now_2:Int} {st:LL} {r:Int×Int×Int×LL} (h:ZcB N a_0 h_1 now_2 st=some r):Snd Tryz.prog 85 [.one (L.ptr a_0),.agg h_1.ls,oI now_2] st (ZcB.rs r) r.2.2.2:=
 sO ZcB.B Tryz.func85 fun g0 w0 R hE=>by
  unfold ZcB at h
  obtain ⟨x1,c1,h1⟩:=Zad h
  let o1:List PS:=[.r [],.r [(1,q1 [oB x1])]]
  have t1 {Q:Prop} (q:Q):=aI (ZcE.snd c1) q
  refine iteB h1 (fun c2 h2=>?_) (fun c2 h3=>?_)
  ·obtain rfl:=Zab h2
   exact af fol hE (o1 ++ [.c true,.r []]) [] 0 [] (t1 c2)
  ·obtain ⟨x2,c3,h4⟩:=Zad h3
   obtain ⟨⟨x3,st4⟩,c4,h5⟩:=Zad h4
   let o2:List PS:=o1 ++ [.c false,.r [(2,q1 [.agg [L.arr .u8 32 x2]]),(3,{rs:=[oI x3],st:=st4})],.r []]
   have t2 {Q:Prop} (q:Q):=t1 (aK c2 (ZcC.snd c3) (ZaV.snd c4) q)
   refine iteB h5 (fun c5 h6=>?_) (fun c5 h7=>?_)
   ·obtain rfl:=Zab h6
    exact af fol hE (o2 ++ [.c true,.r []]) [] 0 [] (t2 c5)
   ·obtain ⟨⟨x5,st6⟩,c6,h8⟩:=Zad h7
    let o3:List PS:=o2 ++ [.c false,.r [(3,{rs:=[oI x5],st:=st6})],.r []]
    have t3 {Q:Prop} (q:Q):=t2 (aJ c5 (ZaV.snd c6) q)
    refine iteB h8 (fun c7 h9=>?_) (fun c7 h10=>?_)
    ·obtain rfl:=Zab h9
     exact af fol hE (o3 ++ [.c true,.r []]) [] 0 [] (t3 c7)
    ·obtain ⟨i7,rfl,h11⟩:=Zad h10
     obtain ⟨x8,c9,h12⟩:=Zbv h11
     obtain ⟨x9,c10,h13⟩:=Zad h12
     obtain ⟨c11,h14⟩:=ZaI h13
     obtain ⟨x10,c12,h15⟩:=Zad h14
     let o4:List PS:=o3 ++ [.c false,.d {ds:=[(3,{oc:=x8.lo}),(6,{rs:=[.row true 68 x9],ns:=[34],m:=10,cv:=[.one (L.bx 88 x8.ls)]}),(9,{rs:=[oI x10],m:=2})],hv:=64,Hs:=[64]},.r []]
     have t4 {Q:Prop} (q:Q):=t3 (aO c7 c9 c9 (bO 88 c9 (Zaa.bv x8)) c11 (ZaO.snd c10) z0 (aJ (eN (List.length x9)) (Zao.snd c12) q))
     refine iteB h15 (fun c13 h16=>?_) (fun c13 h17=>?_)
     ·obtain rfl:=Zab h16
      exact afd fol hE (o4 ++ [.c true,.r []]) [] 0 [] (t4 c13)
     ·let o5:List PS:=o4 ++ [.c false,.d {ds:=[(3,{oc:=x8.lo}),(8,{oc:=x8.lo})],hv:=0,Hs:=[]}]
      refine iteB h17 (fun c14 h18=>?_) (fun c14 h19=>?_)
      ·obtain rfl:=Zab h18
       exact afd fol hE (o5 ++ [.c true,.r []]) [] 0 [] (t4 (aK c13 c9 c9 c14))
      ·obtain ⟨c15,c16,c17,c18,h20⟩:=ck4 h19
       obtain ⟨x11,c19,h21⟩:=Zhj h20
       obtain ⟨x12,c20,h22⟩:=Zad h21
       obtain ⟨x13,c21,h23⟩:=Zad h22
       obtain ⟨c22,c23,h24⟩:=ck2 h23
       obtain rfl:=Zab h24
       exact afd fol hE (o5 ++ [.c false,.d {ds:=[(4,{oc:=x8.lo}),(7,{oe:=x8.lo}),(10,{oc:=gs x8.lo 15,mv:=[58]})],hv:=1216,Hs:=[64,192,1216]},.d {ds:=[(4,{oc:=Zaa.lo {x8 with List_:=x8.List_ ++ [h_1.ls]}}),(6,q1 [.agg [L.arr .u8 32 x2]]),(8,{oe:=Zaa.lo {x8 with List_:=x8.List_ ++ [h_1.ls]}}),(11,{oc:=gs (Zaa.lo {x8 with List_:=x8.List_ ++ [h_1.ls]}) 16,mv:=[69]})],hv:=2432,Hs:=[128,384,2432]},.d {ds:=[(4,{oc:=Zaa.lo {x8 with List_:=x8.List_ ++ [h_1.ls],Ids:=x8.Ids ++ [[L.arr .u8 32 x2]]}}),(8,{oc:=Zaa.lo {x8 with List_:=x8.List_ ++ [h_1.ls],Ids:=x8.Ids ++ [[L.arr .u8 32 x2]]}}),(11,{oc:=Zaa.lo {x8 with List_:=x8.List_ ++ [h_1.ls],Ids:=x8.Ids ++ [[L.arr .u8 32 x2]]},oe:=[L.arr .u64 4 x11]}),(14,q1 [.agg [L.arr .u64 4 x12]]),(15,q1 [.agg [L.arr .u64 4 x13]]),(17,{oe:=Zaa.lo {x8 with List_:=x8.List_ ++ [h_1.ls],Ids:=x8.Ids ++ [[L.arr .u8 32 x2]]}}),(20,{oc:=gs (Zaa.lo {x8 with List_:=x8.List_ ++ [h_1.ls],Ids:=x8.Ids ++ [[L.arr .u8 32 x2]]}) 18,mv:=[89]})],hv:=1245184,Hs:=[65536,196608,1245184]},.r [(4,{oc:=Zaa.lo {x8 with List_:=x8.List_ ++ [h_1.ls],Ids:=x8.Ids ++ [[L.arr .u8 32 x2]],Works:=x8.Works ++ [[L.arr .u64 4 x13]]}}),(7,{oe:=Zaa.lo {x8 with List_:=x8.List_ ++ [h_1.ls],Ids:=x8.Ids ++ [[L.arr .u8 32 x2]],Works:=x8.Works ++ [[L.arr .u64 4 x13]]}}),(10,{oc:=gs (Zaa.lo {x8 with List_:=x8.List_ ++ [h_1.ls],Ids:=x8.Ids ++ [[L.arr .u8 32 x2]],Works:=x8.Works ++ [[L.arr .u64 4 x13]]}) 17,mv:=[99]})],.r [(3,{oc:=Zaa.lo (Zaa.mk x8.Rules (x8.List_ ++ [h_1.ls]) (x8.Ids ++ [[L.arr .u8 32 x2]]) (x8.Ahead ++ [[L.int .i64 x5]]) (x8.Works ++ [[L.arr .u64 4 x13]]) x8.Room)})]]) [] 0 [] (t4 (aO c13 c9 c9 c14 c9 c9 z0 (aO (eN (List.length x8.List_)) c9 z0 (eN (1)) c15 (Zap c9 (gs x8.lo 15)) z0 (aO (eN (List.length (x8.List_ ++ [h_1.ls]))) (Zap (Zap c9 (gs x8.lo 15)) (Zaa.lo {x8 with List_:=x8.List_ ++ [h_1.ls]})) (Zap (Zap c9 (gs x8.lo 15)) (Zaa.lo {x8 with List_:=x8.List_ ++ [h_1.ls]})) (ZcC.snd c3) z0 (eN (List.length x8.Ids)) (Zap (Zap c9 (gs x8.lo 15)) (Zaa.lo {x8 with List_:=x8.List_ ++ [h_1.ls]})) (aO z0 (eN (1)) c16 (Zap (Zap (Zap c9 (gs x8.lo 15)) (Zaa.lo {x8 with List_:=x8.List_ ++ [h_1.ls]})) (gs (Zaa.lo {x8 with List_:=x8.List_ ++ [h_1.ls]}) 16)) z0 (eN (List.length (x8.Ids ++ [[L.arr .u8 32 x2]]))) (Zap (Zap (Zap (Zap c9 (gs x8.lo 15)) (Zaa.lo {x8 with List_:=x8.List_ ++ [h_1.ls]})) (gs (Zaa.lo {x8 with List_:=x8.List_ ++ [h_1.ls]}) 16)) (Zaa.lo {x8 with List_:=x8.List_ ++ [h_1.ls],Ids:=x8.Ids ++ [[L.arr .u8 32 x2]]})) (aO (Zap (Zap (Zap (Zap c9 (gs x8.lo 15)) (Zaa.lo {x8 with List_:=x8.List_ ++ [h_1.ls]})) (gs (Zaa.lo {x8 with List_:=x8.List_ ++ [h_1.ls]}) 16)) (Zaa.lo {x8 with List_:=x8.List_ ++ [h_1.ls],Ids:=x8.Ids ++ [[L.arr .u8 32 x2]]})) (Zap (Zap (Zap (Zap c9 (gs x8.lo 15)) (Zaa.lo {x8 with List_:=x8.List_ ++ [h_1.ls]})) (gs (Zaa.lo {x8 with List_:=x8.List_ ++ [h_1.ls]}) 16)) (Zaa.lo {x8 with List_:=x8.List_ ++ [h_1.ls],Ids:=x8.Ids ++ [[L.arr .u8 32 x2]]})) c17 c18 c19 (Zap (Zap (Zap (Zap c9 (gs x8.lo 15)) (Zaa.lo {x8 with List_:=x8.List_ ++ [h_1.ls]})) (gs (Zaa.lo {x8 with List_:=x8.List_ ++ [h_1.ls]}) 16)) (Zaa.lo {x8 with List_:=x8.List_ ++ [h_1.ls],Ids:=x8.Ids ++ [[L.arr .u8 32 x2]]})) (Zce.snd c20) (aO (ZdT.snd c21) z0 (eN (List.length x8.Works)) (Zap (Zap (Zap (Zap c9 (gs x8.lo 15)) (Zaa.lo {x8 with List_:=x8.List_ ++ [h_1.ls]})) (gs (Zaa.lo {x8 with List_:=x8.List_ ++ [h_1.ls]}) 16)) (Zaa.lo {x8 with List_:=x8.List_ ++ [h_1.ls],Ids:=x8.Ids ++ [[L.arr .u8 32 x2]]})) z0 (eN (1)) c22 (aO (Zap (Zap (Zap (Zap (Zap c9 (gs x8.lo 15)) (Zaa.lo {x8 with List_:=x8.List_ ++ [h_1.ls]})) (gs (Zaa.lo {x8 with List_:=x8.List_ ++ [h_1.ls]}) 16)) (Zaa.lo {x8 with List_:=x8.List_ ++ [h_1.ls],Ids:=x8.Ids ++ [[L.arr .u8 32 x2]]})) (gs (Zaa.lo {x8 with List_:=x8.List_ ++ [h_1.ls],Ids:=x8.Ids ++ [[L.arr .u8 32 x2]]}) 18)) z0 (eN (List.length (x8.Works ++ [[L.arr .u64 4 x13]]))) (Zap (Zap (Zap (Zap (Zap (Zap c9 (gs x8.lo 15)) (Zaa.lo {x8 with List_:=x8.List_ ++ [h_1.ls]})) (gs (Zaa.lo {x8 with List_:=x8.List_ ++ [h_1.ls]}) 16)) (Zaa.lo {x8 with List_:=x8.List_ ++ [h_1.ls],Ids:=x8.Ids ++ [[L.arr .u8 32 x2]]})) (gs (Zaa.lo {x8 with List_:=x8.List_ ++ [h_1.ls],Ids:=x8.Ids ++ [[L.arr .u8 32 x2]]}) 18)) (Zaa.lo {x8 with List_:=x8.List_ ++ [h_1.ls],Ids:=x8.Ids ++ [[L.arr .u8 32 x2]],Works:=x8.Works ++ [[L.arr .u64 4 x13]]})) z0 (eN (List.length x8.Ahead)) (Zap (Zap (Zap (Zap (Zap (Zap c9 (gs x8.lo 15)) (Zaa.lo {x8 with List_:=x8.List_ ++ [h_1.ls]})) (gs (Zaa.lo {x8 with List_:=x8.List_ ++ [h_1.ls]}) 16)) (Zaa.lo {x8 with List_:=x8.List_ ++ [h_1.ls],Ids:=x8.Ids ++ [[L.arr .u8 32 x2]]})) (gs (Zaa.lo {x8 with List_:=x8.List_ ++ [h_1.ls],Ids:=x8.Ids ++ [[L.arr .u8 32 x2]]}) 18)) (Zaa.lo {x8 with List_:=x8.List_ ++ [h_1.ls],Ids:=x8.Ids ++ [[L.arr .u8 32 x2]],Works:=x8.Works ++ [[L.arr .u64 4 x13]]})) (aN z0 (eN (1)) c23 (Zap (Zap (Zap (Zap (Zap (Zap (Zap c9 (gs x8.lo 15)) (Zaa.lo {x8 with List_:=x8.List_ ++ [h_1.ls]})) (gs (Zaa.lo {x8 with List_:=x8.List_ ++ [h_1.ls]}) 16)) (Zaa.lo {x8 with List_:=x8.List_ ++ [h_1.ls],Ids:=x8.Ids ++ [[L.arr .u8 32 x2]]})) (gs (Zaa.lo {x8 with List_:=x8.List_ ++ [h_1.ls],Ids:=x8.Ids ++ [[L.arr .u8 32 x2]]}) 18)) (Zaa.lo {x8 with List_:=x8.List_ ++ [h_1.ls],Ids:=x8.Ids ++ [[L.arr .u8 32 x2]],Works:=x8.Works ++ [[L.arr .u64 4 x13]]})) (gs (Zaa.lo {x8 with List_:=x8.List_ ++ [h_1.ls],Ids:=x8.Ids ++ [[L.arr .u8 32 x2]],Works:=x8.Works ++ [[L.arr .u64 4 x13]]}) 17)) z0 (eN (List.length (x8.Ahead ++ [[L.int .i64 x5]]))) (Zap (Zap (Zap (Zap (Zap (Zap (Zap (Zap c9 (gs x8.lo 15)) (Zaa.lo {x8 with List_:=x8.List_ ++ [h_1.ls]})) (gs (Zaa.lo {x8 with List_:=x8.List_ ++ [h_1.ls]}) 16)) (Zaa.lo {x8 with List_:=x8.List_ ++ [h_1.ls],Ids:=x8.Ids ++ [[L.arr .u8 32 x2]]})) (gs (Zaa.lo {x8 with List_:=x8.List_ ++ [h_1.ls],Ids:=x8.Ids ++ [[L.arr .u8 32 x2]]}) 18)) (Zaa.lo {x8 with List_:=x8.List_ ++ [h_1.ls],Ids:=x8.Ids ++ [[L.arr .u8 32 x2]],Works:=x8.Works ++ [[L.arr .u64 4 x13]]})) (gs (Zaa.lo {x8 with List_:=x8.List_ ++ [h_1.ls],Ids:=x8.Ids ++ [[L.arr .u8 32 x2]],Works:=x8.Works ++ [[L.arr .u64 4 x13]]}) 17)) (Zaa.lo (Zaa.mk x8.Rules (x8.List_ ++ [h_1.ls]) (x8.Ids ++ [[L.arr .u8 32 x2]]) (x8.Ahead ++ [[L.int .i64 x5]]) (x8.Works ++ [[L.arr .u64 4 x13]]) x8.Room))))))))))))
noncomputable def ZbP.B:Code:=Tryz.f17.body.getD .skip
noncomputable def ZbP.rs (r:(Option Nat)×(Option Nat)×LL):List CV:=[.one (L.ptr r.1),.one (L.ptr r.2.1)]
noncomputable def ZbP.p1 (N:Nat) (x1 x4:Option Nat) (list_1:LL) (c1_:(Int×LL)→Option ((Option Nat)×(Option Nat)×LL)):(Int×LL)→Option ((Option Nat)×(Option Nat)×LL):=fun (v6,st16)=>
 if (decide (v6<(len list_1)))=true then
  chk (0≤v6)<|
  getE (list_1[Int.toNat v6]?) ZcY fun x17=>
  optE (ZbL N x1 x17.Header x17.Now st16) fun (x18,x19,x20,st21)=>
  optE (ZcB N x4 x17.Header x17.Now st21) fun (x22,x23,x24,st25)=>
  c1_ (w64 (v6+1),st25)
 else
 some (x1,x4,st16)
noncomputable def ZbP (N:Nat) (p_0:Zae) (list_1 st:LL):Option ((Option Nat)×(Option Nat)×LL):=
 optE (ZeB N p_0 100 st) fun (x1,x2,st3)=>
 optE (ZdS N p_0 100 st3) fun (x4,st5)=>
 loopN (ZbP.p1 N x1 x4 list_1) N (0,st5)
noncomputable def ZbP.p1.S (x1 x4:Option Nat) (list_1:LL) (v6:Int) (st16:LL):S:=mkS 39 [(6,sP x1),(8,sP x4),(18,sV 69 list_1),(19,sI (len list_1)),(20,sI v6)] [] st16
theorem ZbP.p1_ok {x1 x4 list_1 v6 st16 r c1_ J1} (h:ZbP.p1 N x1 x4 list_1 c1_ (v6,st16)=some r) (hE:En Tryz.f17 g0 w0 (ZbP.rs r) r.2.2 R) (hc1 : ∀v6 st16,c1_ (v6,st16)=some r→At g0 w0 (ZbP.p1.S x1 x4 list_1 v6 st16) J1):At g0 w0 (ZbP.p1.S x1 x4 list_1 v6 st16) (XK Tryz.prog R (.c (csub ZbP.B [1,1,1,0,1,0,0]) :: .h J1 :: [.b 0,.c (csub ZbP.B [1,1,1,1])])):=by
 unfold ZbP.p1 at h
 refine iteB h (fun c8 h1=>?_) (fun c8 h2=>?_)
 ·obtain ⟨c9,h3⟩:=ZaI h1
  obtain ⟨x17,c10,h4⟩:=Zei h3
  obtain ⟨⟨x18,x19,x20,st21⟩,c11,h5⟩:=Zad h4
  obtain ⟨⟨x22,x23,x24,st25⟩,c12,h6⟩:=Zad h5
  exact an fol [.r [],.c true,.r [(1,{oe:=x17.ls})],.r [(5,{rs:=[oI x18,oI x19,oI x20],st:=st21})],.r [(5,{rs:=[oI x22,oI x23,oI x24],st:=st25})],.r []] [6,8,18,19,20] [] (aM c8 c9 (oD c8) c10 (ZbL.snd c11) (ZcB.snd c12)) (hc1 (w64 (v6+1)) st25 h6)
 ·obtain rfl:=Zab h2
  exact af fol hE [.r [],.c false,.r []] [] 0 [] c8
theorem ZbP.snd {p_0:Zae} {list_1:LL} {st:LL} {r:(Option Nat)×(Option Nat)×LL} (h:ZbP N p_0 list_1 st=some r):Snd Tryz.prog 17 [.agg p_0.ls,.one (L.sl 69 list_1)] st (ZbP.rs r) r.2.2:=
 sO ZbP.B Tryz.func17 fun g0 w0 R hE=>by
  unfold ZbP at h
  obtain ⟨⟨x1,x2,st3⟩,c1,h7⟩:=Zad h
  obtain ⟨⟨x4,st5⟩,c2,h8⟩:=Zad h7
  exact aq fol [.r [],.r [(1,{rs:=[.one (L.ptr x1),oI x2],st:=st3})],.r [(1,{rs:=[.one (L.ptr x4)],st:=st5})],.r []] [6,8,18,19,20] [] (aI (ZeB.snd c1) (ZdS.snd c2)) (At.loop N (At.loopN (fun y:Int×LL=>ZbP.p1.S x1 x4 list_1 y.1 y.2) (fun c J hc y h=>ZbP.p1_ok (v6:=y.1) (st16:=y.2) h hE (fun v6 st16=>hc (v6,st16))) N (0,st5) h8))
noncomputable def ZaW.B:Code:=Tryz.f43.body.getD .skip
noncomputable def ZaW.rs (r:LL):List CV:=[.row true 32 r]
noncomputable def ZaW.p1 (N:Nat) (t_0:Zau) (at_1:Int) (x3:LL) (c1_:(LL×Int)→Option LL):(LL×Int)→Option LL:=fun (out_9,v4)=>
 if (decide (v4<(len x3)))=true then
  chk (0≤v4)<|
  getE (x3[0+(Int.toNat v4)]?) ZcG fun x10=>
  optE (Zaq N t_0 at_1 x10) fun x11=>
  optE (Zbx N t_0 x11) fun (x12,x13)=>
  chk (List.length (out_9 ++ [[L.arr .u8 32 x12.Id]])*32≤140737488355328)<|
  c1_ (out_9 ++ [[L.arr .u8 32 x12.Id]],w64 (v4+1))
 else
 some out_9
noncomputable def ZaW (N:Nat) (t_0:Zau) (at_1:Int):Option LL:=
 optE (Zbx N t_0 at_1) fun (x1,x2)=>
 if (!x2)=true then
  some []
 else
 optE (Zaz N x1.Height) fun x3=>
 loopN (ZaW.p1 N t_0 at_1 x3) N ([],0)
noncomputable def ZaW.p1.S (t_0:Zau) (at_1:Int) (out_9 x3:LL) (v4:Int) (st:LL):S:=mkS 44 [(0,.one (.l (L.bx 2 t_0.ls))),(1,sI at_1),(7,.one (.h (.row 7 0) 32 0 (List.length out_9))),(22,.one (.h (.row 22 0) 1 0 (List.length x3))),(23,sI (len x3)),(24,sI v4)] [(7,.row 0 true 32 out_9),(22,.row 0 true 1 x3)] st
theorem ZaW.p1_ok {t_0 at_1 out_9 x3 v4 st r c1_ J1} (h:ZaW.p1 N t_0 at_1 x3 c1_ (out_9,v4)=some r) (hE:En Tryz.f43 g0 w0 (ZaW.rs r) st R) (hc1 : ∀out_9 v4,c1_ (out_9,v4)=some r→At g0 w0 (ZaW.p1.S t_0 at_1 out_9 x3 v4 st) J1):At g0 w0 (ZaW.p1.S t_0 at_1 out_9 x3 v4 st) (XK Tryz.prog R (.c (csub ZaW.B [1,1,1,1,0,1,0,0]) :: .h J1 :: [.b 0,.c (csub ZaW.B [1,1,1,1,1])])):=by
 unfold ZaW.p1 at h
 refine iteB h (fun c10 h1=>?_) (fun c10 h2=>?_)
 ·obtain ⟨c11,h3⟩:=ZaI h1
  obtain ⟨x10,c12,h4⟩:=Zcf h3
  obtain ⟨x11,c13,h5⟩:=Zad h4
  obtain ⟨⟨x12,x13⟩,c14,h6⟩:=Zad h5
  obtain ⟨c15,h7⟩:=ZaI h6
  exact an fol [.r [],.c true,.r [(1,{oe:=[L.int .i64 x10]})],.r [(4,q0 [oI x11]),(5,q0 [.agg x12.ls,oB x13])],.r [],.r []] [0,1,7,22,23,24] [7,22] (aO c10 c11 (oD c10) c12 (Zaq.snd c13) (Zbx.snd c14) z0 (aK (eN (List.length out_9)) z0 (eN (1)) c15)) (hc1 (out_9 ++ [[L.arr .u8 32 x12.Id]]) (w64 (v4+1)) h7)
 ·obtain rfl:=Zab h2
  exact af fol hE [.r [],.c false,.r []] [] 0 [0] (aJ c10 z0 (eN (List.length out_9)))
theorem ZaW.snd {t_0:Zau} {at_1:Int} {r:LL} (h:ZaW N t_0 at_1=some r):SndQ Tryz.prog 43 [.one (L.bx 2 t_0.ls),oI at_1] (ZaW.rs r):=fun st=>
 sO ZaW.B Tryz.func43 fun g0 w0 R hE=>by
  unfold ZaW at h
  obtain ⟨⟨x1,x2⟩,c1,h8⟩:=Zad h
  let o1:List PS:=[.r [(0,{m:=2})],.r [(2,q0 [.agg x1.ls,oB x2])],.r []]
  refine iteB h8 (fun c2 h9=>?_) (fun c2 h10=>?_)
  ·obtain rfl:=Zab h9
   exact af fol hE (o1 ++ [.c true,.r [(0,{m:=2})]]) [] 0 [0] (aI (Zbx.snd c1) c2)
  ·obtain ⟨x3,c3,h11⟩:=Zad h10
   exact aq fol (o1 ++ [.c false,.r [(0,{m:=1})],.r [(2,{rs:=[.row true 1 x3],ns:=[22],m:=1})]]) [0,1,7,22,23,24] [7,22] (aJ (Zbx.snd c1) c2 (Zaz.snd c3)) (At.loop N (At.loopN (fun y:LL×Int=>ZaW.p1.S t_0 at_1 y.1 x3 y.2 st) (fun c J hc y h=>ZaW.p1_ok (out_9:=y.1) (v4:=y.2) h hE (fun out_9 v4=>hc (out_9,v4))) N ([],0) h11))
noncomputable def ZaE.B:Code:=Tryz.f40.body.getD .skip
noncomputable def ZaE.rs (r:LL):List CV:=[.row true 1 r]
noncomputable def ZaE.p1 (N:Nat) (a_0:Zaa) (c1_:(LL×Int)→Option LL):(LL×Int)→Option LL:=fun (out_3,k_1)=>
 if (decide (k_1≥0))=true then
  chk (List.length ([[L.int .i64 k_1]]++out_3)*8≤140737488355328)<|
  chk (0≤k_1)<|
  chk (k_1<(len a_0.Ahead))<|
  getE (a_0.Ahead[Int.toNat k_1]?) ZcG fun x4=>
  c1_ ([[L.int .i64 k_1]]++out_3,x4)
 else
 some out_3
noncomputable def ZaE (N:Nat) (a_0:Zaa) (at_1:Int):Option LL:=
 loopN (ZaE.p1 N a_0) N ([],at_1)
noncomputable def ZaE.p1.S (a_0:Zaa) (out_3:LL) (k_1:Int) (st:LL):S:=mkS 22 [(0,.one (.l (L.bx 88 a_0.ls))),(5,.one (.h (.row 5 0) 1 0 (List.length out_3))),(6,sI k_1)] [(5,.row 0 true 1 out_3)] st
theorem ZaE.p1_ok {a_0 out_3 k_1 st r c1_ J1} (h:ZaE.p1 N a_0 c1_ (out_3,k_1)=some r) (hE:En Tryz.f40 g0 w0 (ZaE.rs r) st R) (hc1 : ∀out_3 k_1,c1_ (out_3,k_1)=some r→At g0 w0 (ZaE.p1.S a_0 out_3 k_1 st) J1):At g0 w0 (ZaE.p1.S a_0 out_3 k_1 st) (XK Tryz.prog R (.c (csub ZaE.B [1,1,0,1,0,0]) :: .h J1 :: [.b 0,.c (csub ZaE.B [1,1,1])])):=by
 unfold ZaE.p1 at h
 refine iteB h (fun c6 h1=>?_) (fun c6 h2=>?_)
 ·obtain ⟨c7,c8,c9,h3⟩:=ck3 h1
  obtain ⟨x4,c10,h4⟩:=Zcf h3
  exact an fol [.r [],.c true,.r [(4,{m:=4})],.r [(3,{oe:=a_0.ls}),(6,{oe:=[L.int .i64 x4]})]] [0,5,6] [5] (aO c6 z0 (eN (1)) z0 (eN (List.length out_3)) c7 (eO a_0.ls) (aJ c8 c9 c10)) (hc1 ([[L.int .i64 k_1]]++out_3) x4 h4)
 ·obtain rfl:=Zab h2
  exact af fol hE [.r [],.c false,.r []] [] 0 [0] (aJ c6 z0 (eN (List.length out_3)))
theorem ZaE.snd {a_0:Zaa} {at_1:Int} {r:LL} (h:ZaE N a_0 at_1=some r):SndQ Tryz.prog 40 [.one (L.bx 88 a_0.ls),oI at_1] (ZaE.rs r):=fun st=>
 sO ZaE.B Tryz.func40 fun g0 w0 R hE=>by
  unfold ZaE at h
  exact aq fol [.r [(0,{m:=2})],.r [(0,{m:=1})],.r []] [0,5,6] [5] trivial (At.loop N (At.loopN (fun y:LL×Int=>ZaE.p1.S a_0 y.1 y.2 st) (fun c J hc y h=>ZaE.p1_ok (out_3:=y.1) (k_1:=y.2) h hE (fun out_3 k_1=>hc (out_3,k_1))) N ([],at_1) h))
noncomputable def ZaC.B:Code:=Tryz.f42.body.getD .skip
noncomputable def ZaC.rs (r:LL):List CV:=[.row true 1 r]
noncomputable def ZaC.p2 (N:Nat) (c1_:(LL×Int×Int)→Option LL) (from_0:Int) (out_5:LL) (h_1 step_6:Int):Option LL:=
 c1_ (out_5 ++ [[L.int .i64 h_1]],w64 (h_1-step_6),step_6)
noncomputable def ZaC.p3 (N:Nat) (out_7:LL):Option LL:=
 some out_7
noncomputable def ZaC.p1 (N:Nat) (from_0:Int) (c1_:(LL×Int×Int)→Option LL):(LL×Int×Int)→Option LL:=fun (out_5,h_1,step_2)=>
 if (decide (h_1≥0))=true then
  chk (List.length (out_5 ++ [[L.int .i64 h_1]])*8≤140737488355328)<|
  if (h_1==0)=true then
   some (out_5 ++ [[L.int .i64 h_1]])
  else
  if (decide ((len (out_5 ++ [[L.int .i64 h_1]]))≥11))=true then
   ZaC.p2 N c1_ from_0 out_5 h_1 (w64 (step_2*2))
  else
  ZaC.p2 N c1_ from_0 out_5 h_1 step_2
 else
 if (decide (from_0>0))=true then
  chk (List.length (out_5 ++ [[L.int .i64 0]])*8≤140737488355328)<|
  ZaC.p3 N (out_5 ++ [[L.int .i64 0]])
 else
 ZaC.p3 N out_5
noncomputable def ZaC (N:Nat) (from_0:Int):Option LL:=
 loopN (ZaC.p1 N from_0) N ([],from_0,1)
noncomputable def ZaC.p2.S (from_0:Int) (out_5:LL) (h_1 step_6:Int) (st:LL):S:=mkS 30 [(0,sI from_0),(3,.one (.h (.row 3 0) 1 0 (List.length (out_5 ++ [[L.int .i64 h_1]])))),(4,sI h_1),(5,sI step_6)] [(3,.row 0 true 1 (out_5 ++ [[L.int .i64 h_1]]))] st
noncomputable def ZaC.p3.S (out_7 st:LL):S:=mkS 30 [(3,.one (.h (.row 3 0) 1 0 (List.length out_7)))] [(3,.row 0 true 1 out_7)] st
noncomputable def ZaC.p1.S (from_0:Int) (out_5:LL) (h_1 step_2:Int) (st:LL):S:=mkS 30 [(0,sI from_0),(3,.one (.h (.row 3 0) 1 0 (List.length out_5))),(4,sI h_1),(5,sI step_2)] [(3,.row 0 true 1 out_5)] st
theorem ZaC.p2_ok {from_0 out_5 h_1 step_6 st r c1_ J1} (h:ZaC.p2 N c1_ from_0 out_5 h_1 step_6=some r) (hE:En Tryz.f42 g0 w0 (ZaC.rs r) st R) (hc1 : ∀out_5 h_1 step_2,c1_ (out_5,h_1,step_2)=some r→At g0 w0 (ZaC.p1.S from_0 out_5 h_1 step_2 st) J1):At g0 w0 (ZaC.p2.S from_0 out_5 h_1 step_6 st) (XK Tryz.prog R [.c (csub ZaC.B [1,1,1,1,0,0,0,1,0,1,1,1]),.b 1,.h J1,.b 0,.c (csub ZaC.B [1,1,1,1,1])]):=by
 unfold ZaC.p2 at h
 exact an fol [.r []] [0,3,4,5] [3] trivial (hc1 (out_5 ++ [[L.int .i64 h_1]]) (w64 (h_1-step_6)) step_6 h)
theorem ZaC.p3_ok {out_7 st r} (h:ZaC.p3 N out_7=some r) (hE:En Tryz.f42 g0 w0 (ZaC.rs r) st R):At g0 w0 (ZaC.p3.S out_7 st) (XK Tryz.prog R [.c (csub ZaC.B [1,1,1,1,1,1])]):=by
 unfold ZaC.p3 at h
 obtain rfl:=Zab h
 exact af fol hE [.r []] [] 0 [0] (aI z0 (eN (List.length out_7)))
theorem ZaC.p1_ok {from_0 out_5 h_1 step_2 st r c1_ J1} (h:ZaC.p1 N from_0 c1_ (out_5,h_1,step_2)=some r) (hE:En Tryz.f42 g0 w0 (ZaC.rs r) st R) (hc1 : ∀out_5 h_1 step_2,c1_ (out_5,h_1,step_2)=some r→At g0 w0 (ZaC.p1.S from_0 out_5 h_1 step_2 st) J1):At g0 w0 (ZaC.p1.S from_0 out_5 h_1 step_2 st) (XK Tryz.prog R (.c (csub ZaC.B [1,1,1,1,0,0,0]) :: .h J1 :: [.b 0,.c (csub ZaC.B [1,1,1,1,1])])):=by
 unfold ZaC.p1 at h
 refine iteB h (fun c7 h1=>?_) (fun c7 h2=>?_)
 ·obtain ⟨c8,h3⟩:=ZaI h1
  let o1:List PS:=[.r [],.c true,.r [],.r []]
  have t1 {Q:Prop} (q:Q):=aN c7 z0 (eN (List.length out_5)) z0 (eN (1)) c8 q
  refine iteB h3 (fun c9 h4=>?_) (fun c9 h5=>?_)
  ·obtain rfl:=Zab h4
   exact af fol hE (o1 ++ [.c true,.r []]) [] 0 [0] (t1 (aJ c9 z0 (eN (List.length (out_5 ++ [[L.int .i64 h_1]])))))
  ·refine iteB h5 (fun c10 h6=>?_) (fun c10 h7=>?_)
   ·exact aq fol (o1 ++ [.c false,.r [],.c true,.r [],.s 5]) [0,3,4,5] [3] (t1 (aI c9 c10)) (ZaC.p2_ok h6 hE hc1)
   ·exact aq fol (o1 ++ [.c false,.r [],.c false,.s 5]) [0,3,4,5] [3] (t1 (aI c9 c10)) (ZaC.p2_ok h7 hE hc1)
 ·refine iteB h2 (fun c11 h8=>?_) (fun c11 h9=>?_)
  ·obtain ⟨c12,h10⟩:=ZaI h8
   exact aq fol [.r [],.c false,.r [],.c true,.r [],.s 1] [3] [3] (aN c7 c11 z0 (eN (List.length out_5)) z0 (eN (1)) c12) (ZaC.p3_ok h10 hE)
  ·exact aq fol [.r [],.c false,.r [],.c false,.s 1] [3] [3] (aI c7 c11) (ZaC.p3_ok h9 hE)
theorem ZaC.snd {from_0:Int} {r:LL} (h:ZaC N from_0=some r):SndQ Tryz.prog 42 [oI from_0] (ZaC.rs r):=fun st=>
 sO ZaC.B Tryz.func42 fun g0 w0 R hE=>by
  unfold ZaC at h
  exact aq fol [.r [(0,{m:=2})],.r [(0,{m:=1})],.r [],.r []] [0,3,4,5] [3] trivial (At.loop N (At.loopN (fun y:LL×Int×Int=>ZaC.p1.S from_0 y.1 y.2.1 y.2.2 st) (fun c J hc y h=>ZaC.p1_ok (out_5:=y.1) (h_1:=y.2.1) (step_2:=y.2.2) h hE (fun out_5 h_1 step_2=>hc (out_5,h_1,step_2))) N ([],from_0,1) h))
noncomputable def Zbb.B:Code:=Tryz.f53.body.getD .skip
noncomputable def Zbb.rs (r:LL):List CV:=[.row true 32 r]
noncomputable def Zbb.p1 (N:Nat) (a_0:Zaa) (x1 x2:LL) (c1_:(LL×Int)→Option LL):(LL×Int)→Option LL:=fun (out_7,v3)=>
 if (decide (v3<(len x2)))=true then
  chk (0≤v3)<|
  getE (x2[0+(Int.toNat v3)]?) ZcG fun x8=>
  chk (0≤x8)<|
  chk (x8<(len x1))<|
  getE (x1[0+(Int.toNat x8)]?) ZcG fun x9=>
  chk (0≤x9)<|
  chk (x9<(len a_0.Ids))<|
  getE (a_0.Ids[Int.toNat x9]?) Zdt fun x10=>
  chk (List.length (out_7 ++ [[L.arr .u8 32 x10]])*32≤140737488355328)<|
  c1_ (out_7 ++ [[L.arr .u8 32 x10]],w64 (v3+1))
 else
 some out_7
noncomputable def Zbb (N:Nat) (a_0:Zaa) (at_1:Int):Option LL:=
 if (decide (at_1<0))=true then
  some []
 else
 if (decide (at_1≥(len a_0.List_)))=true then
  some []
 else
 optE (ZaE N a_0 at_1) fun x1=>
 chk (plainRow x1=true)<|
 optE (ZaC N (w64 ((len x1)-1))) fun x2=>
 loopN (Zbb.p1 N a_0 x1 x2) N ([],0)
noncomputable def Zbb.p1.S (a_0:Zaa) (out_7 x1 x2:LL) (v3:Int) (st:LL):S:=mkS 48 [(0,.one (.l (L.bx 88 a_0.ls))),(5,.one (.h (.row 5 0) 32 0 (List.length out_7))),(6,.one (.h (.row 23 0) 1 0 (List.length x1))),(27,.one (.h (.row 27 0) 1 0 (List.length x2))),(28,sI (len x2)),(29,sI v3)] [(5,.row 0 true 32 out_7),(23,.row 0 true 1 x1),(27,.row 0 true 1 x2)] st
theorem Zbb.p1_ok {a_0 out_7 x1 x2 v3 st r c1_ J1} (h:Zbb.p1 N a_0 x1 x2 c1_ (out_7,v3)=some r) (hE:En Tryz.f53 g0 w0 (Zbb.rs r) st R) (hc1 : ∀out_7 v3,c1_ (out_7,v3)=some r→At g0 w0 (Zbb.p1.S a_0 out_7 x1 x2 v3 st) J1):At g0 w0 (Zbb.p1.S a_0 out_7 x1 x2 v3 st) (XK Tryz.prog R (.c (csub Zbb.B [1,1,1,1,0,1,0,0]) :: .h J1 :: [.b 0,.c (csub Zbb.B [1,1,1,1,1])])):=by
 unfold Zbb.p1 at h
 refine iteB h (fun c16 h1=>?_) (fun c16 h2=>?_)
 ·obtain ⟨c17,h3⟩:=ZaI h1
  obtain ⟨x8,c18,h4⟩:=Zcf h3
  obtain ⟨c19,c20,h5⟩:=ck2 h4
  obtain ⟨x9,c21,h6⟩:=Zcf h5
  obtain ⟨c22,c23,h7⟩:=ck2 h6
  obtain ⟨x10,c24,h8⟩:=ZcM h7
  obtain ⟨c25,h9⟩:=ZaI h8
  exact and_ fol [.r [],.c true,.r [(1,{oe:=[L.int .i64 x8]})],.d {ds:=[(4,{oe:=a_0.ls}),(8,{oe:=[L.int .i64 x9]}),(10,{oe:=[L.arr .u8 32 x10]})],hv:=6144,Hs:=[2048,6144]},.r []] [0,5,6,27,28,29] [5,23,27] (aO c16 c17 (oD c16) c18 (eO a_0.ls) c19 c20 (aO c21 c22 c23 c24 z0 (eN (List.length out_7)) z0 (aI (eN (1)) c25))) (hc1 (out_7 ++ [[L.arr .u8 32 x10]]) (w64 (v3+1)) h9)
 ·obtain rfl:=Zab h2
  exact af fol hE [.r [],.c false,.r []] [] 0 [0] (aJ c16 z0 (eN (List.length out_7)))
theorem Zbb.snd {a_0:Zaa} {at_1:Int} {r:LL} (h:Zbb N a_0 at_1=some r):SndQ Tryz.prog 53 [.one (L.bx 88 a_0.ls),oI at_1] (Zbb.rs r):=fun st=>
 sO Zbb.B Tryz.func53 fun g0 w0 R hE=>by
  unfold Zbb at h
  let o1:List PS:=[.r [(0,{m:=2})],.r [(0,{m:=1})]]
  refine iteB h (fun c1 h10=>?_) (fun c1 h11=>?_)
  ·obtain rfl:=Zab h10
   exact af fol hE (o1 ++ [.r [(3,wF),(4,wF),(5,wF),(6,wF),(7,wF),(8,wF),(9,wF)],.c true,.r []]) [] 0 [0] (aO c1 c1 c1 c1 c1 c1 c1 (aK c1 eT z0 (eN (0))))
  ·let o2:List PS:=o1 ++ [.r [(7,{oe:=a_0.ls}),(10,yF)]]
   have t1 {Q:Prop} (q:Q):=aO c1 c1 c1 c1 c1 (eO a_0.ls) c1 (aJ c1 c1 q)
   refine iteB h11 (fun c2 h12=>?_) (fun c2 h13=>?_)
   ·obtain rfl:=Zab h12
    exact af fol hE (o2 ++ [.c true,.r []]) [] 0 [0] (t1 (aJ c2 z0 (eN (0))))
   ·obtain ⟨x1,c3,h14⟩:=Zad h13
    obtain ⟨c4,h15⟩:=ZaI h14
    obtain ⟨x2,c5,h16⟩:=Zad h15
    exact aq fol (o2 ++ [.c false,.r [(2,{rs:=[.row true 1 x1],ns:=[23],m:=10})],.r [(3,{rs:=[.row true 1 x2],ns:=[27],m:=1})]]) [0,5,6,27,28,29] [5,23,27] (t1 (aK c2 c4 (ZaE.snd c3) (ZaC.snd c5))) (At.loop N (At.loopN (fun y:LL×Int=>Zbb.p1.S a_0 y.1 x1 x2 y.2 st) (fun c J hc y h=>Zbb.p1_ok (out_7:=y.1) (v3:=y.2) h hE (fun out_7 v3=>hc (out_7,v3))) N ([],0) h16))
noncomputable def Zbc.B:Code:=Tryz.f52.body.getD .skip
noncomputable def Zbc.rs (r:Bool):List CV:=[oB r]
noncomputable def Zbc.p1 (N:Nat) (a_0 b_1:LL) (c1_:Int→Option Bool):Int→Option Bool:=fun v1=>
 if (decide (v1<(len a_0)))=true then
  chk (0≤v1)<|
  getE (a_0[Int.toNat v1]?) Zdt fun x2=>
  chk (v1<(len b_1))<|
  getE (b_1[Int.toNat v1]?) Zdt fun x3=>
  if (!(x2==x3))=true then
   some false
  else
  c1_ (w64 (v1+1))
 else
 some true
noncomputable def Zbc (N:Nat) (a_0 b_1:LL):Option Bool:=
 if ((len a_0) != (len b_1))=true then
  some false
 else
 loopN (Zbc.p1 N a_0 b_1) N 0
noncomputable def Zbc.p1.S (a_0 b_1:LL) (v1:Int) (st:LL):S:=mkS 26 [(0,sV 32 a_0),(1,sV 32 b_1),(12,sI (len a_0)),(13,sI v1)] [] st
theorem Zbc.p1_ok {a_0 b_1 v1 st r c1_ J1} (h:Zbc.p1 N a_0 b_1 c1_ v1=some r) (hE:En Tryz.f52 g0 w0 (Zbc.rs r) st R) (hc1 : ∀v1,c1_ v1=some r→At g0 w0 (Zbc.p1.S a_0 b_1 v1 st) J1):At g0 w0 (Zbc.p1.S a_0 b_1 v1 st) (XK Tryz.prog R (.c (csub Zbc.B [1,1,0,1,0,0]) :: .h J1 :: [.b 0,.c (csub Zbc.B [1,1,1])])):=by
 unfold Zbc.p1 at h
 refine iteB h (fun c2 h1=>?_) (fun c2 h2=>?_)
 ·obtain ⟨c3,h3⟩:=ZaI h1
  obtain ⟨x2,c4,h4⟩:=ZcM h3
  obtain ⟨c5,h5⟩:=ZaI h4
  obtain ⟨x3,c6,h6⟩:=ZcM h5
  let o1:List PS:=[.r [],.c true,.r [],.d {ds:=[(3,{oe:=[L.arr .u8 32 x2]}),(7,{oe:=[L.arr .u8 32 x3]})],hv:=0,Hs:=[]}]
  refine iteB h6 (fun c7 h7=>?_) (fun c7 h8=>?_)
  ·obtain rfl:=Zab h7
   exact afd fol hE (o1 ++ [.c true,.r []]) [] 0 [] (aO c2 c3 (oD c2) c4 c3 c5 c6 c7)
  ·exact and_ fol (o1 ++ [.c false,.r []]) [0,1,12,13] [] (aO c2 c3 (oD c2) c4 c3 c5 c6 c7) (hc1 (w64 (v1+1)) h8)
 ·obtain rfl:=Zab h2
  exact af fol hE [.r [],.c false,.r []] [] 0 [] c2
theorem Zbc.snd {a_0 b_1:LL} {r:Bool} (h:Zbc N a_0 b_1=some r):SndQ Tryz.prog 52 [.one (L.sl 32 a_0),.one (L.sl 32 b_1)] (Zbc.rs r):=fun st=>
 sO Zbc.B Tryz.func52 fun g0 w0 R hE=>by
  unfold Zbc at h
  refine iteB h (fun c1 h9=>?_) (fun c1 h10=>?_)
  ·obtain rfl:=Zab h9
   exact af fol hE [.r [],.r [],.c true,.r []] [] 0 [] c1
  ·exact aq fol [.r [],.r [],.c false,.r []] [0,1,12,13] [] c1 (At.loop N (At.loopN (fun y:Int=>Zbc.p1.S a_0 b_1 y st) (fun c J hc y h=>Zbc.p1_ok h hE (fun v1=>hc v1)) N 0 h10))
noncomputable def Zcd.B:Code:=Tryz.f38.body.getD .skip
noncomputable def Zcd.rs (r:Int):List CV:=[oI r]
noncomputable def Zcd (N:Nat) (a_0:ZaD) (id_1_0:List Int):Option Int:=
 optM (mfind a_0.places (L.arr .u8 32 id_1_0)) (fun j1 e=>ZcG [e] fun x2=>
  some x2)
 (
  some (-1))
theorem Zcd.snd {a_0:ZaD} {id_1_0:List Int} {r:Int} (h:Zcd N a_0 id_1_0=some r):SndQ Tryz.prog 38 [.one (L.bx 87 a_0.ls),.agg [L.arr .u8 32 id_1_0]] (Zcd.rs r):=fun st=>
 sO Zcd.B Tryz.func38 fun g0 w0 R hE=>by
  unfold Zcd at h
  rcases ZgY h with ⟨j1,h4,c1,h1⟩ | ⟨c1,h2⟩
  ·obtain ⟨x2,h5,h3⟩:=Zff h1
   obtain rfl:=Zfr h5
   obtain rfl:=Zab h3
   exact afd fol hE [.r [],.r [],.c false,.d {ds:=[(3,{oe:=a_0.ls}),(5,{oe:=[L.int .i64 x2]})],hv:=0,Hs:=[]},.r [],.c true,.r []] [] 0 [] (aK eF (eO a_0.ls) (Zkj c1) eT)
  ·obtain rfl:=Zab h2
   exact afd fol hE [.r [],.r [],.c false,.d {ds:=[(3,{oe:=a_0.ls}),(5,yF)],hv:=0,Hs:=[]},.r [],.c false,.r []] [] 0 [] (aK eF (eO a_0.ls) c1 eF)
noncomputable def Zdr.B:Code:=Tryz.f38.body.getD .skip
noncomputable def Zdr.rs (r:Int×LL):List CV:=[oI r.1]
noncomputable def Zdr (N:Nat) (a_0:Option Nat) (id_1_0:List Int) (st:LL):Option (Int×LL):=
 if (Option.isNone a_0)=true then
  some ((-1),st)
 else
 optE a_0 fun i1=>
 getE (st[i1]?) ZbR fun x2=>
 optM (mfind x2.places (L.arr .u8 32 id_1_0)) (fun j3 e=>ZcG [e] fun x4=>
  some (x4,st))
 (
  some ((-1),st))
theorem Zdr.snd {a_0:Option Nat} {id_1_0:List Int} {st:LL} {r:Int×LL} (h:Zdr N a_0 id_1_0 st=some r):Snd Tryz.prog 38 [.one (L.ptr a_0),.agg [L.arr .u8 32 id_1_0]] st (Zdr.rs r) r.2:=
 sO Zdr.B Tryz.func38 fun g0 w0 R hE=>by
  unfold Zdr at h
  refine iteB h (fun c1 h1=>?_) (fun c1 h2=>?_)
  ·obtain rfl:=Zab h1
   exact af fol hE [.r [],.r [],.c true,.r []] [] 0 [] c1
  ·obtain ⟨i1,rfl,h3⟩:=Zad h2
   obtain ⟨x2,c3,h4⟩:=ZbK h3
   rcases ZgY h4 with ⟨j3,h8,c4,h5⟩ | ⟨c4,h6⟩
   ·obtain ⟨x4,h9,h7⟩:=Zff h5
    obtain rfl:=Zfr h9
    obtain rfl:=Zab h7
    exact afd fol hE [.r [],.r [],.c false,.d {ds:=[(3,{oc:=x2.lo}),(5,{oc:=x2.lo,oe:=[L.int .i64 x4]})],hv:=0,Hs:=[]},.r [],.c true,.r []] [] 0 [] (aL c1 c3 (Zkj c4) c3 eT)
   ·obtain rfl:=Zab h6
    exact afd fol hE [.r [],.r [],.c false,.d {ds:=[(3,{oc:=x2.lo}),(5,{oc:=x2.lo,yes:=false})],hv:=0,Hs:=[]},.r [],.c false,.r []] [] 0 [] (aL c1 c3 c4 c3 eF)
noncomputable def ZcJ.B:Code:=Tryz.f37.body.getD .skip
noncomputable def ZcJ.rs (r:Int):List CV:=[oI r]
noncomputable def ZcJ (N:Nat) (t_0:Zau) (id_1_0:List Int):Option Int:=
 optE (Zcd N t_0.store id_1_0) fun x1=>
 some x1
theorem ZcJ.snd {t_0:Zau} {id_1_0:List Int} {r:Int} (h:ZcJ N t_0 id_1_0=some r):SndQ Tryz.prog 37 [.one (L.bx 2 t_0.ls),.agg [L.arr .u8 32 id_1_0]] (ZcJ.rs r):=fun st=>
 sO ZcJ.B Tryz.func37 fun g0 w0 R hE=>by
  unfold ZcJ at h
  obtain ⟨x1,c1,h1⟩:=Zad h
  obtain rfl:=Zab h1
  exact afd fol hE [.r [],.r [],.c false,.d {ds:=[(3,{oe:=t_0.ls}),(5,q0 [oI x1])],hv:=32,Hs:=[32]}] [] 0 [] (aJ eF (eO t_0.ls) (Zcd.snd c1))
noncomputable def Zcv.B:Code:=Tryz.f50.body.getD .skip
noncomputable def Zcv.rs (r:Bool):List CV:=[oB r]
noncomputable def Zcv (N:Nat) (t_0:Zau) (at_1 of_2:Int):Option Bool:=
 optE (ZaT N t_0 at_1) fun x1=>
 if (decide (x1≥0))=true then
  optE (Zaq N t_0 of_2 x1) fun x2=>
  some (x2==at_1)
 else
 some false
theorem Zcv.snd {t_0:Zau} {at_1 of_2:Int} {r:Bool} (h:Zcv N t_0 at_1 of_2=some r):SndQ Tryz.prog 50 [.one (L.bx 2 t_0.ls),oI at_1,oI of_2] (Zcv.rs r):=fun st=>
 sO Zcv.B Tryz.func50 fun g0 w0 R hE=>by
  unfold Zcv at h
  obtain ⟨x1,c1,h1⟩:=Zad h
  let o1:List PS:=[.r [],.r [(2,q0 [oI x1])]]
  refine iteB h1 (fun c2 h2=>?_) (fun c2 h3=>?_)
  ·obtain ⟨x2,c3,h4⟩:=Zad h2
   obtain rfl:=Zab h4
   exact af fol hE (o1 ++ [.r [(6,q0 [oI x2])]]) [] 0 [] (aO (ZaT.snd c1) c2 c2 c2 c2 (Zaq.snd c3) c2 (aI c2 c2))
  ·obtain rfl:=Zab h3
   exact af fol hE (o1 ++ [.r [(3,wF),(4,wF),(5,wF),(6,wF),(7,wF),(8,wF),(9,yF)]]) [] 0 [] (aO (ZaT.snd c1) c2 c2 c2 c2 c2 c2 c2)
noncomputable def Zbu.B:Code:=Tryz.f45.body.getD .skip
noncomputable def Zbu.rs (r:Int):List CV:=[oI r]
noncomputable def Zbu.p1 (N:Nat) (t_0:Zau) (tip_1:Int) (names_2:LL) (c1_:Int→Option Int):Int→Option Int:=fun v1=>
 if (decide (v1<(len names_2)))=true then
  chk (0≤v1)<|
  getE (names_2[Int.toNat v1]?) Zdt fun x2=>
  optE (ZcJ N t_0 x2) fun x3=>
  optE (Zcv N t_0 x3 tip_1) fun x4=>
  if x4=true then
   some x3
  else
  c1_ (w64 (v1+1))
 else
 some 0
noncomputable def Zbu (N:Nat) (t_0:Zau) (tip_1:Int) (names_2:LL):Option Int:=
 loopN (Zbu.p1 N t_0 tip_1 names_2) N 0
noncomputable def Zbu.p1.S (t_0:Zau) (tip_1:Int) (names_2:LL) (v1:Int) (st:LL):S:=mkS 25 [(0,.one (.l (L.bx 2 t_0.ls))),(1,sI tip_1),(10,sV 32 names_2),(11,sI (len names_2)),(12,sI v1)] [] st
theorem Zbu.p1_ok {t_0 tip_1 names_2 v1 st r c1_ J1} (h:Zbu.p1 N t_0 tip_1 names_2 c1_ v1=some r) (hE:En Tryz.f45 g0 w0 (Zbu.rs r) st R) (hc1 : ∀v1,c1_ v1=some r→At g0 w0 (Zbu.p1.S t_0 tip_1 names_2 v1 st) J1):At g0 w0 (Zbu.p1.S t_0 tip_1 names_2 v1 st) (XK Tryz.prog R (.c (csub Zbu.B [1,0,1,0,0]) :: .h J1 :: [.b 0,.c (csub Zbu.B [1,1])])):=by
 unfold Zbu.p1 at h
 refine iteB h (fun c1 h1=>?_) (fun c1 h2=>?_)
 ·obtain ⟨c2,h3⟩:=ZaI h1
  obtain ⟨x2,c3,h4⟩:=ZcM h3
  obtain ⟨x3,c4,h5⟩:=Zad h4
  obtain ⟨x4,c5,h6⟩:=Zad h5
  let o1:List PS:=[.r [],.c true,.r [(1,{oe:=[L.arr .u8 32 x2]})],.r [(2,q0 [oI x3])],.r [(3,q0 [oB x4])]]
  have t1 {Q:Prop} (q:Q):=aN c1 c2 (oD c1) c3 (ZcJ.snd c4) (Zcv.snd c5) q
  refine iteB h6 (fun c6 h7=>?_) (fun c6 h8=>?_)
  ·obtain rfl:=Zab h7
   exact af fol hE (o1 ++ [.c true,.r []]) [] 0 [] (t1 c6)
  ·exact an fol (o1 ++ [.c false,.r []]) [0,1,10,11,12] [] (t1 c6) (hc1 (w64 (v1+1)) h8)
 ·obtain rfl:=Zab h2
  exact af fol hE [.r [],.c false,.r []] [] 0 [] c1
theorem Zbu.snd {t_0:Zau} {tip_1:Int} {names_2:LL} {r:Int} (h:Zbu N t_0 tip_1 names_2=some r):SndQ Tryz.prog 45 [.one (L.bx 2 t_0.ls),oI tip_1,.one (L.sl 32 names_2)] (Zbu.rs r):=fun st=>
 sO Zbu.B Tryz.func45 fun g0 w0 R hE=>by
  unfold Zbu at h
  exact aq fol [.r [],.r []] [0,1,10,11,12] [] trivial (At.loop N (At.loopN (fun y:Int=>Zbu.p1.S t_0 tip_1 names_2 y st) (fun c J hc y h=>Zbu.p1_ok h hE (fun v1=>hc v1)) N 0 h))
noncomputable def ZcK.B:Code:=Tryz.f37.body.getD .skip
noncomputable def ZcK.rs (r:Int×LL):List CV:=[oI r.1]
noncomputable def ZcK (N:Nat) (t_0:Option Nat) (id_1_0:List Int) (st:LL):Option (Int×LL):=
 if (Option.isNone t_0)=true then
  some ((-1),st)
 else
 optE t_0 fun i1=>
 getE (st[i1]?) ZcW fun x2 x3=>
 optE x2 fun i4=>
 getE (st[i4]?) ZbR fun x5=>
 optE (Zcd N x5 id_1_0) fun x6=>
 some (x6,st)
theorem ZcK.snd {t_0:Option Nat} {id_1_0:List Int} {st:LL} {r:Int×LL} (h:ZcK N t_0 id_1_0 st=some r):Snd Tryz.prog 37 [.one (L.ptr t_0),.agg [L.arr .u8 32 id_1_0]] st (ZcK.rs r) r.2:=
 sO ZcK.B Tryz.func37 fun g0 w0 R hE=>by
  unfold ZcK at h
  refine iteB h (fun c1 h1=>?_) (fun c1 h2=>?_)
  ·obtain rfl:=Zab h1
   exact af fol hE [.r [],.r [],.c true,.r []] [] 0 [] c1
  ·obtain ⟨i1,rfl,h3⟩:=Zad h2
   obtain ⟨x2,x3,c3,h4⟩:=ZcS h3
   obtain ⟨i4,rfl,h5⟩:=Zad h4
   obtain ⟨x5,c5,h6⟩:=ZbK h5
   obtain ⟨x6,c6,h7⟩:=Zad h6
   obtain rfl:=Zab h7
   exact afd fol hE [.r [],.r [],.c false,.d {ds:=[(3,{oc:=[L.ptr (some i4),L.own true 1 x3]}),(5,{rs:=[oI x6],m:=10,cv:=[.one (L.bx 87 x5.ls)]})],hv:=32,Hs:=[32]}] [] 0 [] (aK c1 c3 (bO 87 c5 (ZaD.bv x5)) (Zcd.snd c6))
noncomputable def ZcI.B:Code:=Tryz.f50.body.getD .skip
noncomputable def ZcI.rs (r:Bool×LL):List CV:=[oB r.1]
noncomputable def ZcI (N:Nat) (t_0:Option Nat) (at_1 of_2:Int) (st:LL):Option (Bool×LL):=
 optE (Zco N t_0 at_1 st) fun (x1,st2)=>
 if (decide (x1≥0))=true then
  optE (ZaA N t_0 of_2 x1 st2) fun (x3,st4)=>
  some (x3==at_1,st4)
 else
 some (false,st2)
theorem ZcI.snd {t_0:Option Nat} {at_1 of_2:Int} {st:LL} {r:Bool×LL} (h:ZcI N t_0 at_1 of_2 st=some r):Snd Tryz.prog 50 [.one (L.ptr t_0),oI at_1,oI of_2] st (ZcI.rs r) r.2:=
 sO ZcI.B Tryz.func50 fun g0 w0 R hE=>by
  unfold ZcI at h
  obtain ⟨⟨x1,st2⟩,c1,h1⟩:=Zad h
  let o1:List PS:=[.r [],.r [(2,{rs:=[oI x1],st:=st2})]]
  refine iteB h1 (fun c2 h2=>?_) (fun c2 h3=>?_)
  ·obtain ⟨⟨x3,st4⟩,c3,h4⟩:=Zad h2
   obtain rfl:=Zab h4
   exact af fol hE (o1 ++ [.r [(6,{rs:=[oI x3],st:=st4})]]) [] 0 [] (aO (Zco.snd c1) c2 c2 c2 c2 (ZaA.snd c3) c2 (aI c2 c2))
  ·obtain rfl:=Zab h3
   exact af fol hE (o1 ++ [.r [(3,wF),(4,wF),(5,wF),(6,wF),(7,wF),(8,wF),(9,yF)]]) [] 0 [] (aO (Zco.snd c1) c2 c2 c2 c2 c2 c2 c2)
noncomputable def ZbY.B:Code:=Tryz.f45.body.getD .skip
noncomputable def ZbY.rs (r:Int×LL):List CV:=[oI r.1]
noncomputable def ZbY.p1 (N:Nat) (t_0:Option Nat) (tip_1:Int) (names_2:LL) (c1_:(Int×LL)→Option (Int×LL)):(Int×LL)→Option (Int×LL):=fun (v1,st7)=>
 if (decide (v1<(len names_2)))=true then
  chk (0≤v1)<|
  getE (names_2[Int.toNat v1]?) Zdt fun x8=>
  optE (ZcK N t_0 x8 st7) fun (x9,st10)=>
  optE (ZcI N t_0 x9 tip_1 st10) fun (x11,st12)=>
  if x11=true then
   some (x9,st12)
  else
  c1_ (w64 (v1+1),st12)
 else
 some (0,st7)
noncomputable def ZbY (N:Nat) (t_0:Option Nat) (tip_1:Int) (names_2 st:LL):Option (Int×LL):=
 loopN (ZbY.p1 N t_0 tip_1 names_2) N (0,st)
noncomputable def ZbY.p1.S (t_0:Option Nat) (tip_1:Int) (names_2:LL) (v1:Int) (st7:LL):S:=mkS 25 [(0,sP t_0),(1,sI tip_1),(10,sV 32 names_2),(11,sI (len names_2)),(12,sI v1)] [] st7
theorem ZbY.p1_ok {t_0 tip_1 names_2 v1 st7 r c1_ J1} (h:ZbY.p1 N t_0 tip_1 names_2 c1_ (v1,st7)=some r) (hE:En Tryz.f45 g0 w0 (ZbY.rs r) r.2 R) (hc1 : ∀v1 st7,c1_ (v1,st7)=some r→At g0 w0 (ZbY.p1.S t_0 tip_1 names_2 v1 st7) J1):At g0 w0 (ZbY.p1.S t_0 tip_1 names_2 v1 st7) (XK Tryz.prog R (.c (csub ZbY.B [1,0,1,0,0]) :: .h J1 :: [.b 0,.c (csub ZbY.B [1,1])])):=by
 unfold ZbY.p1 at h
 refine iteB h (fun c7 h1=>?_) (fun c7 h2=>?_)
 ·obtain ⟨c8,h3⟩:=ZaI h1
  obtain ⟨x8,c9,h4⟩:=ZcM h3
  obtain ⟨⟨x9,st10⟩,c10,h5⟩:=Zad h4
  obtain ⟨⟨x11,st12⟩,c11,h6⟩:=Zad h5
  let o1:List PS:=[.r [],.c true,.r [(1,{oe:=[L.arr .u8 32 x8]})],.r [(2,{rs:=[oI x9],st:=st10})],.r [(3,{rs:=[oB x11],st:=st12})]]
  have t1 {Q:Prop} (q:Q):=aN c7 c8 (oD c7) c9 (ZcK.snd c10) (ZcI.snd c11) q
  refine iteB h6 (fun c12 h7=>?_) (fun c12 h8=>?_)
  ·obtain rfl:=Zab h7
   exact af fol hE (o1 ++ [.c true,.r []]) [] 0 [] (t1 c12)
  ·exact an fol (o1 ++ [.c false,.r []]) [0,1,10,11,12] [] (t1 c12) (hc1 (w64 (v1+1)) st12 h8)
 ·obtain rfl:=Zab h2
  exact af fol hE [.r [],.c false,.r []] [] 0 [] c7
theorem ZbY.snd {t_0:Option Nat} {tip_1:Int} {names_2:LL} {st:LL} {r:Int×LL} (h:ZbY N t_0 tip_1 names_2 st=some r):Snd Tryz.prog 45 [.one (L.ptr t_0),oI tip_1,.one (L.sl 32 names_2)] st (ZbY.rs r) r.2:=
 sO ZbY.B Tryz.func45 fun g0 w0 R hE=>by
  unfold ZbY at h
  exact aq fol [.r [],.r []] [0,1,10,11,12] [] trivial (At.loop N (At.loopN (fun y:Int×LL=>ZbY.p1.S t_0 tip_1 names_2 y.1 y.2) (fun c J hc y h=>ZbY.p1_ok (v1:=y.1) (st7:=y.2) h hE (fun v1 st7=>hc (v1,st7))) N (0,st) h))
noncomputable def ZaP.B:Code:=Tryz.f55.body.getD .skip
noncomputable def ZaP.rs (r:Int):List CV:=[oI r]
noncomputable def ZaP.p2 (N:Nat) (c1_:Int→Option Int) (a_0:Zaa) (tip_1:Int) (names_2:LL) (v1:Int) (x3:LL) (x2:List Int) (c2_:Int→Option Int):Int→Option Int:=fun v4=>
 if (decide (v4<(len x3)))=true then
  chk (0≤v4)<|
  getE (x3[0+(Int.toNat v4)]?) ZcG fun x5=>
  chk (0≤x5)<|
  chk (x5<(len a_0.Ids))<|
  getE (a_0.Ids[Int.toNat x5]?) Zdt fun x6=>
  if (x6==x2)=true then
   some x5
  else
  c2_ (w64 (v4+1))
 else
 c1_ (w64 (v1+1))
noncomputable def ZaP.p1 (N:Nat) (a_0:Zaa) (tip_1:Int) (names_2:LL) (c1_:Int→Option Int):Int→Option Int:=fun v1=>
 if (decide (v1<(len names_2)))=true then
  chk (0≤v1)<|
  getE (names_2[Int.toNat v1]?) Zdt fun x2=>
  optE (ZaE N a_0 tip_1) fun x3=>
  chk (plainRow x3=true)<|
  loopN (ZaP.p2 N c1_ a_0 tip_1 names_2 v1 x3 x2) N 0
 else
 some 0
noncomputable def ZaP (N:Nat) (a_0:Zaa) (tip_1:Int) (names_2:LL):Option Int:=
 if (decide (tip_1<0))=true then
  some 0
 else
 if (decide (tip_1≥(len a_0.List_)))=true then
  some 0
 else
 loopN (ZaP.p1 N a_0 tip_1 names_2) N 0
noncomputable def ZaP.p2.S (a_0:Zaa) (tip_1:Int) (names_2:LL) (v1:Int) (x3:LL) (v4:Int) (x2:List Int) (st:LL):S:=mkS 48 [(0,.one (.l (L.bx 88 a_0.ls))),(1,sI tip_1),(8,sA 8),(22,sV 32 names_2),(23,sI (len names_2)),(24,sI v1),(30,.one (.h (.row 30 0) 1 0 (List.length x3))),(31,sI (len x3)),(32,sI v4)] [(8,.cells [L.arr .u8 32 x2]),(30,.row 0 true 1 x3)] st
noncomputable def ZaP.p1.S (a_0:Zaa) (tip_1:Int) (names_2:LL) (v1:Int) (st:LL):S:=mkS 48 [(0,.one (.l (L.bx 88 a_0.ls))),(1,sI tip_1),(22,sV 32 names_2),(23,sI (len names_2)),(24,sI v1)] [] st
theorem ZaP.p2_ok {a_0 tip_1 names_2 v1 x3 v4 x2 st r c1_ c2_ J1 J2} (h:ZaP.p2 N c1_ a_0 tip_1 names_2 v1 x3 x2 c2_ v4=some r) (hE:En Tryz.f55 g0 w0 (ZaP.rs r) st R) (hc1 : ∀v1,c1_ v1=some r→At g0 w0 (ZaP.p1.S a_0 tip_1 names_2 v1 st) J1) (hc2 : ∀v4,c2_ v4=some r→At g0 w0 (ZaP.p2.S a_0 tip_1 names_2 v1 x3 v4 x2 st) J2):At g0 w0 (ZaP.p2.S a_0 tip_1 names_2 v1 x3 v4 x2 st) (XK Tryz.prog R (.c (csub ZaP.B [1,1,0,1,0,0,1,1,0,0,1,1,0,0]) :: .h J2 :: [.b 2,.b 1,.c (csub ZaP.B [1,1,0,1,0,0,1,1,1]),.h J1,.b 0,.c (csub ZaP.B [1,1,1])])):=by
 unfold ZaP.p2 at h
 refine iteB h (fun c8 h1=>?_) (fun c8 h2=>?_)
 ·obtain ⟨c9,h3⟩:=ZaI h1
  obtain ⟨x5,c10,h4⟩:=Zcf h3
  obtain ⟨c11,c12,h5⟩:=ck2 h4
  obtain ⟨x6,c13,h6⟩:=ZcM h5
  let o1:List PS:=[.r [],.c true,.r [(1,{oe:=[L.int .i64 x5]})],.d {ds:=[(3,{oe:=a_0.ls}),(6,{oe:=[L.arr .u8 32 x6]})],hv:=0,Hs:=[]}]
  have t1 {Q:Prop} (q:Q):=aO c8 c9 (oD c8) c10 (eO a_0.ls) c11 c12 (aI c13 q)
  refine iteB h6 (fun c14 h7=>?_) (fun c14 h8=>?_)
  ·obtain rfl:=Zab h7
   exact afd fol hE (o1 ++ [.c true,.r []]) [] 0 [] (t1 c14)
  ·exact and_ fol (o1 ++ [.c false,.r []]) [0,1,8,22,23,24,30,31,32] [8,30] (t1 c14) (hc2 (w64 (v4+1)) h8)
 ·exact an fol [.r [],.c false,.r []] [0,1,22,23,24] [] c8 (hc1 (w64 (v1+1)) h2)
theorem ZaP.p1_ok {a_0 tip_1 names_2 v1 st r c1_ J1} (h:ZaP.p1 N a_0 tip_1 names_2 c1_ v1=some r) (hE:En Tryz.f55 g0 w0 (ZaP.rs r) st R) (hc1 : ∀v1,c1_ v1=some r→At g0 w0 (ZaP.p1.S a_0 tip_1 names_2 v1 st) J1):At g0 w0 (ZaP.p1.S a_0 tip_1 names_2 v1 st) (XK Tryz.prog R (.c (csub ZaP.B [1,1,0,1,0,0]) :: .h J1 :: [.b 0,.c (csub ZaP.B [1,1,1])])):=by
 unfold ZaP.p1 at h
 refine iteB h (fun c3 h9=>?_) (fun c3 h10=>?_)
 ·obtain ⟨c4,h11⟩:=ZaI h9
  obtain ⟨x2,c5,h12⟩:=ZcM h11
  obtain ⟨x3,c6,h13⟩:=Zad h12
  obtain ⟨c7,h14⟩:=ZaI h13
  exact aq fol [.r [],.c true,.r [(1,{oe:=[L.arr .u8 32 x2]})],.r [(2,{rs:=[.row true 1 x3],ns:=[30],m:=10})]] [0,1,8,22,23,24,30,31,32] [8,30] (aM c3 c4 (oD c3) c5 c7 (ZaE.snd c6)) (At.loop N (At.loopN (fun y:Int=>ZaP.p2.S a_0 tip_1 names_2 v1 x3 y x2 st) (fun c J hc y h=>ZaP.p2_ok h hE hc1 (fun v4=>hc v4)) N 0 h14))
 ·obtain rfl:=Zab h10
  exact af fol hE [.r [],.c false,.r []] [] 0 [] c3
theorem ZaP.snd {a_0:Zaa} {tip_1:Int} {names_2:LL} {r:Int} (h:ZaP N a_0 tip_1 names_2=some r):SndQ Tryz.prog 55 [.one (L.bx 88 a_0.ls),oI tip_1,.one (L.sl 32 names_2)] (ZaP.rs r):=fun st=>
 sO ZaP.B Tryz.func55 fun g0 w0 R hE=>by
  unfold ZaP at h
  refine iteB h (fun c1 h15=>?_) (fun c1 h16=>?_)
  ·obtain rfl:=Zab h15
   exact af fol hE [.r [],.r [(3,wF),(4,wF),(5,wF),(6,wF),(7,wF),(8,wF),(9,wF)],.c true,.r []] [] 0 [] (aO c1 c1 c1 c1 c1 c1 c1 (aI c1 eT))
  ·let o2:List PS:=[.r [],.r [(7,{oe:=a_0.ls}),(10,yF)]]
   have t2 {Q:Prop} (q:Q):=aO c1 c1 c1 c1 c1 (eO a_0.ls) c1 (aJ c1 c1 q)
   refine iteB h16 (fun c2 h17=>?_) (fun c2 h18=>?_)
   ·obtain rfl:=Zab h17
    exact af fol hE (o2 ++ [.c true,.r []]) [] 0 [] (t2 c2)
   ·exact aq fol (o2 ++ [.c false,.r []]) [0,1,22,23,24] [] (t2 c2) (At.loop N (At.loopN (fun y:Int=>ZaP.p1.S a_0 tip_1 names_2 y st) (fun c J hc y h=>ZaP.p1_ok h hE (fun v1=>hc v1)) N 0 h18))
noncomputable def Zbr.B:Code:=Tryz.f55.body.getD .skip
noncomputable def Zbr.rs (r:Int×LL):List CV:=[oI r.1]
noncomputable def Zbr.p2 (N:Nat) (c1_:Int→Option (Int×LL)) (i1:Nat) (tip_1:Int) (names_2:LL) (v3:Int) (x6:LL) (x4:List Int) (st:LL) (c2_:Int→Option (Int×LL)):Int→Option (Int×LL):=fun v7=>
 if (decide (v7<(len x6)))=true then
  chk (0≤v7)<|
  getE (x6[0+(Int.toNat v7)]?) ZcG fun x8=>
  getE (st[i1]?) Zbo fun x9=>
  chk (0≤x8)<|
  chk (x8<(len x9.Ids))<|
  getE (x9.Ids[0+(Int.toNat x8)]?) Zdt fun x10=>
  if (x10==x4)=true then
   some (x8,st)
  else
  c2_ (w64 (v7+1))
 else
 c1_ (w64 (v3+1))
noncomputable def Zbr.p1 (N:Nat) (i1:Nat) (tip_1:Int) (names_2 st:LL) (c1_:Int→Option (Int×LL)):Int→Option (Int×LL):=fun v3=>
 if (decide (v3<(len names_2)))=true then
  chk (0≤v3)<|
  getE (names_2[Int.toNat v3]?) Zdt fun x4=>
  getE (st[i1]?) Zbo fun x5=>
  optE (ZaE N x5 tip_1) fun x6=>
  chk (plainRow x6=true)<|
  loopN (Zbr.p2 N c1_ i1 tip_1 names_2 v3 x6 x4 st) N 0
 else
 some (0,st)
noncomputable def Zbr (N:Nat) (a_0:Option Nat) (tip_1:Int) (names_2 st:LL):Option (Int×LL):=
 if (decide (tip_1<0))=true then
  some (0,st)
 else
 optE a_0 fun i1=>
 getE (st[i1]?) Zbo fun x2=>
 if (decide (tip_1≥(len x2.List_)))=true then
  some (0,st)
 else
 loopN (Zbr.p1 N i1 tip_1 names_2 st) N 0
noncomputable def Zbr.p2.S (i1:Nat) (tip_1:Int) (names_2:LL) (v3:Int) (x6:LL) (v7:Int) (x4:List Int) (st:LL):S:=mkS 48 [(0,sP (some i1)),(1,sI tip_1),(8,sA 8),(22,sV 32 names_2),(23,sI (len names_2)),(24,sI v3),(30,.one (.h (.row 30 0) 1 0 (List.length x6))),(31,sI (len x6)),(32,sI v7)] [(8,.cells [L.arr .u8 32 x4]),(30,.row 0 true 1 x6)] st
noncomputable def Zbr.p1.S (i1:Nat) (tip_1:Int) (names_2:LL) (v3:Int) (st:LL):S:=mkS 48 [(0,sP (some i1)),(1,sI tip_1),(22,sV 32 names_2),(23,sI (len names_2)),(24,sI v3)] [] st
theorem Zbr.p2_ok {i1 tip_1 names_2 v3 x6 v7 x4 st r c1_ c2_ J1 J2} (h:Zbr.p2 N c1_ i1 tip_1 names_2 v3 x6 x4 st c2_ v7=some r) (hE:En Tryz.f55 g0 w0 (Zbr.rs r) r.2 R) (hc1 : ∀v3,c1_ v3=some r→At g0 w0 (Zbr.p1.S i1 tip_1 names_2 v3 st) J1) (hc2 : ∀v7,c2_ v7=some r→At g0 w0 (Zbr.p2.S i1 tip_1 names_2 v3 x6 v7 x4 st) J2):At g0 w0 (Zbr.p2.S i1 tip_1 names_2 v3 x6 v7 x4 st) (XK Tryz.prog R (.c (csub Zbr.B [1,1,0,1,0,0,1,1,0,0,1,1,0,0]) :: .h J2 :: [.b 2,.b 1,.c (csub Zbr.B [1,1,0,1,0,0,1,1,1]),.h J1,.b 0,.c (csub Zbr.B [1,1,1])])):=by
 unfold Zbr.p2 at h
 refine iteB h (fun c11 h1=>?_) (fun c11 h2=>?_)
 ·obtain ⟨c12,h3⟩:=ZaI h1
  obtain ⟨x8,c13,h4⟩:=Zcf h3
  obtain ⟨x9,c14,h5⟩:=Zbv h4
  obtain ⟨c15,c16,h6⟩:=ck2 h5
  obtain ⟨x10,c17,h7⟩:=ZcM h6
  let o1:List PS:=[.r [],.c true,.r [(1,{oe:=[L.int .i64 x8]})],.d {ds:=[(3,{oc:=x9.lo}),(6,{oc:=x9.lo,oe:=[L.arr .u8 32 x10]})],hv:=0,Hs:=[]}]
  have t1 {Q:Prop} (q:Q):=aO c11 c12 (oD c11) c13 c14 c15 c16 (aJ c17 c14 q)
  refine iteB h7 (fun c18 h8=>?_) (fun c18 h9=>?_)
  ·obtain rfl:=Zab h8
   exact afd fol hE (o1 ++ [.c true,.r []]) [] 0 [] (t1 c18)
  ·exact and_ fol (o1 ++ [.c false,.r []]) [0,1,8,22,23,24,30,31,32] [8,30] (t1 c18) (hc2 (w64 (v7+1)) h9)
 ·exact an fol [.r [],.c false,.r []] [0,1,22,23,24] [] c11 (hc1 (w64 (v3+1)) h2)
theorem Zbr.p1_ok {i1 tip_1 names_2 v3 st r c1_ J1} (h:Zbr.p1 N i1 tip_1 names_2 st c1_ v3=some r) (hE:En Tryz.f55 g0 w0 (Zbr.rs r) r.2 R) (hc1 : ∀v3,c1_ v3=some r→At g0 w0 (Zbr.p1.S i1 tip_1 names_2 v3 st) J1):At g0 w0 (Zbr.p1.S i1 tip_1 names_2 v3 st) (XK Tryz.prog R (.c (csub Zbr.B [1,1,0,1,0,0]) :: .h J1 :: [.b 0,.c (csub Zbr.B [1,1,1])])):=by
 unfold Zbr.p1 at h
 refine iteB h (fun c5 h10=>?_) (fun c5 h11=>?_)
 ·obtain ⟨c6,h12⟩:=ZaI h10
  obtain ⟨x4,c7,h13⟩:=ZcM h12
  obtain ⟨x5,c8,h14⟩:=Zbv h13
  obtain ⟨x6,c9,h15⟩:=Zad h14
  obtain ⟨c10,h16⟩:=ZaI h15
  exact aq fol [.r [],.c true,.r [(1,{oe:=[L.arr .u8 32 x4]})],.r [(2,{rs:=[.row true 1 x6],ns:=[30],m:=10,cv:=[.one (L.bx 88 x5.ls)]})]] [0,1,8,22,23,24,30,31,32] [8,30] (aN c5 c6 (oD c5) c7 (bO 88 c8 (Zaa.bv x5)) c10 (ZaE.snd c9)) (At.loop N (At.loopN (fun y:Int=>Zbr.p2.S i1 tip_1 names_2 v3 x6 y x4 st) (fun c J hc y h=>Zbr.p2_ok h hE hc1 (fun v7=>hc v7)) N 0 h16))
 ·obtain rfl:=Zab h11
  exact af fol hE [.r [],.c false,.r []] [] 0 [] c5
theorem Zbr.snd {a_0:Option Nat} {tip_1:Int} {names_2:LL} {st:LL} {r:Int×LL} (h:Zbr N a_0 tip_1 names_2 st=some r):Snd Tryz.prog 55 [.one (L.ptr a_0),oI tip_1,.one (L.sl 32 names_2)] st (Zbr.rs r) r.2:=
 sO Zbr.B Tryz.func55 fun g0 w0 R hE=>by
  unfold Zbr at h
  refine iteB h (fun c1 h17=>?_) (fun c1 h18=>?_)
  ·obtain rfl:=Zab h17
   exact af fol hE [.r [],.r [(3,wF),(4,wF),(5,wF),(6,wF),(7,wF),(8,wF),(9,wF)],.c true,.r []] [] 0 [] (aO c1 c1 c1 c1 c1 c1 c1 (aI c1 eT))
  ·obtain ⟨i1,rfl,h19⟩:=Zad h18
   obtain ⟨x2,c3,h20⟩:=Zbv h19
   let o2:List PS:=[.r [],.r [(7,{oc:=x2.lo}),(10,yF)]]
   refine iteB h20 (fun c4 h21=>?_) (fun c4 h22=>?_)
   ·obtain rfl:=Zab h21
    exact af fol hE (o2 ++ [.c true,.r []]) [] 0 [] (aO c1 c1 c1 c1 c1 c3 c1 (aJ c1 c1 c4))
   ·exact aq fol (o2 ++ [.c false,.r []]) [0,1,22,23,24] [] (aO c1 c1 c1 c1 c1 c3 c1 (aJ c1 c1 c4)) (At.loop N (At.loopN (fun y:Int=>Zbr.p1.S i1 tip_1 names_2 y st) (fun c J hc y h=>Zbr.p1_ok h hE (fun v3=>hc v3)) N 0 h22))
noncomputable def ZbT.B:Code:=Tryz.f56.body.getD .skip
noncomputable def ZbT.rs (r:Int×Int×LL):List CV:=[oI r.1,oI r.2.1]
noncomputable def ZbT.p1 (N:Nat) (t_0:Option Nat) (list_1:LL) (c1_:(Int×Int×LL)→Option (Int×Int×LL)):(Int×Int×LL)→Option (Int×Int×LL):=fun (last_1,v2,st7)=>
 if (decide (v2<(len list_1)))=true then
  chk (0≤v2)<|
  getE (list_1[Int.toNat v2]?) Zdk fun x8=>
  optE (Zdh N x8) fun x9=>
  optE (ZcK N t_0 x9 st7) fun (x10,st11)=>
  if (x10==(-1))=true then
   some (v2,last_1,st11)
  else
  c1_ (x10,w64 (v2+1),st11)
 else
 some ((len list_1),last_1,st7)
noncomputable def ZbT (N:Nat) (t_0:Option Nat) (list_1 st:LL):Option (Int×Int×LL):=
 loopN (ZbT.p1 N t_0 list_1) N ((-1),0,st)
noncomputable def ZbT.p1.S (t_0:Option Nat) (list_1:LL) (last_1 v2:Int) (st7:LL):S:=mkS 30 [(0,sP t_0),(1,sV 68 list_1),(6,sI last_1),(10,sV 68 list_1),(11,sI (len list_1)),(12,sI v2)] [] st7
theorem ZbT.p1_ok {t_0 list_1 last_1 v2 st7 r c1_ J1} (h:ZbT.p1 N t_0 list_1 c1_ (last_1,v2,st7)=some r) (hE:En Tryz.f56 g0 w0 (ZbT.rs r) r.2.2 R) (hc1 : ∀last_1 v2 st7,c1_ (last_1,v2,st7)=some r→At g0 w0 (ZbT.p1.S t_0 list_1 last_1 v2 st7) J1):At g0 w0 (ZbT.p1.S t_0 list_1 last_1 v2 st7) (XK Tryz.prog R (.c (csub ZbT.B [1,1,0,1,0,0]) :: .h J1 :: [.b 0,.c (csub ZbT.B [1,1,1])])):=by
 unfold ZbT.p1 at h
 refine iteB h (fun c7 h1=>?_) (fun c7 h2=>?_)
 ·obtain ⟨c8,h3⟩:=ZaI h1
  obtain ⟨x8,c9,h4⟩:=Zdp h3
  obtain ⟨x9,c10,h5⟩:=Zad h4
  obtain ⟨⟨x10,st11⟩,c11,h6⟩:=Zad h5
  let o1:List PS:=[.r [],.c true,.r [(2,{oe:=x8.ls})],.r [(2,q1 [.agg [L.arr .u8 32 x9]]),(3,{rs:=[oI x10],st:=st11})],.r []]
  have t1 {Q:Prop} (q:Q):=aN c7 c8 (oD c7) c9 (Zdh.snd c10) (ZcK.snd c11) q
  refine iteB h6 (fun c12 h7=>?_) (fun c12 h8=>?_)
  ·obtain rfl:=Zab h7
   exact af fol hE (o1 ++ [.c true,.r []]) [] 0 [] (t1 c12)
  ·exact an fol (o1 ++ [.c false,.r [],.r []]) [0,1,6,10,11,12] [] (t1 c12) (hc1 x10 (w64 (v2+1)) st11 h8)
 ·obtain rfl:=Zab h2
  exact af fol hE [.r [],.c false,.r []] [] 0 [] c7
theorem ZbT.snd {t_0:Option Nat} {list_1:LL} {st:LL} {r:Int×Int×LL} (h:ZbT N t_0 list_1 st=some r):Snd Tryz.prog 56 [.one (L.ptr t_0),.one (L.sl 68 list_1)] st (ZbT.rs r) r.2.2:=
 sO ZbT.B Tryz.func56 fun g0 w0 R hE=>by
  unfold ZbT at h
  exact aq fol [.r [],.r [],.r []] [0,1,6,10,11,12] [] trivial (At.loop N (At.loopN (fun y:Int×Int×LL=>ZbT.p1.S t_0 list_1 y.1 y.2.1 y.2.2) (fun c J hc y h=>ZbT.p1_ok (last_1:=y.1) (v2:=y.2.1) (st7:=y.2.2) h hE (fun last_1 v2 st7=>hc (last_1,v2,st7))) N ((-1),0,st) h))
noncomputable def ZbA.B:Code:=Tryz.f43.body.getD .skip
noncomputable def ZbA.rs (r:LL×LL):List CV:=[.row true 32 r.1]
noncomputable def ZbA.p1 (N:Nat) (t_0:Option Nat) (at_1:Int) (x4:LL) (c1_:(LL×Int×LL)→Option (LL×LL)):(LL×Int×LL)→Option (LL×LL):=fun (out_12,v5,st13)=>
 if (decide (v5<(len x4)))=true then
  chk (0≤v5)<|
  getE (x4[0+(Int.toNat v5)]?) ZcG fun x14=>
  optE (ZaA N t_0 at_1 x14 st13) fun (x15,st16)=>
  optE (Zcm N t_0 x15 st16) fun (x17,x18,st19)=>
  chk (List.length (out_12 ++ [[L.arr .u8 32 x17.Id]])*32≤140737488355328)<|
  c1_ (out_12 ++ [[L.arr .u8 32 x17.Id]],w64 (v5+1),st19)
 else
 some (out_12,st13)
noncomputable def ZbA (N:Nat) (t_0:Option Nat) (at_1:Int) (st:LL):Option (LL×LL):=
 optE (Zcm N t_0 at_1 st) fun (x1,x2,st3)=>
 if (!x2)=true then
  some ([],st3)
 else
 optE (Zaz N x1.Height) fun x4=>
 loopN (ZbA.p1 N t_0 at_1 x4) N ([],0,st3)
noncomputable def ZbA.p1.S (t_0:Option Nat) (at_1:Int) (out_12 x4:LL) (v5:Int) (st13:LL):S:=mkS 44 [(0,sP t_0),(1,sI at_1),(7,.one (.h (.row 7 0) 32 0 (List.length out_12))),(22,.one (.h (.row 22 0) 1 0 (List.length x4))),(23,sI (len x4)),(24,sI v5)] [(7,.row 0 true 32 out_12),(22,.row 0 true 1 x4)] st13
theorem ZbA.p1_ok {t_0 at_1 out_12 x4 v5 st13 r c1_ J1} (h:ZbA.p1 N t_0 at_1 x4 c1_ (out_12,v5,st13)=some r) (hE:En Tryz.f43 g0 w0 (ZbA.rs r) r.2 R) (hc1 : ∀out_12 v5 st13,c1_ (out_12,v5,st13)=some r→At g0 w0 (ZbA.p1.S t_0 at_1 out_12 x4 v5 st13) J1):At g0 w0 (ZbA.p1.S t_0 at_1 out_12 x4 v5 st13) (XK Tryz.prog R (.c (csub ZbA.B [1,1,1,1,0,1,0,0]) :: .h J1 :: [.b 0,.c (csub ZbA.B [1,1,1,1,1])])):=by
 unfold ZbA.p1 at h
 refine iteB h (fun c10 h1=>?_) (fun c10 h2=>?_)
 ·obtain ⟨c11,h3⟩:=ZaI h1
  obtain ⟨x14,c12,h4⟩:=Zcf h3
  obtain ⟨⟨x15,st16⟩,c13,h5⟩:=Zad h4
  obtain ⟨⟨x17,x18,st19⟩,c14,h6⟩:=Zad h5
  obtain ⟨c15,h7⟩:=ZaI h6
  exact an fol [.r [],.c true,.r [(1,{oe:=[L.int .i64 x14]})],.r [(4,{rs:=[oI x15],st:=st16}),(5,{rs:=[.agg x17.ls,oB x18],st:=st19})],.r [],.r []] [0,1,7,22,23,24] [7,22] (aO c10 c11 (oD c10) c12 (ZaA.snd c13) (Zcm.snd c14) z0 (aK (eN (List.length out_12)) z0 (eN (1)) c15)) (hc1 (out_12 ++ [[L.arr .u8 32 x17.Id]]) (w64 (v5+1)) st19 h7)
 ·obtain rfl:=Zab h2
  exact af fol hE [.r [],.c false,.r []] [] 0 [0] (aJ c10 z0 (eN (List.length out_12)))
theorem ZbA.snd {t_0:Option Nat} {at_1:Int} {st:LL} {r:LL×LL} (h:ZbA N t_0 at_1 st=some r):Snd Tryz.prog 43 [.one (L.ptr t_0),oI at_1] st (ZbA.rs r) r.2:=
 sO ZbA.B Tryz.func43 fun g0 w0 R hE=>by
  unfold ZbA at h
  obtain ⟨⟨x1,x2,st3⟩,c1,h8⟩:=Zad h
  let o1:List PS:=[.r [(0,{m:=2})],.r [(2,{rs:=[.agg x1.ls,oB x2],st:=st3})],.r []]
  refine iteB h8 (fun c2 h9=>?_) (fun c2 h10=>?_)
  ·obtain rfl:=Zab h9
   exact af fol hE (o1 ++ [.c true,.r [(0,{m:=2})]]) [] 0 [0] (aI (Zcm.snd c1) c2)
  ·obtain ⟨x4,c3,h11⟩:=Zad h10
   exact aq fol (o1 ++ [.c false,.r [(0,{m:=1})],.r [(2,{rs:=[.row true 1 x4],ns:=[22],m:=1})]]) [0,1,7,22,23,24] [7,22] (aJ (Zcm.snd c1) c2 (Zaz.snd c3)) (At.loop N (At.loopN (fun y:LL×Int×LL=>ZbA.p1.S t_0 at_1 y.1 x4 y.2.1 y.2.2) (fun c J hc y h=>ZbA.p1_ok (out_12:=y.1) (v5:=y.2.1) (st13:=y.2.2) h hE (fun out_12 v5 st13=>hc (out_12,v5,st13))) N ([],0,st3) h11))
noncomputable def Zbw.B:Code:=Tryz.f49.body.getD .skip
noncomputable def Zbw.rs (r:LL×LL):List CV:=[.row true 1 r.1]
noncomputable def Zbw.p1 (N:Nat) (t_0:Option Nat) (x1:Int) (c1_:(Int×Int×LL×LL)→Option (LL×LL)):(Int×Int×LL×LL)→Option (LL×LL):=fun (at_3,i_4,v8,st9)=>
 if (decide (i_4≥0))=true then
  chk (0≤i_4)<|
  chk (i_4<((Int.toNat (if (0:Int)>x1 then 0 else x1):Nat):Int))<|
  optE (Zcm N t_0 at_3 st9) fun (x10,x11,st12)=>
  c1_ (x10.Ahead,w64 (i_4-1),List.set v8 (0+(Int.toNat i_4)) [L.int .i64 at_3],st12)
 else
 chk ((Int.toNat (if (0:Int)>x1 then 0 else x1))≤(List.length v8))<|
 some (List.take (Int.toNat (if (0:Int)>x1 then 0 else x1)) v8,st9)
noncomputable def Zbw (N:Nat) (t_0:Option Nat) (at_1:Int) (st:LL):Option (LL×LL):=
 optE (Zco N t_0 at_1 st) fun (x1,st2)=>
 chk (0≤(if (0:Int)>x1 then 0 else x1))<|
 chk (8*(if (0:Int)>x1 then 0 else x1)≤281474976710656)<|
 chk ((if (0:Int)>x1 then 0 else x1)≤9223372036854775807)<|
 loopN (Zbw.p1 N t_0 x1) N (at_1,w64 (((Int.toNat (if (0:Int)>x1 then 0 else x1):Nat):Int)-1),List.replicate (Int.toNat (if (0:Int)>x1 then 0 else x1)) [L.int .i64 0],st2)
noncomputable def Zbw.p1.S (t_0:Option Nat) (at_3 x1 i_4:Int) (v8 st9:LL):S:=mkS 34 [(0,sP t_0),(1,sI at_3),(5,.one (.h (.row 13 0) 1 0 (Int.toNat (if (0:Int)>x1 then 0 else x1)))),(6,sI i_4)] [(13,.row 0 true 1 v8)] st9
theorem Zbw.p1_ok {t_0 at_3 x1 i_4 v8 st9 r c1_ J1} (h:Zbw.p1 N t_0 x1 c1_ (at_3,i_4,v8,st9)=some r) (hE:En Tryz.f49 g0 w0 (Zbw.rs r) r.2 R) (hc1 : ∀at_3 i_4 v8 st9,c1_ (at_3,i_4,v8,st9)=some r→At g0 w0 (Zbw.p1.S t_0 at_3 x1 i_4 v8 st9) J1):At g0 w0 (Zbw.p1.S t_0 at_3 x1 i_4 v8 st9) (XK Tryz.prog R (.c (csub Zbw.B [1,1,0,1,0,0]) :: .h J1 :: [.b 0,.c (csub Zbw.B [1,1,1])])):=by
 unfold Zbw.p1 at h
 refine iteB h (fun c10 h1=>?_) (fun c10 h2=>?_)
 ·obtain ⟨c11,c12,h3⟩:=ck2 h1
  obtain ⟨⟨x10,x11,st12⟩,c13,h4⟩:=Zad h3
  exact an fol [.r [],.c true,.r [],.r [(2,{rs:=[.agg x10.ls,oB x11],st:=st12})],.r [],.r []] [0,1,5,6] [13] (aK c10 c11 c12 (Zcm.snd c13)) (hc1 x10.Ahead (w64 (i_4-1)) (List.set v8 (0+(Int.toNat i_4)) [L.int .i64 at_3]) st12 h4)
 ·obtain ⟨c14,h5⟩:=ZaI h2
  obtain rfl:=Zab h5
  exact af fol hE [.r [],.c false,.r []] [] 2 [0] (aJ c10 z0 c14)
theorem Zbw.snd {t_0:Option Nat} {at_1:Int} {st:LL} {r:LL×LL} (h:Zbw N t_0 at_1 st=some r):Snd Tryz.prog 49 [.one (L.ptr t_0),oI at_1] st (Zbw.rs r) r.2:=
 sO Zbw.B Tryz.func49 fun g0 w0 R hE=>by
  unfold Zbw at h
  obtain ⟨⟨x1,st2⟩,c1,h6⟩:=Zad h
  obtain ⟨c2,c3,c4,h7⟩:=ck3 h6
  exact aq fol [.r [(0,{m:=2})],.r [(2,{rs:=[oI x1],st:=st2})],.r []] [0,1,5,6] [13] (aL (Zco.snd c1) c2 (@rfl Int (if (0:Int)>x1 then 0 else x1)) c3 c4) (At.loop N (At.loopN (fun y:Int×Int×LL×LL=>Zbw.p1.S t_0 y.1 x1 y.2.1 y.2.2.1 y.2.2.2) (fun c J hc y h=>Zbw.p1_ok (at_3:=y.1) (i_4:=y.2.1) (v8:=y.2.2.1) (st9:=y.2.2.2) h hE (fun at_3 i_4 v8 st9=>hc (at_3,i_4,v8,st9))) N (at_1,w64 (((Int.toNat (if (0:Int)>x1 then 0 else x1):Nat):Int)-1),List.replicate (Int.toNat (if (0:Int)>x1 then 0 else x1)) [L.int .i64 0],st2) h7))
noncomputable def ZaX.B:Code:=Tryz.f19.body.getD .skip
noncomputable def ZaX.rs (r:LL×LL):List CV:=[.row true 68 r.1]
noncomputable def ZaX.p2 (N:Nat) (out_19 st20:LL):Option (LL×LL):=
 some (out_19,st20)
noncomputable def ZaX.p1 (N:Nat) (t_0:Option Nat) (most_4:Int) (x1:LL) (x5:ZbM) (stop_3_0:List Int) (c1_:(LL×Int×LL)→Option (LL×LL)):(LL×Int×LL)→Option (LL×LL):=fun (out_13,v8,st14)=>
 if (decide (v8<(((List.length x1)-(Int.toNat (if (len x1)<(if (0:Int)>x5.Height then 0 else x5.Height) then (len x1) else (if (0:Int)>x5.Height then 0 else x5.Height))):Nat):Int)))=true then
  chk (0≤v8)<|
  getE (x1[(0+(Int.toNat (if (len x1)<(if (0:Int)>x5.Height then 0 else x5.Height) then (len x1) else (if (0:Int)>x5.Height then 0 else x5.Height))))+(Int.toNat v8)]?) ZcG fun x15=>
  if (decide ((len out_13)≥most_4))=true then
   ZaX.p2 N out_13 st14
  else
  optE (Zcm N t_0 x15 st14) fun (x16,x17,st18)=>
  chk (List.length (out_13 ++ [x16.Header.ls])*96≤140737488355328)<|
  if (x16.Id==stop_3_0)=true then
   ZaX.p2 N (out_13 ++ [x16.Header.ls]) st18
  else
  c1_ (out_13 ++ [x16.Header.ls],w64 (v8+1),st18)
 else
 ZaX.p2 N out_13 st14
noncomputable def ZaX (N:Nat) (t_0:Option Nat) (tip_1:Int) (names_2:LL) (stop_3_0:List Int) (most_4:Int) (st:LL):Option (LL×LL):=
 optE (Zbw N t_0 tip_1 st) fun (x1,st2)=>
 optE (ZbY N t_0 tip_1 names_2 st2) fun (x3,st4)=>
 optE (Zcm N t_0 x3 st4) fun (x5,x6,st7)=>
 chk (0≤(if (len x1)<(if (0:Int)>x5.Height then 0 else x5.Height) then (len x1) else (if (0:Int)>x5.Height then 0 else x5.Height)))<|
 chk ((Int.toNat (if (len x1)<(if (0:Int)>x5.Height then 0 else x5.Height) then (len x1) else (if (0:Int)>x5.Height then 0 else x5.Height)))≤(List.length x1))<|
 loopN (ZaX.p1 N t_0 most_4 x1 x5 stop_3_0) N ([],0,st7)
noncomputable def ZaX.p2.S (out_19 st20:LL):S:=mkS 65 [(14,.one (.h (.row 14 0) 68 0 (List.length out_19)))] [(14,.row 0 true 68 out_19)] st20
noncomputable def ZaX.p1.S (t_0:Option Nat) (most_4:Int) (out_13 x1:LL) (x5:ZbM) (v8:Int) (stop_3_0:List Int) (st14:LL):S:=mkS 65 [(0,sP t_0),(4,sI most_4),(8,sA 8),(14,.one (.h (.row 14 0) 68 0 (List.length out_13))),(38,.one (.h (.row 21 0) 1 (0+(Int.toNat (if (len x1)<(if (0:Int)>x5.Height then 0 else x5.Height) then (len x1) else (if (0:Int)>x5.Height then 0 else x5.Height)))) ((List.length x1)-(Int.toNat (if (len x1)<(if (0:Int)>x5.Height then 0 else x5.Height) then (len x1) else (if (0:Int)>x5.Height then 0 else x5.Height)))))),(39,sI (((List.length x1)-(Int.toNat (if (len x1)<(if (0:Int)>x5.Height then 0 else x5.Height) then (len x1) else (if (0:Int)>x5.Height then 0 else x5.Height))):Nat):Int)),(40,sI v8)] [(8,.cells [L.arr .u8 32 stop_3_0]),(14,.row 0 true 68 out_13),(21,.row 0 true 1 x1)] st14
theorem ZaX.p2_ok {out_19 st20 r} (h:ZaX.p2 N out_19 st20=some r) (hE:En Tryz.f19 g0 w0 (ZaX.rs r) r.2 R):At g0 w0 (ZaX.p2.S out_19 st20) (XK Tryz.prog R [.c (csub ZaX.B [1,1,1,1,1])]):=by
 unfold ZaX.p2 at h
 obtain rfl:=Zab h
 exact af fol hE [.r []] [] 0 [0] (aI z0 (eN (List.length out_19)))
theorem ZaX.p1_ok {t_0 most_4 out_13 x1 x5 v8 stop_3_0 st14 r c1_ J1} (h:ZaX.p1 N t_0 most_4 x1 x5 stop_3_0 c1_ (out_13,v8,st14)=some r) (hE:En Tryz.f19 g0 w0 (ZaX.rs r) r.2 R) (hc1 : ∀out_13 v8 st14,c1_ (out_13,v8,st14)=some r→At g0 w0 (ZaX.p1.S t_0 most_4 out_13 x1 x5 v8 stop_3_0 st14) J1):At g0 w0 (ZaX.p1.S t_0 most_4 out_13 x1 x5 v8 stop_3_0 st14) (XK Tryz.prog R (.c (csub ZaX.B [1,1,1,1,0,1,0,0]) :: .h J1 :: [.b 0,.c (csub ZaX.B [1,1,1,1,1])])):=by
 unfold ZaX.p1 at h
 refine iteB h (fun c13 h1=>?_) (fun c13 h2=>?_)
 ·obtain ⟨c14,h3⟩:=ZaI h1
  obtain ⟨x15,c15,h4⟩:=Zcf h3
  let o1:List PS:=[.r [],.c true,.r [(1,{oe:=[L.int .i64 x15]})],.r []]
  have t1 {Q:Prop} (q:Q):=aL c13 c14 (oD c13) c15 q
  refine iteB h4 (fun c16 h5=>?_) (fun c16 h6=>?_)
  ·exact aq fol (o1 ++ [.c true,.s 1]) [14] [14] (t1 c16) (ZaX.p2_ok h5 hE)
  ·obtain ⟨⟨x16,x17,st18⟩,c17,h7⟩:=Zad h6
   obtain ⟨c18,h8⟩:=ZaI h7
   let o2:List PS:=o1 ++ [.c false,.r [(2,{rs:=[.agg x16.ls,oB x17],st:=st18})],.r [],.r []]
   have t2 {Q:Prop} (q:Q):=t1 (aO c16 (Zcm.snd c17) z0 (eN (List.length out_13)) z0 (eN (1)) c18 q)
   refine iteB h8 (fun c19 h9=>?_) (fun c19 h10=>?_)
   ·exact aq fol (o2 ++ [.c true,.s 1]) [14] [14] (t2 c19) (ZaX.p2_ok h9 hE)
   ·exact an fol (o2 ++ [.c false,.r []]) [0,4,8,14,38,39,40] [8,14,21] (t2 c19) (hc1 (out_13 ++ [x16.Header.ls]) (w64 (v8+1)) st18 h10)
 ·exact aq fol [.r [],.c false,.s 1] [14] [14] c13 (ZaX.p2_ok h2 hE)
theorem ZaX.snd {t_0:Option Nat} {tip_1:Int} {names_2:LL} {stop_3_0:List Int} {most_4:Int} {st:LL} {r:LL×LL} (h:ZaX N t_0 tip_1 names_2 stop_3_0 most_4 st=some r):Snd Tryz.prog 19 [.one (L.ptr t_0),oI tip_1,.one (L.sl 32 names_2),.agg [L.arr .u8 32 stop_3_0],oI most_4] st (ZaX.rs r) r.2:=
 sO ZaX.B Tryz.func19 fun g0 w0 R hE=>by
  unfold ZaX at h
  obtain ⟨⟨x1,st2⟩,c1,h11⟩:=Zad h
  obtain ⟨⟨x3,st4⟩,c2,h12⟩:=Zad h11
  obtain ⟨⟨x5,x6,st7⟩,c3,h13⟩:=Zad h12
  obtain ⟨c4,c5,h14⟩:=ck2 h13
  exact aq fol [.r [(1,{m:=2})],.r [(2,{rs:=[.row true 1 x1],st:=st2,ns:=[21]})],.r [(4,{rs:=[oI x3],st:=st4}),(5,{rs:=[.agg x5.ls,oB x6],st:=st7})],.r [(0,{m:=1})],.r []] [0,4,8,14,38,39,40] [8,14,21] (aM (Zbw.snd c1) (ZbY.snd c2) (Zcm.snd c3) c4 c5 (Nat.le_refl (List.length x1))) (At.loop N (At.loopN (fun y:LL×Int×LL=>ZaX.p1.S t_0 most_4 y.1 x1 x5 y.2.1 stop_3_0 y.2.2) (fun c J hc y h=>ZaX.p1_ok (out_13:=y.1) (v8:=y.2.1) (st14:=y.2.2) h hE (fun out_13 v8 st14=>hc (out_13,v8,st14))) N ([],0,st7) h14))
noncomputable def ZaZ.B:Code:=Tryz.f8.body.getD .skip
noncomputable def ZaZ.rs (r:Bool×LL):List CV:=[oB r.1]
noncomputable def ZaZ.p1 (N:Nat) (at_2 tip_3:Int) (names_4:LL) (i6:Nat) (x7:Zaa) (p_0:Zae) (st5:LL) (c1_:((Option Nat)×Int)→Option (Bool×LL)):((Option Nat)×Int)→Option (Bool×LL):=fun (t_42,v8)=>
 if (decide (v8<(len x7.List_)))=true then
  optE t_42 fun i43=>
  getE (st5[i43]?) ZcW fun x44 x45=>
  optE x44 fun i46=>
  getE (st5[i46]?) ZbR fun x47=>
  optE (ZaW N (Zau.mk x47 x45) v8) fun x48=>
  chk (plainRow x48=true)<|
  getE (st5[i6]?) Zbo fun x49=>
  optE (Zbb N x49 v8) fun x50=>
  chk (plainRow x50=true)<|
  optE (Zbc N x48 x50) fun x51=>
  if (!x51)=true then
   some (false,st5)
  else
  chk (0≤(w64 ((len x48)-1)))<|
  chk ((w64 ((len x48)-1))<(len x48))<|
  getE (x48[0+(Int.toNat (w64 ((len x48)-1)))]?) Zdt fun x52=>
  optE (ZcC N p_0.Genesis) fun x53=>
  if (!(x52==x53))=true then
   some (false,st5)
  else
  optE (Zbu N (Zau.mk x47 x45) tip_3 x48) fun x54=>
  optE (ZaP N x49 tip_3 x48) fun x55=>
  if (x54 != x55)=true then
   some (false,st5)
  else
  c1_ ((some i43),w64 (v8+1))
 else
 optE (ZbT N none [p_0.Genesis.ls] st5) fun (x56,x57,st58)=>
 optE t_42 fun i59=>
 getE (st58[i59]?) ZcW fun x60 x61=>
 optE x60 fun i62=>
 getE (st58[i62]?) ZbR fun x63=>
 optE (ZaW N (Zau.mk x63 x61) at_2) fun x64=>
 chk (plainRow x64=true)<|
 getE (st58[i6]?) Zbo fun x65=>
 optE (Zbb N x65 at_2) fun x66=>
 chk (plainRow x66=true)<|
 optE (Zbc N x64 x66) fun x67=>
 if x67=true then
  optE (Zbu N (Zau.mk x63 x61) tip_3 names_4) fun x68=>
  optE (ZaP N x65 tip_3 names_4) fun x69=>
  if (x68==x69)=true then
   optE (ZbA N none 0 st58) fun (x70,st71)=>
   if ((len x70)==0)=true then
    optE (ZbY N none 0 names_4 st71) fun (x72,st73)=>
    if (x72==0)=true then
     optE (ZaX N none 0 names_4 (List.replicate 32 0) 5 st73) fun (x74,st75)=>
     if ((len x74)==0)=true then
      if (x56==0)=true then
       some (x57==(-1),st75)
      else
      some (false,st75)
     else
     some (false,st75)
    else
    some (false,st73)
   else
   some (false,st71)
  else
  some (false,st58)
 else
 some (false,st58)
noncomputable def ZaZ (N:Nat) (p_0:Zae) (list_1:LL) (at_2 tip_3:Int) (names_4 st:LL):Option (Bool×LL):=
 optE (Zdx N ) fun x1=>
 if (!x1)=true then
  some (false,st)
 else
 optE (ZbV N p_0 list_1) fun x2=>
 if x2=true then
  some (true,st)
 else
 if (decide ((len names_4)>40))=true then
  some (true,st)
 else
 optE (ZbP N p_0 list_1 st) fun (x3,x4,st5)=>
 optE x4 fun i6=>
 getE (st5[i6]?) Zbo fun x7=>
 loopN (ZaZ.p1 N at_2 tip_3 names_4 i6 x7 p_0 st5) N (x3,0)
noncomputable def ZaZ.p1.S (at_2 tip_3:Int) (names_4:LL) (t_42:Option Nat) (i6:Nat) (x7:Zaa) (v8:Int) (p_0:Zae) (st5:LL):S:=mkS 124 [(2,sI at_2),(3,sI tip_3),(4,sV 32 names_4),(5,sA 5),(11,sP t_42),(12,sP (some i6)),(37,sI (len x7.List_)),(38,sI v8)] [(5,.cells p_0.ls)] st5
theorem ZaZ.p1_ok {at_2 tip_3 names_4 t_42 i6 x7 v8 p_0 st5 r c1_ J1} (h:ZaZ.p1 N at_2 tip_3 names_4 i6 x7 p_0 st5 c1_ (t_42,v8)=some r) (hE:En Tryz.f8 g0 w0 (ZaZ.rs r) r.2 R) (hc1 : ∀t_42 v8,c1_ (t_42,v8)=some r→At g0 w0 (ZaZ.p1.S at_2 tip_3 names_4 t_42 i6 x7 v8 p_0 st5) J1):At g0 w0 (ZaZ.p1.S at_2 tip_3 names_4 t_42 i6 x7 v8 p_0 st5) (XK Tryz.prog R (.c (csub ZaZ.B [1,1,1,1,0,1,0,0]) :: .h J1 :: [.b 0,.c (csub ZaZ.B [1,1,1,1,1])])):=by
 unfold ZaZ.p1 at h
 refine iteB h (fun c51 h1=>?_) (fun c51 h2=>?_)
 ·obtain ⟨i43,rfl,h3⟩:=Zad h1
  obtain ⟨x44,x45,c53,h4⟩:=ZcS h3
  obtain ⟨i46,rfl,h5⟩:=Zad h4
  obtain ⟨x47,c55,h6⟩:=ZbK h5
  obtain ⟨x48,c56,h7⟩:=Zad h6
  obtain ⟨c57,h8⟩:=ZaI h7
  obtain ⟨x49,c58,h9⟩:=Zbv h8
  obtain ⟨x50,c59,h10⟩:=Zad h9
  obtain ⟨c60,h11⟩:=ZaI h10
  obtain ⟨x51,c61,h12⟩:=Zad h11
  let o1:List PS:=[.r [],.c true,.r [],.r [(2,{rs:=[.row true 32 x48],ns:=[43],m:=10,cv:=[.one (L.bx 2 (Zau.ls (Zau.mk x47 x45)))]})]]
  have t1 {Q:Prop} (q:Q):=aO c51 (bO 2 c53 ((bC 87 c55 (ZaD.bv x47) (bW bN)):BVs st5 [L.ptr (some i46),L.own true 1 x45] (Zau.ls (Zau.mk x47 x45)))) c57 (ZaW.snd c56) (bO 88 c58 (Zaa.bv x49)) c60 (Zbb.snd c59) (aM z0 (eN (List.length x48)) z0 (eN (List.length x50)) (Zbc.snd c61) q)
  refine iteB h12 (fun c62 h13=>?_) (fun c62 h14=>?_)
  ·obtain rfl:=Zab h13
   exact afd fol hE (o1 ++ [.d {ds:=[(3,{rs:=[.row true 32 x50],ns:=[47],m:=10,cv:=[.one (L.bx 88 x49.ls)]}),(4,{rs:=[oB x51],m:=2}),(7,wF),(8,wF),(9,wF),(10,wF),(11,wF),(12,wF),(13,wF),(14,wF),(15,wF),(16,wF),(19,wF),(20,wF),(21,wF),(22,wF),(23,wF),(24,wF),(25,wF),(26,wF),(27,wF)],hv:=8,Hs:=[8]},.c true,.r []]) [] 0 [] (t1 (aO (not_false (Zby c62)) (not_false (Zby c62)) (not_false (Zby c62)) (not_false (Zby c62)) (not_false (Zby c62)) (not_false (Zby c62)) (not_false (Zby c62)) (aO (not_false (Zby c62)) (not_false (Zby c62)) (not_false (Zby c62)) (not_false (Zby c62)) eT eT eT (aO eT eT eT eT eT eT eT eT))))
  ·obtain ⟨c63,c64,h15⟩:=ck2 h14
   obtain ⟨x52,c65,h16⟩:=ZcM h15
   obtain ⟨x53,c66,h17⟩:=Zad h16
   have t2 {Q:Prop} (q:Q):=t1 (aO (not_true (Zbz c62)) (not_true (Zbz c62)) (not_true (Zbz c62)) (not_true (Zbz c62)) (not_true (Zbz c62)) c63 c64 (aO (not_true (Zbz c62)) c65 (not_true (Zbz c62)) (not_true (Zbz c62)) (not_true (Zbz c62)) (ZcC.snd c66) (not_true (Zbz c62)) (aI (not_true (Zbz c62)) q)))
   refine iteB h17 (fun c67 h18=>?_) (fun c67 h19=>?_)
   ·obtain rfl:=Zab h18
    exact afd fol hE (o1 ++ [.d {ds:=[(3,{rs:=[.row true 32 x50],ns:=[47],m:=10,cv:=[.one (L.bx 88 x49.ls)]}),(4,{rs:=[oB x51],m:=2}),(12,{oe:=[L.arr .u8 32 x52]}),(15,q1 [.agg [L.arr .u8 32 x53]]),(17,yF),(19,wF),(20,wF),(21,wF),(22,wF),(23,wF),(24,wF),(25,wF),(26,wF),(27,wF)],hv:=8,Hs:=[8]},.c true,.r []]) [] 0 [] (t2 (aO c67 c67 c67 c67 c67 c67 c67 (aK c67 c67 c67 eT)))
   ·obtain ⟨x54,c68,h20⟩:=Zad h19
    obtain ⟨x55,c69,h21⟩:=Zad h20
    let o2:List PS:=o1 ++ [.d {ds:=[(3,{rs:=[.row true 32 x50],ns:=[47],m:=10,cv:=[.one (L.bx 88 x49.ls)]}),(4,{rs:=[oB x51],m:=2}),(12,{oe:=[L.arr .u8 32 x52]}),(15,q1 [.agg [L.arr .u8 32 x53]]),(17,yF),(22,{rs:=[oI x54],m:=10,cv:=[.one (L.bx 2 (Zau.ls (Zau.mk x47 x45)))]}),(26,{rs:=[oI x55],m:=10,cv:=[.one (L.bx 88 x49.ls)]}),(28,yF)],hv:=71303176,Hs:=[8,4194312,71303176]}]
    have t3 {Q:Prop} (q:Q):=t2 (aO c67 c67 c67 c67 (bO 2 c53 ((bC 87 c55 (ZaD.bv x47) (bW bN)):BVs st5 [L.ptr (some i46),L.own true 1 x45] (Zau.ls (Zau.mk x47 x45)))) z0 (eN (List.length x48)) (aO (Zbu.snd c68) c67 c67 c67 c67 c67 c67 (aO c67 (bO 88 c58 (Zaa.bv x49)) z0 (eN (List.length x48)) (ZaP.snd c69) c67 c67 q)))
    refine iteB h21 (fun c70 h22=>?_) (fun c70 h23=>?_)
    ·obtain rfl:=Zab h22
     exact afd fol hE (o2 ++ [.c true,.r []]) [] 0 [] (t3 c70)
    ·exact and_ fol (o2 ++ [.c false,.r []]) [2,3,4,5,11,12,37,38] [5] (t3 c70) (hc1 (some i43) (w64 (v8+1)) h23)
 ·obtain ⟨⟨x56,x57,st58⟩,c71,h24⟩:=Zad h2
  obtain ⟨i59,rfl,h25⟩:=Zad h24
  obtain ⟨x60,x61,c73,h26⟩:=ZcS h25
  obtain ⟨i62,rfl,h27⟩:=Zad h26
  obtain ⟨x63,c75,h28⟩:=ZbK h27
  obtain ⟨x64,c76,h29⟩:=Zad h28
  obtain ⟨c77,h30⟩:=ZaI h29
  obtain ⟨x65,c78,h31⟩:=Zbv h30
  obtain ⟨x66,c79,h32⟩:=Zad h31
  obtain ⟨c80,h33⟩:=ZaI h32
  obtain ⟨x67,c81,h34⟩:=Zad h33
  let o3:List PS:=[.r [],.c false,.r [(3,{rs:=[oI x56,oI x57],st:=st58,fz:=[77]})]]
  have t4 {Q:Prop} (q:Q):=aO c51 z0 (eN (1)) (ZbT.snd c71) (bO 2 c73 ((bC 87 c75 (ZaD.bv x63) (bW bN)):BVs st58 [L.ptr (some i62),L.own true 1 x61] (Zau.ls (Zau.mk x63 x61)))) c77 (ZaW.snd c76) (aO (bO 88 c78 (Zaa.bv x65)) c80 (Zbb.snd c79) z0 (eN (List.length x64)) z0 (eN (List.length x66)) (aI (Zbc.snd c81) q))
  refine iteB h34 (fun c82 h35=>?_) (fun c82 h36=>?_)
  ·obtain ⟨x68,c83,h37⟩:=Zad h35
   obtain ⟨x69,c84,h38⟩:=Zad h37
   have t5 {Q:Prop} (q:Q):=t4 (aO c82 c82 c82 c82 (bO 2 c73 ((bC 87 c75 (ZaD.bv x63) (bW bN)):BVs st58 [L.ptr (some i62),L.own true 1 x61] (Zau.ls (Zau.mk x63 x61)))) (Zbu.snd c83) c82 (aO c82 c82 c82 (bO 88 c78 (Zaa.bv x65)) (ZaP.snd c84) c82 c82 q))
   refine iteB h38 (fun c85 h39=>?_) (fun c85 h40=>?_)
   ·obtain ⟨⟨x70,st71⟩,c86,h41⟩:=Zad h39
    have t6 {Q:Prop} (q:Q):=t5 (aM c85 (ZbA.snd c86) c85 c85 c85 q)
    refine iteB h41 (fun c87 h42=>?_) (fun c87 h43=>?_)
    ·obtain ⟨⟨x72,st73⟩,c88,h44⟩:=Zad h42
     have t7 {Q:Prop} (q:Q):=t6 (aM c87 c87 (ZbY.snd c88) c87 c87 q)
     refine iteB h44 (fun c89 h45=>?_) (fun c89 h46=>?_)
     ·obtain ⟨⟨x74,st75⟩,c90,h47⟩:=Zad h45
      have t8 {Q:Prop} (q:Q):=t7 (aO c89 c89 c89 (ZaX.snd c90) c89 c89 c89 q)
      refine iteB h47 (fun c91 h48=>?_) (fun c91 h49=>?_)
      ·refine iteB h48 (fun c92 h50=>?_) (fun c92 h51=>?_)
       ·obtain rfl:=Zab h50
        exact af fol hE (o3 ++ [.r [(2,{rs:=[.row true 32 x64],ns:=[83],m:=10,cv:=[.one (L.bx 2 (Zau.ls (Zau.mk x63 x61)))]}),(5,{rs:=[.row true 32 x66],ns:=[86],m:=10,cv:=[.one (L.bx 88 x65.ls)]}),(6,{rs:=[oB x67],m:=2}),(11,{rs:=[oI x68],m:=10,cv:=[.one (L.bx 2 (Zau.ls (Zau.mk x63 x61)))]}),(15,{rs:=[oI x69],m:=10,cv:=[.one (L.bx 88 x65.ls)]}),(19,{rs:=[.row true 32 x70],st:=st71,ns:=[100]}),(25,{rs:=[oI x72],st:=st73}),(31,{rs:=[.row true 68 x74],st:=st75,ns:=[112]})]]) [] 0 [] (t8 (aM c91 c91 c91 c92 c92 c92))
       ·obtain rfl:=Zab h51
        exact af fol hE (o3 ++ [.r [(2,{rs:=[.row true 32 x64],ns:=[83],m:=10,cv:=[.one (L.bx 2 (Zau.ls (Zau.mk x63 x61)))]}),(5,{rs:=[.row true 32 x66],ns:=[86],m:=10,cv:=[.one (L.bx 88 x65.ls)]}),(6,{rs:=[oB x67],m:=2}),(11,{rs:=[oI x68],m:=10,cv:=[.one (L.bx 2 (Zau.ls (Zau.mk x63 x61)))]}),(15,{rs:=[oI x69],m:=10,cv:=[.one (L.bx 88 x65.ls)]}),(19,{rs:=[.row true 32 x70],st:=st71,ns:=[100]}),(25,{rs:=[oI x72],st:=st73}),(31,{rs:=[.row true 68 x74],st:=st75,ns:=[112]}),(40,wF),(41,wF),(42,yF)]]) [] 0 [] (t8 (aM c91 c91 c91 c92 c92 c92))
      ·obtain rfl:=Zab h49
       exact af fol hE (o3 ++ [.r [(2,{rs:=[.row true 32 x64],ns:=[83],m:=10,cv:=[.one (L.bx 2 (Zau.ls (Zau.mk x63 x61)))]}),(5,{rs:=[.row true 32 x66],ns:=[86],m:=10,cv:=[.one (L.bx 88 x65.ls)]}),(6,{rs:=[oB x67],m:=2}),(11,{rs:=[oI x68],m:=10,cv:=[.one (L.bx 2 (Zau.ls (Zau.mk x63 x61)))]}),(15,{rs:=[oI x69],m:=10,cv:=[.one (L.bx 88 x65.ls)]}),(19,{rs:=[.row true 32 x70],st:=st71,ns:=[100]}),(25,{rs:=[oI x72],st:=st73}),(31,{rs:=[.row true 68 x74],st:=st75,ns:=[112]}),(36,wF),(37,wF),(38,yF),(40,wF),(41,wF),(42,yF)]]) [] 0 [] (t8 (aM c91 c91 c91 eF eF eF))
     ·obtain rfl:=Zab h46
      exact af fol hE (o3 ++ [.r [(2,{rs:=[.row true 32 x64],ns:=[83],m:=10,cv:=[.one (L.bx 2 (Zau.ls (Zau.mk x63 x61)))]}),(5,{rs:=[.row true 32 x66],ns:=[86],m:=10,cv:=[.one (L.bx 88 x65.ls)]}),(6,{rs:=[oB x67],m:=2}),(11,{rs:=[oI x68],m:=10,cv:=[.one (L.bx 2 (Zau.ls (Zau.mk x63 x61)))]}),(15,{rs:=[oI x69],m:=10,cv:=[.one (L.bx 88 x65.ls)]}),(19,{rs:=[.row true 32 x70],st:=st71,ns:=[100]}),(25,{rs:=[oI x72],st:=st73}),(29,wF),(30,wF),(31,wF),(32,wF),(33,wF),(34,yF),(36,wF),(37,wF),(38,yF),(40,wF),(41,wF),(42,yF)]]) [] 0 [] (t7 (aO c89 c89 c89 c89 c89 c89 eF (aL eF eF eF eF eF)))
    ·obtain rfl:=Zab h43
     exact af fol hE (o3 ++ [.r [(2,{rs:=[.row true 32 x64],ns:=[83],m:=10,cv:=[.one (L.bx 2 (Zau.ls (Zau.mk x63 x61)))]}),(5,{rs:=[.row true 32 x66],ns:=[86],m:=10,cv:=[.one (L.bx 88 x65.ls)]}),(6,{rs:=[oB x67],m:=2}),(11,{rs:=[oI x68],m:=10,cv:=[.one (L.bx 2 (Zau.ls (Zau.mk x63 x61)))]}),(15,{rs:=[oI x69],m:=10,cv:=[.one (L.bx 88 x65.ls)]}),(19,{rs:=[.row true 32 x70],st:=st71,ns:=[100]}),(24,wF),(25,wF),(26,wF),(27,yF),(29,wF),(30,wF),(31,wF),(32,wF),(33,wF),(34,yF),(36,wF),(37,wF),(38,yF),(40,wF),(41,wF),(42,yF)]]) [] 0 [] (t6 (aO c87 c87 c87 c87 eF eF eF (aO eF eF eF eF eF eF eF (aI eF eF))))
   ·obtain rfl:=Zab h40
    exact af fol hE (o3 ++ [.r [(2,{rs:=[.row true 32 x64],ns:=[83],m:=10,cv:=[.one (L.bx 2 (Zau.ls (Zau.mk x63 x61)))]}),(5,{rs:=[.row true 32 x66],ns:=[86],m:=10,cv:=[.one (L.bx 88 x65.ls)]}),(6,{rs:=[oB x67],m:=2}),(11,{rs:=[oI x68],m:=10,cv:=[.one (L.bx 2 (Zau.ls (Zau.mk x63 x61)))]}),(15,{rs:=[oI x69],m:=10,cv:=[.one (L.bx 88 x65.ls)]}),(19,wF),(20,wF),(21,wF),(22,yF),(24,wF),(25,wF),(26,wF),(27,yF),(29,wF),(30,wF),(31,wF),(32,wF),(33,wF),(34,yF),(36,wF),(37,wF),(38,yF),(40,wF),(41,wF),(42,yF)]]) [] 0 [] (t5 (aO c85 c85 c85 c85 eF eF eF (aO eF eF eF eF eF eF eF (aM eF eF eF eF eF eF))))
  ·obtain rfl:=Zab h36
   exact af fol hE (o3 ++ [.r [(2,{rs:=[.row true 32 x64],ns:=[83],m:=10,cv:=[.one (L.bx 2 (Zau.ls (Zau.mk x63 x61)))]}),(5,{rs:=[.row true 32 x66],ns:=[86],m:=10,cv:=[.one (L.bx 88 x65.ls)]}),(6,{rs:=[oB x67],m:=2}),(8,wF),(9,wF),(10,wF),(11,wF),(12,wF),(13,wF),(14,wF),(15,wF),(16,wF),(17,yF),(19,wF),(20,wF),(21,wF),(22,yF),(24,wF),(25,wF),(26,wF),(27,yF),(29,wF),(30,wF),(31,wF),(32,wF),(33,wF),(34,yF),(36,wF),(37,wF),(38,yF),(40,wF),(41,wF),(42,yF)]]) [] 0 [] (t4 (aO c82 c82 c82 c82 c82 c82 c82 (aO c82 c82 c82 eF eF eF eF (aO eF eF eF eF eF eF eF (aO eF eF eF eF eF eF eF (aI eF eF))))))
theorem ZaZ.snd {p_0:Zae} {list_1:LL} {at_2 tip_3:Int} {names_4:LL} {st:LL} {r:Bool×LL} (h:ZaZ N p_0 list_1 at_2 tip_3 names_4 st=some r):Snd Tryz.prog 8 [.agg p_0.ls,.one (L.sl 69 list_1),oI at_2,oI tip_3,.one (L.sl 32 names_4)] st (ZaZ.rs r) r.2:=
 sO ZaZ.B Tryz.func8 fun g0 w0 R hE=>by
  unfold ZaZ at h
  obtain ⟨x1,c1,h52⟩:=Zad h
  let o4:List PS:=[.r [],.r [(0,q1 [oB x1])]]
  have t9 {Q:Prop} (q:Q):=aI (Zdx.snd c1) q
  refine iteB h52 (fun c2 h53=>?_) (fun c2 h54=>?_)
  ·obtain rfl:=Zab h53
   exact af fol hE (o4 ++ [.c true,.r []]) [] 0 [] (t9 c2)
  ·obtain ⟨x2,c3,h55⟩:=Zad h54
   have t10 {Q:Prop} (q:Q):=t9 (aJ c2 (ZbV.snd c3) q)
   refine iteB h55 (fun c4 h56=>?_) (fun c4 h57=>?_)
   ·obtain rfl:=Zab h56
    exact af fol hE (o4 ++ [.c false,.r [(2,q1 [oB x2]),(4,wF),(5,wF),(6,wF)],.c true,.r []]) [] 0 [] (t10 (aL c4 c4 c4 c4 eT))
   ·let o5:List PS:=o4 ++ [.c false,.r [(2,q1 [oB x2]),(7,yF)]]
    refine iteB h57 (fun c5 h58=>?_) (fun c5 h59=>?_)
    ·obtain rfl:=Zab h58
     exact af fol hE (o5 ++ [.c true,.r []]) [] 0 [] (t10 (aL c4 c4 c4 c4 c5))
    ·obtain ⟨⟨x3,x4,st5⟩,c6,h60⟩:=Zad h59
     obtain ⟨i6,rfl,h61⟩:=Zad h60
     obtain ⟨x7,c8,h62⟩:=Zbv h61
     exact aq fol (o5 ++ [.c false,.r [(2,{rs:=[.one (L.ptr x3),.one (L.ptr (some i6))],st:=st5})],.r [(3,{oc:=x7.lo})]]) [2,3,4,5,11,12,37,38] [5] (t10 (aN c4 c4 c4 c4 c5 (ZbP.snd c6) c8)) (At.loop N (At.loopN (fun y:(Option Nat)×Int=>ZaZ.p1.S at_2 tip_3 names_4 y.1 i6 x7 y.2 p_0 st5) (fun c J hc y h=>ZaZ.p1_ok (t_42:=y.1) (v8:=y.2) h hE (fun t_42 v8=>hc (t_42,v8))) N (x3,0) h62))
end Go.Dn.F
