/- Contracts of functions of the program, as shallow functions, and their proofs. -/
import Derived.Test.YtcgdbcfflaphhaaGreatDoorFba
set_option linter.all false
set_option maxRecDepth 100000
namespace Go.Dn.F
open Go.Proofs
variable {N:Nat} {g0:G} {w0:World} {R:Exit→Act→World→Prop}
noncomputable def ZaP.B:Code:=Tryz.f216.body.getD .skip
noncomputable def ZaP.rs (r:Int):List CV:=[oI r]
noncomputable def ZaP.p2 (N:Nat) (size_5 word_6:Int):Option Int:=
 some (bitsOf .or .i64 (shlOf .i64 size_5 24) word_6)
noncomputable def ZaP.p1 (N:Nat) (x1 word_4:Int):Option Int:=
 if ((bitsOf .and .i64 word_4 8388608) != 0)=true then
  ZaP.p2 N (w64 ((w64 (Int.tdiv (w64 (x1+7)) 8))+1)) (shrOf .i64 word_4 8)
 else
 ZaP.p2 N (w64 (Int.tdiv (w64 (x1+7)) 8)) word_4
noncomputable def ZaP (N:Nat) (n_0_0:List Int):Option Int:=
 optE (Zcj N n_0_0) fun x1=>
 if (decide ((w64 (Int.tdiv (w64 (x1+7)) 8))≤3))=true then
  optE (Zbx N n_0_0 (w64 (8*(w64 (3-(w64 (Int.tdiv (w64 (x1+7)) 8))))))) fun x2=>
  ZaP.p1 N x1 (w64 (List.getD x2 0 0))
 else
 optE (Zbd N n_0_0 (w64 (8*(w64 ((w64 (Int.tdiv (w64 (x1+7)) 8))-3))))) fun x3=>
 ZaP.p1 N x1 (w64 (List.getD x3 0 0))
noncomputable def ZaP.p2.S (size_5 word_6:Int) (st:LL):S:=mkS 36 [(3,sI size_5),(4,sI word_6)] [] st
noncomputable def ZaP.p1.S (x1 word_4:Int) (st:LL):S:=mkS 36 [(3,sI (w64 (Int.tdiv (w64 (x1+7)) 8))),(4,sI word_4)] [] st
theorem ZaP.p2_ok {size_5 word_6 st r} (h:ZaP.p2 N size_5 word_6=some r) (hE:En Tryz.f216 g0 w0 (ZaP.rs r) st R):At g0 w0 (ZaP.p2.S size_5 word_6 st) (XK Tryz.prog R [.c (csub ZaP.B [1,1,1,1,1])]):=by
 unfold ZaP.p2 at h
 obtain rfl:=Zab h
 exact af fol hE [.r []] [] 0 [] (leI 0 24)
theorem ZaP.p1_ok {x1 word_4 st r} (h:ZaP.p1 N x1 word_4=some r) (hE:En Tryz.f216 g0 w0 (ZaP.rs r) st R):At g0 w0 (ZaP.p1.S x1 word_4 st) (XK Tryz.prog R [.c (csub ZaP.B [1,1,1,1])]):=by
 unfold ZaP.p1 at h
 refine iteB h (fun c5 h1=>?_) (fun c5 h2=>?_)
 ·exact aq fol [.r [],.c true,.r [],.r [],.s 1] [3,4] [] (aI c5 (leI 0 8)) (ZaP.p2_ok h1 hE)
 ·exact aq fol [.r [],.c false,.s 1] [3,4] [] c5 (ZaP.p2_ok h2 hE)
theorem ZaP.snd {n_0_0:List Int} {r:Int} (h:ZaP N n_0_0=some r):SndQ Tryz.prog 216 [.agg [L.arr .u64 4 n_0_0]] (ZaP.rs r):=fun st=>
 sO ZaP.B Tryz.func216 fun g0 w0 R hE=>by
  unfold ZaP at h
  obtain ⟨x1,c1,h3⟩:=Zac h
  let o1:List PS:=[.r [],.r [(1,q1 [oI x1])],.r [],.r []]
  refine iteB h3 (fun c2 h4=>?_) (fun c2 h5=>?_)
  ·obtain ⟨x2,c3,h6⟩:=Zac h4
   exact aq fol (o1 ++ [.c true,.r [(4,q1 [.agg [L.arr .u64 4 x2]])],.s 1]) [3,4] [] (aM (Zcj.snd c1) (neI 8) c2 (Zbx.snd c3) (leI 0 0) (ltI 0 4)) (ZaP.p1_ok h6 hE)
  ·obtain ⟨x3,c4,h7⟩:=Zac h5
   exact aq fol (o1 ++ [.c false,.r [(4,q1 [.agg [L.arr .u64 4 x3]])],.s 1]) [3,4] [] (aM (Zcj.snd c1) (neI 8) c2 (Zbd.snd c4) (leI 0 0) (ltI 0 4)) (ZaP.p1_ok h7 hE)
noncomputable def Zbu.B:Code:=Tryz.f189.body.getD .skip
noncomputable def Zbu.rs (r:Int):List CV:=[oI r]
noncomputable def Zbu.p1 (N:Nat) (n_17:List Int):Option Int:=
 optE (ZaP N n_17) fun x18=>
 some x18
noncomputable def Zbu (N:Nat) (p_0:Zae) (bits_1 from_2 to_3:Int):Option Int:=
 optE (Zcg N bits_1 p_0.Limit) fun (x1,x2)=>
 optE (ZdM N p_0) fun x3=>
 if (!x3)=true then
  some p_0.Limit
 else
 if (!x2)=true then
  some p_0.Limit
 else
 optE (Zee N p_0 from_2 to_3) fun x4=>
 optE (Zce N x1 (v64 (w64 (p_0.Interval*p_0.Spacing)))) fun (x5,x6)=>
 optE (ZbN N x5 (v64 (x4))) fun (x7,x8)=>
 chk ((v64 (w64 (p_0.Interval*p_0.Spacing)))≠0)<|
 optE (ZcQ N (v64 (Int.tdiv (v64 (x6*(v64 (x4)))) (v64 (w64 (p_0.Interval*p_0.Spacing)))))) fun x9=>
 optE (ZbI N x7 x9) fun (x10,x11)=>
 optE (Zcg N p_0.Limit p_0.Limit) fun (x12,x13)=>
 if x8=true then
  some p_0.Limit
 else
 if x11=true then
  some p_0.Limit
 else
 optE (ZcJ N x12 x10) fun x14=>
 if x14=true then
  some p_0.Limit
 else
 optE (ZcC N x10) fun x15=>
 if x15=true then
  optE (ZcQ N 1) fun x16=>
  Zbu.p1 N x16
 else
 Zbu.p1 N x10
noncomputable def Zbu.p1.S (n_17:List Int) (st:LL):S:=mkS 94 [(15,sA 15)] [(15,.cells [L.arr .u64 4 n_17])] st
theorem Zbu.p1_ok {n_17 st r} (h:Zbu.p1 N n_17=some r) (hE:En Tryz.f189 g0 w0 (Zbu.rs r) st R):At g0 w0 (Zbu.p1.S n_17 st) (XK Tryz.prog R [.c (csub Zbu.B [1,1,1,1,1,1,1,1,1,1,1])]):=by
 unfold Zbu.p1 at h
 obtain ⟨x18,c19,h1⟩:=Zac h
 obtain rfl:=Zab h1
 exact af fol hE [.r [(1,q1 [oI x18])]] [] 0 [] (ZaP.snd c19)
theorem Zbu.snd {p_0:Zae} {bits_1 from_2 to_3:Int} {r:Int} (h:Zbu N p_0 bits_1 from_2 to_3=some r):SndQ Tryz.prog 189 [.agg p_0.ls,oI bits_1,oI from_2,oI to_3] (Zbu.rs r):=fun st=>
 sO Zbu.B Tryz.func189 fun g0 w0 R hE=>by
  unfold Zbu at h
  obtain ⟨⟨x1,x2⟩,c1,h2⟩:=Zac h
  obtain ⟨x3,c2,h3⟩:=Zac h2
  let o1:List PS:=[.r [],.r [(3,q1 [.agg [L.arr .u64 4 x1],oB x2])]]
  have t1 {Q:Prop} (q:Q):=aJ (Zcg.snd c1) (ZdM.snd c2) q
  refine iteB h3 (fun c3 h4=>?_) (fun c3 h5=>?_)
  ·obtain rfl:=Zab h4
   exact af fol hE (o1 ++ [.r [(1,q1 [oB x3]),(4,wF),(5,wF)],.c true,.r []]) [] 0 [] (t1 (aK (not_false (Zbe c3)) (not_false (Zbe c3)) (not_false (Zbe c3)) eT))
  ·let o2:List PS:=o1 ++ [.r [(1,q1 [oB x3]),(6,yF)]]
   have t2 {Q:Prop} (q:Q):=t1 (aK (not_true (ZaV c3)) (not_true (ZaV c3)) (not_true (ZaV c3)) q)
   refine iteB h5 (fun c4 h6=>?_) (fun c4 h7=>?_)
   ·obtain rfl:=Zab h6
    exact af fol hE (o2 ++ [.c true,.r []]) [] 0 [] (t2 c4)
   ·obtain ⟨x4,c5,h8⟩:=Zac h7
    obtain ⟨⟨x5,x6⟩,c6,h9⟩:=Zac h8
    obtain ⟨⟨x7,x8⟩,c7,h10⟩:=Zac h9
    obtain ⟨c8,h11⟩:=ZaS h10
    obtain ⟨x9,c9,h12⟩:=Zac h11
    obtain ⟨⟨x10,x11⟩,c10,h13⟩:=Zac h12
    obtain ⟨⟨x12,x13⟩,c11,h14⟩:=Zac h13
    let o3:List PS:=o2 ++ [.c false,.r [],.r [(3,q1 [oI x4])],.r [(2,q1 [.agg [L.arr .u64 4 x5],.one (L.int .u64 x6)])],.r [(2,q1 [.agg [L.arr .u64 4 x7],oB x8])],.d {ds:=[(6,q1 [.agg [L.arr .u64 4 x9]]),(7,q1 [.agg [L.arr .u64 4 x10],oB x11])],hv:=2048,Hs:=[2048]},.r [(4,q1 [.agg [L.arr .u64 4 x12],oB x13])]]
    have t3 {Q:Prop} (q:Q):=t2 (aO c4 (Zee.snd c5) (Zce.snd c6) (ZbN.snd c7) c8 (ZcQ.snd c9) (ZbI.snd c10) (aI (Zcg.snd c11) q))
    refine iteB h14 (fun c12 h15=>?_) (fun c12 h16=>?_)
    ·obtain rfl:=Zab h15
     exact afd fol hE (o3 ++ [.r [(2,wF),(5,wF),(6,wF),(7,wF)],.c true,.r []]) [] 0 [] (t3 (aN c12 c12 eT eT eT eT eT))
    ·refine iteB h16 (fun c13 h17=>?_) (fun c13 h18=>?_)
     ·obtain rfl:=Zab h17
      exact afd fol hE (o3 ++ [.r [(3,yF),(5,wF),(6,wF),(7,wF)],.c true,.r []]) [] 0 [] (t3 (aN c12 c12 c13 c13 c13 c13 eT))
     ·obtain ⟨x14,c14,h19⟩:=Zac h18
      let o4:List PS:=o3 ++ [.r [(3,yF),(7,q1 [oB x14]),(8,yF)]]
      have t4 {Q:Prop} (q:Q):=t3 (aO c12 c12 c13 c13 c13 (ZcJ.snd c14) c13 q)
      refine iteB h19 (fun c15 h20=>?_) (fun c15 h21=>?_)
      ·obtain rfl:=Zab h20
       exact afd fol hE (o4 ++ [.c true,.r []]) [] 0 [] (t4 c15)
      ·obtain ⟨x15,c16,h22⟩:=Zac h21
       let o5:List PS:=o4 ++ [.c false,.r [(1,q1 [oB x15])]]
       refine iteB h22 (fun c17 h23=>?_) (fun c17 h24=>?_)
       ·obtain ⟨x16,c18,h25⟩:=Zac h23
        exact aqd fol (o5 ++ [.c true,.r [(0,q1 [.agg [L.arr .u64 4 x16]])],.s 1]) [15] [15] (t4 (aK c15 (ZcC.snd c16) c17 (ZcQ.snd c18))) (Zbu.p1_ok h25 hE)
       ·exact aqd fol (o5 ++ [.c false,.s 1]) [15] [15] (t4 (aJ c15 (ZcC.snd c16) c17)) (Zbu.p1_ok h24 hE)
noncomputable def Zef.B:Code:=Tryz.f149.body.getD .skip
noncomputable def Zef.rs (r:Int):List CV:=[oI r]
noncomputable def Zef (N:Nat) (p_0:Zae) (at_1:Zdc) (time_2:Int):Option Int:=
 if (decide (at_1.Height≤0))=true then
  some p_0.Limit
 else
 optE (ZcM N p_0 at_1.Height) fun x1=>
 if x1=true then
  optE (Zbu N p_0 at_1.Bits at_1.First at_1.Time) fun x2=>
  some x2
 else
 if (!p_0.Easy)=true then
  some at_1.Bits
 else
 if (decide ((w64 (time_2-at_1.Time))>(w64 (2*p_0.Spacing))))=true then
  some p_0.Limit
 else
 some at_1.Hard
theorem Zef.snd {p_0:Zae} {at_1:Zdc} {time_2:Int} {r:Int} (h:Zef N p_0 at_1 time_2=some r):SndQ Tryz.prog 149 [.agg p_0.ls,.agg at_1.ls,oI time_2] (Zef.rs r):=fun st=>
 sO Zef.B Tryz.func149 fun g0 w0 R hE=>by
  unfold Zef at h
  refine iteB h (fun c1 h1=>?_) (fun c1 h2=>?_)
  ·obtain rfl:=Zab h1
   exact af fol hE [.r [],.r [],.c true,.r []] [] 0 [] c1
  ·obtain ⟨x1,c2,h3⟩:=Zac h2
   let o1:List PS:=[.r [],.r [],.c false,.r [(3,q1 [oB x1])]]
   have t1 {Q:Prop} (q:Q):=aJ c1 (ZcM.snd c2) q
   refine iteB h3 (fun c3 h4=>?_) (fun c3 h5=>?_)
   ·obtain ⟨x2,c4,h6⟩:=Zac h4
    obtain rfl:=Zab h6
    exact af fol hE (o1 ++ [.c true,.r [(7,q1 [oI x2])]]) [] 0 [] (t1 (aI c3 (Zbu.snd c4)))
   ·refine iteB h5 (fun c5 h7=>?_) (fun c5 h8=>?_)
    ·obtain rfl:=Zab h7
     exact af fol hE (o1 ++ [.c false,.r [],.c true,.r []]) [] 0 [] (t1 (aI c3 c5))
    ·refine iteB h8 (fun c6 h9=>?_) (fun c6 h10=>?_)
     ·obtain rfl:=Zab h9
      exact af fol hE (o1 ++ [.c false,.r [],.c false,.r [],.c true,.r []]) [] 0 [] (t1 (aJ c3 c5 c6))
     ·obtain rfl:=Zab h10
      exact af fol hE (o1 ++ [.c false,.r [],.c false,.r [],.c false,.r []]) [] 0 [] (t1 (aJ c3 c5 c6))
noncomputable def Zbq.B:Code:=Tryz.f217.body.getD .skip
noncomputable def Zbq.rs (r:(List Int)):List CV:=[.agg [L.arr .u64 4 r]]
noncomputable def Zbq.p1 (N:Nat) (h_0_0:List Int) (c1_:(Int×(List Int))→Option (List Int)):(Int×(List Int))→Option (List Int):=fun (v1,out_2)=>
 if (decide (v1<32))=true then
  chk (0≤v1)<|
  chk (0≤(w64 (Int.tdiv v1 8)))<|
  chk ((w64 (Int.tdiv v1 8))<4)<|
  chk (0≤(w64 (8*(Int.tmod v1 8))))<|
  c1_ (w64 (v1+1),List.set out_2 (Int.toNat (w64 (Int.tdiv v1 8))) (bitsOf .or .u64 (List.getD out_2 (Int.toNat (w64 (Int.tdiv v1 8))) 0) (shlOf .u64 (v64 (List.getD h_0_0 (Int.toNat v1) 0)) (w64 (8*(Int.tmod v1 8))))))
 else
 some out_2
noncomputable def Zbq (N:Nat) (h_0_0:List Int):Option (List Int):=
 loopN (Zbq.p1 N h_0_0) N (0,List.replicate 4 0)
noncomputable def Zbq.p1.S (h_0_0:List Int) (v1:Int) (out_2:List Int) (st:LL):S:=mkS 25 [(2,sA 2),(3,sA 3),(6,.agg [.l (L.arr .u8 32 h_0_0)]),(7,sI v1)] [(2,.cells [L.arr .u64 4 (List.replicate 4 0)]),(3,.cells [L.arr .u64 4 out_2])] st
theorem Zbq.p1_ok {h_0_0 v1 out_2 st r c1_ J1} (h:Zbq.p1 N h_0_0 c1_ (v1,out_2)=some r) (hE:En Tryz.f217 g0 w0 (Zbq.rs r) st R) (hc1 : ∀v1 out_2,c1_ (v1,out_2)=some r→At g0 w0 (Zbq.p1.S h_0_0 v1 out_2 st) J1):At g0 w0 (Zbq.p1.S h_0_0 v1 out_2 st) (XK Tryz.prog R (.c (csub Zbq.B [1,1,0,1,0,0]) :: .h J1 :: [.b 0,.c (csub Zbq.B [1,1,1])])):=by
 unfold Zbq.p1 at h
 refine iteB h (fun c6 h1=>?_) (fun c6 h2=>?_)
 ·obtain ⟨c7,c8,c9,c10,h3⟩:=ck4 h1
  exact and_ fol [.r [],.c true,.r [],.d {ds:=[],hv:=4096,Hs:=[4096]},.r []] [2,3,6,7] [2,3] (aO c6 c7 (oD c6) (neI 8) c8 c9 (neI 8) (aJ c10 c8 c9)) (hc1 (w64 (v1+1)) (List.set out_2 (Int.toNat (w64 (Int.tdiv v1 8))) (bitsOf .or .u64 (List.getD out_2 (Int.toNat (w64 (Int.tdiv v1 8))) 0) (shlOf .u64 (v64 (List.getD h_0_0 (Int.toNat v1) 0)) (w64 (8*(Int.tmod v1 8)))))) h3)
 ·obtain rfl:=Zab h2
  exact af fol hE [.r [],.c false,.r []] [] 0 [] c6
theorem Zbq.snd {h_0_0:List Int} {r:(List Int)} (h:Zbq N h_0_0=some r):SndQ Tryz.prog 217 [.agg [L.arr .u8 32 h_0_0]] (Zbq.rs r):=fun st=>
 sO Zbq.B Tryz.func217 fun g0 w0 R hE=>by
  unfold Zbq at h
  exact aq fol [.r [],.r [],.r []] [2,3,6,7] [2,3] trivial (At.loop N (At.loopN (fun y:Int×(List Int)=>Zbq.p1.S h_0_0 y.1 y.2 st) (fun c J hc y h=>Zbq.p1_ok (v1:=y.1) (out_2:=y.2) h hE (fun v1 out_2=>hc (v1,out_2))) N (0,List.replicate 4 0) h))
noncomputable def ZcT.B:Code:=Tryz.f190.body.getD .skip
noncomputable def ZcT.rs (r:Bool):List CV:=[oB r]
noncomputable def ZcT (N:Nat) (h_0_0 target_1_0:List Int):Option Bool:=
 optE (Zbq N h_0_0) fun x1=>
 optE (ZcJ N target_1_0 x1) fun x2=>
 some (!x2)
theorem ZcT.snd {h_0_0 target_1_0:List Int} {r:Bool} (h:ZcT N h_0_0 target_1_0=some r):SndQ Tryz.prog 190 [.agg [L.arr .u8 32 h_0_0],.agg [L.arr .u64 4 target_1_0]] (ZcT.rs r):=fun st=>
 sO ZcT.B Tryz.func190 fun g0 w0 R hE=>by
  unfold ZcT at h
  obtain ⟨x1,c1,h1⟩:=Zac h
  obtain ⟨x2,c2,h2⟩:=Zac h1
  obtain rfl:=Zab h2
  exact afd fol hE [.r [],.d {ds:=[(2,q1 [.agg [L.arr .u64 4 x1]]),(3,q1 [oB x2])],hv:=0,Hs:=[]}] [] 0 [] (aI (Zbq.snd c1) (ZcJ.snd c2))
noncomputable def Zdy.B:Code:=Tryz.f150.body.getD .skip
noncomputable def Zdy.rs (r:Int):List CV:=[oI r]
noncomputable def Zdy (N:Nat) (p_0:Zae) (h_1:Zai):Option Int:=
 optE (Zck N h_1) fun x1=>
 if (!x1)=true then
  some 1
 else
 optE (Zcg N h_1.Bits p_0.Limit) fun (x2,x3)=>
 if (!x3)=true then
  some 4
 else
 optE (Zdu N h_1) fun x4=>
 optE (ZcT N x4 x2) fun x5=>
 if (!x5)=true then
  some 4
 else
 some 0
theorem Zdy.snd {p_0:Zae} {h_1:Zai} {r:Int} (h:Zdy N p_0 h_1=some r):SndQ Tryz.prog 150 [.agg p_0.ls,.agg h_1.ls] (Zdy.rs r):=fun st=>
 sO Zdy.B Tryz.func150 fun g0 w0 R hE=>by
  unfold Zdy at h
  obtain ⟨x1,c1,h1⟩:=Zac h
  let o1:List PS:=[.r [],.r [(1,q1 [oB x1])]]
  have t1 {Q:Prop} (q:Q):=aI (Zck.snd c1) q
  refine iteB h1 (fun c2 h2=>?_) (fun c2 h3=>?_)
  ·obtain rfl:=Zab h2
   exact af fol hE (o1 ++ [.c true,.r []]) [] 0 [] (t1 c2)
  ·obtain ⟨⟨x2,x3⟩,c3,h4⟩:=Zac h3
   let o2:List PS:=o1 ++ [.c false,.r [(4,q1 [.agg [L.arr .u64 4 x2],oB x3])]]
   have t2 {Q:Prop} (q:Q):=t1 (aJ c2 (Zcg.snd c3) q)
   refine iteB h4 (fun c4 h5=>?_) (fun c4 h6=>?_)
   ·obtain rfl:=Zab h5
    exact afd fol hE (o2 ++ [.d {ds:=[(3,wF),(4,wF),(5,wF),(6,wF),(7,wF)],hv:=0,Hs:=[]},.c true,.r []]) [] 0 [] (t2 (aN (not_false (Zbe c4)) (not_false (Zbe c4)) (not_false (Zbe c4)) (not_false (Zbe c4)) (not_false (Zbe c4)) (not_false (Zbe c4)) eT))
   ·obtain ⟨x4,c5,h7⟩:=Zac h6
    obtain ⟨x5,c6,h8⟩:=Zac h7
    let o3:List PS:=o2 ++ [.d {ds:=[(4,q1 [.agg [L.arr .u8 32 x4]]),(6,q1 [oB x5]),(8,yF)],hv:=0,Hs:=[]}]
    have t3 {Q:Prop} (q:Q):=t2 (aO (not_true (ZaV c4)) (not_true (ZaV c4)) (Zdu.snd c5) (not_true (ZaV c4)) (not_true (ZaV c4)) (ZcT.snd c6) (not_true (ZaV c4)) (aI (not_true (ZaV c4)) q))
    refine iteB h8 (fun c7 h9=>?_) (fun c7 h10=>?_)
    ·obtain rfl:=Zab h9
     exact afd fol hE (o3 ++ [.c true,.r []]) [] 0 [] (t3 c7)
    ·obtain rfl:=Zab h10
     exact afd fol hE (o3 ++ [.c false,.r []]) [] 0 [] (t3 c7)
noncomputable def Zeg.B:Code:=Tryz.f162.body.getD .skip
noncomputable def Zeg.rs (r:Int):List CV:=[oI r]
noncomputable def Zeg (N:Nat) (times_0:LL):Option Int:=
 chk (0≤(if (11:Int)<(len times_0) then 11 else (len times_0)))<|
 chk ((Int.toNat (if (11:Int)<(len times_0) then 11 else (len times_0)))≤(List.length times_0))<|
 optE (Zbt N (List.take (Int.toNat (if (11:Int)<(len times_0) then 11 else (len times_0))) (List.drop 0 times_0))) fun x1=>
 if ((len x1)==0)=true then
  some 0
 else
 chk (isI x1=true)<|
 chk (List.length x1<4611686018427387904)<|
 chk (0≤(w64 (Int.tdiv (len x1) 2)))<|
 chk ((w64 (Int.tdiv (len x1) 2))<(len x1))<|
 getE ((sortR x1)[0+(Int.toNat (w64 (Int.tdiv (len x1) 2)))]?) ZcI fun x2=>
 some x2
theorem Zeg.snd {times_0:LL} {r:Int} (h:Zeg N times_0=some r):SndQ Tryz.prog 162 [.one (L.sl 1 times_0)] (Zeg.rs r):=fun st=>
 sO Zeg.B Tryz.func162 fun g0 w0 R hE=>by
  unfold Zeg at h
  obtain ⟨c1,c2,h1⟩:=ck2 h
  obtain ⟨x1,c3,h2⟩:=Zac h1
  let o1:List PS:=[.r [],.r [(5,{rs:=[.row true 1 x1],ns:=[9],m:=1})],.r []]
  have t1 {Q:Prop} (q:Q):=aL c1 (Nat.zero_le (Int.toNat (if (11:Int)<(len times_0) then 11 else (len times_0)))) c2 (Zbt.snd c3) q
  refine iteB h2 (fun c4 h3=>?_) (fun c4 h4=>?_)
  ·obtain rfl:=Zab h3
   exact af fol hE (o1 ++ [.c true,.r []]) [] 0 [] (t1 c4)
  ·obtain ⟨c5,c6,c7,c8,h5⟩:=ck4 h4
   obtain ⟨x2,c9,h6⟩:=Zcl h5
   obtain rfl:=Zab h6
   exact af fol hE (o1 ++ [.c false,.r [(1,{m:=7})],.r [(5,{oe:=[L.int .i64 x2]})]]) [] 0 [] (t1 (aO c4 z0 (@rfl _ (List.length x1):(List.length x1)=(List.length x1)) c5 c6 slices_Sort_int.snd (neI 2) (aJ c7 c8 c9)))
noncomputable def Zdd.B:Code:=Tryz.f151.body.getD .skip
noncomputable def Zdd.rs (r:Bool):List CV:=[oB r]
noncomputable def Zdd (N:Nat) (time_0:Int) (times_1:LL):Option Bool:=
 if ((len times_1)==0)=true then
  some true
 else
 optE (Zeg N times_1) fun x1=>
 some (decide (time_0>x1))
theorem Zdd.snd {time_0:Int} {times_1:LL} {r:Bool} (h:Zdd N time_0 times_1=some r):SndQ Tryz.prog 151 [oI time_0,.one (L.sl 1 times_1)] (Zdd.rs r):=fun st=>
 sO Zdd.B Tryz.func151 fun g0 w0 R hE=>by
  unfold Zdd at h
  refine iteB h (fun c1 h1=>?_) (fun c1 h2=>?_)
  ·obtain rfl:=Zab h1
   exact af fol hE [.r [],.r [(4,wF),(5,wF),(6,wF),(7,wF)]] [] 0 [] (aL c1 c1 c1 c1 c1)
  ·obtain ⟨x1,c2,h3⟩:=Zac h2
   obtain rfl:=Zab h3
   exact af fol hE [.r [],.r [(6,q1 [oI x1]),(8,yF)]] [] 0 [] (aM c1 c1 c1 (Zeg.snd c2) c1 c1)
noncomputable def Zdz.B:Code:=Tryz.f152.body.getD .skip
noncomputable def Zdz.rs (r:Bool):List CV:=[oB r]
noncomputable def Zdz (N:Nat) (time_0 now_1 future_2:Int):Option Bool:=
 if (decide (future_2≥0))=true then
  if (decide (time_0≤now_1))=true then
   some true
  else
  some (decide ((w64 (time_0-now_1))≤future_2))
 else
 some false
theorem Zdz.snd {time_0 now_1 future_2:Int} {r:Bool} (h:Zdz N time_0 now_1 future_2=some r):SndQ Tryz.prog 152 [oI time_0,oI now_1,oI future_2] (Zdz.rs r):=fun st=>
 sO Zdz.B Tryz.func152 fun g0 w0 R hE=>by
  unfold Zdz at h
  refine iteB h (fun c1 h1=>?_) (fun c1 h2=>?_)
  ·refine iteB h1 (fun c2 h3=>?_) (fun c2 h4=>?_)
   ·obtain rfl:=Zab h3
    exact af fol hE [.r [],.r [(7,wF),(8,wF),(9,wF),(10,wF),(11,wF)]] [] 0 [] (aO c1 c1 c1 c1 c2 c2 c2 (aL c2 c2 c1 c2 c1))
   ·obtain rfl:=Zab h4
    exact af fol hE [.r [],.r [(12,yF)]] [] 0 [] (aO c1 c1 c1 c1 c2 c2 c2 (aL c2 c2 c1 c2 c1))
  ·obtain rfl:=Zab h2
   exact af fol hE [.r [],.r [(3,wF),(4,wF),(5,wF),(6,wF),(12,wF),(13,yF)]] [] 0 [] (aM c1 c1 c1 c1 c1 c1)
noncomputable def ZaX.B:Code:=Tryz.f153.body.getD .skip
noncomputable def ZaX.rs (r:Int):List CV:=[oI r]
noncomputable def ZaX.p2 (N:Nat) (c1_:(Int×Int)→Option Int) (height_0 least_4:Int) (gates_1:LL) (v2:Int):Option Int:=
 c1_ (least_4,w64 (v2+1))
noncomputable def ZaX.p1 (N:Nat) (height_0:Int) (gates_1:LL) (c1_:(Int×Int)→Option Int):(Int×Int)→Option Int:=fun (least_1,v2)=>
 if (decide (v2<(len gates_1)))=true then
  chk (0≤v2)<|
  getE (gates_1[Int.toNat v2]?) ZdT fun x3=>
  if (decide (height_0≥x3.Height))=true then
   ZaX.p2 N c1_ height_0 (if x3.Version>least_1 then x3.Version else least_1) gates_1 v2
  else
  ZaX.p2 N c1_ height_0 least_1 gates_1 v2
 else
 some least_1
noncomputable def ZaX (N:Nat) (height_0:Int) (gates_1:LL):Option Int:=
 loopN (ZaX.p1 N height_0 gates_1) N ((-2147483648),0)
noncomputable def ZaX.p2.S (height_0 least_4:Int) (gates_1:LL) (v2:Int) (st:LL):S:=mkS 24 [(0,sI height_0),(5,sI least_4),(8,sV 2 gates_1),(9,sI (len gates_1)),(10,sI v2)] [] st
noncomputable def ZaX.p1.S (height_0 least_1:Int) (gates_1:LL) (v2:Int) (st:LL):S:=mkS 24 [(0,sI height_0),(5,sI least_1),(8,sV 2 gates_1),(9,sI (len gates_1)),(10,sI v2)] [] st
theorem ZaX.p2_ok {height_0 least_4 gates_1 v2 st r c1_ J1} (h:ZaX.p2 N c1_ height_0 least_4 gates_1 v2=some r) (hE:En Tryz.f153 g0 w0 (ZaX.rs r) st R) (hc1 : ∀least_1 v2,c1_ (least_1,v2)=some r→At g0 w0 (ZaX.p1.S height_0 least_1 gates_1 v2 st) J1):At g0 w0 (ZaX.p2.S height_0 least_4 gates_1 v2 st) (XK Tryz.prog R [.c (csub ZaX.B [1,1,0,1,0,0,1,1,1]),.h J1,.b 0,.c (csub ZaX.B [1,1,1])]):=by
 unfold ZaX.p2 at h
 exact an fol [.r []] [0,5,8,9,10] [] trivial (hc1 least_4 (w64 (v2+1)) h)
theorem ZaX.p1_ok {height_0 least_1 gates_1 v2 st r c1_ J1} (h:ZaX.p1 N height_0 gates_1 c1_ (least_1,v2)=some r) (hE:En Tryz.f153 g0 w0 (ZaX.rs r) st R) (hc1 : ∀least_1 v2,c1_ (least_1,v2)=some r→At g0 w0 (ZaX.p1.S height_0 least_1 gates_1 v2 st) J1):At g0 w0 (ZaX.p1.S height_0 least_1 gates_1 v2 st) (XK Tryz.prog R (.c (csub ZaX.B [1,1,0,1,0,0]) :: .h J1 :: [.b 0,.c (csub ZaX.B [1,1,1])])):=by
 unfold ZaX.p1 at h
 refine iteB h (fun c1 h1=>?_) (fun c1 h2=>?_)
 ·obtain ⟨c2,h3⟩:=ZaS h1
  obtain ⟨x3,c3,h4⟩:=ZdW h3
  let o1:List PS:=[.r [],.c true,.r [(1,{oe:=x3.ls})],.r []]
  refine iteB h4 (fun c4 h5=>?_) (fun c4 h6=>?_)
  ·exact aq fol (o1 ++ [.c true,.r [],.s 4]) [0,5,8,9,10] [] (aL c1 c2 (oD c1) c3 c4) (ZaX.p2_ok h5 hE hc1)
  ·exact aq fol (o1 ++ [.c false,.s 4]) [0,5,8,9,10] [] (aL c1 c2 (oD c1) c3 c4) (ZaX.p2_ok h6 hE hc1)
 ·obtain rfl:=Zab h2
  exact af fol hE [.r [],.c false,.r []] [] 0 [] c1
theorem ZaX.snd {height_0:Int} {gates_1:LL} {r:Int} (h:ZaX N height_0 gates_1=some r):SndQ Tryz.prog 153 [oI height_0,.one (L.sl 2 gates_1)] (ZaX.rs r):=fun st=>
 sO ZaX.B Tryz.func153 fun g0 w0 R hE=>by
  unfold ZaX at h
  exact aq fol [.r [],.r [],.r []] [0,5,8,9,10] [] trivial (At.loop N (At.loopN (fun y:Int×Int=>ZaX.p1.S height_0 y.1 gates_1 y.2 st) (fun c J hc y h=>ZaX.p1_ok (least_1:=y.1) (v2:=y.2) h hE (fun least_1 v2=>hc (least_1,v2))) N ((-2147483648),0) h))
noncomputable def ZbK.B:Code:=Tryz.f154.body.getD .skip
noncomputable def ZbK.rs (r:Bool):List CV:=[oB r]
noncomputable def ZbK.p1 (N:Nat) (height_0:Int) (checks_2:LL) (id_1_0:List Int) (c1_:Int→Option Bool):Int→Option Bool:=fun v1=>
 if (decide (v1<(len checks_2)))=true then
  chk (0≤v1)<|
  getE (checks_2[Int.toNat v1]?) ZdK fun x2=>
  if (x2.Height==height_0)=true then
   if (!(x2.Id==id_1_0))=true then
    some false
   else
   c1_ (w64 (v1+1))
  else
  c1_ (w64 (v1+1))
 else
 some true
noncomputable def ZbK (N:Nat) (height_0:Int) (id_1_0:List Int) (checks_2:LL):Option Bool:=
 loopN (ZbK.p1 N height_0 checks_2 id_1_0) N 0
noncomputable def ZbK.p1.S (height_0:Int) (checks_2:LL) (v1:Int) (id_1_0:List Int) (st:LL):S:=mkS 26 [(0,sI height_0),(4,sA 4),(9,sV 33 checks_2),(10,sI (len checks_2)),(11,sI v1)] [(4,.cells [L.arr .u8 32 id_1_0])] st
theorem ZbK.p1_ok {height_0 checks_2 v1 id_1_0 st r c1_ J1} (h:ZbK.p1 N height_0 checks_2 id_1_0 c1_ v1=some r) (hE:En Tryz.f154 g0 w0 (ZbK.rs r) st R) (hc1 : ∀v1,c1_ v1=some r→At g0 w0 (ZbK.p1.S height_0 checks_2 v1 id_1_0 st) J1):At g0 w0 (ZbK.p1.S height_0 checks_2 v1 id_1_0 st) (XK Tryz.prog R (.c (csub ZbK.B [1,0,1,0,0]) :: .h J1 :: [.b 0,.c (csub ZbK.B [1,1])])):=by
 unfold ZbK.p1 at h
 refine iteB h (fun c1 h1=>?_) (fun c1 h2=>?_)
 ·obtain ⟨c2,h3⟩:=ZaS h1
  obtain ⟨x2,c3,h4⟩:=ZdQ h3
  let o1:List PS:=[.r [],.c true,.r [(1,{oe:=x2.ls})]]
  refine iteB h4 (fun c4 h5=>?_) (fun c4 h6=>?_)
  ·have t1 {Q:Prop} (q:Q):=aO c1 c2 (oD c1) c3 c4 c4 c4 (aJ c4 c4 q)
   refine iteB h5 (fun c5 h7=>?_) (fun c5 h8=>?_)
   ·obtain rfl:=Zab h7
    exact af fol hE (o1 ++ [.r [],.c true,.r []]) [] 0 [] (t1 c5)
   ·exact an fol (o1 ++ [.r [],.c false,.r []]) [0,4,9,10,11] [4] (t1 c5) (hc1 (w64 (v1+1)) h8)
  ·exact an fol (o1 ++ [.r [(5,wF),(6,wF),(7,wF),(8,wF),(9,yF)],.c false,.r []]) [0,4,9,10,11] [4] (aO c1 c2 (oD c1) c3 c4 c4 c4 (aJ c4 c4 eF)) (hc1 (w64 (v1+1)) h6)
 ·obtain rfl:=Zab h2
  exact af fol hE [.r [],.c false,.r []] [] 0 [] c1
theorem ZbK.snd {height_0:Int} {id_1_0:List Int} {checks_2:LL} {r:Bool} (h:ZbK N height_0 id_1_0 checks_2=some r):SndQ Tryz.prog 154 [oI height_0,.agg [L.arr .u8 32 id_1_0],.one (L.sl 33 checks_2)] (ZbK.rs r):=fun st=>
 sO ZbK.B Tryz.func154 fun g0 w0 R hE=>by
  unfold ZbK at h
  exact aq fol [.r [],.r []] [0,4,9,10,11] [4] trivial (At.loop N (At.loopN (fun y:Int=>ZbK.p1.S height_0 checks_2 y id_1_0 st) (fun c J hc y h=>ZbK.p1_ok h hE (fun v1=>hc v1)) N 0 h))
noncomputable def ZdL.B:Code:=Tryz.f92.body.getD .skip
noncomputable def ZdL.rs (r:Int):List CV:=[oI r]
noncomputable def ZdL (N:Nat) (p_0:Zae) (at_1:ZaM) (h_2:Zai) (now_3:Int):Option Int:=
 optE (Zck N h_2) fun x1=>
 if (!x1)=true then
  some 1
 else
 if (!(h_2.Prev==at_1.Prev))=true then
  some 2
 else
 optE (Zef N p_0 at_1.Point h_2.Time) fun x2=>
 if (h_2.Bits != x2)=true then
  some 3
 else
 optE (Zdy N p_0 h_2) fun x3=>
 if (x3 != 0)=true then
  some 4
 else
 optE (Zdd N h_2.Time at_1.Times) fun x4=>
 if (!x4)=true then
  some 5
 else
 optE (Zdz N h_2.Time now_3 p_0.Future) fun x5=>
 if (!x5)=true then
  some 6
 else
 optE (ZaX N at_1.Point.Height p_0.Gates) fun x6=>
 if (decide (h_2.Version<x6))=true then
  some 7
 else
 optE (Zdu N h_2) fun x7=>
 optE (ZbK N at_1.Point.Height x7 p_0.Checks) fun x8=>
 if (!x8)=true then
  some 8
 else
 some 0
theorem ZdL.snd {p_0:Zae} {at_1:ZaM} {h_2:Zai} {now_3:Int} {r:Int} (h:ZdL N p_0 at_1 h_2 now_3=some r):SndQ Tryz.prog 92 [.agg p_0.ls,.agg at_1.ls,.agg h_2.ls,oI now_3] (ZdL.rs r):=fun st=>
 sO ZdL.B Tryz.func92 fun g0 w0 R hE=>by
  unfold ZdL at h
  obtain ⟨x1,c1,h1⟩:=Zac h
  let o1:List PS:=[.r [],.r [(1,q1 [oB x1])]]
  have t1 {Q:Prop} (q:Q):=aI (Zck.snd c1) q
  refine iteB h1 (fun c2 h2=>?_) (fun c2 h3=>?_)
  ·obtain rfl:=Zab h2
   exact af fol hE (o1 ++ [.c true,.r []]) [] 0 [] (t1 c2)
  ·let o2:List PS:=o1 ++ [.c false,.r []]
   refine iteB h3 (fun c3 h4=>?_) (fun c3 h5=>?_)
   ·obtain rfl:=Zab h4
    exact af fol hE (o2 ++ [.c true,.r []]) [] 0 [] (t1 (aI c2 c3))
   ·obtain ⟨x2,c4,h6⟩:=Zac h5
    let o3:List PS:=o2 ++ [.c false,.d {ds:=[(7,q1 [oI x2])],hv:=0,Hs:=[]}]
    have t2 {Q:Prop} (q:Q):=t1 (aK c2 c3 (Zef.snd c4) q)
    refine iteB h6 (fun c5 h7=>?_) (fun c5 h8=>?_)
    ·obtain rfl:=Zab h7
     exact afd fol hE (o3 ++ [.c true,.r []]) [] 0 [] (t2 c5)
    ·obtain ⟨x3,c6,h9⟩:=Zac h8
     let o4:List PS:=o3 ++ [.c false,.r [(2,q1 [oI x3])]]
     have t3 {Q:Prop} (q:Q):=t2 (aJ c5 (Zdy.snd c6) q)
     refine iteB h9 (fun c7 h10=>?_) (fun c7 h11=>?_)
     ·obtain rfl:=Zab h10
      exact afd fol hE (o4 ++ [.c true,.r []]) [] 0 [] (t3 c7)
     ·obtain ⟨x4,c8,h12⟩:=Zac h11
      let o5:List PS:=o4 ++ [.c false,.r [(4,q1 [oB x4])]]
      have t4 {Q:Prop} (q:Q):=t3 (aJ c7 (Zdd.snd c8) q)
      refine iteB h12 (fun c9 h13=>?_) (fun c9 h14=>?_)
      ·obtain rfl:=Zab h13
       exact afd fol hE (o5 ++ [.c true,.r []]) [] 0 [] (t4 c9)
      ·obtain ⟨x5,c10,h15⟩:=Zac h14
       let o6:List PS:=o5 ++ [.c false,.r [(5,q1 [oB x5])]]
       have t5 {Q:Prop} (q:Q):=t4 (aJ c9 (Zdz.snd c10) q)
       refine iteB h15 (fun c11 h16=>?_) (fun c11 h17=>?_)
       ·obtain rfl:=Zab h16
        exact afd fol hE (o6 ++ [.c true,.r []]) [] 0 [] (t5 c11)
       ·obtain ⟨x6,c12,h18⟩:=Zac h17
        let o7:List PS:=o6 ++ [.c false,.d {ds:=[(7,q1 [oI x6])],hv:=0,Hs:=[]}]
        have t6 {Q:Prop} (q:Q):=t5 (aJ c11 (ZaX.snd c12) q)
        refine iteB h18 (fun c13 h19=>?_) (fun c13 h20=>?_)
        ·obtain rfl:=Zab h19
         exact afd fol hE (o7 ++ [.c true,.r []]) [] 0 [] (t6 c13)
        ·obtain ⟨x7,c14,h21⟩:=Zac h20
         obtain ⟨x8,c15,h22⟩:=Zac h21
         let o8:List PS:=o7 ++ [.c false,.d {ds:=[(4,q1 [.agg [L.arr .u8 32 x7]]),(7,q1 [oB x8])],hv:=0,Hs:=[]}]
         have t7 {Q:Prop} (q:Q):=t6 (aK c13 (Zdu.snd c14) (ZbK.snd c15) q)
         refine iteB h22 (fun c16 h23=>?_) (fun c16 h24=>?_)
         ·obtain rfl:=Zab h23
          exact afd fol hE (o8 ++ [.c true,.r []]) [] 0 [] (t7 c16)
         ·obtain rfl:=Zab h24
          exact afd fol hE (o8 ++ [.c false,.r []]) [] 0 [] (t7 c16)
noncomputable def ZaD.B:Code:=Tryz.f26.body.getD .skip
noncomputable def ZaD.rs (r:Int×Int×Int×LL):List CV:=[oI r.1,oI r.2.1,oI r.2.2.1]
noncomputable def ZaD.p2 (N:Nat) (i2:Nat) (now_2 ahead_12:Int) (is_13:Bool) (h_1:Zai) (st:LL):Option (Int×Int×Int×LL):=
 if (!is_13)=true then
  some ((-1),2,5,st)
 else
 getE (st[i2]?) Zbj fun x14=>
 chk (0≤ahead_12)<|
 chk (ahead_12<(len x14.spots))<|
 getE (x14.spots[0+(Int.toNat ahead_12)]?) ZeS fun x15=>
 optE (ZdL N x14.rules x15 h_1 now_2) fun x16=>
 if (x16 != 0)=true then
  some ((-1),x16,8,st)
 else
 if (decide ((len x14.list)≥x14.room))=true then
  some ((-1),0,6,st)
 else
 optE (Zdi N x14.rules x15 h_1) fun x17=>
 optE (ZaT N (some i2) h_1 ahead_12 x17 st) fun (x18,st19)=>
 some (x18,0,0,st19)
noncomputable def ZaD.p1 (N:Nat) (i2:Nat) (now_2 at_7:Int) (is_8:Bool) (h_1:Zai) (st:LL):Option (Int×Int×Int×LL):=
 if is_8=true then
  some (at_7,0,0,st)
 else
 getE (st[i2]?) Zbj fun x9=>
 optM (mfind x9.places (L.arr .u8 32 h_1.Prev)) (fun j10 e=>ZcI [e] fun x11=>
  ZaD.p2 N i2 now_2 x11 true h_1 st)
 (
  ZaD.p2 N i2 now_2 0 false h_1 st)
noncomputable def ZaD (N:Nat) (a_0:Option Nat) (h_1:Zai) (now_2:Int) (st:LL):Option (Int×Int×Int×LL):=
 if (Option.isNone a_0)=true then
  some ((-1),0,2,st)
 else
 optE (Zck N h_1) fun x1=>
 if (!x1)=true then
  some ((-1),1,8,st)
 else
 optE a_0 fun i2=>
 getE (st[i2]?) Zbj fun x3=>
 optE (Zdu N h_1) fun x4=>
 optM (mfind x3.places (L.arr .u8 32 x4)) (fun j5 e=>ZcI [e] fun x6=>
  ZaD.p1 N i2 now_2 x6 true h_1 st)
 (
  ZaD.p1 N i2 now_2 0 false h_1 st)
noncomputable def ZaD.p2.S (i2:Nat) (now_2 ahead_12:Int) (is_13:Bool) (h_1:Zai) (st:LL):S:=mkS 87 [(0,sP (some i2)),(2,sI now_2),(4,sA 4),(11,sI ahead_12),(12,.one (.l (L.bool is_13)))] [(4,.cells h_1.ls)] st
noncomputable def ZaD.p1.S (i2:Nat) (now_2 at_7:Int) (is_8:Bool) (h_1:Zai) (st:LL):S:=mkS 87 [(0,sP (some i2)),(2,sI now_2),(4,sA 4),(9,sI at_7),(10,.one (.l (L.bool is_8)))] [(4,.cells h_1.ls)] st
theorem ZaD.p2_ok {i2 now_2 ahead_12 is_13 h_1 st r} (h:ZaD.p2 N i2 now_2 ahead_12 is_13 h_1 st=some r) (hE:En Tryz.f26 g0 w0 (ZaD.rs r) r.2.2.2 R):At g0 w0 (ZaD.p2.S i2 now_2 ahead_12 is_13 h_1 st) (XK Tryz.prog R [.c (csub ZaD.B [1,1,1,1,1])]):=by
 unfold ZaD.p2 at h
 refine iteB h (fun c11 h1=>?_) (fun c11 h2=>?_)
 ·obtain rfl:=Zab h1
  exact af fol hE [.r [],.c true,.r []] [] 0 [] c11
 ·obtain ⟨x14,c12,h3⟩:=ZaZ h2
  obtain ⟨c13,c14,h4⟩:=ck2 h3
  obtain ⟨x15,c15,h5⟩:=Zhr h4
  obtain ⟨x16,c16,h6⟩:=Zac h5
  let o1:List PS:=[.r [],.c false,.d {ds:=[(3,{oc:=x14.lo}),(7,{oc:=x14.lo}),(10,{oc:=x14.lo,oe:=x15.ls}),(13,q1 [oI x16])],hv:=0,Hs:=[]},.r []]
  have t1 {Q:Prop} (q:Q):=aO c11 c12 c12 c13 c14 c15 c12 (aI (ZdL.snd c16) q)
  refine iteB h6 (fun c17 h7=>?_) (fun c17 h8=>?_)
  ·obtain rfl:=Zab h7
   exact afd fol hE (o1 ++ [.c true,.r []]) [] 0 [] (t1 c17)
  ·let o2:List PS:=o1 ++ [.c false,.d {ds:=[(3,{oc:=x14.lo}),(8,{oc:=x14.lo})],hv:=0,Hs:=[]}]
   refine iteB h8 (fun c18 h9=>?_) (fun c18 h10=>?_)
   ·obtain rfl:=Zab h9
    exact afd fol hE (o2 ++ [.c true,.r []]) [] 0 [] (t1 (aK c17 c12 c12 c18))
   ·obtain ⟨x17,c19,h11⟩:=Zac h10
    obtain ⟨⟨x18,st19⟩,c20,h12⟩:=Zac h11
    obtain rfl:=Zab h12
    exact afd fol hE (o2 ++ [.c false,.d {ds:=[(6,{oc:=x14.lo}),(10,{oc:=x14.lo}),(13,{oc:=x14.lo,oe:=x15.ls}),(15,q1 [.agg x17.ls]),(16,{rs:=[oI x18],st:=st19})],hv:=65536,Hs:=[65536]}]) [] 0 [] (t1 (aO c17 c12 c12 c18 c12 c12 c13 (aL c14 c15 c12 (Zdi.snd c19) (ZaT.snd c20))))
theorem ZaD.p1_ok {i2 now_2 at_7 is_8 h_1 st r} (h:ZaD.p1 N i2 now_2 at_7 is_8 h_1 st=some r) (hE:En Tryz.f26 g0 w0 (ZaD.rs r) r.2.2.2 R):At g0 w0 (ZaD.p1.S i2 now_2 at_7 is_8 h_1 st) (XK Tryz.prog R [.c (csub ZaD.B [1,1,1,0,1]),.c (csub ZaD.B [1,1,1,1])]):=by
 unfold ZaD.p1 at h
 refine iteB h (fun c8 h13=>?_) (fun c8 h14=>?_)
 ·obtain rfl:=Zab h13
  exact af fol hE [.r [],.c true,.r []] [] 0 [] c8
 ·obtain ⟨x9,c9,h15⟩:=ZaZ h14
  rcases ZgS h15 with ⟨j10,h19,c10,h16⟩ | ⟨c10,h17⟩
  ·obtain ⟨x11,h20,h18⟩:=Zfc h16
   obtain rfl:=Zfm h20
   exact aqd fol [.r [],.c false,.d {ds:=[(3,{oc:=x9.lo}),(6,{oc:=x9.lo,oe:=[L.int .i64 x11]})],hv:=0,Hs:=[]},.s 1] [0,2,4,11,12] [4] (aK c8 c9 (Zka c10) c9) (ZaD.p2_ok h18 hE)
  ·exact aqd fol [.r [],.c false,.d {ds:=[(3,{oc:=x9.lo}),(6,{oc:=x9.lo,yes:=false})],hv:=0,Hs:=[]},.s 1] [0,2,4,11,12] [4] (aK c8 c9 c10 c9) (ZaD.p2_ok h17 hE)
theorem ZaD.snd {a_0:Option Nat} {h_1:Zai} {now_2:Int} {st:LL} {r:Int×Int×Int×LL} (h:ZaD N a_0 h_1 now_2 st=some r):Snd Tryz.prog 26 [.one (L.ptr a_0),.agg h_1.ls,oI now_2] st (ZaD.rs r) r.2.2.2:=
 sO ZaD.B Tryz.func26 fun g0 w0 R hE=>by
  unfold ZaD at h
  refine iteB h (fun c1 h21=>?_) (fun c1 h22=>?_)
  ·obtain rfl:=Zab h21
   exact af fol hE [.r [],.r [],.c true,.r []] [] 0 [] c1
  ·obtain ⟨x1,c2,h23⟩:=Zac h22
   let o3:List PS:=[.r [],.r [],.c false,.r [(1,q1 [oB x1])]]
   have t2 {Q:Prop} (q:Q):=aJ c1 (Zck.snd c2) q
   refine iteB h23 (fun c3 h24=>?_) (fun c3 h25=>?_)
   ·obtain rfl:=Zab h24
    exact af fol hE (o3 ++ [.c true,.r []]) [] 0 [] (t2 c3)
   ·obtain ⟨i2,rfl,h26⟩:=Zac h25
    obtain ⟨x3,c5,h27⟩:=ZaZ h26
    obtain ⟨x4,c6,h28⟩:=Zac h27
    rcases ZgS h28 with ⟨j5,h32,c7,h29⟩ | ⟨c7,h30⟩
    ·obtain ⟨x6,h33,h31⟩:=Zfc h29
     obtain rfl:=Zfm h33
     exact aqd fol (o3 ++ [.c false,.d {ds:=[(3,{oc:=x3.lo}),(5,q1 [.agg [L.arr .u8 32 x4]]),(6,{oc:=x3.lo,oe:=[L.int .i64 x6]})],hv:=0,Hs:=[]},.s 2]) [0,2,4,9,10] [4] (t2 (aL c3 c5 (Zdu.snd c6) (Zka c7) c5)) (ZaD.p1_ok h31 hE)
    ·exact aqd fol (o3 ++ [.c false,.d {ds:=[(3,{oc:=x3.lo}),(5,q1 [.agg [L.arr .u8 32 x4]]),(6,{oc:=x3.lo,yes:=false})],hv:=0,Hs:=[]},.s 2]) [0,2,4,9,10] [4] (t2 (aL c3 c5 (Zdu.snd c6) c7 c5)) (ZaD.p1_ok h30 hE)
noncomputable def ZcU.B:Code:=Tryz.f28.body.getD .skip
noncomputable def ZcU.rs (r:ZbO×Bool×LL):List CV:=[.agg r.1.ls,oB r.2.1]
noncomputable def ZcU (N:Nat) (t_0:Option Nat) (at_1:Int) (st:LL):Option (ZbO×Bool×LL):=
 if (Option.isNone t_0)=true then
  some (ZbO.mk (Zai.mk 0 (List.replicate 32 0) (List.replicate 32 0) 0 0 0) (List.replicate 32 0) (-1) 0 (List.replicate 4 0),false,st)
 else
 optE t_0 fun i1=>
 getE (st[i1]?) Zco fun x2 x3=>
 optE x2 fun i4=>
 getE (st[i4]?) Zbj fun x5=>
 optE (ZbL N x5 at_1) fun (x6,x7)=>
 some (x6,x7,st)
theorem ZcU.snd {t_0:Option Nat} {at_1:Int} {st:LL} {r:ZbO×Bool×LL} (h:ZcU N t_0 at_1 st=some r):Snd Tryz.prog 28 [.one (L.ptr t_0),oI at_1] st (ZcU.rs r) r.2.2:=
 sO ZcU.B Tryz.func28 fun g0 w0 R hE=>by
  unfold ZcU at h
  refine iteB h (fun c1 h1=>?_) (fun c1 h2=>?_)
  ·obtain rfl:=Zab h1
   exact af fol hE [.r [],.r [],.c true,.r []] [] 0 [] c1
  ·obtain ⟨i1,rfl,h3⟩:=Zac h2
   obtain ⟨x2,x3,c3,h4⟩:=ZbX h3
   obtain ⟨i4,rfl,h5⟩:=Zac h4
   obtain ⟨x5,c5,h6⟩:=ZaZ h5
   obtain ⟨⟨x6,x7⟩,c6,h7⟩:=Zac h6
   obtain rfl:=Zab h7
   exact af fol hE [.r [],.r [],.c false,.r [(3,{oc:=[L.ptr (some i4),L.own true 1 x3]}),(5,{rs:=[.agg x6.ls,oB x7],m:=10,cv:=[.one (L.bx 87 x5.ls)]})]] [] 0 [] (aK c1 c3 (bO 87 c5 (Zax.bv x5)) (ZbL.snd c6))
noncomputable def ZbD.B:Code:=Tryz.f98.body.getD .skip
noncomputable def ZbD.rs (r:Int×LL):List CV:=[oI r.1]
noncomputable def ZbD (N:Nat) (t_0:Option Nat) (at_1:Int) (st:LL):Option (Int×LL):=
 optE (ZcU N t_0 at_1 st) fun (x1,x2,st3)=>
 if (!x2)=true then
  some ((-1),st3)
 else
 some (x1.Height,st3)
theorem ZbD.snd {t_0:Option Nat} {at_1:Int} {st:LL} {r:Int×LL} (h:ZbD N t_0 at_1 st=some r):Snd Tryz.prog 98 [.one (L.ptr t_0),oI at_1] st (ZbD.rs r) r.2:=
 sO ZbD.B Tryz.func98 fun g0 w0 R hE=>by
  unfold ZbD at h
  obtain ⟨⟨x1,x2,st3⟩,c1,h1⟩:=Zac h
  let o1:List PS:=[.r [],.r [(2,{rs:=[.agg x1.ls,oB x2],st:=st3})],.r []]
  refine iteB h1 (fun c2 h2=>?_) (fun c2 h3=>?_)
  ·obtain rfl:=Zab h2
   exact af fol hE (o1 ++ [.c true,.r []]) [] 0 [] (aI (ZcU.snd c1) c2)
  ·obtain rfl:=Zab h3
   exact af fol hE (o1 ++ [.c false,.r []]) [] 0 [] (aI (ZcU.snd c1) c2)
noncomputable def Zav.B:Code:=Tryz.f47.body.getD .skip
noncomputable def Zav.rs (r:Int×LL):List CV:=[oI r.1]
noncomputable def Zav.p2 (N:Nat) (c1_:((Option Nat)×Int×Int×LL)→Option (Int×LL)) (i26:Nat) (height_2 next_35 x33 x34:Int) (st25:LL):Option (Int×LL):=
 getE (st25[i26]?) Zco fun x36 x37=>
 optE x36 fun i38=>
 getE (st25[i38]?) Zbj fun x39=>
 optE (ZaO N (Zao.mk x39 x37) next_35) fun x40=>
 c1_ ((some i26),next_35,x40,st25)
noncomputable def Zav.p1 (N:Nat) (height_2:Int) (c1_:((Option Nat)×Int×Int×LL)→Option (Int×LL)):((Option Nat)×Int×Int×LL)→Option (Int×LL):=fun (t_24,at_3,h_4,st25)=>
 if (decide (h_4>height_2))=true then
  optE t_24 fun i26=>
  getE (st25[i26]?) Zco fun x27 x28=>
  optE x27 fun i29=>
  getE (st25[i29]?) Zbj fun x30=>
  optE (ZbP N (Zao.mk x30 x28) at_3) fun (x31,x32)=>
  chk (0≤at_3)<|
  chk (at_3<(len x28))<|
  getE (x28[0+(Int.toNat at_3)]?) ZcI fun x33=>
  if (x33 != (-1))=true then
   optE (ZaO N (Zao.mk x30 x28) x33) fun x34=>
   if (decide (x34≥height_2))=true then
    Zav.p2 N c1_ i26 height_2 x33 x33 x34 st25
   else
   Zav.p2 N c1_ i26 height_2 x31.Ahead x33 x34 st25
  else
  optE (ZaO N (Zao.mk x30 x28) x31.Ahead) fun x41=>
  c1_ ((some i26),x31.Ahead,x41,st25)
 else
 some (at_3,st25)
noncomputable def Zav (N:Nat) (t_0:Option Nat) (at_1 height_2:Int) (st:LL):Option (Int×LL):=
 optE (ZbD N t_0 at_1 st) fun (x1,st2)=>
 if (decide (height_2<0))=true then
  some ((-1),st2)
 else
 if (decide (height_2>x1))=true then
  some ((-1),st2)
 else
 loopN (Zav.p1 N height_2) N (t_0,at_1,x1,st2)
noncomputable def Zav.p2.S (i26:Nat) (height_2 next_35 x33 x34:Int) (st25:LL):S:=mkS 55 [(0,sP (some i26)),(2,sI height_2),(10,sI next_35),(43,sP (some i26)),(44,sI x33),(45,sI x34),(46,sI height_2),(47,.one (.l (L.bool (decide (x34≥height_2)))))] [] st25
noncomputable def Zav.p1.S (t_24:Option Nat) (at_3 height_2 h_4:Int) (st25:LL):S:=mkS 55 [(0,sP t_24),(1,sI at_3),(2,sI height_2),(7,sI h_4)] [] st25
theorem Zav.p2_ok {i26 height_2 next_35 x33 x34 st25 r c1_ J1} (h:Zav.p2 N c1_ i26 height_2 next_35 x33 x34 st25=some r) (hE:En Tryz.f47 g0 w0 (Zav.rs r) r.2 R) (hc1 : ∀t_24 at_3 h_4 st25,c1_ (t_24,at_3,h_4,st25)=some r→At g0 w0 (Zav.p1.S t_24 at_3 height_2 h_4 st25) J1):At g0 w0 (Zav.p2.S i26 height_2 next_35 x33 x34 st25) (XK Tryz.prog R [.c (csub Zav.B [1,1,1,0,0,0,1,0,1,1,1]),.b 1,.h J1,.b 0,.c (csub Zav.B [1,1,1,1])]):=by
 unfold Zav.p2 at h
 obtain ⟨x36,x37,c35,h1⟩:=ZbX h
 obtain ⟨i38,rfl,h2⟩:=Zac h1
 obtain ⟨x39,c37,h3⟩:=ZaZ h2
 obtain ⟨x40,c38,h4⟩:=Zac h3
 exact an fol [.r [(3,{rs:=[oI x40],m:=10,cv:=[.one (L.bx 2 (Zao.ls (Zao.mk x39 x37)))]})]] [0,1,2,7] [] (aI (bO 2 c35 ((bC 87 c37 (Zax.bv x39) (bW bN)):BVs st25 [L.ptr (some i38),L.own true 1 x37] (Zao.ls (Zao.mk x39 x37)))) (ZaO.snd c38)) (hc1 (some i26) next_35 x40 st25 h4)
theorem Zav.p1_ok {t_24 at_3 height_2 h_4 st25 r c1_ J1} (h:Zav.p1 N height_2 c1_ (t_24,at_3,h_4,st25)=some r) (hE:En Tryz.f47 g0 w0 (Zav.rs r) r.2 R) (hc1 : ∀t_24 at_3 h_4 st25,c1_ (t_24,at_3,h_4,st25)=some r→At g0 w0 (Zav.p1.S t_24 at_3 height_2 h_4 st25) J1):At g0 w0 (Zav.p1.S t_24 at_3 height_2 h_4 st25) (XK Tryz.prog R (.c (csub Zav.B [1,1,1,0,0,0]) :: .h J1 :: [.b 0,.c (csub Zav.B [1,1,1,1])])):=by
 unfold Zav.p1 at h
 refine iteB h (fun c23 h5=>?_) (fun c23 h6=>?_)
 ·obtain ⟨i26,rfl,h7⟩:=Zac h5
  obtain ⟨x27,x28,c25,h8⟩:=ZbX h7
  obtain ⟨i29,rfl,h9⟩:=Zac h8
  obtain ⟨x30,c27,h10⟩:=ZaZ h9
  obtain ⟨⟨x31,x32⟩,c28,h11⟩:=Zac h10
  obtain ⟨c29,c30,h12⟩:=ck2 h11
  obtain ⟨x33,c31,h13⟩:=Zcl h12
  let o1:List PS:=[.r [],.c true,.r [(2,{rs:=[.agg x31.ls,oB x32],m:=10,cv:=[.one (L.bx 2 (Zao.ls (Zao.mk x30 x28)))]})],.r [],.r [(3,{oc:=[L.ptr (some i29),L.own true 1 x28]}),(6,{oc:=[L.ptr (some i29),L.own true 1 x28],oe:=[L.int .i64 x33]})]]
  have t1 {Q:Prop} (q:Q):=aO c23 (bO 2 c25 ((bC 87 c27 (Zax.bv x30) (bW bN)):BVs st25 [L.ptr (some i29),L.own true 1 x28] (Zao.ls (Zao.mk x30 x28)))) (ZbP.snd c28) c25 c29 c30 c31 (aI c25 q)
  refine iteB h13 (fun c32 h14=>?_) (fun c32 h15=>?_)
  ·obtain ⟨x34,c33,h16⟩:=Zac h14
   let o2:List PS:=o1 ++ [.r [(5,{rs:=[oI x34],m:=10,cv:=[.one (L.bx 2 (Zao.ls (Zao.mk x30 x28)))]})]]
   have t2 {Q:Prop} (q:Q):=t1 (aO c32 c32 c32 (bO 2 c25 ((bC 87 c27 (Zax.bv x30) (bW bN)):BVs st25 [L.ptr (some i29),L.own true 1 x28] (Zao.ls (Zao.mk x30 x28)))) (ZaO.snd c33) c32 c32 (aI c32 q))
   refine iteB h16 (fun c34 h17=>?_) (fun c34 h18=>?_)
   ·exact aq fol (o2 ++ [.c true,.r [],.s 5]) [0,2,10,43,44,45,46,47] [] (t2 c34) (Zav.p2_ok h17 hE hc1)
   ·exact aq fol (o2 ++ [.c false,.s 5]) [0,2,10,43,44,45,46,47] [] (t2 c34) (Zav.p2_ok h18 hE hc1)
  ·obtain ⟨x41,c39,h19⟩:=Zac h15
   exact an fol (o1 ++ [.r [(3,wF),(4,wF),(5,wF),(6,wF),(7,wF),(8,yF)],.c false,.r [(3,{rs:=[oI x41],m:=10,cv:=[.one (L.bx 2 (Zao.ls (Zao.mk x30 x28)))]})]]) [0,1,2,7] [] (t1 (aO c32 c32 c32 c32 c32 c32 eF (aI (bO 2 c25 ((bC 87 c27 (Zax.bv x30) (bW bN)):BVs st25 [L.ptr (some i29),L.own true 1 x28] (Zao.ls (Zao.mk x30 x28)))) (ZaO.snd c39)))) (hc1 (some i26) x31.Ahead x41 st25 h19)
 ·obtain rfl:=Zab h6
  exact af fol hE [.r [],.c false,.r []] [] 0 [] c23
theorem Zav.snd {t_0:Option Nat} {at_1 height_2:Int} {st:LL} {r:Int×LL} (h:Zav N t_0 at_1 height_2 st=some r):Snd Tryz.prog 47 [.one (L.ptr t_0),oI at_1,oI height_2] st (Zav.rs r) r.2:=
 sO Zav.B Tryz.func47 fun g0 w0 R hE=>by
  unfold Zav at h
  obtain ⟨⟨x1,st2⟩,c1,h20⟩:=Zac h
  let o3:List PS:=[.r [],.r [(2,{rs:=[oI x1],st:=st2})]]
  have t3 {Q:Prop} (q:Q):=aI (ZbD.snd c1) q
  refine iteB h20 (fun c2 h21=>?_) (fun c2 h22=>?_)
  ·obtain rfl:=Zab h21
   exact af fol hE (o3 ++ [.r [(3,wF),(4,wF),(5,wF)],.c true,.r []]) [] 0 [] (t3 (aL c2 c2 c2 c2 eT))
  ·refine iteB h22 (fun c3 h23=>?_) (fun c3 h24=>?_)
   ·obtain rfl:=Zab h23
    exact af fol hE (o3 ++ [.r [(6,yF)],.c true,.r []]) [] 0 [] (t3 (aL c2 c2 c2 c2 c3))
   ·exact aq fol (o3 ++ [.r [(6,yF)],.c false]) [0,1,2,7] [] (t3 (aL c2 c2 c2 c2 c3)) (At.loop N (At.loopN (fun y:(Option Nat)×Int×Int×LL=>Zav.p1.S y.1 y.2.1 height_2 y.2.2.1 y.2.2.2) (fun c J hc y h=>Zav.p1_ok (t_24:=y.1) (at_3:=y.2.1) (h_4:=y.2.2.1) (st25:=y.2.2.2) h hE (fun t_24 at_3 h_4 st25=>hc (t_24,at_3,h_4,st25))) N (t_0,at_1,x1,st2) h24))
noncomputable def Zbs.B:Code:=Tryz.f25.body.getD .skip
noncomputable def Zbs.rs (r:Int×Int×Int×LL):List CV:=[oI r.1,oI r.2.1,oI r.2.2.1]
noncomputable def Zbs.p1 (N:Nat) (x4 x5 x6:Int) (st16:LL):Option (Int×Int×Int×LL):=
 some (x4,x5,x6,st16)
noncomputable def Zbs (N:Nat) (t_0:Option Nat) (h_1:Zai) (now_2:Int) (st:LL):Option (Int×Int×Int×LL):=
 if (Option.isNone t_0)=true then
  some ((-1),0,2,st)
 else
 optE t_0 fun i1=>
 getE (st[i1]?) Zco fun x2 x3=>
 optE (ZaD N x2 h_1 now_2 st) fun (x4,x5,x6,st7)=>
 if (x6==0)=true then
  getE (st7[i1]?) Zco fun x8 x9=>
  if (x4==(len x9))=true then
   optE x8 fun i10=>
   getE (st7[i10]?) Zbj fun x11=>
   optE (ZbL N x11 x4) fun (x12,x13)=>
   optE (Zcy N x12.Height) fun x14=>
   optE (Zan N (Zao.mk x11 x9) x12.Ahead x14) fun x15=>
   chk (List.length (x9 ++ [[L.int .i64 x15]])*8≤140737488355328)<|
   Zbs.p1 N x4 x5 x6 (List.set (List.set st7 i1 [L.ptr (some i10),L.gone]) i1 [L.ptr (some i10),L.own true 1 (x9 ++ [[L.int .i64 x15]])])
  else
  Zbs.p1 N x4 x5 x6 st7
 else
 some (x4,x5,x6,st7)
noncomputable def Zbs.p1.S (x4 x5 x6:Int) (st16:LL):S:=mkS 66 [(9,sI x4),(10,sI x5),(11,sI x6)] [] st16
theorem Zbs.p1_ok {x4 x5 x6 st16 r} (h:Zbs.p1 N x4 x5 x6 st16=some r) (hE:En Tryz.f25 g0 w0 (Zbs.rs r) r.2.2.2 R):At g0 w0 (Zbs.p1.S x4 x5 x6 st16) (XK Tryz.prog R [.c (csub Zbs.B [1,1,1,1])]):=by
 unfold Zbs.p1 at h
 obtain rfl:=Zab h
 exact af fol hE [.r []] [] 0 [] trivial
theorem Zbs.snd {t_0:Option Nat} {h_1:Zai} {now_2:Int} {st:LL} {r:Int×Int×Int×LL} (h:Zbs N t_0 h_1 now_2 st=some r):Snd Tryz.prog 25 [.one (L.ptr t_0),.agg h_1.ls,oI now_2] st (Zbs.rs r) r.2.2.2:=
 sO Zbs.B Tryz.func25 fun g0 w0 R hE=>by
  unfold Zbs at h
  refine iteB h (fun c1 h1=>?_) (fun c1 h2=>?_)
  ·obtain rfl:=Zab h1
   exact af fol hE [.r [],.r [],.c true,.r []] [] 0 [] c1
  ·obtain ⟨i1,rfl,h3⟩:=Zac h2
   obtain ⟨x2,x3,c3,h4⟩:=ZbX h3
   obtain ⟨⟨x4,x5,x6,st7⟩,c4,h5⟩:=Zac h4
   let o1:List PS:=[.r [],.r [],.c false,.d {ds:=[(3,{oc:=[L.ptr x2,L.own true 1 x3]}),(6,{rs:=[oI x4,oI x5,oI x6],st:=st7})],hv:=64,Hs:=[64]}]
   have t1 {Q:Prop} (q:Q):=aK c1 c3 (ZaD.snd c4) q
   refine iteB h5 (fun c5 h6=>?_) (fun c5 h7=>?_)
   ·obtain ⟨x8,x9,c6,h8⟩:=ZbX h6
    refine iteB h8 (fun c7 h9=>?_) (fun c7 h10=>?_)
    ·obtain ⟨i10,rfl,h11⟩:=Zac h9
     obtain ⟨x11,c9,h12⟩:=ZaZ h11
     obtain ⟨⟨x12,x13⟩,c10,h13⟩:=Zac h12
     obtain ⟨x14,c11,h14⟩:=Zac h13
     obtain ⟨x15,c12,h15⟩:=Zac h14
     obtain ⟨c13,h16⟩:=ZaS h15
     exact aqd fol (o1 ++ [.r [(7,{oc:=[L.ptr (some i10),L.own true 1 x9]})],.c true,.r [(3,{oc:=[L.ptr (some i10),L.own true 1 x9]}),(5,{rs:=[.agg x12.ls,oB x13],m:=10,cv:=[.one (L.bx 87 x11.ls)]})],.d {ds:=[(4,{oc:=[L.ptr (some i10),L.own true 1 x9]}),(10,q1 [oI x14]),(11,{rs:=[oI x15],m:=10,cv:=[.one (L.bx 2 (Zao.ls (Zao.mk x11 x9)))]}),(13,{oe:=[L.ptr (some i10),L.own true 1 x9]}),(16,{oc:=[L.ptr (some i10),L.gone],mv:=[60]})],hv:=79872,Hs:=[2048,6144,14336,79872]},.s 1]) [9,10,11] [] (t1 (aO c5 c5 c5 c5 c5 c6 c5 (aO c5 c5 c7 c6 (bO 87 c9 (Zax.bv x11)) (ZbL.snd c10) c6 (aO c6 c6 (Zcy.snd c11) (bO 2 c6 ((bC 87 c9 (Zax.bv x11) (bW bN)):BVs st7 [L.ptr (some i10),L.own true 1 x9] (Zao.ls (Zao.mk x11 x9)))) (Zan.snd c12) z0 (eN (List.length x9)) (aN c6 z0 (eN (1)) c13 (Zas c6 [L.ptr (some i10),L.gone]) z0 (eN (List.length (x9 ++ [[L.int .i64 x15]])))))))) (Zbs.p1_ok h16 hE)
    ·exact aqd fol (o1 ++ [.r [(7,{oc:=[L.ptr x8,L.own true 1 x9]})],.c false,.s 1]) [9,10,11] [] (t1 (aO c5 c5 c5 c5 c5 c6 c5 (aJ c5 c5 c7))) (Zbs.p1_ok h10 hE)
   ·obtain rfl:=Zab h7
    exact afd fol hE (o1 ++ [.r [(3,wF),(4,wF),(5,wF),(6,wF),(7,wF),(8,wF),(9,wF),(10,yF)],.c false,.r []]) [] 0 [] (t1 (aO c5 c5 c5 c5 c5 c5 c5 (aI c5 eF)))
noncomputable def Zbf.B:Code:=Tryz.f143.body.getD .skip
noncomputable def Zbf.rs (r:Int):List CV:=[oI r]
noncomputable def Zbf.p1 (N:Nat) (a_0:Zaa) (id_1_0:List Int) (c1_:Int→Option Int):Int→Option Int:=fun v1=>
 if (decide (v1<(len a_0.Ids)))=true then
  chk (0≤v1)<|
  getE (a_0.Ids[Int.toNat v1]?) Zfv fun x2=>
  if (x2==id_1_0)=true then
   some v1
  else
  c1_ (w64 (v1+1))
 else
 some (-1)
noncomputable def Zbf (N:Nat) (a_0:Zaa) (id_1_0:List Int):Option Int:=
 loopN (Zbf.p1 N a_0 id_1_0) N 0
noncomputable def Zbf.p1.S (a_0:Zaa) (v1:Int) (id_1_0:List Int) (st:LL):S:=mkS 22 [(3,sA 3),(10,sV 32 a_0.Ids),(11,sI (len a_0.Ids)),(12,sI v1)] [(3,.cells [L.arr .u8 32 id_1_0])] st
theorem Zbf.p1_ok {a_0 v1 id_1_0 st r c1_ J1} (h:Zbf.p1 N a_0 id_1_0 c1_ v1=some r) (hE:En Tryz.f143 g0 w0 (Zbf.rs r) st R) (hc1 : ∀v1,c1_ v1=some r→At g0 w0 (Zbf.p1.S a_0 v1 id_1_0 st) J1):At g0 w0 (Zbf.p1.S a_0 v1 id_1_0 st) (XK Tryz.prog R (.c (csub Zbf.B [1,0,1,0,0]) :: .h J1 :: [.b 0,.c (csub Zbf.B [1,1])])):=by
 unfold Zbf.p1 at h
 refine iteB h (fun c1 h1=>?_) (fun c1 h2=>?_)
 ·obtain ⟨c2,h3⟩:=ZaS h1
  obtain ⟨x2,c3,h4⟩:=ZfI h3
  let o1:List PS:=[.r [],.c true,.r [(2,{oe:=[L.arr .u8 32 x2]})],.r []]
  refine iteB h4 (fun c4 h5=>?_) (fun c4 h6=>?_)
  ·obtain rfl:=Zab h5
   exact af fol hE (o1 ++ [.c true,.r []]) [] 0 [] (aL c1 c2 (oD c1) c3 c4)
  ·exact an fol (o1 ++ [.c false,.r []]) [3,10,11,12] [3] (aL c1 c2 (oD c1) c3 c4) (hc1 (w64 (v1+1)) h6)
 ·obtain rfl:=Zab h2
  exact af fol hE [.r [],.c false,.r []] [] 0 [] c1
theorem Zbf.snd {a_0:Zaa} {id_1_0:List Int} {r:Int} (h:Zbf N a_0 id_1_0=some r):SndQ Tryz.prog 143 [.one (L.bx 88 a_0.ls),.agg [L.arr .u8 32 id_1_0]] (Zbf.rs r):=fun st=>
 sO Zbf.B Tryz.func143 fun g0 w0 R hE=>by
  unfold Zbf at h
  exact aq fol [.r [],.r [(3,{oe:=a_0.ls})]] [3,10,11,12] [3] (eO a_0.ls) (At.loop N (At.loopN (fun y:Int=>Zbf.p1.S a_0 y id_1_0 st) (fun c J hc y h=>Zbf.p1_ok h hE (fun v1=>hc v1)) N 0 h))
noncomputable def ZaN.B:Code:=Tryz.f44.body.getD .skip
noncomputable def ZaN.rs (r:LL):List CV:=[.row true 68 r]
noncomputable def ZaN.p1 (N:Nat) (a_0:Zaa) (c1_:(LL×Int)→Option LL):(LL×Int)→Option LL:=fun (out_4,k_1)=>
 if (decide (k_1≥0))=true then
  chk (0≤k_1)<|
  chk (k_1<(len a_0.List_))<|
  getE (a_0.List_[Int.toNat k_1]?) Zds fun x5=>
  chk (List.length ([x5.ls]++out_4)*96≤140737488355328)<|
  chk (k_1<(len a_0.Ahead))<|
  getE (a_0.Ahead[Int.toNat k_1]?) ZcI fun x6=>
  c1_ ([x5.ls]++out_4,x6)
 else
 some out_4
noncomputable def ZaN (N:Nat) (a_0:Zaa) (at_1:Int):Option LL:=
 loopN (ZaN.p1 N a_0) N ([],at_1)
noncomputable def ZaN.p1.S (a_0:Zaa) (out_4:LL) (k_1:Int) (st:LL):S:=mkS 28 [(0,.one (.l (L.bx 88 a_0.ls))),(5,.one (.h (.row 5 0) 68 0 (List.length out_4))),(6,sI k_1)] [(5,.row 0 true 68 out_4)] st
theorem ZaN.p1_ok {a_0 out_4 k_1 st r c1_ J1} (h:ZaN.p1 N a_0 c1_ (out_4,k_1)=some r) (hE:En Tryz.f44 g0 w0 (ZaN.rs r) st R) (hc1 : ∀out_4 k_1,c1_ (out_4,k_1)=some r→At g0 w0 (ZaN.p1.S a_0 out_4 k_1 st) J1):At g0 w0 (ZaN.p1.S a_0 out_4 k_1 st) (XK Tryz.prog R (.c (csub ZaN.B [1,1,0,1,0,0]) :: .h J1 :: [.b 0,.c (csub ZaN.B [1,1,1])])):=by
 unfold ZaN.p1 at h
 refine iteB h (fun c8 h1=>?_) (fun c8 h2=>?_)
 ·obtain ⟨c9,c10,h3⟩:=ck2 h1
  obtain ⟨x5,c11,h4⟩:=ZdJ h3
  obtain ⟨c12,c13,h5⟩:=ck2 h4
  obtain ⟨x6,c14,h6⟩:=Zcl h5
  exact an fol [.r [],.c true,.r [(3,{oe:=a_0.ls}),(6,{oe:=x5.ls}),(10,{m:=4})],.r [(3,{oe:=a_0.ls}),(6,{oe:=[L.int .i64 x6]})]] [0,5,6] [5] (aO c8 (eO a_0.ls) c9 c10 c11 z0 (eN (1)) (aN z0 (eN (List.length out_4)) c12 (eO a_0.ls) c9 c13 c14)) (hc1 ([x5.ls]++out_4) x6 h6)
 ·obtain rfl:=Zab h2
  exact af fol hE [.r [],.c false,.r []] [] 0 [0] (aJ c8 z0 (eN (List.length out_4)))
theorem ZaN.snd {a_0:Zaa} {at_1:Int} {r:LL} (h:ZaN N a_0 at_1=some r):SndQ Tryz.prog 44 [.one (L.bx 88 a_0.ls),oI at_1] (ZaN.rs r):=fun st=>
 sO ZaN.B Tryz.func44 fun g0 w0 R hE=>by
  unfold ZaN at h
  exact aq fol [.r [(0,{m:=2})],.r [(0,{m:=1})],.r []] [0,5,6] [5] trivial (At.loop N (At.loopN (fun y:LL×Int=>ZaN.p1.S a_0 y.1 y.2 st) (fun c J hc y h=>ZaN.p1_ok (out_4:=y.1) (k_1:=y.2) h hE (fun out_4 k_1=>hc (out_4,k_1))) N ([],at_1) h))
noncomputable def Zat.B:Code:=Tryz.f220.body.getD .skip
noncomputable def Zat.rs (r:(List Int)×Bool):List CV:=[.agg [L.arr .u64 4 r.1],oB r.2]
noncomputable def Zat.p2 (N:Nat) (c1_:(Int×Int×(List Int))→Option ((List Int)×Bool)) (by_1 over_2 c_1 i_2 w_12:Int) (n_0_0 d_11:List Int):Option ((List Int)×Bool):=
 chk (0≤i_2)<|
 chk (i_2<10)<|
 c1_ (w64 (Int.tdiv (w64 ((w64 (w_12*by_1))+c_1)) 4294967296),w64 (i_2+1),List.set d_11 (Int.toNat i_2) (Int.tmod (w64 ((w64 (w_12*by_1))+c_1)) 4294967296))
noncomputable def Zat.p4 (N:Nat) (q_17:List Int) (c4_:(Int×(List Int))→Option ((List Int)×Bool)):(Int×(List Int))→Option ((List Int)×Bool):=fun (i_18,out_19)=>
 if (decide (i_18<8))=true then
  chk (0≤(w64 (Int.tdiv i_18 2)))<|
  chk ((w64 (Int.tdiv i_18 2))<4)<|
  chk (0≤i_18)<|
  chk (i_18<10)<|
  chk (0≤(v64 (w64 (32*(Int.tmod i_18 2)))))<|
  c4_ (w64 (i_18+1),List.set out_19 (Int.toNat (w64 (Int.tdiv i_18 2))) (v64 ((List.getD out_19 (Int.toNat (w64 (Int.tdiv i_18 2))) 0)+(shlOf .u64 (v64 (List.getD q_17 (Int.toNat i_18) 0)) (v64 (w64 (32*(Int.tmod i_18 2))))))))
 else
 if ((List.getD q_17 8 0)==0)=true then
  some (out_19,(List.getD q_17 9 0)==0)
 else
 some (out_19,false)
noncomputable def Zat.p3 (N:Nat) (over_2:Int) (d_11:List Int) (c3_:(Int×Int×(List Int))→Option ((List Int)×Bool)):(Int×Int×(List Int))→Option ((List Int)×Bool):=fun (rest_13,i_14,q_17)=>
 if (decide (i_14≥0))=true then
  chk (0≤i_14)<|
  chk (i_14<10)<|
  chk (over_2≠0)<|
  c3_ (Int.tmod (w64 ((w64 (rest_13*4294967296))+(List.getD d_11 (Int.toNat i_14) 0))) over_2,w64 (i_14-1),List.set q_17 (Int.toNat i_14) (w64 (Int.tdiv (w64 ((w64 (rest_13*4294967296))+(List.getD d_11 (Int.toNat i_14) 0))) over_2)))
 else
 loopN (Zat.p4 N q_17) N (0,List.replicate 4 0)
noncomputable def Zat.p1 (N:Nat) (by_1 over_2:Int) (n_0_0:List Int) (c1_:(Int×Int×(List Int))→Option ((List Int)×Bool)):(Int×Int×(List Int))→Option ((List Int)×Bool):=fun (c_1,i_2,d_11)=>
 if (decide (i_2<10))=true then
  if (decide (i_2<8))=true then
   chk (0≤(w64 (Int.tdiv i_2 2)))<|
   chk ((w64 (Int.tdiv i_2 2))<4)<|
   chk (0≤(v64 (w64 (32*(Int.tmod i_2 2)))))<|
   Zat.p2 N c1_ by_1 over_2 c_1 i_2 (w64 (Int.tmod (shrOf .u64 (List.getD n_0_0 (Int.toNat (w64 (Int.tdiv i_2 2))) 0) (v64 (w64 (32*(Int.tmod i_2 2))))) 4294967296)) n_0_0 d_11
  else
  Zat.p2 N c1_ by_1 over_2 c_1 i_2 0 n_0_0 d_11
 else
 loopN (Zat.p3 N over_2 d_11) N (0,9,List.replicate 10 0)
noncomputable def Zat (N:Nat) (n_0_0:List Int) (by_1 over_2:Int):Option ((List Int)×Bool):=
 loopN (Zat.p1 N by_1 over_2 n_0_0) N (0,0,List.replicate 10 0)
noncomputable def Zat.p2.S (by_1 over_2 c_1 i_2 w_12:Int) (n_0_0 d_11:List Int) (st:LL):S:=mkS 96 [(1,sI by_1),(2,sI over_2),(3,sA 3),(6,sA 6),(8,sA 8),(9,sI c_1),(10,sI i_2),(11,sI w_12)] [(3,.cells [L.arr .u64 4 n_0_0]),(6,.cells [L.arr .u64 4 (List.replicate 4 0)]),(8,.cells [L.arr .i64 10 d_11])] st
noncomputable def Zat.p4.S (i_18:Int) (q_17 out_19:List Int) (st:LL):S:=mkS 96 [(6,sA 6),(14,sA 14),(17,sA 17),(18,sI i_18)] [(6,.cells [L.arr .u64 4 (List.replicate 4 0)]),(14,.cells [L.arr .i64 10 q_17]),(17,.cells [L.arr .u64 4 out_19])] st
noncomputable def Zat.p3.S (over_2 rest_13 i_14:Int) (d_11 q_17:List Int) (st:LL):S:=mkS 96 [(2,sI over_2),(6,sA 6),(8,sA 8),(13,sI rest_13),(14,sA 14),(15,sI i_14)] [(6,.cells [L.arr .u64 4 (List.replicate 4 0)]),(8,.cells [L.arr .i64 10 d_11]),(14,.cells [L.arr .i64 10 q_17])] st
noncomputable def Zat.p1.S (by_1 over_2 c_1 i_2:Int) (n_0_0 d_11:List Int) (st:LL):S:=mkS 96 [(1,sI by_1),(2,sI over_2),(3,sA 3),(6,sA 6),(8,sA 8),(9,sI c_1),(10,sI i_2)] [(3,.cells [L.arr .u64 4 n_0_0]),(6,.cells [L.arr .u64 4 (List.replicate 4 0)]),(8,.cells [L.arr .i64 10 d_11])] st
theorem Zat.p2_ok {by_1 over_2 c_1 i_2 w_12 n_0_0 d_11 st r c1_ J1} (h:Zat.p2 N c1_ by_1 over_2 c_1 i_2 w_12 n_0_0 d_11=some r) (hE:En Tryz.f220 g0 w0 (Zat.rs r) st R) (hc1 : ∀c_1 i_2 d_11,c1_ (c_1,i_2,d_11)=some r→At g0 w0 (Zat.p1.S by_1 over_2 c_1 i_2 n_0_0 d_11 st) J1):At g0 w0 (Zat.p2.S by_1 over_2 c_1 i_2 w_12 n_0_0 d_11 st) (XK Tryz.prog R [.c (csub Zat.B [1,1,1,0,1,0,0,1,0,0,1,1]),.b 1,.c (csub Zat.B [1,1,1,0,1,0,0,1,1]),.h J1,.b 0,.c (csub Zat.B [1,1,1,1])]):=by
 unfold Zat.p2 at h
 obtain ⟨c49,c50,h1⟩:=ck2 h
 exact an fol [.r [],.r [],.r [],.r []] [1,2,3,6,8,9,10] [3,6,8] (aK (neI 4294967296) c49 c50 (neI 4294967296)) (hc1 (w64 (Int.tdiv (w64 ((w64 (w_12*by_1))+c_1)) 4294967296)) (w64 (i_2+1)) (List.set d_11 (Int.toNat i_2) (Int.tmod (w64 ((w64 (w_12*by_1))+c_1)) 4294967296)) h1)
theorem Zat.p4_ok {i_18 q_17 out_19 st r c4_ J4} (h:Zat.p4 N q_17 c4_ (i_18,out_19)=some r) (hE:En Tryz.f220 g0 w0 (Zat.rs r) st R) (hc4 : ∀i_18 out_19,c4_ (i_18,out_19)=some r→At g0 w0 (Zat.p4.S i_18 q_17 out_19 st) J4):At g0 w0 (Zat.p4.S i_18 q_17 out_19 st) (XK Tryz.prog R (.c (csub Zat.B [1,1,1,1,1,1,1,1,0,1,0,0]) :: .h J4 :: [.b 4,.c (csub Zat.B [1,1,1,1,1,1,1,1,1])])):=by
 unfold Zat.p4 at h
 refine iteB h (fun c80 h2=>?_) (fun c80 h3=>?_)
 ·obtain ⟨c81,c82,c83,c84,c85,h4⟩:=ck5 h2
  exact and_ fol [.r [],.c true,.d {ds:=[],hv:=131072,Hs:=[131072]},.r []] [6,14,17,18] [6,14,17] (aO c80 (neI 2) (neI 2) c81 c82 c83 c84 (aK (neI 2) c85 c81 c82)) (hc4 (w64 (i_18+1)) (List.set out_19 (Int.toNat (w64 (Int.tdiv i_18 2))) (v64 ((List.getD out_19 (Int.toNat (w64 (Int.tdiv i_18 2))) 0)+(shlOf .u64 (v64 (List.getD q_17 (Int.toNat i_18) 0)) (v64 (w64 (32*(Int.tmod i_18 2)))))))) h4)
 ·refine iteB h3 (fun c86 h5=>?_) (fun c86 h6=>?_)
  ·obtain rfl:=Zab h5
   exact afd fol hE [.r [],.c false,.d {ds:=[],hv:=512,Hs:=[512]}] [] 0 [] (aI c80 (ix 8 10 (aI c86 (ix 9 10 (aI c86 (ix 9 10 (aM c86 c86 c86 c86 c86 c86)))))))
  ·obtain rfl:=Zab h6
   exact afd fol hE [.r [],.c false,.d {ds:=[(5,wF),(6,wF),(7,wF),(8,yF)],hv:=512,Hs:=[512]}] [] 0 [] (aI c80 (ix 8 10 (aO c86 c86 c86 c86 c86 c86 c86 c86)))
theorem Zat.p3_ok {over_2 rest_13 i_14 d_11 q_17 st r c3_ J3} (h:Zat.p3 N over_2 d_11 c3_ (rest_13,i_14,q_17)=some r) (hE:En Tryz.f220 g0 w0 (Zat.rs r) st R) (hc3 : ∀rest_13 i_14 q_17,c3_ (rest_13,i_14,q_17)=some r→At g0 w0 (Zat.p3.S over_2 rest_13 i_14 d_11 q_17 st) J3):At g0 w0 (Zat.p3.S over_2 rest_13 i_14 d_11 q_17 st) (XK Tryz.prog R (.c (csub Zat.B [1,1,1,1,1,1,0,1,0,0]) :: .h J3 :: [.b 2,.c (csub Zat.B [1,1,1,1,1,1,1])])):=by
 unfold Zat.p3 at h
 refine iteB h (fun c69 h7=>?_) (fun c69 h8=>?_)
 ·obtain ⟨c70,c71,c72,h9⟩:=ck3 h7
  exact an fol [.r [],.c true,.r [],.r [],.r [],.r []] [2,6,8,13,14,15] [6,8,14] (aN c69 c70 c71 c72 c70 c71 c72) (hc3 (Int.tmod (w64 ((w64 (rest_13*4294967296))+(List.getD d_11 (Int.toNat i_14) 0))) over_2) (w64 (i_14-1)) (List.set q_17 (Int.toNat i_14) (w64 (Int.tdiv (w64 ((w64 (rest_13*4294967296))+(List.getD d_11 (Int.toNat i_14) 0))) over_2))) h9)
 ·exact aq fol [.r [],.c false,.r [],.r []] [6,14,17,18] [6,14,17] c69 (At.loop N (At.loopN (fun y:Int×(List Int)=>Zat.p4.S y.1 q_17 y.2 st) (fun c J hc y h=>Zat.p4_ok (i_18:=y.1) (out_19:=y.2) h hE (fun i_18 out_19=>hc (i_18,out_19))) N (0,List.replicate 4 0) h8))
theorem Zat.p1_ok {by_1 over_2 c_1 i_2 n_0_0 d_11 st r c1_ J1} (h:Zat.p1 N by_1 over_2 n_0_0 c1_ (c_1,i_2,d_11)=some r) (hE:En Tryz.f220 g0 w0 (Zat.rs r) st R) (hc1 : ∀c_1 i_2 d_11,c1_ (c_1,i_2,d_11)=some r→At g0 w0 (Zat.p1.S by_1 over_2 c_1 i_2 n_0_0 d_11 st) J1):At g0 w0 (Zat.p1.S by_1 over_2 c_1 i_2 n_0_0 d_11 st) (XK Tryz.prog R (.c (csub Zat.B [1,1,1,0,1,0,0]) :: .h J1 :: [.b 0,.c (csub Zat.B [1,1,1,1])])):=by
 unfold Zat.p1 at h
 refine iteB h (fun c44 h10=>?_) (fun c44 h11=>?_)
 ·refine iteB h10 (fun c45 h12=>?_) (fun c45 h13=>?_)
  ·obtain ⟨c46,c47,c48,h14⟩:=ck3 h12
   exact aq fol [.r [],.c true,.r [],.r [],.c true,.r [],.s 6] [1,2,3,6,8,9,10,11] [3,6,8] (aO c44 c45 (neI 2) c46 c47 (neI 2) c48 (neI 4294967296)) (Zat.p2_ok h14 hE hc1)
  ·exact aq fol [.r [],.c true,.r [],.r [],.c false,.s 6] [1,2,3,6,8,9,10,11] [3,6,8] (aI c44 c45) (Zat.p2_ok h13 hE hc1)
 ·exact aq fol [.r [],.c false,.r [],.r [],.r []] [2,6,8,13,14,15] [6,8,14] c44 (At.loop N (At.loopN (fun y:Int×Int×(List Int)=>Zat.p3.S over_2 y.1 y.2.1 d_11 y.2.2 st) (fun c J hc y h=>Zat.p3_ok (rest_13:=y.1) (i_14:=y.2.1) (q_17:=y.2.2) h hE (fun rest_13 i_14 q_17=>hc (rest_13,i_14,q_17))) N (0,9,List.replicate 10 0) h11))
theorem Zat.snd {n_0_0:List Int} {by_1 over_2:Int} {r:(List Int)×Bool} (h:Zat N n_0_0 by_1 over_2=some r):SndQ Tryz.prog 220 [.agg [L.arr .u64 4 n_0_0],oI by_1,oI over_2] (Zat.rs r):=fun st=>
 sO Zat.B Tryz.func220 fun g0 w0 R hE=>by
  unfold Zat at h
  exact aq fol [.r [],.r [],.r [],.r []] [1,2,3,6,8,9,10] [3,6,8] trivial (At.loop N (At.loopN (fun y:Int×Int×(List Int)=>Zat.p1.S by_1 over_2 y.1 y.2.1 n_0_0 y.2.2 st) (fun c J hc y h=>Zat.p1_ok (c_1:=y.1) (i_2:=y.2.1) (d_11:=y.2.2) h hE (fun c_1 i_2 d_11=>hc (c_1,i_2,d_11))) N (0,0,List.replicate 10 0) h))
noncomputable def Zaw.B:Code:=Tryz.f221.body.getD .skip
noncomputable def Zaw.rs (r:Int):List CV:=[oI r]
noncomputable def Zaw.p2 (N:Nat) (c1_:(Int×Int)→Option Int) (size_4 i_2:Int) (n_0_0:List Int):Option Int:=
 c1_ (size_4,w64 (i_2+1))
noncomputable def Zaw.p4 (N:Nat) (size_8 word_9:Int):Option Int:=
 some (w64 ((w64 (size_8*16777216))+word_9))
noncomputable def Zaw.p3 (N:Nat) (size_1 word_7:Int):Option Int:=
 if (decide (word_7≥8388608))=true then
  Zaw.p4 N (w64 (size_1+1)) (w64 (Int.tdiv word_7 256))
 else
 Zaw.p4 N size_1 word_7
noncomputable def Zaw.p1 (N:Nat) (n_0_0:List Int) (c1_:(Int×Int)→Option Int):(Int×Int)→Option Int:=fun (size_1,i_2)=>
 if (decide (i_2<32))=true then
  optE (Zam N n_0_0 (w64 ((-8)*i_2))) fun x3=>
  if (decide ((Int.tmod (List.getD x3 0 0) 256)>0))=true then
   Zaw.p2 N c1_ (w64 (i_2+1)) i_2 n_0_0
  else
  Zaw.p2 N c1_ size_1 i_2 n_0_0
 else
 optE (Zam N n_0_0 (w64 (8*(w64 (3-size_1))))) fun x5=>
 if (decide (size_1>3))=true then
  optE (Zam N n_0_0 (w64 ((-8)*(w64 (size_1-3))))) fun x6=>
  Zaw.p3 N size_1 (w64 (Int.tmod (List.getD x6 0 0) 16777216))
 else
 Zaw.p3 N size_1 (w64 (Int.tmod (List.getD x5 0 0) 16777216))
noncomputable def Zaw (N:Nat) (n_0_0:List Int):Option Int:=
 loopN (Zaw.p1 N n_0_0) N (0,0)
noncomputable def Zaw.p2.S (size_4 i_2:Int) (n_0_0:List Int) (st:LL):S:=mkS 49 [(1,sA 1),(3,sI size_4),(4,sI i_2)] [(1,.cells [L.arr .u64 4 n_0_0])] st
noncomputable def Zaw.p4.S (size_8 word_9:Int) (st:LL):S:=mkS 49 [(3,sI size_8),(6,sI word_9)] [] st
noncomputable def Zaw.p3.S (size_1 word_7:Int) (st:LL):S:=mkS 49 [(3,sI size_1),(6,sI word_7)] [] st
noncomputable def Zaw.p1.S (size_1 i_2:Int) (n_0_0:List Int) (st:LL):S:=mkS 49 [(1,sA 1),(3,sI size_1),(4,sI i_2)] [(1,.cells [L.arr .u64 4 n_0_0])] st
theorem Zaw.p2_ok {size_4 i_2 n_0_0 st r c1_ J1} (h:Zaw.p2 N c1_ size_4 i_2 n_0_0=some r) (hE:En Tryz.f221 g0 w0 (Zaw.rs r) st R) (hc1 : ∀size_1 i_2,c1_ (size_1,i_2)=some r→At g0 w0 (Zaw.p1.S size_1 i_2 n_0_0 st) J1):At g0 w0 (Zaw.p2.S size_4 i_2 n_0_0 st) (XK Tryz.prog R [.c (csub Zaw.B [1,1,0,1,0,0,1,1]),.h J1,.b 0,.c (csub Zaw.B [1,1,1])]):=by
 unfold Zaw.p2 at h
 exact an fol [.r []] [1,3,4] [1] trivial (hc1 size_4 (w64 (i_2+1)) h)
theorem Zaw.p4_ok {size_8 word_9 st r} (h:Zaw.p4 N size_8 word_9=some r) (hE:En Tryz.f221 g0 w0 (Zaw.rs r) st R):At g0 w0 (Zaw.p4.S size_8 word_9 st) (XK Tryz.prog R [.c (csub Zaw.B [1,1,1,1,1,1])]):=by
 unfold Zaw.p4 at h
 obtain rfl:=Zab h
 exact af fol hE [.r []] [] 0 [] trivial
theorem Zaw.p3_ok {size_1 word_7 st r} (h:Zaw.p3 N size_1 word_7=some r) (hE:En Tryz.f221 g0 w0 (Zaw.rs r) st R):At g0 w0 (Zaw.p3.S size_1 word_7 st) (XK Tryz.prog R [.c (csub Zaw.B [1,1,1,1,1])]):=by
 unfold Zaw.p3 at h
 refine iteB h (fun c7 h1=>?_) (fun c7 h2=>?_)
 ·exact aq fol [.r [],.c true,.r [],.r [],.s 1] [3,6] [] (aI c7 (neI 256)) (Zaw.p4_ok h1 hE)
 ·exact aq fol [.r [],.c false,.s 1] [3,6] [] c7 (Zaw.p4_ok h2 hE)
theorem Zaw.p1_ok {size_1 i_2 n_0_0 st r c1_ J1} (h:Zaw.p1 N n_0_0 c1_ (size_1,i_2)=some r) (hE:En Tryz.f221 g0 w0 (Zaw.rs r) st R) (hc1 : ∀size_1 i_2,c1_ (size_1,i_2)=some r→At g0 w0 (Zaw.p1.S size_1 i_2 n_0_0 st) J1):At g0 w0 (Zaw.p1.S size_1 i_2 n_0_0 st) (XK Tryz.prog R (.c (csub Zaw.B [1,1,0,1,0,0]) :: .h J1 :: [.b 0,.c (csub Zaw.B [1,1,1])])):=by
 unfold Zaw.p1 at h
 refine iteB h (fun c1 h3=>?_) (fun c1 h4=>?_)
 ·obtain ⟨x3,c2,h5⟩:=Zac h3
  let o1:List PS:=[.r [],.c true,.r [(3,q1 [.agg [L.arr .u64 4 x3]])],.r []]
  have t1 {Q:Prop} (q:Q):=aJ c1 (Zam.snd c2) (ix 0 4 (aI (neI 256) q))
  refine iteB h5 (fun c3 h6=>?_) (fun c3 h7=>?_)
  ·exact aq fol (o1 ++ [.c true,.r [],.s 4]) [1,3,4] [1] (t1 c3) (Zaw.p2_ok h6 hE hc1)
  ·exact aq fol (o1 ++ [.c false,.s 4]) [1,3,4] [1] (t1 c3) (Zaw.p2_ok h7 hE hc1)
 ·obtain ⟨x5,c4,h8⟩:=Zac h4
  let o2:List PS:=[.r [],.c false,.r [(4,q1 [.agg [L.arr .u64 4 x5]])],.r []]
  have t2 {Q:Prop} (q:Q):=aJ c1 (Zam.snd c4) (ix 0 4 (aI (neI 16777216) q))
  refine iteB h8 (fun c5 h9=>?_) (fun c5 h10=>?_)
  ·obtain ⟨x6,c6,h11⟩:=Zac h9
   exact aq fol (o2 ++ [.c true,.r [(4,q1 [.agg [L.arr .u64 4 x6]])],.s 1]) [3,6] [] (t2 (aJ c5 (Zam.snd c6) (ix 0 4 (neI 16777216)))) (Zaw.p3_ok h11 hE)
  ·exact aq fol (o2 ++ [.c false,.s 1]) [3,6] [] (t2 c5) (Zaw.p3_ok h10 hE)
theorem Zaw.snd {n_0_0:List Int} {r:Int} (h:Zaw N n_0_0=some r):SndQ Tryz.prog 221 [.agg [L.arr .u64 4 n_0_0]] (Zaw.rs r):=fun st=>
 sO Zaw.B Tryz.func221 fun g0 w0 R hE=>by
  unfold Zaw at h
  exact aq fol [.r [],.r [],.r []] [1,3,4] [1] trivial (At.loop N (At.loopN (fun y:Int×Int=>Zaw.p1.S y.1 y.2 n_0_0 st) (fun c J hc y h=>Zaw.p1_ok (size_1:=y.1) (i_2:=y.2) h hE (fun size_1 i_2=>hc (size_1,i_2))) N (0,0) h))
noncomputable def Zaz.B:Code:=Tryz.f204.body.getD .skip
noncomputable def Zaz.rs (r:Int):List CV:=[oI r]
noncomputable def Zaz.p3 (N:Nat) (n_11:List Int):Option Int:=
 optE (Zaw N n_11) fun x12=>
 some x12
noncomputable def Zaz.p2 (N:Nat) (p_0:Zae) (took_5:Int) (x1:List Int):Option Int:=
 optE (Zat N x1 took_5 (w64 (p_0.Interval*p_0.Spacing))) fun (x6,x7)=>
 optE (Zcm N p_0.Limit p_0.Limit) fun (x8,x9)=>
 if (!x7)=true then
  some p_0.Limit
 else
 optE (Zbo N x8 x6) fun x10=>
 if x10=true then
  some p_0.Limit
 else
 if (x6==(List.replicate 4 0))=true then
  Zaz.p3 N [1,0,0,0]
 else
 Zaz.p3 N x6
noncomputable def Zaz.p1 (N:Nat) (p_0:Zae) (took_4:Int) (x1:List Int):Option Int:=
 if (decide (took_4>(w64 ((w64 (p_0.Interval*p_0.Spacing))*4))))=true then
  Zaz.p2 N p_0 (w64 ((w64 (p_0.Interval*p_0.Spacing))*4)) x1
 else
 Zaz.p2 N p_0 took_4 x1
noncomputable def Zaz (N:Nat) (p_0:Zae) (bits_1 from_2 to_3:Int):Option Int:=
 optE (Zcm N bits_1 p_0.Limit) fun (x1,x2)=>
 optE (Zde N p_0) fun x3=>
 if (!x3)=true then
  some p_0.Limit
 else
 if (!x2)=true then
  some p_0.Limit
 else
 if (decide ((w64 (to_3-from_2))<(w64 (Int.tdiv (w64 (p_0.Interval*p_0.Spacing)) 4))))=true then
  Zaz.p1 N p_0 (w64 (Int.tdiv (w64 (p_0.Interval*p_0.Spacing)) 4)) x1
 else
 Zaz.p1 N p_0 (w64 (to_3-from_2)) x1
noncomputable def Zaz.p3.S (n_11:List Int) (st:LL):S:=mkS 83 [(13,sA 13)] [(13,.cells [L.arr .u64 4 n_11])] st
noncomputable def Zaz.p2.S (p_0:Zae) (took_5:Int) (x1:List Int) (st:LL):S:=mkS 83 [(4,sA 4),(9,sA 9),(11,sI (w64 (p_0.Interval*p_0.Spacing))),(12,sI took_5)] [(4,.cells p_0.ls),(9,.cells [L.arr .u64 4 x1])] st
noncomputable def Zaz.p1.S (p_0:Zae) (took_4:Int) (x1:List Int) (st:LL):S:=mkS 83 [(4,sA 4),(9,sA 9),(11,sI (w64 (p_0.Interval*p_0.Spacing))),(12,sI took_4)] [(4,.cells p_0.ls),(9,.cells [L.arr .u64 4 x1])] st
theorem Zaz.p3_ok {n_11 st r} (h:Zaz.p3 N n_11=some r) (hE:En Tryz.f204 g0 w0 (Zaz.rs r) st R):At g0 w0 (Zaz.p3.S n_11 st) (XK Tryz.prog R [.c (csub Zaz.B [1,1,1,1,1,1,1,1,1,1,1])]):=by
 unfold Zaz.p3 at h
 obtain ⟨x12,c13,h1⟩:=Zac h
 obtain rfl:=Zab h1
 exact af fol hE [.r [(1,q1 [oI x12])]] [] 0 [] (Zaw.snd c13)
theorem Zaz.p2_ok {p_0 took_5 x1 st r} (h:Zaz.p2 N p_0 took_5 x1=some r) (hE:En Tryz.f204 g0 w0 (Zaz.rs r) st R):At g0 w0 (Zaz.p2.S p_0 took_5 x1 st) (XK Tryz.prog R [.c (csub Zaz.B [1,1,1,1,1,1,1])]):=by
 unfold Zaz.p2 at h
 obtain ⟨⟨x6,x7⟩,c7,h2⟩:=Zac h
 obtain ⟨⟨x8,x9⟩,c8,h3⟩:=Zac h2
 let o1:List PS:=[.r [(3,q1 [.agg [L.arr .u64 4 x6],oB x7])],.r [(4,q1 [.agg [L.arr .u64 4 x8],oB x9])]]
 have t1 {Q:Prop} (q:Q):=aJ (Zat.snd c7) (Zcm.snd c8) q
 refine iteB h3 (fun c9 h4=>?_) (fun c9 h5=>?_)
 ·obtain rfl:=Zab h4
  exact af fol hE (o1 ++ [.r [(3,wF),(4,wF),(5,wF)],.c true,.r []]) [] 0 [] (t1 (aL (not_false (Zbe c9)) (not_false (Zbe c9)) (not_false (Zbe c9)) (not_false (Zbe c9)) eT))
 ·obtain ⟨x10,c10,h6⟩:=Zac h5
  let o2:List PS:=o1 ++ [.r [(5,q1 [oB x10]),(6,yF)]]
  have t2 {Q:Prop} (q:Q):=t1 (aM (not_true (ZaV c9)) (not_true (ZaV c9)) (not_true (ZaV c9)) (Zbo.snd c10) (not_true (ZaV c9)) q)
  refine iteB h6 (fun c11 h7=>?_) (fun c11 h8=>?_)
  ·obtain rfl:=Zab h7
   exact af fol hE (o2 ++ [.c true,.r []]) [] 0 [] (t2 c11)
  ·refine iteB h8 (fun c12 h9=>?_) (fun c12 h10=>?_)
   ·exact aq fol (o2 ++ [.c false,.r [],.c true,.r [(0,{m:=3})],.s 1]) [13] [13] (t2 (aI c11 c12)) (Zaz.p3_ok h9 hE)
   ·exact aq fol (o2 ++ [.c false,.r [],.c false,.s 1]) [13] [13] (t2 (aI c11 c12)) (Zaz.p3_ok h10 hE)
theorem Zaz.p1_ok {p_0 took_4 x1 st r} (h:Zaz.p1 N p_0 took_4 x1=some r) (hE:En Tryz.f204 g0 w0 (Zaz.rs r) st R):At g0 w0 (Zaz.p1.S p_0 took_4 x1 st) (XK Tryz.prog R [.c (csub Zaz.B [1,1,1,1,1,1])]):=by
 unfold Zaz.p1 at h
 refine iteB h (fun c6 h11=>?_) (fun c6 h12=>?_)
 ·exact aq fol [.r [],.c true,.r [],.s 1] [4,9,11,12] [4,9] c6 (Zaz.p2_ok h11 hE)
 ·exact aq fol [.r [],.c false,.s 1] [4,9,11,12] [4,9] c6 (Zaz.p2_ok h12 hE)
theorem Zaz.snd {p_0:Zae} {bits_1 from_2 to_3:Int} {r:Int} (h:Zaz N p_0 bits_1 from_2 to_3=some r):SndQ Tryz.prog 204 [.agg p_0.ls,oI bits_1,oI from_2,oI to_3] (Zaz.rs r):=fun st=>
 sO Zaz.B Tryz.func204 fun g0 w0 R hE=>by
  unfold Zaz at h
  obtain ⟨⟨x1,x2⟩,c1,h13⟩:=Zac h
  obtain ⟨x3,c2,h14⟩:=Zac h13
  let o3:List PS:=[.r [],.r [(3,q1 [.agg [L.arr .u64 4 x1],oB x2])]]
  have t3 {Q:Prop} (q:Q):=aJ (Zcm.snd c1) (Zde.snd c2) q
  refine iteB h14 (fun c3 h15=>?_) (fun c3 h16=>?_)
  ·obtain rfl:=Zab h15
   exact af fol hE (o3 ++ [.r [(1,q1 [oB x3]),(4,wF),(5,wF)],.c true,.r []]) [] 0 [] (t3 (aK (not_false (Zbe c3)) (not_false (Zbe c3)) (not_false (Zbe c3)) eT))
  ·let o4:List PS:=o3 ++ [.r [(1,q1 [oB x3]),(6,yF)]]
   have t4 {Q:Prop} (q:Q):=t3 (aK (not_true (ZaV c3)) (not_true (ZaV c3)) (not_true (ZaV c3)) q)
   refine iteB h16 (fun c4 h17=>?_) (fun c4 h18=>?_)
   ·obtain rfl:=Zab h17
    exact af fol hE (o4 ++ [.c true,.r []]) [] 0 [] (t4 c4)
   ·refine iteB h18 (fun c5 h19=>?_) (fun c5 h20=>?_)
    ·exact aq fol (o4 ++ [.c false,.r [],.r [],.r [],.c true,.r [],.s 1]) [4,9,11,12] [4,9] (t4 (aK c4 (neI 4) c5 (neI 4))) (Zaz.p1_ok h19 hE)
    ·exact aq fol (o4 ++ [.c false,.r [],.r [],.r [],.c false,.s 1]) [4,9,11,12] [4,9] (t4 (aJ c4 (neI 4) c5)) (Zaz.p1_ok h20 hE)
noncomputable def ZbZ.B:Code:=Tryz.f171.body.getD .skip
noncomputable def ZbZ.rs (r:Int):List CV:=[oI r]
noncomputable def ZbZ.p1 (N:Nat) (bits_2 time_3 hard_5 own_6:Int) (p_0:Zae):Option Int:=
 if (!p_0.Easy)=true then
  some bits_2
 else
 if (decide ((w64 (own_6-time_3))>(w64 (2*p_0.Spacing))))=true then
  some p_0.Limit
 else
 some hard_5
noncomputable def ZbZ (N:Nat) (p_0:Zae) (height_1 bits_2 time_3 first_4 hard_5 own_6:Int):Option Int:=
 if (decide (height_1≤0))=true then
  some p_0.Limit
 else
 if (decide (p_0.Interval>0))=true then
  chk (p_0.Interval≠0)<|
  if ((Int.tmod height_1 p_0.Interval)==0)=true then
   optE (Zaz N p_0 bits_2 first_4 time_3) fun x1=>
   some x1
  else
  ZbZ.p1 N bits_2 time_3 hard_5 own_6 p_0
 else
 ZbZ.p1 N bits_2 time_3 hard_5 own_6 p_0
noncomputable def ZbZ.p1.S (bits_2 time_3 hard_5 own_6:Int) (p_0:Zae) (st:LL):S:=mkS 48 [(2,sI bits_2),(3,sI time_3),(5,sI hard_5),(6,sI own_6),(7,sA 7)] [(7,.cells p_0.ls)] st
theorem ZbZ.p1_ok {bits_2 time_3 hard_5 own_6 p_0 st r} (h:ZbZ.p1 N bits_2 time_3 hard_5 own_6 p_0=some r) (hE:En Tryz.f171 g0 w0 (ZbZ.rs r) st R):At g0 w0 (ZbZ.p1.S bits_2 time_3 hard_5 own_6 p_0 st) (XK Tryz.prog R [.c (csub ZbZ.B [1,1,1])]):=by
 unfold ZbZ.p1 at h
 refine iteB h (fun c6 h1=>?_) (fun c6 h2=>?_)
 ·obtain rfl:=Zab h1
  exact af fol hE [.r [],.c true,.r []] [] 0 [] c6
 ·refine iteB h2 (fun c7 h3=>?_) (fun c7 h4=>?_)
  ·obtain rfl:=Zab h3
   exact af fol hE [.r [],.c false,.r [],.c true,.r []] [] 0 [] (aI c6 c7)
  ·obtain rfl:=Zab h4
   exact af fol hE [.r [],.c false,.r [],.c false,.r []] [] 0 [] (aI c6 c7)
theorem ZbZ.snd {p_0:Zae} {height_1 bits_2 time_3 first_4 hard_5 own_6:Int} {r:Int} (h:ZbZ N p_0 height_1 bits_2 time_3 first_4 hard_5 own_6=some r):SndQ Tryz.prog 171 [.agg p_0.ls,oI height_1,oI bits_2,oI time_3,oI first_4,oI hard_5,oI own_6] (ZbZ.rs r):=fun st=>
 sO ZbZ.B Tryz.func171 fun g0 w0 R hE=>by
  unfold ZbZ at h
  refine iteB h (fun c1 h5=>?_) (fun c1 h6=>?_)
  ·obtain rfl:=Zab h5
   exact af fol hE [.r [],.r [],.c true,.r []] [] 0 [] c1
  ·let o1:List PS:=[.r [],.r [],.c false]
   refine iteB h6 (fun c2 h7=>?_) (fun c2 h8=>?_)
   ·obtain ⟨c3,h9⟩:=ZaS h7
    refine iteB h9 (fun c4 h10=>?_) (fun c4 h11=>?_)
    ·obtain ⟨x1,c5,h12⟩:=Zac h10
     obtain rfl:=Zab h12
     exact af fol hE (o1 ++ [.r [],.c true,.r [(4,q1 [oI x1])]]) [] 0 [] (aO c1 c2 c2 c2 c2 c3 c2 (aJ c2 c4 (Zaz.snd c5)))
    ·exact aq fol (o1 ++ [.r [],.c false,.s 1]) [2,3,5,6,7] [7] (aO c1 c2 c2 c2 c2 c3 c2 (aI c2 c4)) (ZbZ.p1_ok h11 hE)
   ·exact aq fol (o1 ++ [.r [(4,wF),(5,wF),(6,wF),(7,wF),(8,wF),(9,yF)],.c false,.s 1]) [2,3,5,6,7] [7] (aO c1 c2 c2 c2 c2 c2 c2 eF) (ZbZ.p1_ok h8 hE)
noncomputable def ZaB.B:Code:=Tryz.f111.body.getD .skip
noncomputable def ZaB.rs (r:Int):List CV:=[oI r]
noncomputable def ZaB.p4 (N:Nat) (c1_:(Int×Int×Int)→Option Int) (time_2:Int) (chain_1:LL) (first_7 hard_8 v4:Int) (p_0:Zae) (x1:Zai):Option Int:=
 c1_ (first_7,hard_8,w64 (v4+1))
noncomputable def ZaB.p3 (N:Nat) (c1_:(Int×Int×Int)→Option Int) (time_2:Int) (chain_1:LL) (first_7 hard_3:Int) (begins_6:Bool) (v4:Int) (p_0:Zae) (x1 x5:Zai):Option Int:=
 if (!p_0.Easy)=true then
  ZaB.p4 N c1_ time_2 chain_1 first_7 x5.Bits v4 p_0 x1
 else
 if (x5.Bits != p_0.Limit)=true then
  ZaB.p4 N c1_ time_2 chain_1 first_7 x5.Bits v4 p_0 x1
 else
 if begins_6=true then
  ZaB.p4 N c1_ time_2 chain_1 first_7 x5.Bits v4 p_0 x1
 else
 ZaB.p4 N c1_ time_2 chain_1 first_7 hard_3 v4 p_0 x1
noncomputable def ZaB.p2 (N:Nat) (c1_:(Int×Int×Int)→Option Int) (time_2:Int) (chain_1:LL) (first_2 hard_3:Int) (begins_6:Bool) (v4:Int) (p_0:Zae) (x1 x5:Zai):Option Int:=
 if begins_6=true then
  ZaB.p3 N c1_ time_2 chain_1 x5.Time hard_3 begins_6 v4 p_0 x1 x5
 else
 ZaB.p3 N c1_ time_2 chain_1 first_2 hard_3 begins_6 v4 p_0 x1 x5
noncomputable def ZaB.p1 (N:Nat) (time_2:Int) (chain_1:LL) (p_0:Zae) (x1:Zai) (c1_:(Int×Int×Int)→Option Int):(Int×Int×Int)→Option Int:=fun (first_2,hard_3,v4)=>
 if (decide (v4<(len chain_1)))=true then
  chk (0≤v4)<|
  getE (chain_1[Int.toNat v4]?) Zds fun x5=>
  if (decide (p_0.Interval>0))=true then
   chk (p_0.Interval≠0)<|
   ZaB.p2 N c1_ time_2 chain_1 first_2 hard_3 ((Int.tmod v4 p_0.Interval)==0) v4 p_0 x1 x5
  else
  ZaB.p2 N c1_ time_2 chain_1 first_2 hard_3 false v4 p_0 x1 x5
 else
 optE (ZbZ N p_0 (len chain_1) x1.Bits x1.Time first_2 hard_3 time_2) fun x9=>
 some x9
noncomputable def ZaB (N:Nat) (p_0:Zae) (chain_1:LL) (time_2:Int):Option Int:=
 if ((len chain_1)==0)=true then
  some p_0.Limit
 else
 chk (0≤(w64 ((len chain_1)-1)))<|
 chk ((w64 ((len chain_1)-1))<(len chain_1))<|
 getE (chain_1[Int.toNat (w64 ((len chain_1)-1))]?) Zds fun x1=>
 loopN (ZaB.p1 N time_2 chain_1 p_0 x1) N (0,p_0.Limit,0)
noncomputable def ZaB.p4.S (time_2:Int) (chain_1:LL) (first_7 hard_8 v4:Int) (p_0:Zae) (x1:Zai) (st:LL):S:=mkS 73 [(2,sI time_2),(3,sA 3),(7,sI (len chain_1)),(8,sA 8),(9,sI first_7),(10,sI hard_8),(27,sV 68 chain_1),(28,sI (len chain_1)),(29,sI v4)] [(3,.cells p_0.ls),(8,.cells x1.ls)] st
noncomputable def ZaB.p3.S (time_2:Int) (chain_1:LL) (first_7 hard_3:Int) (begins_6:Bool) (v4:Int) (p_0:Zae) (x1 x5:Zai) (st:LL):S:=mkS 73 [(2,sI time_2),(3,sA 3),(7,sI (len chain_1)),(8,sA 8),(9,sI first_7),(10,sI hard_3),(12,sA 12),(13,.one (.l (L.bool begins_6))),(27,sV 68 chain_1),(28,sI (len chain_1)),(29,sI v4)] [(3,.cells p_0.ls),(8,.cells x1.ls),(12,.cells x5.ls)] st
noncomputable def ZaB.p2.S (time_2:Int) (chain_1:LL) (first_2 hard_3:Int) (begins_6:Bool) (v4:Int) (p_0:Zae) (x1 x5:Zai) (st:LL):S:=mkS 73 [(2,sI time_2),(3,sA 3),(7,sI (len chain_1)),(8,sA 8),(9,sI first_2),(10,sI hard_3),(12,sA 12),(13,.one (.l (L.bool begins_6))),(27,sV 68 chain_1),(28,sI (len chain_1)),(29,sI v4)] [(3,.cells p_0.ls),(8,.cells x1.ls),(12,.cells x5.ls)] st
noncomputable def ZaB.p1.S (time_2:Int) (chain_1:LL) (first_2 hard_3 v4:Int) (p_0:Zae) (x1:Zai) (st:LL):S:=mkS 73 [(2,sI time_2),(3,sA 3),(7,sI (len chain_1)),(8,sA 8),(9,sI first_2),(10,sI hard_3),(27,sV 68 chain_1),(28,sI (len chain_1)),(29,sI v4)] [(3,.cells p_0.ls),(8,.cells x1.ls)] st
theorem ZaB.p4_ok {time_2 chain_1 first_7 hard_8 v4 p_0 x1 st r c1_ J1} (h:ZaB.p4 N c1_ time_2 chain_1 first_7 hard_8 v4 p_0 x1=some r) (hE:En Tryz.f111 g0 w0 (ZaB.rs r) st R) (hc1 : ∀first_2 hard_3 v4,c1_ (first_2,hard_3,v4)=some r→At g0 w0 (ZaB.p1.S time_2 chain_1 first_2 hard_3 v4 p_0 x1 st) J1):At g0 w0 (ZaB.p4.S time_2 chain_1 first_7 hard_8 v4 p_0 x1 st) (XK Tryz.prog R [.c (csub ZaB.B [1,1,1,1,1,1,0,1,0,0,1,1,1]),.h J1,.b 0,.c (csub ZaB.B [1,1,1,1,1,1,1])]):=by
 unfold ZaB.p4 at h
 exact an fol [.r []] [2,3,7,8,9,10,27,28,29] [3,8] trivial (hc1 first_7 hard_8 (w64 (v4+1)) h)
theorem ZaB.p3_ok {time_2 chain_1 first_7 hard_3 begins_6 v4 p_0 x1 x5 st r c1_ J1} (h:ZaB.p3 N c1_ time_2 chain_1 first_7 hard_3 begins_6 v4 p_0 x1 x5=some r) (hE:En Tryz.f111 g0 w0 (ZaB.rs r) st R) (hc1 : ∀first_2 hard_3 v4,c1_ (first_2,hard_3,v4)=some r→At g0 w0 (ZaB.p1.S time_2 chain_1 first_2 hard_3 v4 p_0 x1 st) J1):At g0 w0 (ZaB.p3.S time_2 chain_1 first_7 hard_3 begins_6 v4 p_0 x1 x5 st) (XK Tryz.prog R [.c (csub ZaB.B [1,1,1,1,1,1,0,1,0,0,1,1,0,0,1,1,1]),.b 1,.c (csub ZaB.B [1,1,1,1,1,1,0,1,0,0,1,1,1]),.h J1,.b 0,.c (csub ZaB.B [1,1,1,1,1,1,1])]):=by
 unfold ZaB.p3 at h
 refine iteB h (fun c11 h1=>?_) (fun c11 h2=>?_)
 ·exact aq fol [.r [(4,wF),(5,wF),(6,wF),(7,wF),(8,wF),(11,wF)],.c true,.r [],.s 4] [2,3,7,8,9,10,27,28,29] [3,8] (aO (not_false (Zbe c11)) (not_false (Zbe c11)) (not_false (Zbe c11)) (not_false (Zbe c11)) (not_false (Zbe c11)) (not_false (Zbe c11)) eT (aI eT eT)) (ZaB.p4_ok h1 hE hc1)
 ·have t1 {Q:Prop} (q:Q):=aN (not_true (ZaV c11)) (not_true (ZaV c11)) (not_true (ZaV c11)) (not_true (ZaV c11)) (not_true (ZaV c11)) (not_true (ZaV c11)) q
  refine iteB h2 (fun c12 h3=>?_) (fun c12 h4=>?_)
  ·exact aq fol [.r [(9,yF),(11,wF)],.c true,.r [],.s 4] [2,3,7,8,9,10,27,28,29] [3,8] (t1 (aJ c12 c12 eT)) (ZaB.p4_ok h3 hE hc1)
  ·let o1:List PS:=[.r [(9,yF),(12,yF)]]
   refine iteB h4 (fun c13 h5=>?_) (fun c13 h6=>?_)
   ·exact aq fol (o1 ++ [.c true,.r [],.s 4]) [2,3,7,8,9,10,27,28,29] [3,8] (t1 (aJ c12 c12 c13)) (ZaB.p4_ok h5 hE hc1)
   ·exact aq fol (o1 ++ [.c false,.s 4]) [2,3,7,8,9,10,27,28,29] [3,8] (t1 (aJ c12 c12 c13)) (ZaB.p4_ok h6 hE hc1)
theorem ZaB.p2_ok {time_2 chain_1 first_2 hard_3 begins_6 v4 p_0 x1 x5 st r c1_ J1} (h:ZaB.p2 N c1_ time_2 chain_1 first_2 hard_3 begins_6 v4 p_0 x1 x5=some r) (hE:En Tryz.f111 g0 w0 (ZaB.rs r) st R) (hc1 : ∀first_2 hard_3 v4,c1_ (first_2,hard_3,v4)=some r→At g0 w0 (ZaB.p1.S time_2 chain_1 first_2 hard_3 v4 p_0 x1 st) J1):At g0 w0 (ZaB.p2.S time_2 chain_1 first_2 hard_3 begins_6 v4 p_0 x1 x5 st) (XK Tryz.prog R [.c (csub ZaB.B [1,1,1,1,1,1,0,1,0,0,1,1,0,0,1,1]),.b 1,.c (csub ZaB.B [1,1,1,1,1,1,0,1,0,0,1,1,1]),.h J1,.b 0,.c (csub ZaB.B [1,1,1,1,1,1,1])]):=by
 unfold ZaB.p2 at h
 refine iteB h (fun c10 h7=>?_) (fun c10 h8=>?_)
 ·exact aq fol [.r [],.c true,.r [],.s 6] [2,3,7,8,9,10,12,13,27,28,29] [3,8,12] c10 (ZaB.p3_ok h7 hE hc1)
 ·exact aq fol [.r [],.c false,.s 6] [2,3,7,8,9,10,12,13,27,28,29] [3,8,12] c10 (ZaB.p3_ok h8 hE hc1)
theorem ZaB.p1_ok {time_2 chain_1 first_2 hard_3 v4 p_0 x1 st r c1_ J1} (h:ZaB.p1 N time_2 chain_1 p_0 x1 c1_ (first_2,hard_3,v4)=some r) (hE:En Tryz.f111 g0 w0 (ZaB.rs r) st R) (hc1 : ∀first_2 hard_3 v4,c1_ (first_2,hard_3,v4)=some r→At g0 w0 (ZaB.p1.S time_2 chain_1 first_2 hard_3 v4 p_0 x1 st) J1):At g0 w0 (ZaB.p1.S time_2 chain_1 first_2 hard_3 v4 p_0 x1 st) (XK Tryz.prog R (.c (csub ZaB.B [1,1,1,1,1,1,0,1,0,0]) :: .h J1 :: [.b 0,.c (csub ZaB.B [1,1,1,1,1,1,1])])):=by
 unfold ZaB.p1 at h
 refine iteB h (fun c5 h9=>?_) (fun c5 h10=>?_)
 ·obtain ⟨c6,h11⟩:=ZaS h9
  obtain ⟨x5,c7,h12⟩:=ZdJ h11
  let o2:List PS:=[.r [],.c true,.r [(2,{oe:=x5.ls})]]
  refine iteB h12 (fun c8 h13=>?_) (fun c8 h14=>?_)
  ·obtain ⟨c9,h15⟩:=ZaS h13
   exact aq fol (o2 ++ [.r [],.s 6]) [2,3,7,8,9,10,12,13,27,28,29] [3,8,12] (aO c5 c6 (oD c5) c7 c8 c8 c8 (aK c8 c9 c8 c8)) (ZaB.p2_ok h15 hE hc1)
  ·exact aq fol (o2 ++ [.r [(4,wF),(5,wF),(6,wF),(7,wF),(8,wF),(9,yF)],.s 6]) [2,3,7,8,9,10,12,13,27,28,29] [3,8,12] (aO c5 c6 (oD c5) c7 c8 c8 c8 (aJ c8 c8 c8)) (ZaB.p2_ok h14 hE hc1)
 ·obtain ⟨x9,c14,h16⟩:=Zac h10
  obtain rfl:=Zab h16
  exact af fol hE [.r [],.c false,.r [(9,q1 [oI x9])]] [] 0 [] (aI c5 (ZbZ.snd c14))
theorem ZaB.snd {p_0:Zae} {chain_1:LL} {time_2:Int} {r:Int} (h:ZaB N p_0 chain_1 time_2=some r):SndQ Tryz.prog 111 [.agg p_0.ls,.one (L.sl 68 chain_1),oI time_2] (ZaB.rs r):=fun st=>
 sO ZaB.B Tryz.func111 fun g0 w0 R hE=>by
  unfold ZaB at h
  refine iteB h (fun c1 h17=>?_) (fun c1 h18=>?_)
  ·obtain rfl:=Zab h17
   exact af fol hE [.r [],.r [],.r [],.c true,.r []] [] 0 [] c1
  ·obtain ⟨c2,c3,h19⟩:=ck2 h18
   obtain ⟨x1,c4,h20⟩:=ZdJ h19
   exact aq fol [.r [],.r [],.r [],.c false,.r [(4,{oe:=x1.ls})],.r [],.r [],.r []] [2,3,7,8,9,10,27,28,29] [3,8] (aK c1 c2 c3 c4) (At.loop N (At.loopN (fun y:Int×Int×Int=>ZaB.p1.S time_2 chain_1 y.1 y.2.1 y.2.2 p_0 x1 st) (fun c J hc y h=>ZaB.p1_ok (first_2:=y.1) (hard_3:=y.2.1) (v4:=y.2.2) h hE (fun first_2 hard_3 v4=>hc (first_2,hard_3,v4))) N (0,p_0.Limit,0) h20))
noncomputable def Zbv.B:Code:=Tryz.f173.body.getD .skip
noncomputable def Zbv.rs (r:(List Int)):List CV:=[.agg [L.arr .u64 4 r]]
noncomputable def Zbv.p1 (N:Nat) (h_0_0:List Int) (c1_:(Int×(List Int))→Option (List Int)):(Int×(List Int))→Option (List Int):=fun (i_1,out_3)=>
 if (decide (i_1≥0))=true then
  optE (Zam N out_3 8) fun x4=>
  chk (0≤i_1)<|
  chk (i_1<32)<|
  c1_ (w64 (i_1-1),List.set x4 0 (v64 ((List.getD x4 0 0)+(v64 (List.getD h_0_0 (Int.toNat i_1) 0)))))
 else
 some out_3
noncomputable def Zbv (N:Nat) (h_0_0:List Int):Option (List Int):=
 loopN (Zbv.p1 N h_0_0) N (31,List.replicate 4 0)
noncomputable def Zbv.p1.S (i_1:Int) (h_0_0 out_3:List Int) (st:LL):S:=mkS 21 [(1,sA 1),(2,sA 2),(3,sA 3),(4,sI i_1)] [(1,.cells [L.arr .u8 32 h_0_0]),(2,.cells [L.arr .u64 4 (List.replicate 4 0)]),(3,.cells [L.arr .u64 4 out_3])] st
theorem Zbv.p1_ok {i_1 h_0_0 out_3 st r c1_ J1} (h:Zbv.p1 N h_0_0 c1_ (i_1,out_3)=some r) (hE:En Tryz.f173 g0 w0 (Zbv.rs r) st R) (hc1 : ∀i_1 out_3,c1_ (i_1,out_3)=some r→At g0 w0 (Zbv.p1.S i_1 h_0_0 out_3 st) J1):At g0 w0 (Zbv.p1.S i_1 h_0_0 out_3 st) (XK Tryz.prog R (.c (csub Zbv.B [1,1,0,1,0,0]) :: .h J1 :: [.b 0,.c (csub Zbv.B [1,1,1])])):=by
 unfold Zbv.p1 at h
 refine iteB h (fun c5 h1=>?_) (fun c5 h2=>?_)
 ·obtain ⟨x4,c6,h3⟩:=Zac h1
  obtain ⟨c7,c8,h4⟩:=ck2 h3
  exact and_ fol [.r [],.c true,.r [(1,q1 [.agg [L.arr .u64 4 x4]])],.d {ds:=[],hv:=256,Hs:=[256]},.r []] [1,2,3,4] [1,2,3] (aJ c5 (Zam.snd c6) (ix 0 4 (aK c7 c8 (leI 0 0) (ltI 0 4)))) (hc1 (w64 (i_1-1)) (List.set x4 0 (v64 ((List.getD x4 0 0)+(v64 (List.getD h_0_0 (Int.toNat i_1) 0))))) h4)
 ·obtain rfl:=Zab h2
  exact af fol hE [.r [],.c false,.r []] [] 0 [] c5
theorem Zbv.snd {h_0_0:List Int} {r:(List Int)} (h:Zbv N h_0_0=some r):SndQ Tryz.prog 173 [.agg [L.arr .u8 32 h_0_0]] (Zbv.rs r):=fun st=>
 sO Zbv.B Tryz.func173 fun g0 w0 R hE=>by
  unfold Zbv at h
  exact aq fol [.r [],.r [],.r []] [1,2,3,4] [1,2,3] trivial (At.loop N (At.loopN (fun y:Int×(List Int)=>Zbv.p1.S y.1 h_0_0 y.2 st) (fun c J hc y h=>Zbv.p1_ok (i_1:=y.1) (out_3:=y.2) h hE (fun i_1 out_3=>hc (i_1,out_3))) N (31,List.replicate 4 0) h))
noncomputable def Zdo.B:Code:=Tryz.f112.body.getD .skip
noncomputable def Zdo.rs (r:Bool):List CV:=[oB r]
noncomputable def Zdo (N:Nat) (p_0:Zae) (h_1:Zai):Option Bool:=
 optE (Zcm N h_1.Bits p_0.Limit) fun (x1,x2)=>
 if x2=true then
  optE (ZcD N h_1) fun x3=>
  optE (Zbv N x3) fun x4=>
  optE (Zbo N x1 x4) fun x5=>
  some (!x5)
 else
 some false
theorem Zdo.snd {p_0:Zae} {h_1:Zai} {r:Bool} (h:Zdo N p_0 h_1=some r):SndQ Tryz.prog 112 [.agg p_0.ls,.agg h_1.ls] (Zdo.rs r):=fun st=>
 sO Zdo.B Tryz.func112 fun g0 w0 R hE=>by
  unfold Zdo at h
  obtain ⟨⟨x1,x2⟩,c1,h1⟩:=Zac h
  let o1:List PS:=[.r [],.r [(4,q1 [.agg [L.arr .u64 4 x1],oB x2])]]
  refine iteB h1 (fun c2 h2=>?_) (fun c2 h3=>?_)
  ·obtain ⟨x3,c3,h4⟩:=Zac h2
   obtain ⟨x4,c4,h5⟩:=Zac h4
   obtain ⟨x5,c5,h6⟩:=Zac h5
   obtain rfl:=Zab h6
   exact afd fol hE (o1 ++ [.d {ds:=[(4,q1 [.agg [L.arr .u8 32 x3]]),(5,q1 [.agg [L.arr .u64 4 x4]]),(6,q1 [oB x5])],hv:=0,Hs:=[]}]) [] 0 [] (aO (Zcm.snd c1) c2 c2 c2 (ZcD.snd c3) c2 (Zbv.snd c4) (aK c2 (Zbo.snd c5) c2 c2))
  ·obtain rfl:=Zab h3
   exact afd fol hE (o1 ++ [.d {ds:=[(2,wF),(3,wF),(4,wF),(5,wF),(6,wF),(7,wF),(8,yF)],hv:=0,Hs:=[]}]) [] 0 [] (aO (Zcm.snd c1) c2 c2 c2 c2 c2 c2 c2)
noncomputable def Zca.B:Code:=Tryz.f113.body.getD .skip
noncomputable def Zca.rs (r:LL):List CV:=[.row true 1 r]
noncomputable def Zca.p1 (N:Nat) (row_0:LL) (c1_:(LL×Int)→Option LL):(LL×Int)→Option LL:=fun (out_3,i_1)=>
 if (decide (i_1≥0))=true then
  if (decide ((len out_3)<11))=true then
   chk (0≤i_1)<|
   chk (i_1<(len row_0))<|
   getE (row_0[Int.toNat i_1]?) ZcI fun x4=>
   chk (List.length (out_3 ++ [[L.int .i64 x4]])*8≤140737488355328)<|
   c1_ (out_3 ++ [[L.int .i64 x4]],w64 (i_1-1))
  else
  some out_3
 else
 some out_3
noncomputable def Zca (N:Nat) (row_0:LL):Option LL:=
 loopN (Zca.p1 N row_0) N ([],w64 ((len row_0)-1))
noncomputable def Zca.p1.S (row_0 out_3:LL) (i_1:Int) (st:LL):S:=mkS 25 [(0,sV 1 row_0),(3,.one (.h (.row 3 0) 1 0 (List.length out_3))),(4,sI i_1)] [(3,.row 0 true 1 out_3)] st
theorem Zca.p1_ok {row_0 out_3 i_1 st r c1_ J1} (h:Zca.p1 N row_0 c1_ (out_3,i_1)=some r) (hE:En Tryz.f113 g0 w0 (Zca.rs r) st R) (hc1 : ∀out_3 i_1,c1_ (out_3,i_1)=some r→At g0 w0 (Zca.p1.S row_0 out_3 i_1 st) J1):At g0 w0 (Zca.p1.S row_0 out_3 i_1 st) (XK Tryz.prog R (.c (csub Zca.B [1,1,0,1,0,0]) :: .h J1 :: [.b 0,.c (csub Zca.B [1,1,1])])):=by
 unfold Zca.p1 at h
 refine iteB h (fun c6 h1=>?_) (fun c6 h2=>?_)
 ·refine iteB h1 (fun c7 h3=>?_) (fun c7 h4=>?_)
  ·obtain ⟨c8,c9,h5⟩:=ck2 h3
   obtain ⟨x4,c10,h6⟩:=Zcl h5
   obtain ⟨c11,h7⟩:=ZaS h6
   exact an fol [.r [],.c true,.r [(4,{oe:=[L.int .i64 x4]})],.r []] [0,3,4] [3] (aO c6 c6 c6 c6 c7 c8 c9 (aM c10 z0 (eN (List.length out_3)) z0 (eN (1)) c11)) (hc1 (out_3 ++ [[L.int .i64 x4]]) (w64 (i_1-1)) h7)
  ·obtain rfl:=Zab h4
   exact af fol hE [.r [],.c false,.r []] [] 0 [0] (aN c6 c6 c6 c6 c7 z0 (eN (List.length out_3)))
 ·obtain rfl:=Zab h2
  exact af fol hE [.r [(3,wF),(4,wF),(5,wF),(6,yF)],.c false,.r []] [] 0 [0] (aN c6 c6 c6 c6 eF z0 (eN (List.length out_3)))
theorem Zca.snd {row_0:LL} {r:LL} (h:Zca N row_0=some r):SndQ Tryz.prog 113 [.one (L.sl 1 row_0)] (Zca.rs r):=fun st=>
 sO Zca.B Tryz.func113 fun g0 w0 R hE=>by
  unfold Zca at h
  exact aq fol [.r [(0,{m:=2})],.r [(0,{m:=1})],.r []] [0,3,4] [3] trivial (At.loop N (At.loopN (fun y:LL×Int=>Zca.p1.S row_0 y.1 y.2 st) (fun c J hc y h=>Zca.p1_ok (out_3:=y.1) (i_1:=y.2) h hE (fun out_3 i_1=>hc (out_3,i_1))) N ([],w64 ((len row_0)-1)) h))
noncomputable def ZaF.B:Code:=Tryz.f106.body.getD .skip
noncomputable def ZaF.rs (r:Int):List CV:=[oI r]
noncomputable def ZaF.p4 (N:Nat) (c2_:(Int×Int×Int)→Option Int) (c1_:Int→Option Int) (times_0:LL) (i_1 less_7 same_10 j_4:Int):Option Int:=
 c2_ (less_7,same_10,w64 (j_4+1))
noncomputable def ZaF.p3 (N:Nat) (c2_:(Int×Int×Int)→Option Int) (c1_:Int→Option Int) (times_0:LL) (i_1 less_7 same_3 j_4:Int):Option Int:=
 chk (0≤j_4)<|
 chk (j_4<(len times_0))<|
 getE (times_0[Int.toNat j_4]?) ZcI fun x8=>
 chk (0≤i_1)<|
 chk (i_1<(len times_0))<|
 getE (times_0[Int.toNat i_1]?) ZcI fun x9=>
 if (x8==x9)=true then
  ZaF.p4 N c2_ c1_ times_0 i_1 less_7 (w64 (same_3+1)) j_4
 else
 ZaF.p4 N c2_ c1_ times_0 i_1 less_7 same_3 j_4
noncomputable def ZaF.p2 (N:Nat) (c1_:Int→Option Int) (times_0:LL) (i_1:Int) (c2_:(Int×Int×Int)→Option Int):(Int×Int×Int)→Option Int:=fun (less_2,same_3,j_4)=>
 if (decide (j_4<(if (11:Int)<(len times_0) then 11 else (len times_0))))=true then
  chk (0≤j_4)<|
  chk (j_4<(len times_0))<|
  getE (times_0[Int.toNat j_4]?) ZcI fun x5=>
  chk (0≤i_1)<|
  chk (i_1<(len times_0))<|
  getE (times_0[Int.toNat i_1]?) ZcI fun x6=>
  if (decide (x5<x6))=true then
   ZaF.p3 N c2_ c1_ times_0 i_1 (w64 (less_2+1)) same_3 j_4
  else
  ZaF.p3 N c2_ c1_ times_0 i_1 less_2 same_3 j_4
 else
 if (decide (less_2≤(w64 (Int.tdiv (if (11:Int)<(len times_0) then 11 else (len times_0)) 2))))=true then
  if (decide ((w64 (Int.tdiv (if (11:Int)<(len times_0) then 11 else (len times_0)) 2))<(w64 (less_2+same_3))))=true then
   chk (0≤i_1)<|
   chk (i_1<(len times_0))<|
   getE (times_0[Int.toNat i_1]?) ZcI fun x11=>
   some x11
  else
  c1_ (w64 (i_1+1))
 else
 c1_ (w64 (i_1+1))
noncomputable def ZaF.p1 (N:Nat) (times_0:LL) (c1_:Int→Option Int):Int→Option Int:=fun i_1=>
 if (decide (i_1<(if (11:Int)<(len times_0) then 11 else (len times_0))))=true then
  loopN (ZaF.p2 N c1_ times_0 i_1) N (0,0,0)
 else
 some 0
noncomputable def ZaF (N:Nat) (times_0:LL):Option Int:=
 loopN (ZaF.p1 N times_0) N 0
noncomputable def ZaF.p4.S (times_0:LL) (i_1 less_7 same_10 j_4:Int) (st:LL):S:=mkS 59 [(0,sV 1 times_0),(3,sI (if (11:Int)<(len times_0) then 11 else (len times_0))),(4,sI i_1),(5,sI less_7),(6,sI same_10),(7,sI j_4)] [] st
noncomputable def ZaF.p3.S (times_0:LL) (i_1 less_7 same_3 j_4:Int) (st:LL):S:=mkS 59 [(0,sV 1 times_0),(3,sI (if (11:Int)<(len times_0) then 11 else (len times_0))),(4,sI i_1),(5,sI less_7),(6,sI same_3),(7,sI j_4)] [] st
noncomputable def ZaF.p2.S (times_0:LL) (i_1 less_2 same_3 j_4:Int) (st:LL):S:=mkS 59 [(0,sV 1 times_0),(3,sI (if (11:Int)<(len times_0) then 11 else (len times_0))),(4,sI i_1),(5,sI less_2),(6,sI same_3),(7,sI j_4)] [] st
noncomputable def ZaF.p1.S (times_0:LL) (i_1:Int) (st:LL):S:=mkS 59 [(0,sV 1 times_0),(3,sI (if (11:Int)<(len times_0) then 11 else (len times_0))),(4,sI i_1)] [] st
theorem ZaF.p4_ok {times_0 i_1 less_7 same_10 j_4 st r c2_ c1_ J2 J1} (h:ZaF.p4 N c2_ c1_ times_0 i_1 less_7 same_10 j_4=some r) (hE:En Tryz.f106 g0 w0 (ZaF.rs r) st R) (hc2 : ∀less_2 same_3 j_4,c2_ (less_2,same_3,j_4)=some r→At g0 w0 (ZaF.p2.S times_0 i_1 less_2 same_3 j_4 st) J2) (hc1 : ∀i_1,c1_ i_1=some r→At g0 w0 (ZaF.p1.S times_0 i_1 st) J1):At g0 w0 (ZaF.p4.S times_0 i_1 less_7 same_10 j_4 st) (XK Tryz.prog R [.c (csub ZaF.B [1,1,0,1,0,0,1,0,0,1,1,0,1,0,0,1,1]),.h J2,.b 2,.c (csub ZaF.B [1,1,0,1,0,0,1,0,0,1,1,1]),.b 1,.c (csub ZaF.B [1,1,0,1,0,0,1,1]),.h J1,.b 0,.c (csub ZaF.B [1,1,1])]):=by
 unfold ZaF.p4 at h
 exact an fol [.r []] [0,3,4,5,6,7] [] trivial (hc2 less_7 same_10 (w64 (j_4+1)) h)
theorem ZaF.p3_ok {times_0 i_1 less_7 same_3 j_4 st r c2_ c1_ J2 J1} (h:ZaF.p3 N c2_ c1_ times_0 i_1 less_7 same_3 j_4=some r) (hE:En Tryz.f106 g0 w0 (ZaF.rs r) st R) (hc2 : ∀less_2 same_3 j_4,c2_ (less_2,same_3,j_4)=some r→At g0 w0 (ZaF.p2.S times_0 i_1 less_2 same_3 j_4 st) J2) (hc1 : ∀i_1,c1_ i_1=some r→At g0 w0 (ZaF.p1.S times_0 i_1 st) J1):At g0 w0 (ZaF.p3.S times_0 i_1 less_7 same_3 j_4 st) (XK Tryz.prog R [.c (csub ZaF.B [1,1,0,1,0,0,1,0,0,1,1,0,1,0,0,1,0,0,1]),.b 3,.c (csub ZaF.B [1,1,0,1,0,0,1,0,0,1,1,0,1,0,0,1,1]),.h J2,.b 2,.c (csub ZaF.B [1,1,0,1,0,0,1,0,0,1,1,1]),.b 1,.c (csub ZaF.B [1,1,0,1,0,0,1,1]),.h J1,.b 0,.c (csub ZaF.B [1,1,1])]):=by
 unfold ZaF.p3 at h
 obtain ⟨c10,c11,h1⟩:=ck2 h
 obtain ⟨x8,c12,h2⟩:=Zcl h1
 obtain ⟨c13,c14,h3⟩:=ck2 h2
 obtain ⟨x9,c15,h4⟩:=Zcl h3
 let o1:List PS:=[.d {ds:=[(3,{oe:=[L.int .i64 x8]}),(7,{oe:=[L.int .i64 x9]})],hv:=0,Hs:=[]}]
 refine iteB h4 (fun c16 h5=>?_) (fun c16 h6=>?_)
 ·exact aqd fol (o1 ++ [.c true,.r [],.s 9]) [0,3,4,5,6,7] [] (aN c10 c11 c12 c13 c14 c15 c16) (ZaF.p4_ok h5 hE hc2 hc1)
 ·exact aqd fol (o1 ++ [.c false,.s 9]) [0,3,4,5,6,7] [] (aN c10 c11 c12 c13 c14 c15 c16) (ZaF.p4_ok h6 hE hc2 hc1)
theorem ZaF.p2_ok {times_0 i_1 less_2 same_3 j_4 st r c1_ c2_ J1 J2} (h:ZaF.p2 N c1_ times_0 i_1 c2_ (less_2,same_3,j_4)=some r) (hE:En Tryz.f106 g0 w0 (ZaF.rs r) st R) (hc1 : ∀i_1,c1_ i_1=some r→At g0 w0 (ZaF.p1.S times_0 i_1 st) J1) (hc2 : ∀less_2 same_3 j_4,c2_ (less_2,same_3,j_4)=some r→At g0 w0 (ZaF.p2.S times_0 i_1 less_2 same_3 j_4 st) J2):At g0 w0 (ZaF.p2.S times_0 i_1 less_2 same_3 j_4 st) (XK Tryz.prog R (.c (csub ZaF.B [1,1,0,1,0,0,1,0,0,1,1,0,1,0,0]) :: .h J2 :: [.b 2,.c (csub ZaF.B [1,1,0,1,0,0,1,0,0,1,1,1]),.b 1,.c (csub ZaF.B [1,1,0,1,0,0,1,1]),.h J1,.b 0,.c (csub ZaF.B [1,1,1])])):=by
 unfold ZaF.p2 at h
 refine iteB h (fun c2 h7=>?_) (fun c2 h8=>?_)
 ·obtain ⟨c3,c4,h9⟩:=ck2 h7
  obtain ⟨x5,c5,h10⟩:=Zcl h9
  obtain ⟨c6,c7,h11⟩:=ck2 h10
  obtain ⟨x6,c8,h12⟩:=Zcl h11
  let o2:List PS:=[.r [],.c true,.d {ds:=[(3,{oe:=[L.int .i64 x5]}),(7,{oe:=[L.int .i64 x6]})],hv:=0,Hs:=[]}]
  refine iteB h12 (fun c9 h13=>?_) (fun c9 h14=>?_)
  ·exact aqd fol (o2 ++ [.c true,.r [],.s 11]) [0,3,4,5,6,7] [] (aO c2 c3 c4 c5 c6 c7 c8 c9) (ZaF.p3_ok h13 hE hc2 hc1)
  ·exact aqd fol (o2 ++ [.c false,.s 11]) [0,3,4,5,6,7] [] (aO c2 c3 c4 c5 c6 c7 c8 c9) (ZaF.p3_ok h14 hE hc2 hc1)
 ·refine iteB h8 (fun c17 h15=>?_) (fun c17 h16=>?_)
  ·have t1 {Q:Prop} (q:Q):=aO c2 (neI 2) c17 c17 (neI 2) c17 c17 (aK c17 c17 c17 q)
   refine iteB h15 (fun c18 h17=>?_) (fun c18 h18=>?_)
   ·obtain ⟨c19,c20,h19⟩:=ck2 h17
    obtain ⟨x11,c21,h20⟩:=Zcl h19
    obtain rfl:=Zab h20
    exact af fol hE [.r [],.c false,.r [],.c true,.r [(3,{oe:=[L.int .i64 x11]})]] [] 0 [] (t1 (aK c18 c19 c20 c21))
   ·exact an fol [.r [],.c false,.r [],.c false,.r []] [0,3,4] [] (t1 c18) (hc1 (w64 (i_1+1)) h18)
  ·exact an fol [.r [],.c false,.r [(5,wF),(6,wF),(7,wF),(8,wF),(9,wF),(10,wF),(11,yF)],.c false,.r []] [0,3,4] [] (aO c2 (neI 2) c17 c17 c17 c17 c17 (aJ c17 c17 eF)) (hc1 (w64 (i_1+1)) h16)
theorem ZaF.p1_ok {times_0 i_1 st r c1_ J1} (h:ZaF.p1 N times_0 c1_ i_1=some r) (hE:En Tryz.f106 g0 w0 (ZaF.rs r) st R) (hc1 : ∀i_1,c1_ i_1=some r→At g0 w0 (ZaF.p1.S times_0 i_1 st) J1):At g0 w0 (ZaF.p1.S times_0 i_1 st) (XK Tryz.prog R (.c (csub ZaF.B [1,1,0,1,0,0]) :: .h J1 :: [.b 0,.c (csub ZaF.B [1,1,1])])):=by
 unfold ZaF.p1 at h
 refine iteB h (fun c1 h21=>?_) (fun c1 h22=>?_)
 ·exact aq fol [.r [],.c true,.r [],.r [],.r []] [0,3,4,5,6,7] [] c1 (At.loop N (At.loopN (fun y:Int×Int×Int=>ZaF.p2.S times_0 i_1 y.1 y.2.1 y.2.2 st) (fun c J hc y h=>ZaF.p2_ok (less_2:=y.1) (same_3:=y.2.1) (j_4:=y.2.2) h hE hc1 (fun less_2 same_3 j_4=>hc (less_2,same_3,j_4))) N (0,0,0) h21))
 ·obtain rfl:=Zab h22
  exact af fol hE [.r [],.c false,.r []] [] 0 [] c1
theorem ZaF.snd {times_0:LL} {r:Int} (h:ZaF N times_0=some r):SndQ Tryz.prog 106 [.one (L.sl 1 times_0)] (ZaF.rs r):=fun st=>
 sO ZaF.B Tryz.func106 fun g0 w0 R hE=>by
  unfold ZaF at h
  exact aq fol [.r [],.r [],.r []] [0,3,4] [] trivial (At.loop N (At.loopN (fun y:Int=>ZaF.p1.S times_0 y st) (fun c J hc y h=>ZaF.p1_ok h hE (fun i_1=>hc i_1)) N 0 h))
noncomputable def Zar.B:Code:=Tryz.f61.body.getD .skip
noncomputable def Zar.rs (r:Int):List CV:=[oI r]
noncomputable def Zar.p6 (N:Nat) (chain_1:LL) (p_0:Zae) (h_2:Zai) (c6_:Int→Option Int):Int→Option Int:=fun v21=>
 if (decide (v21<(len p_0.Checks)))=true then
  chk (0≤v21)<|
  getE (p_0.Checks[Int.toNat v21]?) ZdK fun x22=>
  if (x22.Height==(len chain_1))=true then
   optE (ZcD N h_2) fun x23=>
   if (!(x22.Id==x23))=true then
    some 8
   else
   c6_ (w64 (v21+1))
  else
  c6_ (w64 (v21+1))
 else
 some 0
noncomputable def Zar.p5 (N:Nat) (chain_1:LL) (p_0:Zae) (h_2:Zai) (c5_:Int→Option Int):Int→Option Int:=fun v19=>
 if (decide (v19<(len p_0.Gates)))=true then
  chk (0≤v19)<|
  getE (p_0.Gates[Int.toNat v19]?) ZdT fun x20=>
  if (decide (x20.Height≤(len chain_1)))=true then
   if (decide (h_2.Version<x20.Version))=true then
    some 7
   else
   c5_ (w64 (v19+1))
  else
  c5_ (w64 (v19+1))
 else
 loopN (Zar.p6 N chain_1 p_0 h_2) N 0
noncomputable def Zar.p4 (N:Nat) (chain_1:LL) (p_0:Zae) (h_2:Zai):Option Int:=
 loopN (Zar.p5 N chain_1 p_0 h_2) N 0
noncomputable def Zar.p3 (N:Nat) (now_3:Int) (chain_1:LL) (p_0:Zae) (h_2:Zai):Option Int:=
 if (decide (p_0.Future<0))=true then
  some 6
 else
 if (decide (h_2.Time>now_3))=true then
  if (decide ((w64 (h_2.Time-now_3))>p_0.Future))=true then
   some 6
  else
  Zar.p4 N chain_1 p_0 h_2
 else
 Zar.p4 N chain_1 p_0 h_2
noncomputable def Zar.p2 (N:Nat) (now_3:Int) (chain_1:LL) (p_0:Zae) (h_2:Zai) (c2_:(LL×Int)→Option Int):(LL×Int)→Option Int:=fun (times_15,v6)=>
 if (decide (v6<(len chain_1)))=true then
  chk (0≤v6)<|
  getE (chain_1[Int.toNat v6]?) Zds fun x16=>
  chk (List.length (times_15 ++ [[L.int .i64 x16.Time]])*8≤140737488355328)<|
  c2_ (times_15 ++ [[L.int .i64 x16.Time]],w64 (v6+1))
 else
 if (decide ((len chain_1)>0))=true then
  optE (Zca N times_15) fun x17=>
  chk (plainRow x17=true)<|
  optE (ZaF N x17) fun x18=>
  if (decide (h_2.Time≤x18))=true then
   some 5
  else
  Zar.p3 N now_3 chain_1 p_0 h_2
 else
 Zar.p3 N now_3 chain_1 p_0 h_2
noncomputable def Zar.p1 (N:Nat) (chain_1:LL) (now_3:Int) (p_0:Zae) (h_2:Zai):Option Int:=
 optE (ZaB N p_0 chain_1 h_2.Time) fun x4=>
 if (h_2.Bits != x4)=true then
  some 3
 else
 optE (Zdo N p_0 h_2) fun x5=>
 if (!x5)=true then
  some 4
 else
 loopN (Zar.p2 N now_3 chain_1 p_0 h_2) N ([],0)
noncomputable def Zar (N:Nat) (p_0:Zae) (chain_1:LL) (h_2:Zai) (now_3:Int):Option Int:=
 optE (Zcz N h_2) fun x1=>
 if (!x1)=true then
  some 1
 else
 if (decide ((len chain_1)>0))=true then
  chk (0≤(w64 ((len chain_1)-1)))<|
  chk ((w64 ((len chain_1)-1))<(len chain_1))<|
  getE (chain_1[Int.toNat (w64 ((len chain_1)-1))]?) Zds fun x2=>
  optE (ZcD N x2) fun x3=>
  if (!(h_2.Prev==x3))=true then
   some 2
  else
  Zar.p1 N chain_1 now_3 p_0 h_2
 else
 Zar.p1 N chain_1 now_3 p_0 h_2
noncomputable def Zar.p6.S (chain_1:LL) (p_0:Zae) (v21:Int) (h_2:Zai) (st:LL):S:=mkS 125 [(6,sA 6),(9,sI (len chain_1)),(107,sV 33 p_0.Checks),(108,sI (len p_0.Checks)),(109,sI v21)] [(6,.cells h_2.ls)] st
noncomputable def Zar.p5.S (chain_1:LL) (p_0:Zae) (v19:Int) (h_2:Zai) (st:LL):S:=mkS 125 [(4,sA 4),(6,sA 6),(9,sI (len chain_1)),(88,sV 2 p_0.Gates),(89,sI (len p_0.Gates)),(90,sI v19)] [(4,.cells p_0.ls),(6,.cells h_2.ls)] st
noncomputable def Zar.p4.S (chain_1:LL) (p_0:Zae) (h_2:Zai) (st:LL):S:=mkS 125 [(4,sA 4),(6,sA 6),(9,sI (len chain_1))] [(4,.cells p_0.ls),(6,.cells h_2.ls)] st
noncomputable def Zar.p3.S (now_3:Int) (chain_1:LL) (p_0:Zae) (h_2:Zai) (st:LL):S:=mkS 125 [(3,sI now_3),(4,sA 4),(6,sA 6),(9,sI (len chain_1))] [(4,.cells p_0.ls),(6,.cells h_2.ls)] st
noncomputable def Zar.p2.S (now_3:Int) (chain_1 times_15:LL) (v6:Int) (p_0:Zae) (h_2:Zai) (st:LL):S:=mkS 125 [(3,sI now_3),(4,sA 4),(6,sA 6),(9,sI (len chain_1)),(10,.one (.h (.row 10 0) 1 0 (List.length times_15))),(47,sV 68 chain_1),(48,sI (len chain_1)),(49,sI v6)] [(4,.cells p_0.ls),(6,.cells h_2.ls),(10,.row 0 true 1 times_15)] st
noncomputable def Zar.p1.S (chain_1:LL) (now_3:Int) (p_0:Zae) (h_2:Zai) (st:LL):S:=mkS 125 [(1,sV 68 chain_1),(3,sI now_3),(4,sA 4),(6,sA 6),(9,sI (len chain_1))] [(4,.cells p_0.ls),(6,.cells h_2.ls)] st
theorem Zar.p6_ok {chain_1 p_0 v21 h_2 st r c6_ J6} (h:Zar.p6 N chain_1 p_0 h_2 c6_ v21=some r) (hE:En Tryz.f61 g0 w0 (Zar.rs r) st R) (hc6 : ∀v21,c6_ v21=some r→At g0 w0 (Zar.p6.S chain_1 p_0 v21 h_2 st) J6):At g0 w0 (Zar.p6.S chain_1 p_0 v21 h_2 st) (XK Tryz.prog R (.c (csub Zar.B [1,1,1,1,1,1,1,1,1,1,1,0,1,0,0]) :: .h J6 :: [.b 4,.c (csub Zar.B [1,1,1,1,1,1,1,1,1,1,1,1])])):=by
 unfold Zar.p6 at h
 refine iteB h (fun c53 h1=>?_) (fun c53 h2=>?_)
 ·obtain ⟨c54,h3⟩:=ZaS h1
  obtain ⟨x22,c55,h4⟩:=ZdQ h3
  let o1:List PS:=[.r [],.c true,.r [(1,{oe:=x22.ls})]]
  have t1 {Q:Prop} (q:Q):=aL c53 c54 (oD c53) c55 q
  refine iteB h4 (fun c56 h5=>?_) (fun c56 h6=>?_)
  ·obtain ⟨x23,c57,h7⟩:=Zac h5
   let o2:List PS:=o1 ++ [.d {ds:=[(8,q1 [.agg [L.arr .u8 32 x23]])],hv:=0,Hs:=[]}]
   have t2 {Q:Prop} (q:Q):=t1 (aO c56 c56 c56 c56 (ZcD.snd c57) c56 c56 q)
   refine iteB h7 (fun c58 h8=>?_) (fun c58 h9=>?_)
   ·obtain rfl:=Zab h8
    exact afd fol hE (o2 ++ [.c true,.r []]) [] 0 [] (t2 c58)
   ·exact and_ fol (o2 ++ [.c false,.r []]) [6,9,107,108,109] [6] (t2 c58) (hc6 (w64 (v21+1)) h9)
  ·exact and_ fol (o1 ++ [.d {ds:=[(5,wF),(6,wF),(7,wF),(8,wF),(9,wF),(10,yF)],hv:=0,Hs:=[]},.c false,.r []]) [6,9,107,108,109] [6] (t1 (aN c56 c56 c56 c56 c56 c56 eF)) (hc6 (w64 (v21+1)) h6)
 ·obtain rfl:=Zab h2
  exact af fol hE [.r [],.c false,.r []] [] 0 [] c53
theorem Zar.p5_ok {chain_1 p_0 v19 h_2 st r c5_ J5} (h:Zar.p5 N chain_1 p_0 h_2 c5_ v19=some r) (hE:En Tryz.f61 g0 w0 (Zar.rs r) st R) (hc5 : ∀v19,c5_ v19=some r→At g0 w0 (Zar.p5.S chain_1 p_0 v19 h_2 st) J5):At g0 w0 (Zar.p5.S chain_1 p_0 v19 h_2 st) (XK Tryz.prog R (.c (csub Zar.B [1,1,1,1,1,1,1,1,1,1,0,1,0,0]) :: .h J5 :: [.b 2,.c (csub Zar.B [1,1,1,1,1,1,1,1,1,1,1])])):=by
 unfold Zar.p5 at h
 refine iteB h (fun c48 h10=>?_) (fun c48 h11=>?_)
 ·obtain ⟨c49,h12⟩:=ZaS h10
  obtain ⟨x20,c50,h13⟩:=ZdW h12
  let o3:List PS:=[.r [],.c true,.r [(1,{oe:=x20.ls})]]
  have t3 {Q:Prop} (q:Q):=aL c48 c49 (oD c48) c50 q
  refine iteB h13 (fun c51 h14=>?_) (fun c51 h15=>?_)
  ·refine iteB h14 (fun c52 h16=>?_) (fun c52 h17=>?_)
   ·obtain rfl:=Zab h16
    exact af fol hE (o3 ++ [.r [],.c true,.r []]) [] 0 [] (t3 (aN c51 c51 c51 c51 c51 c51 c52))
   ·exact an fol (o3 ++ [.r [],.c false,.r []]) [4,6,9,88,89,90] [4,6] (t3 (aN c51 c51 c51 c51 c51 c51 c52)) (hc5 (w64 (v19+1)) h17)
  ·exact an fol (o3 ++ [.r [(5,wF),(6,wF),(7,wF),(8,wF),(9,wF),(10,yF)],.c false,.r []]) [4,6,9,88,89,90] [4,6] (t3 (aN c51 c51 c51 c51 c51 c51 eF)) (hc5 (w64 (v19+1)) h15)
 ·exact aq fol [.r [],.c false,.r []] [6,9,107,108,109] [6] c48 (At.loop N (At.loopN (fun y:Int=>Zar.p6.S chain_1 p_0 y h_2 st) (fun c J hc y h=>Zar.p6_ok h hE (fun v21=>hc v21)) N 0 h11))
theorem Zar.p4_ok {chain_1 p_0 h_2 st r} (h:Zar.p4 N chain_1 p_0 h_2=some r) (hE:En Tryz.f61 g0 w0 (Zar.rs r) st R):At g0 w0 (Zar.p4.S chain_1 p_0 h_2 st) (XK Tryz.prog R [.c (csub Zar.B [1,1,1,1,1,1,1,1,1,1])]):=by
 unfold Zar.p4 at h
 exact aq fol [.r []] [4,6,9,88,89,90] [4,6] trivial (At.loop N (At.loopN (fun y:Int=>Zar.p5.S chain_1 p_0 y h_2 st) (fun c J hc y h=>Zar.p5_ok h hE (fun v19=>hc v19)) N 0 h))
theorem Zar.p3_ok {now_3 chain_1 p_0 h_2 st r} (h:Zar.p3 N now_3 chain_1 p_0 h_2=some r) (hE:En Tryz.f61 g0 w0 (Zar.rs r) st R):At g0 w0 (Zar.p3.S now_3 chain_1 p_0 h_2 st) (XK Tryz.prog R [.c (csub Zar.B [1,1,1,1,1,1,1,1,1])]):=by
 unfold Zar.p3 at h
 refine iteB h (fun c45 h18=>?_) (fun c45 h19=>?_)
 ·obtain rfl:=Zab h18
  exact af fol hE [.r [(4,wF),(5,wF),(6,wF),(7,wF),(8,wF),(16,wF)],.c true,.r []] [] 0 [] (aO c45 c45 c45 c45 c45 c45 c45 eT)
 ·have t4 {Q:Prop} (q:Q):=aM c45 c45 c45 c45 c45 q
  refine iteB h19 (fun c46 h20=>?_) (fun c46 h21=>?_)
  ·have t5 {Q:Prop} (q:Q):=t4 (aO c46 c46 c46 c46 c46 c46 c46 (aK c45 c46 c45 q))
   refine iteB h20 (fun c47 h22=>?_) (fun c47 h23=>?_)
   ·obtain rfl:=Zab h22
    exact af fol hE [.r [(17,yF)],.c true,.r []] [] 0 [] (t5 c47)
   ·exact aq fol [.r [(17,yF)],.c false,.s 1] [4,6,9] [4,6] (t5 c47) (Zar.p4_ok h23 hE)
  ·exact aq fol [.r [(9,wF),(10,wF),(11,wF),(12,wF),(13,wF),(14,wF),(15,wF),(16,yF),(17,yF)],.c false,.s 1] [4,6,9] [4,6] (t4 (aO c46 c46 c46 c46 c46 c46 c46 (aK c45 c46 c45 eF))) (Zar.p4_ok h21 hE)
theorem Zar.p2_ok {now_3 chain_1 times_15 v6 p_0 h_2 st r c2_ J2} (h:Zar.p2 N now_3 chain_1 p_0 h_2 c2_ (times_15,v6)=some r) (hE:En Tryz.f61 g0 w0 (Zar.rs r) st R) (hc2 : ∀times_15 v6,c2_ (times_15,v6)=some r→At g0 w0 (Zar.p2.S now_3 chain_1 times_15 v6 p_0 h_2 st) J2):At g0 w0 (Zar.p2.S now_3 chain_1 times_15 v6 p_0 h_2 st) (XK Tryz.prog R (.c (csub Zar.B [1,1,1,1,1,1,1,0,1,0,0]) :: .h J2 :: [.b 0,.c (csub Zar.B [1,1,1,1,1,1,1,1])])):=by
 unfold Zar.p2 at h
 refine iteB h (fun c36 h24=>?_) (fun c36 h25=>?_)
 ·obtain ⟨c37,h26⟩:=ZaS h24
  obtain ⟨x16,c38,h27⟩:=ZdJ h26
  obtain ⟨c39,h28⟩:=ZaS h27
  exact an fol [.r [],.c true,.r [(1,{oe:=x16.ls})],.r [],.r []] [3,4,6,9,10,47,48,49] [4,6,10] (aO c36 c37 (oD c36) c38 z0 (eN (List.length times_15)) z0 (aI (eN (1)) c39)) (hc2 (times_15 ++ [[L.int .i64 x16.Time]]) (w64 (v6+1)) h28)
 ·refine iteB h25 (fun c40 h29=>?_) (fun c40 h30=>?_)
  ·obtain ⟨x17,c41,h31⟩:=Zac h29
   obtain ⟨c42,h32⟩:=ZaS h31
   obtain ⟨x18,c43,h33⟩:=Zac h32
   let o4:List PS:=[.r [],.c false,.d {ds:=[(6,{rs:=[.row true 1 x17],ns:=[65],m:=2}),(7,{rs:=[oI x18],m:=2})],hv:=64,Hs:=[64]}]
   have t6 {Q:Prop} (q:Q):=aO c36 c40 c40 c40 c40 c40 c40 (aO z0 (eN (List.length times_15)) c42 (Zca.snd c41) c40 z0 (eN (List.length x17)) (aK (ZaF.snd c43) c40 c40 q))
   refine iteB h33 (fun c44 h34=>?_) (fun c44 h35=>?_)
   ·obtain rfl:=Zab h34
    exact afd fol hE (o4 ++ [.c true,.r []]) [] 0 [] (t6 c44)
   ·exact aqd fol (o4 ++ [.c false,.s 1]) [3,4,6,9] [4,6] (t6 c44) (Zar.p3_ok h35 hE)
  ·exact aqd fol [.r [],.c false,.d {ds:=[(3,wF),(4,wF),(5,wF),(6,wF),(7,wF),(8,wF),(9,yF)],hv:=0,Hs:=[]},.c false,.s 1] [3,4,6,9] [4,6] (aO c36 c40 c40 c40 c40 c40 c40 (aI c40 eF)) (Zar.p3_ok h30 hE)
theorem Zar.p1_ok {chain_1 now_3 p_0 h_2 st r} (h:Zar.p1 N chain_1 now_3 p_0 h_2=some r) (hE:En Tryz.f61 g0 w0 (Zar.rs r) st R):At g0 w0 (Zar.p1.S chain_1 now_3 p_0 h_2 st) (XK Tryz.prog R [.c (csub Zar.B [1,1,1,1])]):=by
 unfold Zar.p1 at h
 obtain ⟨x4,c9,h36⟩:=Zac h
 let o5:List PS:=[.d {ds:=[(6,q1 [oI x4])],hv:=0,Hs:=[]}]
 have t7 {Q:Prop} (q:Q):=aI (ZaB.snd c9) q
 refine iteB h36 (fun c10 h37=>?_) (fun c10 h38=>?_)
 ·obtain rfl:=Zab h37
  exact afd fol hE (o5 ++ [.c true,.r []]) [] 0 [] (t7 c10)
 ·obtain ⟨x5,c11,h39⟩:=Zac h38
  let o6:List PS:=o5 ++ [.c false,.r [(2,q1 [oB x5])]]
  refine iteB h39 (fun c12 h40=>?_) (fun c12 h41=>?_)
  ·obtain rfl:=Zab h40
   exact afd fol hE (o6 ++ [.c true,.r []]) [] 0 [] (t7 (aJ c10 (Zdo.snd c11) c12))
  ·exact aqd fol (o6 ++ [.c false,.r [(0,{m:=1})],.r []]) [3,4,6,9,10,47,48,49] [4,6,10] (t7 (aJ c10 (Zdo.snd c11) c12)) (At.loop N (At.loopN (fun y:LL×Int=>Zar.p2.S now_3 chain_1 y.1 y.2 p_0 h_2 st) (fun c J hc y h=>Zar.p2_ok (times_15:=y.1) (v6:=y.2) h hE (fun times_15 v6=>hc (times_15,v6))) N ([],0) h41))
theorem Zar.snd {p_0:Zae} {chain_1:LL} {h_2:Zai} {now_3:Int} {r:Int} (h:Zar N p_0 chain_1 h_2 now_3=some r):SndQ Tryz.prog 61 [.agg p_0.ls,.one (L.sl 68 chain_1),.agg h_2.ls,oI now_3] (Zar.rs r):=fun st=>
 sO Zar.B Tryz.func61 fun g0 w0 R hE=>by
  unfold Zar at h
  obtain ⟨x1,c1,h42⟩:=Zac h
  let o7:List PS:=[.r [],.r [],.r [(1,q1 [oB x1])]]
  have t8 {Q:Prop} (q:Q):=aI (Zcz.snd c1) q
  refine iteB h42 (fun c2 h43=>?_) (fun c2 h44=>?_)
  ·obtain rfl:=Zab h43
   exact af fol hE (o7 ++ [.c true,.r []]) [] 0 [] (t8 c2)
  ·refine iteB h44 (fun c3 h45=>?_) (fun c3 h46=>?_)
   ·obtain ⟨c4,c5,h47⟩:=ck2 h45
    obtain ⟨x2,c6,h48⟩:=ZdJ h47
    obtain ⟨x3,c7,h49⟩:=Zac h48
    let o8:List PS:=o7 ++ [.c false,.d {ds:=[(9,{oe:=x2.ls}),(10,q1 [.agg [L.arr .u8 32 x3]])],hv:=0,Hs:=[]}]
    have t9 {Q:Prop} (q:Q):=t8 (aO c2 c3 c3 c3 c3 c3 c3 (aO c4 c5 c3 c6 c3 (ZcD.snd c7) c3 (aI c3 q)))
    refine iteB h49 (fun c8 h50=>?_) (fun c8 h51=>?_)
    ·obtain rfl:=Zab h50
     exact afd fol hE (o8 ++ [.c true,.r []]) [] 0 [] (t9 c8)
    ·exact aqd fol (o8 ++ [.c false,.s 1]) [1,3,4,6,9] [4,6] (t9 c8) (Zar.p1_ok h51 hE)
   ·exact aqd fol (o7 ++ [.c false,.d {ds:=[(3,wF),(4,wF),(5,wF),(6,wF),(7,wF),(8,wF),(9,wF),(10,wF),(11,wF),(12,yF)],hv:=0,Hs:=[]},.c false,.s 1]) [1,3,4,6,9] [4,6] (t8 (aO c2 c3 c3 c3 c3 c3 c3 (aL c3 c3 c3 c3 eF))) (Zar.p1_ok h46 hE)
noncomputable def ZaU.B:Code:=Tryz.f143.body.getD .skip
noncomputable def ZaU.rs (r:Int×LL):List CV:=[oI r.1]
noncomputable def ZaU.p1 (N:Nat) (i1:Nat) (x2:Zaa) (id_1_0:List Int) (st:LL) (c1_:Int→Option (Int×LL)):Int→Option (Int×LL):=fun v3=>
 if (decide (v3<(len x2.Ids)))=true then
  chk (0≤v3)<|
  getE (st[i1]?) ZbA fun x4=>
  getE (x4.Ids[0+(Int.toNat v3)]?) Zfv fun x5=>
  if (x5==id_1_0)=true then
   some (v3,st)
  else
  c1_ (w64 (v3+1))
 else
 some ((-1),st)
noncomputable def ZaU (N:Nat) (a_0:Option Nat) (id_1_0:List Int) (st:LL):Option (Int×LL):=
 optE a_0 fun i1=>
 getE (st[i1]?) ZbA fun x2=>
 loopN (ZaU.p1 N i1 x2 id_1_0 st) N 0
noncomputable def ZaU.p1.S (i1:Nat) (x2:Zaa) (v3:Int) (id_1_0:List Int) (st:LL):S:=mkS 22 [(3,sA 3),(10,.one (.h (.mem (.obj i1) 84 0) 32 0 (List.length x2.Ids))),(11,sI (len x2.Ids)),(12,sI v3)] [(3,.cells [L.arr .u8 32 id_1_0])] st
theorem ZaU.p1_ok {i1 x2 v3 id_1_0 st r c1_ J1} (h:ZaU.p1 N i1 x2 id_1_0 st c1_ v3=some r) (hE:En Tryz.f143 g0 w0 (ZaU.rs r) r.2 R) (hc1 : ∀v3,c1_ v3=some r→At g0 w0 (ZaU.p1.S i1 x2 v3 id_1_0 st) J1):At g0 w0 (ZaU.p1.S i1 x2 v3 id_1_0 st) (XK Tryz.prog R (.c (csub ZaU.B [1,0,1,0,0]) :: .h J1 :: [.b 0,.c (csub ZaU.B [1,1])])):=by
 unfold ZaU.p1 at h
 refine iteB h (fun c3 h1=>?_) (fun c3 h2=>?_)
 ·obtain ⟨c4,h3⟩:=ZaS h1
  obtain ⟨x4,c5,h4⟩:=ZbW h3
  obtain ⟨x5,c6,h5⟩:=ZfI h4
  let o1:List PS:=[.r [],.c true,.r [(2,{oc:=x4.lo,oe:=[L.arr .u8 32 x5]})],.r []]
  refine iteB h5 (fun c7 h6=>?_) (fun c7 h7=>?_)
  ·obtain rfl:=Zab h6
   exact af fol hE (o1 ++ [.c true,.r []]) [] 0 [] (aM c3 c4 (oD c3) c6 c5 c7)
  ·exact an fol (o1 ++ [.c false,.r []]) [3,10,11,12] [3] (aM c3 c4 (oD c3) c6 c5 c7) (hc1 (w64 (v3+1)) h7)
 ·obtain rfl:=Zab h2
  exact af fol hE [.r [],.c false,.r []] [] 0 [] c3
theorem ZaU.snd {a_0:Option Nat} {id_1_0:List Int} {st:LL} {r:Int×LL} (h:ZaU N a_0 id_1_0 st=some r):Snd Tryz.prog 143 [.one (L.ptr a_0),.agg [L.arr .u8 32 id_1_0]] st (ZaU.rs r) r.2:=
 sO ZaU.B Tryz.func143 fun g0 w0 R hE=>by
  unfold ZaU at h
  obtain ⟨i1,rfl,h8⟩:=Zac h
  obtain ⟨x2,c2,h9⟩:=ZbW h8
  exact aq fol [.r [],.r [(3,{oc:=x2.lo})]] [3,10,11,12] [3] c2 (At.loop N (At.loopN (fun y:Int=>ZaU.p1.S i1 x2 y id_1_0 st) (fun c J hc y h=>ZaU.p1_ok h hE (fun v3=>hc v3)) N 0 h9))
noncomputable def ZdS.B:Code:=Tryz.f105.body.getD .skip
noncomputable def ZdS.rs (r:(List Int)):List CV:=[.agg [L.arr .u64 4 r]]
noncomputable def ZdS (N:Nat) (a_0_0 b_1_0:List Int):Option (List Int):=
 optE (ZaW N a_0_0 b_1_0) fun (x1,x2)=>
 if x2=true then
  optE (ZcE N ) fun x3=>
  some x3
 else
 some x1
theorem ZdS.snd {a_0_0 b_1_0:List Int} {r:(List Int)} (h:ZdS N a_0_0 b_1_0=some r):SndQ Tryz.prog 105 [.agg [L.arr .u64 4 a_0_0],.agg [L.arr .u64 4 b_1_0]] (ZdS.rs r):=fun st=>
 sO ZdS.B Tryz.func105 fun g0 w0 R hE=>by
  unfold ZdS at h
  obtain ⟨⟨x1,x2⟩,c1,h1⟩:=Zac h
  let o1:List PS:=[.r [],.r [(2,q1 [.agg [L.arr .u64 4 x1],oB x2])],.r []]
  refine iteB h1 (fun c2 h2=>?_) (fun c2 h3=>?_)
  ·obtain ⟨x3,c3,h4⟩:=Zac h2
   obtain rfl:=Zab h4
   exact af fol hE (o1 ++ [.c true,.r [(0,q1 [.agg [L.arr .u64 4 x3]])]]) [] 0 [] (aJ (ZaW.snd c1) c2 (ZcE.snd c3))
  ·obtain rfl:=Zab h3
   exact af fol hE (o1 ++ [.c false,.r []]) [] 0 [] (aI (ZaW.snd c1) c2)
noncomputable def Zcx.B:Code:=Tryz.f85.body.getD .skip
noncomputable def Zcx.rs (r:Int×Int×Int×LL):List CV:=[oI r.1,oI r.2.1,oI r.2.2.1]
noncomputable def Zcx (N:Nat) (a_0:Option Nat) (h_1:Zai) (now_2:Int) (st:LL):Option (Int×Int×Int×LL):=
 optE (Zcz N h_1) fun x1=>
 if (!x1)=true then
  some ((-1),1,8,st)
 else
 optE (ZcD N h_1) fun x2=>
 optE (ZaU N a_0 x2 st) fun (x3,st4)=>
 if (decide (x3≥0))=true then
  some (x3,0,0,st4)
 else
 optE (ZaU N a_0 h_1.Prev st4) fun (x5,st6)=>
 if (decide (x5<0))=true then
  some ((-1),2,5,st6)
 else
 optE a_0 fun i7=>
 getE (st6[i7]?) ZbA fun x8=>
 optE (ZaN N x8 x5) fun x9=>
 chk (plainRow x9=true)<|
 optE (Zar N x8.Rules x9 h_1 now_2) fun x10=>
 if (decide (x10>0))=true then
  some ((-1),x10,8,st6)
 else
 if (decide ((len x8.List_)≥x8.Room))=true then
  some ((-1),0,6,st6)
 else
 chk (List.length (x8.List_ ++ [h_1.ls])*96≤140737488355328)<|
 chk (List.length (x8.Ids ++ [[L.arr .u8 32 x2]])*32≤140737488355328)<|
 chk (0≤x5)<|
 chk (x5<(len x8.Works))<|
 getE (x8.Works[0+(Int.toNat x5)]?) Zge fun x11=>
 optE (ZbY N h_1.Bits) fun x12=>
 optE (ZdS N x11 x12) fun x13=>
 chk (List.length (x8.Works ++ [[L.arr .u64 4 x13]])*32≤140737488355328)<|
 chk (List.length (x8.Ahead ++ [[L.int .i64 x5]])*8≤140737488355328)<|
 some (w64 ((len (x8.List_ ++ [h_1.ls]))-1),0,0,List.set (List.set (List.set (List.set (List.set (List.set (List.set (List.set st6 i7 (gs x8.lo 15)) i7 (Zaa.lo {x8 with List_:=x8.List_ ++ [h_1.ls]})) i7 (gs (Zaa.lo {x8 with List_:=x8.List_ ++ [h_1.ls]}) 16)) i7 (Zaa.lo {x8 with List_:=x8.List_ ++ [h_1.ls],Ids:=x8.Ids ++ [[L.arr .u8 32 x2]]})) i7 (gs (Zaa.lo {x8 with List_:=x8.List_ ++ [h_1.ls],Ids:=x8.Ids ++ [[L.arr .u8 32 x2]]}) 18)) i7 (Zaa.lo {x8 with List_:=x8.List_ ++ [h_1.ls],Ids:=x8.Ids ++ [[L.arr .u8 32 x2]],Works:=x8.Works ++ [[L.arr .u64 4 x13]]})) i7 (gs (Zaa.lo {x8 with List_:=x8.List_ ++ [h_1.ls],Ids:=x8.Ids ++ [[L.arr .u8 32 x2]],Works:=x8.Works ++ [[L.arr .u64 4 x13]]}) 17)) i7 (Zaa.lo (Zaa.mk x8.Rules (x8.List_ ++ [h_1.ls]) (x8.Ids ++ [[L.arr .u8 32 x2]]) (x8.Ahead ++ [[L.int .i64 x5]]) (x8.Works ++ [[L.arr .u64 4 x13]]) x8.Room)))
theorem Zcx.snd {a_0:Option Nat} {h_1:Zai} {now_2:Int} {st:LL} {r:Int×Int×Int×LL} (h:Zcx N a_0 h_1 now_2 st=some r):Snd Tryz.prog 85 [.one (L.ptr a_0),.agg h_1.ls,oI now_2] st (Zcx.rs r) r.2.2.2:=
 sO Zcx.B Tryz.func85 fun g0 w0 R hE=>by
  unfold Zcx at h
  obtain ⟨x1,c1,h1⟩:=Zac h
  let o1:List PS:=[.r [],.r [(1,q1 [oB x1])]]
  have t1 {Q:Prop} (q:Q):=aI (Zcz.snd c1) q
  refine iteB h1 (fun c2 h2=>?_) (fun c2 h3=>?_)
  ·obtain rfl:=Zab h2
   exact af fol hE (o1 ++ [.c true,.r []]) [] 0 [] (t1 c2)
  ·obtain ⟨x2,c3,h4⟩:=Zac h3
   obtain ⟨⟨x3,st4⟩,c4,h5⟩:=Zac h4
   let o2:List PS:=o1 ++ [.c false,.r [(2,q1 [.agg [L.arr .u8 32 x2]]),(3,{rs:=[oI x3],st:=st4})],.r []]
   have t2 {Q:Prop} (q:Q):=t1 (aK c2 (ZcD.snd c3) (ZaU.snd c4) q)
   refine iteB h5 (fun c5 h6=>?_) (fun c5 h7=>?_)
   ·obtain rfl:=Zab h6
    exact af fol hE (o2 ++ [.c true,.r []]) [] 0 [] (t2 c5)
   ·obtain ⟨⟨x5,st6⟩,c6,h8⟩:=Zac h7
    let o3:List PS:=o2 ++ [.c false,.r [(3,{rs:=[oI x5],st:=st6})],.r []]
    have t3 {Q:Prop} (q:Q):=t2 (aJ c5 (ZaU.snd c6) q)
    refine iteB h8 (fun c7 h9=>?_) (fun c7 h10=>?_)
    ·obtain rfl:=Zab h9
     exact af fol hE (o3 ++ [.c true,.r []]) [] 0 [] (t3 c7)
    ·obtain ⟨i7,rfl,h11⟩:=Zac h10
     obtain ⟨x8,c9,h12⟩:=ZbW h11
     obtain ⟨x9,c10,h13⟩:=Zac h12
     obtain ⟨c11,h14⟩:=ZaS h13
     obtain ⟨x10,c12,h15⟩:=Zac h14
     let o4:List PS:=o3 ++ [.c false,.d {ds:=[(3,{oc:=x8.lo}),(6,{rs:=[.row true 68 x9],ns:=[34],m:=10,cv:=[.one (L.bx 88 x8.ls)]}),(9,{rs:=[oI x10],m:=2})],hv:=64,Hs:=[64]},.r []]
     have t4 {Q:Prop} (q:Q):=t3 (aO c7 c9 c9 (bO 88 c9 (Zaa.bv x8)) c11 (ZaN.snd c10) z0 (aJ (eN (List.length x9)) (Zar.snd c12) q))
     refine iteB h15 (fun c13 h16=>?_) (fun c13 h17=>?_)
     ·obtain rfl:=Zab h16
      exact afd fol hE (o4 ++ [.c true,.r []]) [] 0 [] (t4 c13)
     ·let o5:List PS:=o4 ++ [.c false,.d {ds:=[(3,{oc:=x8.lo}),(8,{oc:=x8.lo})],hv:=0,Hs:=[]}]
      refine iteB h17 (fun c14 h18=>?_) (fun c14 h19=>?_)
      ·obtain rfl:=Zab h18
       exact afd fol hE (o5 ++ [.c true,.r []]) [] 0 [] (t4 (aK c13 c9 c9 c14))
      ·obtain ⟨c15,c16,c17,c18,h20⟩:=ck4 h19
       obtain ⟨x11,c19,h21⟩:=Zha h20
       obtain ⟨x12,c20,h22⟩:=Zac h21
       obtain ⟨x13,c21,h23⟩:=Zac h22
       obtain ⟨c22,c23,h24⟩:=ck2 h23
       obtain rfl:=Zab h24
       exact afd fol hE (o5 ++ [.c false,.d {ds:=[(4,{oc:=x8.lo}),(7,{oe:=x8.lo}),(10,{oc:=gs x8.lo 15,mv:=[58]})],hv:=1216,Hs:=[64,192,1216]},.d {ds:=[(4,{oc:=Zaa.lo {x8 with List_:=x8.List_ ++ [h_1.ls]}}),(6,q1 [.agg [L.arr .u8 32 x2]]),(8,{oe:=Zaa.lo {x8 with List_:=x8.List_ ++ [h_1.ls]}}),(11,{oc:=gs (Zaa.lo {x8 with List_:=x8.List_ ++ [h_1.ls]}) 16,mv:=[69]})],hv:=2432,Hs:=[128,384,2432]},.d {ds:=[(4,{oc:=Zaa.lo {x8 with List_:=x8.List_ ++ [h_1.ls],Ids:=x8.Ids ++ [[L.arr .u8 32 x2]]}}),(8,{oc:=Zaa.lo {x8 with List_:=x8.List_ ++ [h_1.ls],Ids:=x8.Ids ++ [[L.arr .u8 32 x2]]}}),(11,{oc:=Zaa.lo {x8 with List_:=x8.List_ ++ [h_1.ls],Ids:=x8.Ids ++ [[L.arr .u8 32 x2]]},oe:=[L.arr .u64 4 x11]}),(14,q1 [.agg [L.arr .u64 4 x12]]),(15,q1 [.agg [L.arr .u64 4 x13]]),(17,{oe:=Zaa.lo {x8 with List_:=x8.List_ ++ [h_1.ls],Ids:=x8.Ids ++ [[L.arr .u8 32 x2]]}}),(20,{oc:=gs (Zaa.lo {x8 with List_:=x8.List_ ++ [h_1.ls],Ids:=x8.Ids ++ [[L.arr .u8 32 x2]]}) 18,mv:=[89]})],hv:=1245184,Hs:=[65536,196608,1245184]},.r [(4,{oc:=Zaa.lo {x8 with List_:=x8.List_ ++ [h_1.ls],Ids:=x8.Ids ++ [[L.arr .u8 32 x2]],Works:=x8.Works ++ [[L.arr .u64 4 x13]]}}),(7,{oe:=Zaa.lo {x8 with List_:=x8.List_ ++ [h_1.ls],Ids:=x8.Ids ++ [[L.arr .u8 32 x2]],Works:=x8.Works ++ [[L.arr .u64 4 x13]]}}),(10,{oc:=gs (Zaa.lo {x8 with List_:=x8.List_ ++ [h_1.ls],Ids:=x8.Ids ++ [[L.arr .u8 32 x2]],Works:=x8.Works ++ [[L.arr .u64 4 x13]]}) 17,mv:=[99]})],.r [(3,{oc:=Zaa.lo (Zaa.mk x8.Rules (x8.List_ ++ [h_1.ls]) (x8.Ids ++ [[L.arr .u8 32 x2]]) (x8.Ahead ++ [[L.int .i64 x5]]) (x8.Works ++ [[L.arr .u64 4 x13]]) x8.Room)})]]) [] 0 [] (t4 (aO c13 c9 c9 c14 c9 c9 z0 (aO (eN (List.length x8.List_)) c9 z0 (eN (1)) c15 (Zas c9 (gs x8.lo 15)) z0 (aO (eN (List.length (x8.List_ ++ [h_1.ls]))) (Zas (Zas c9 (gs x8.lo 15)) (Zaa.lo {x8 with List_:=x8.List_ ++ [h_1.ls]})) (Zas (Zas c9 (gs x8.lo 15)) (Zaa.lo {x8 with List_:=x8.List_ ++ [h_1.ls]})) (ZcD.snd c3) z0 (eN (List.length x8.Ids)) (Zas (Zas c9 (gs x8.lo 15)) (Zaa.lo {x8 with List_:=x8.List_ ++ [h_1.ls]})) (aO z0 (eN (1)) c16 (Zas (Zas (Zas c9 (gs x8.lo 15)) (Zaa.lo {x8 with List_:=x8.List_ ++ [h_1.ls]})) (gs (Zaa.lo {x8 with List_:=x8.List_ ++ [h_1.ls]}) 16)) z0 (eN (List.length (x8.Ids ++ [[L.arr .u8 32 x2]]))) (Zas (Zas (Zas (Zas c9 (gs x8.lo 15)) (Zaa.lo {x8 with List_:=x8.List_ ++ [h_1.ls]})) (gs (Zaa.lo {x8 with List_:=x8.List_ ++ [h_1.ls]}) 16)) (Zaa.lo {x8 with List_:=x8.List_ ++ [h_1.ls],Ids:=x8.Ids ++ [[L.arr .u8 32 x2]]})) (aO (Zas (Zas (Zas (Zas c9 (gs x8.lo 15)) (Zaa.lo {x8 with List_:=x8.List_ ++ [h_1.ls]})) (gs (Zaa.lo {x8 with List_:=x8.List_ ++ [h_1.ls]}) 16)) (Zaa.lo {x8 with List_:=x8.List_ ++ [h_1.ls],Ids:=x8.Ids ++ [[L.arr .u8 32 x2]]})) (Zas (Zas (Zas (Zas c9 (gs x8.lo 15)) (Zaa.lo {x8 with List_:=x8.List_ ++ [h_1.ls]})) (gs (Zaa.lo {x8 with List_:=x8.List_ ++ [h_1.ls]}) 16)) (Zaa.lo {x8 with List_:=x8.List_ ++ [h_1.ls],Ids:=x8.Ids ++ [[L.arr .u8 32 x2]]})) c17 c18 c19 (Zas (Zas (Zas (Zas c9 (gs x8.lo 15)) (Zaa.lo {x8 with List_:=x8.List_ ++ [h_1.ls]})) (gs (Zaa.lo {x8 with List_:=x8.List_ ++ [h_1.ls]}) 16)) (Zaa.lo {x8 with List_:=x8.List_ ++ [h_1.ls],Ids:=x8.Ids ++ [[L.arr .u8 32 x2]]})) (ZbY.snd c20) (aO (ZdS.snd c21) z0 (eN (List.length x8.Works)) (Zas (Zas (Zas (Zas c9 (gs x8.lo 15)) (Zaa.lo {x8 with List_:=x8.List_ ++ [h_1.ls]})) (gs (Zaa.lo {x8 with List_:=x8.List_ ++ [h_1.ls]}) 16)) (Zaa.lo {x8 with List_:=x8.List_ ++ [h_1.ls],Ids:=x8.Ids ++ [[L.arr .u8 32 x2]]})) z0 (eN (1)) c22 (aO (Zas (Zas (Zas (Zas (Zas c9 (gs x8.lo 15)) (Zaa.lo {x8 with List_:=x8.List_ ++ [h_1.ls]})) (gs (Zaa.lo {x8 with List_:=x8.List_ ++ [h_1.ls]}) 16)) (Zaa.lo {x8 with List_:=x8.List_ ++ [h_1.ls],Ids:=x8.Ids ++ [[L.arr .u8 32 x2]]})) (gs (Zaa.lo {x8 with List_:=x8.List_ ++ [h_1.ls],Ids:=x8.Ids ++ [[L.arr .u8 32 x2]]}) 18)) z0 (eN (List.length (x8.Works ++ [[L.arr .u64 4 x13]]))) (Zas (Zas (Zas (Zas (Zas (Zas c9 (gs x8.lo 15)) (Zaa.lo {x8 with List_:=x8.List_ ++ [h_1.ls]})) (gs (Zaa.lo {x8 with List_:=x8.List_ ++ [h_1.ls]}) 16)) (Zaa.lo {x8 with List_:=x8.List_ ++ [h_1.ls],Ids:=x8.Ids ++ [[L.arr .u8 32 x2]]})) (gs (Zaa.lo {x8 with List_:=x8.List_ ++ [h_1.ls],Ids:=x8.Ids ++ [[L.arr .u8 32 x2]]}) 18)) (Zaa.lo {x8 with List_:=x8.List_ ++ [h_1.ls],Ids:=x8.Ids ++ [[L.arr .u8 32 x2]],Works:=x8.Works ++ [[L.arr .u64 4 x13]]})) z0 (eN (List.length x8.Ahead)) (Zas (Zas (Zas (Zas (Zas (Zas c9 (gs x8.lo 15)) (Zaa.lo {x8 with List_:=x8.List_ ++ [h_1.ls]})) (gs (Zaa.lo {x8 with List_:=x8.List_ ++ [h_1.ls]}) 16)) (Zaa.lo {x8 with List_:=x8.List_ ++ [h_1.ls],Ids:=x8.Ids ++ [[L.arr .u8 32 x2]]})) (gs (Zaa.lo {x8 with List_:=x8.List_ ++ [h_1.ls],Ids:=x8.Ids ++ [[L.arr .u8 32 x2]]}) 18)) (Zaa.lo {x8 with List_:=x8.List_ ++ [h_1.ls],Ids:=x8.Ids ++ [[L.arr .u8 32 x2]],Works:=x8.Works ++ [[L.arr .u64 4 x13]]})) (aN z0 (eN (1)) c23 (Zas (Zas (Zas (Zas (Zas (Zas (Zas c9 (gs x8.lo 15)) (Zaa.lo {x8 with List_:=x8.List_ ++ [h_1.ls]})) (gs (Zaa.lo {x8 with List_:=x8.List_ ++ [h_1.ls]}) 16)) (Zaa.lo {x8 with List_:=x8.List_ ++ [h_1.ls],Ids:=x8.Ids ++ [[L.arr .u8 32 x2]]})) (gs (Zaa.lo {x8 with List_:=x8.List_ ++ [h_1.ls],Ids:=x8.Ids ++ [[L.arr .u8 32 x2]]}) 18)) (Zaa.lo {x8 with List_:=x8.List_ ++ [h_1.ls],Ids:=x8.Ids ++ [[L.arr .u8 32 x2]],Works:=x8.Works ++ [[L.arr .u64 4 x13]]})) (gs (Zaa.lo {x8 with List_:=x8.List_ ++ [h_1.ls],Ids:=x8.Ids ++ [[L.arr .u8 32 x2]],Works:=x8.Works ++ [[L.arr .u64 4 x13]]}) 17)) z0 (eN (List.length (x8.Ahead ++ [[L.int .i64 x5]]))) (Zas (Zas (Zas (Zas (Zas (Zas (Zas (Zas c9 (gs x8.lo 15)) (Zaa.lo {x8 with List_:=x8.List_ ++ [h_1.ls]})) (gs (Zaa.lo {x8 with List_:=x8.List_ ++ [h_1.ls]}) 16)) (Zaa.lo {x8 with List_:=x8.List_ ++ [h_1.ls],Ids:=x8.Ids ++ [[L.arr .u8 32 x2]]})) (gs (Zaa.lo {x8 with List_:=x8.List_ ++ [h_1.ls],Ids:=x8.Ids ++ [[L.arr .u8 32 x2]]}) 18)) (Zaa.lo {x8 with List_:=x8.List_ ++ [h_1.ls],Ids:=x8.Ids ++ [[L.arr .u8 32 x2]],Works:=x8.Works ++ [[L.arr .u64 4 x13]]})) (gs (Zaa.lo {x8 with List_:=x8.List_ ++ [h_1.ls],Ids:=x8.Ids ++ [[L.arr .u8 32 x2]],Works:=x8.Works ++ [[L.arr .u64 4 x13]]}) 17)) (Zaa.lo (Zaa.mk x8.Rules (x8.List_ ++ [h_1.ls]) (x8.Ids ++ [[L.arr .u8 32 x2]]) (x8.Ahead ++ [[L.int .i64 x5]]) (x8.Works ++ [[L.arr .u64 4 x13]]) x8.Room))))))))))))
noncomputable def ZbH.B:Code:=Tryz.f46.body.getD .skip
noncomputable def ZbH.rs (r:(Option Nat)×(Option Nat)×Bool×LL):List CV:=[.one (L.ptr r.1),.one (L.ptr r.2.1),oB r.2.2.1]
noncomputable def ZbH.p1 (N:Nat) (x1 x4:Option Nat) (list_1:LL) (c1_:(Bool×Int×LL)→Option ((Option Nat)×(Option Nat)×Bool×LL)):(Bool×Int×LL)→Option ((Option Nat)×(Option Nat)×Bool×LL):=fun (ok_6,v7,st17)=>
 if (decide (v7<(len list_1)))=true then
  chk (0≤v7)<|
  getE (list_1[Int.toNat v7]?) ZcS fun x18=>
  optE (Zbs N x1 x18.Header x18.Now st17) fun (x19,x20,x21,st22)=>
  optE (Zcx N x4 x18.Header x18.Now st22) fun (x23,x24,x25,st26)=>
  if ok_6=true then
   if (x19==x23)=true then
    if (x20==x24)=true then
     c1_ (x21==x25,w64 (v7+1),st26)
    else
    c1_ (false,w64 (v7+1),st26)
   else
   c1_ (false,w64 (v7+1),st26)
  else
  c1_ (false,w64 (v7+1),st26)
 else
 some (x1,x4,ok_6,st17)
noncomputable def ZbH (N:Nat) (p_0:Zae) (list_1 st:LL):Option ((Option Nat)×(Option Nat)×Bool×LL):=
 optE (Zel N p_0 100 st) fun (x1,x2,st3)=>
 optE (ZdR N p_0 100 st3) fun (x4,st5)=>
 loopN (ZbH.p1 N x1 x4 list_1) N (true,0,st5)
noncomputable def ZbH.p1.S (x1 x4:Option Nat) (ok_6:Bool) (list_1:LL) (v7:Int) (st17:LL):S:=mkS 72 [(7,sP x1),(9,sP x4),(10,.one (.l (L.bool ok_6))),(26,sV 69 list_1),(27,sI (len list_1)),(28,sI v7)] [] st17
theorem ZbH.p1_ok {x1 x4 ok_6 list_1 v7 st17 r c1_ J1} (h:ZbH.p1 N x1 x4 list_1 c1_ (ok_6,v7,st17)=some r) (hE:En Tryz.f46 g0 w0 (ZbH.rs r) r.2.2.2 R) (hc1 : ∀ok_6 v7 st17,c1_ (ok_6,v7,st17)=some r→At g0 w0 (ZbH.p1.S x1 x4 ok_6 list_1 v7 st17) J1):At g0 w0 (ZbH.p1.S x1 x4 ok_6 list_1 v7 st17) (XK Tryz.prog R (.c (csub ZbH.B [1,1,1,1,0,1,0,0]) :: .h J1 :: [.b 0,.c (csub ZbH.B [1,1,1,1,1])])):=by
 unfold ZbH.p1 at h
 refine iteB h (fun c11 h1=>?_) (fun c11 h2=>?_)
 ·obtain ⟨c12,h3⟩:=ZaS h1
  obtain ⟨x18,c13,h4⟩:=Zeh h3
  obtain ⟨⟨x19,x20,x21,st22⟩,c14,h5⟩:=Zac h4
  obtain ⟨⟨x23,x24,x25,st26⟩,c15,h6⟩:=Zac h5
  let o1:List PS:=[.r [],.c true,.r [(1,{oe:=x18.ls})],.r [(5,{rs:=[oI x19,oI x20,oI x21],st:=st22})],.r [(5,{rs:=[oI x23,oI x24,oI x25],st:=st26})]]
  have t1 {Q:Prop} (q:Q):=aN c11 c12 (oD c11) c13 (Zbs.snd c14) (Zcx.snd c15) q
  refine iteB h6 (fun c16 h7=>?_) (fun c16 h8=>?_)
  ·refine iteB h7 (fun c17 h9=>?_) (fun c17 h10=>?_)
   ·have t2 {Q:Prop} (q:Q):=t1 (aO c16 c16 c16 c16 c17 c17 c17 (aI c17 q))
    refine iteB h9 (fun c18 h11=>?_) (fun c18 h12=>?_)
    ·exact an fol (o1 ++ [.r [],.r []]) [7,9,10,26,27,28] [] (t2 (aK c18 c18 c18 c18)) (hc1 (x21==x25) (w64 (v7+1)) st26 h11)
    ·exact an fol (o1 ++ [.r [(12,wF),(13,wF),(14,wF),(15,yF)],.r []]) [7,9,10,26,27,28] [] (t2 (aK c18 c18 c18 c18)) (hc1 false (w64 (v7+1)) st26 h12)
   ·exact an fol (o1 ++ [.r [(7,wF),(8,wF),(9,wF),(10,yF),(12,wF),(13,wF),(14,wF),(15,yF)],.r []]) [7,9,10,26,27,28] [] (t1 (aO c16 c16 c16 c16 c17 c17 c17 (aL c17 eF eF eF eF))) (hc1 false (w64 (v7+1)) st26 h10)
  ·exact an fol (o1 ++ [.r [(2,wF),(3,wF),(4,wF),(5,yF),(7,wF),(8,wF),(9,wF),(10,yF),(12,wF),(13,wF),(14,wF),(15,yF)],.r []]) [7,9,10,26,27,28] [] (t1 (aO c16 c16 c16 c16 eF eF eF (aL eF eF eF eF eF))) (hc1 false (w64 (v7+1)) st26 h8)
 ·obtain rfl:=Zab h2
  exact af fol hE [.r [],.c false,.r []] [] 0 [] c11
theorem ZbH.snd {p_0:Zae} {list_1:LL} {st:LL} {r:(Option Nat)×(Option Nat)×Bool×LL} (h:ZbH N p_0 list_1 st=some r):Snd Tryz.prog 46 [.agg p_0.ls,.one (L.sl 69 list_1)] st (ZbH.rs r) r.2.2.2:=
 sO ZbH.B Tryz.func46 fun g0 w0 R hE=>by
  unfold ZbH at h
  obtain ⟨⟨x1,x2,st3⟩,c1,h13⟩:=Zac h
  obtain ⟨⟨x4,st5⟩,c2,h14⟩:=Zac h13
  exact aq fol [.r [],.r [(1,{rs:=[.one (L.ptr x1),oI x2],st:=st3})],.r [(1,{rs:=[.one (L.ptr x4)],st:=st5})],.r [],.r []] [7,9,10,26,27,28] [] (aI (Zel.snd c1) (ZdR.snd c2)) (At.loop N (At.loopN (fun y:Bool×Int×LL=>ZbH.p1.S x1 x4 y.1 list_1 y.2.1 y.2.2) (fun c J hc y h=>ZbH.p1_ok (ok_6:=y.1) (v7:=y.2.1) (st17:=y.2.2) h hE (fun ok_6 v7 st17=>hc (ok_6,v7,st17))) N (true,0,st5) h14))
noncomputable def Zdq.B:Code:=Tryz.f34.body.getD .skip
noncomputable def Zdq.rs (r:Int×LL):List CV:=[oI r.1]
noncomputable def Zdq (N:Nat) (t_0:Option Nat) (st:LL):Option (Int×LL):=
 if (Option.isNone t_0)=true then
  some (0,st)
 else
 optE t_0 fun i1=>
 getE (st[i1]?) Zco fun x2 x3=>
 optE x2 fun i4=>
 getE (st[i4]?) Zbj fun x5=>
 optE (Zch N x5) fun x6=>
 some (x6,st)
theorem Zdq.snd {t_0:Option Nat} {st:LL} {r:Int×LL} (h:Zdq N t_0 st=some r):Snd Tryz.prog 34 [.one (L.ptr t_0)] st (Zdq.rs r) r.2:=
 sO Zdq.B Tryz.func34 fun g0 w0 R hE=>by
  unfold Zdq at h
  refine iteB h (fun c1 h1=>?_) (fun c1 h2=>?_)
  ·obtain rfl:=Zab h1
   exact af fol hE [.r [],.r [],.c true,.r []] [] 0 [] c1
  ·obtain ⟨i1,rfl,h3⟩:=Zac h2
   obtain ⟨x2,x3,c3,h4⟩:=ZbX h3
   obtain ⟨i4,rfl,h5⟩:=Zac h4
   obtain ⟨x5,c5,h6⟩:=ZaZ h5
   obtain ⟨x6,c6,h7⟩:=Zac h6
   obtain rfl:=Zab h7
   exact af fol hE [.r [],.r [],.c false,.r [(3,{oc:=[L.ptr (some i4),L.own true 1 x3]}),(4,{rs:=[oI x6],m:=10,cv:=[.one (L.bx 87 x5.ls)]})]] [] 0 [] (aK c1 c3 (bO 87 c5 (Zax.bv x5)) (Zch.snd c6))
noncomputable def ZdB.B:Code:=Tryz.f97.body.getD .skip
noncomputable def ZdB.rs (r:Bool):List CV:=[oB r]
noncomputable def ZdB (N:Nat) (a_0:Zaa) (at_1:Int):Option Bool:=
 if (decide (at_1≥0))=true then
  some (decide (at_1<(len a_0.List_)))
 else
 some false
theorem ZdB.snd {a_0:Zaa} {at_1:Int} {r:Bool} (h:ZdB N a_0 at_1=some r):SndQ Tryz.prog 97 [.one (L.bx 88 a_0.ls),oI at_1] (ZdB.rs r):=fun st=>
 sO ZdB.B Tryz.func97 fun g0 w0 R hE=>by
  unfold ZdB at h
  refine iteB h (fun c1 h1=>?_) (fun c1 h2=>?_)
  ·obtain rfl:=Zab h1
   exact af fol hE [.r [],.r [(7,{oe:=a_0.ls})]] [] 0 [] (aO c1 c1 c1 c1 c1 (eO a_0.ls) c1 (aI c1 c1))
  ·obtain rfl:=Zab h2
   exact af fol hE [.r [],.r [(3,wF),(4,wF),(5,wF),(6,wF),(7,wF),(8,wF),(9,wF),(10,yF)]] [] 0 [] (aO c1 c1 c1 c1 c1 c1 c1 c1)
noncomputable def ZaE.B:Code:=Tryz.f40.body.getD .skip
noncomputable def ZaE.rs (r:LL):List CV:=[.row true 1 r]
noncomputable def ZaE.p1 (N:Nat) (a_0:Zaa) (c1_:(LL×Int)→Option LL):(LL×Int)→Option LL:=fun (out_3,k_1)=>
 if (decide (k_1≥0))=true then
  chk (List.length ([[L.int .i64 k_1]]++out_3)*8≤140737488355328)<|
  chk (0≤k_1)<|
  chk (k_1<(len a_0.Ahead))<|
  getE (a_0.Ahead[Int.toNat k_1]?) ZcI fun x4=>
  c1_ ([[L.int .i64 k_1]]++out_3,x4)
 else
 some out_3
noncomputable def ZaE (N:Nat) (a_0:Zaa) (at_1:Int):Option LL:=
 loopN (ZaE.p1 N a_0) N ([],at_1)
noncomputable def ZaE.p1.S (a_0:Zaa) (out_3:LL) (k_1:Int) (st:LL):S:=mkS 22 [(0,.one (.l (L.bx 88 a_0.ls))),(5,.one (.h (.row 5 0) 1 0 (List.length out_3))),(6,sI k_1)] [(5,.row 0 true 1 out_3)] st
theorem ZaE.p1_ok {a_0 out_3 k_1 st r c1_ J1} (h:ZaE.p1 N a_0 c1_ (out_3,k_1)=some r) (hE:En Tryz.f40 g0 w0 (ZaE.rs r) st R) (hc1 : ∀out_3 k_1,c1_ (out_3,k_1)=some r→At g0 w0 (ZaE.p1.S a_0 out_3 k_1 st) J1):At g0 w0 (ZaE.p1.S a_0 out_3 k_1 st) (XK Tryz.prog R (.c (csub ZaE.B [1,1,0,1,0,0]) :: .h J1 :: [.b 0,.c (csub ZaE.B [1,1,1])])):=by
 unfold ZaE.p1 at h
 refine iteB h (fun c6 h1=>?_) (fun c6 h2=>?_)
 ·obtain ⟨c7,c8,c9,h3⟩:=ck3 h1
  obtain ⟨x4,c10,h4⟩:=Zcl h3
  exact an fol [.r [],.c true,.r [(4,{m:=4})],.r [(3,{oe:=a_0.ls}),(6,{oe:=[L.int .i64 x4]})]] [0,5,6] [5] (aO c6 z0 (eN (1)) z0 (eN (List.length out_3)) c7 (eO a_0.ls) (aJ c8 c9 c10)) (hc1 ([[L.int .i64 k_1]]++out_3) x4 h4)
 ·obtain rfl:=Zab h2
  exact af fol hE [.r [],.c false,.r []] [] 0 [0] (aJ c6 z0 (eN (List.length out_3)))
theorem ZaE.snd {a_0:Zaa} {at_1:Int} {r:LL} (h:ZaE N a_0 at_1=some r):SndQ Tryz.prog 40 [.one (L.bx 88 a_0.ls),oI at_1] (ZaE.rs r):=fun st=>
 sO ZaE.B Tryz.func40 fun g0 w0 R hE=>by
  unfold ZaE at h
  exact aq fol [.r [(0,{m:=2})],.r [(0,{m:=1})],.r []] [0,5,6] [5] trivial (At.loop N (At.loopN (fun y:LL×Int=>ZaE.p1.S a_0 y.1 y.2 st) (fun c J hc y h=>ZaE.p1_ok (out_3:=y.1) (k_1:=y.2) h hE (fun out_3 k_1=>hc (out_3,k_1))) N ([],at_1) h))
noncomputable def Zct.B:Code:=Tryz.f48.body.getD .skip
noncomputable def Zct.rs (r:Int):List CV:=[oI r]
noncomputable def Zct (N:Nat) (a_0:Zaa) (at_1 height_2:Int):Option Int:=
 optE (ZdB N a_0 at_1) fun x1=>
 if (!x1)=true then
  some (-1)
 else
 optE (ZaE N a_0 at_1) fun x2=>
 chk (plainRow x2=true)<|
 if (decide (height_2<0))=true then
  some (-1)
 else
 if (decide (height_2≥(len x2)))=true then
  some (-1)
 else
 chk (0≤height_2)<|
 chk (height_2<(len x2))<|
 getE (x2[0+(Int.toNat height_2)]?) ZcI fun x3=>
 some x3
theorem Zct.snd {a_0:Zaa} {at_1 height_2:Int} {r:Int} (h:Zct N a_0 at_1 height_2=some r):SndQ Tryz.prog 48 [.one (L.bx 88 a_0.ls),oI at_1,oI height_2] (Zct.rs r):=fun st=>
 sO Zct.B Tryz.func48 fun g0 w0 R hE=>by
  unfold Zct at h
  obtain ⟨x1,c1,h1⟩:=Zac h
  let o1:List PS:=[.r [],.r [(2,q0 [oB x1])]]
  have t1 {Q:Prop} (q:Q):=aI (ZdB.snd c1) q
  refine iteB h1 (fun c2 h2=>?_) (fun c2 h3=>?_)
  ·obtain rfl:=Zab h2
   exact af fol hE (o1 ++ [.c true,.r []]) [] 0 [] (t1 c2)
  ·obtain ⟨x2,c3,h4⟩:=Zac h3
   obtain ⟨c4,h5⟩:=ZaS h4
   let o2:List PS:=o1 ++ [.c false,.r [(2,{rs:=[.row true 1 x2],ns:=[14],m:=10})]]
   have t2 {Q:Prop} (q:Q):=t1 (aK c2 c4 (ZaE.snd c3) q)
   refine iteB h5 (fun c5 h6=>?_) (fun c5 h7=>?_)
   ·obtain rfl:=Zab h6
    exact af fol hE (o2 ++ [.r [(3,wF),(4,wF),(5,wF),(6,wF)],.c true,.r []]) [] 0 [] (t2 (aM c5 c5 c5 c5 c5 eT))
   ·refine iteB h7 (fun c6 h8=>?_) (fun c6 h9=>?_)
    ·obtain rfl:=Zab h8
     exact af fol hE (o2 ++ [.r [(7,yF)],.c true,.r []]) [] 0 [] (t2 (aM c5 c5 c5 c5 c5 c6))
    ·obtain ⟨c7,c8,h10⟩:=ck2 h9
     obtain ⟨x3,c9,h11⟩:=Zcl h10
     obtain rfl:=Zab h11
     exact af fol hE (o2 ++ [.r [(7,yF)],.c false,.r [(3,{oe:=[L.int .i64 x3]})]]) [] 0 [] (t2 (aO c5 c5 c5 c5 c5 c6 c7 (aI c8 c9)))
noncomputable def ZeB.B:Code:=Tryz.f97.body.getD .skip
noncomputable def ZeB.rs (r:Bool×LL):List CV:=[oB r.1]
noncomputable def ZeB (N:Nat) (a_0:Option Nat) (at_1:Int) (st:LL):Option (Bool×LL):=
 if (decide (at_1≥0))=true then
  optE a_0 fun i1=>
  getE (st[i1]?) ZbA fun x2=>
  some (decide (at_1<(len x2.List_)),st)
 else
 some (false,st)
theorem ZeB.snd {a_0:Option Nat} {at_1:Int} {st:LL} {r:Bool×LL} (h:ZeB N a_0 at_1 st=some r):Snd Tryz.prog 97 [.one (L.ptr a_0),oI at_1] st (ZeB.rs r) r.2:=
 sO ZeB.B Tryz.func97 fun g0 w0 R hE=>by
  unfold ZeB at h
  refine iteB h (fun c1 h1=>?_) (fun c1 h2=>?_)
  ·obtain ⟨i1,rfl,h3⟩:=Zac h1
   obtain ⟨x2,c3,h4⟩:=ZbW h3
   obtain rfl:=Zab h4
   exact af fol hE [.r [],.r [(7,{oc:=x2.lo})]] [] 0 [] (aO c1 c1 c1 c1 c1 c3 c1 (aI c1 c1))
  ·obtain rfl:=Zab h2
   exact af fol hE [.r [],.r [(3,wF),(4,wF),(5,wF),(6,wF),(7,wF),(8,wF),(9,wF),(10,yF)]] [] 0 [] (aO c1 c1 c1 c1 c1 c1 c1 c1)
noncomputable def ZaY.B:Code:=Tryz.f40.body.getD .skip
noncomputable def ZaY.rs (r:LL×LL):List CV:=[.row true 1 r.1]
noncomputable def ZaY.p1 (N:Nat) (st:LL) (c1_:((Option Nat)×LL×Int)→Option (LL×LL)):((Option Nat)×LL×Int)→Option (LL×LL):=fun (a_6,out_5,k_1)=>
 if (decide (k_1≥0))=true then
  chk (List.length ([[L.int .i64 k_1]]++out_5)*8≤140737488355328)<|
  optE a_6 fun i7=>
  getE (st[i7]?) ZbA fun x8=>
  chk (0≤k_1)<|
  chk (k_1<(len x8.Ahead))<|
  getE (x8.Ahead[0+(Int.toNat k_1)]?) ZcI fun x9=>
  c1_ ((some i7),[[L.int .i64 k_1]]++out_5,x9)
 else
 some (out_5,st)
noncomputable def ZaY (N:Nat) (a_0:Option Nat) (at_1:Int) (st:LL):Option (LL×LL):=
 loopN (ZaY.p1 N st) N (a_0,[],at_1)
noncomputable def ZaY.p1.S (a_6:Option Nat) (out_5:LL) (k_1:Int) (st:LL):S:=mkS 22 [(0,sP a_6),(5,.one (.h (.row 5 0) 1 0 (List.length out_5))),(6,sI k_1)] [(5,.row 0 true 1 out_5)] st
theorem ZaY.p1_ok {a_6 out_5 k_1 st r c1_ J1} (h:ZaY.p1 N st c1_ (a_6,out_5,k_1)=some r) (hE:En Tryz.f40 g0 w0 (ZaY.rs r) r.2 R) (hc1 : ∀a_6 out_5 k_1,c1_ (a_6,out_5,k_1)=some r→At g0 w0 (ZaY.p1.S a_6 out_5 k_1 st) J1):At g0 w0 (ZaY.p1.S a_6 out_5 k_1 st) (XK Tryz.prog R (.c (csub ZaY.B [1,1,0,1,0,0]) :: .h J1 :: [.b 0,.c (csub ZaY.B [1,1,1])])):=by
 unfold ZaY.p1 at h
 refine iteB h (fun c8 h1=>?_) (fun c8 h2=>?_)
 ·obtain ⟨c9,h3⟩:=ZaS h1
  obtain ⟨i7,rfl,h4⟩:=Zac h3
  obtain ⟨x8,c11,h5⟩:=ZbW h4
  obtain ⟨c12,c13,h6⟩:=ck2 h5
  obtain ⟨x9,c14,h7⟩:=Zcl h6
  exact an fol [.r [],.c true,.r [(4,{m:=4})],.r [(3,{oc:=x8.lo}),(6,{oc:=x8.lo,oe:=[L.int .i64 x9]})]] [0,5,6] [5] (aO c8 z0 (eN (1)) z0 (eN (List.length out_5)) c9 c11 (aK c12 c13 c14 c11)) (hc1 (some i7) ([[L.int .i64 k_1]]++out_5) x9 h7)
 ·obtain rfl:=Zab h2
  exact af fol hE [.r [],.c false,.r []] [] 0 [0] (aJ c8 z0 (eN (List.length out_5)))
theorem ZaY.snd {a_0:Option Nat} {at_1:Int} {st:LL} {r:LL×LL} (h:ZaY N a_0 at_1 st=some r):Snd Tryz.prog 40 [.one (L.ptr a_0),oI at_1] st (ZaY.rs r) r.2:=
 sO ZaY.B Tryz.func40 fun g0 w0 R hE=>by
  unfold ZaY at h
  exact aq fol [.r [(0,{m:=2})],.r [(0,{m:=1})],.r []] [0,5,6] [5] trivial (At.loop N (At.loopN (fun y:(Option Nat)×LL×Int=>ZaY.p1.S y.1 y.2.1 y.2.2 st) (fun c J hc y h=>ZaY.p1_ok (a_6:=y.1) (out_5:=y.2.1) (k_1:=y.2.2) h hE (fun a_6 out_5 k_1=>hc (a_6,out_5,k_1))) N (a_0,[],at_1) h))
noncomputable def ZdC.B:Code:=Tryz.f48.body.getD .skip
noncomputable def ZdC.rs (r:Int×LL):List CV:=[oI r.1]
noncomputable def ZdC (N:Nat) (a_0:Option Nat) (at_1 height_2:Int) (st:LL):Option (Int×LL):=
 optE (ZeB N a_0 at_1 st) fun (x1,st2)=>
 if (!x1)=true then
  some ((-1),st2)
 else
 optE (ZaY N a_0 at_1 st2) fun (x3,st4)=>
 if (decide (height_2<0))=true then
  some ((-1),st4)
 else
 if (decide (height_2≥(len x3)))=true then
  some ((-1),st4)
 else
 chk (0≤height_2)<|
 chk (height_2<(len x3))<|
 getE (x3[0+(Int.toNat height_2)]?) ZcI fun x5=>
 some (x5,st4)
theorem ZdC.snd {a_0:Option Nat} {at_1 height_2:Int} {st:LL} {r:Int×LL} (h:ZdC N a_0 at_1 height_2 st=some r):Snd Tryz.prog 48 [.one (L.ptr a_0),oI at_1,oI height_2] st (ZdC.rs r) r.2:=
 sO ZdC.B Tryz.func48 fun g0 w0 R hE=>by
  unfold ZdC at h
  obtain ⟨⟨x1,st2⟩,c1,h1⟩:=Zac h
  let o1:List PS:=[.r [],.r [(2,{rs:=[oB x1],st:=st2})]]
  have t1 {Q:Prop} (q:Q):=aI (ZeB.snd c1) q
  refine iteB h1 (fun c2 h2=>?_) (fun c2 h3=>?_)
  ·obtain rfl:=Zab h2
   exact af fol hE (o1 ++ [.c true,.r []]) [] 0 [] (t1 c2)
  ·obtain ⟨⟨x3,st4⟩,c3,h4⟩:=Zac h3
   let o2:List PS:=o1 ++ [.c false,.r [(2,{rs:=[.row true 1 x3],st:=st4,ns:=[14]})]]
   have t2 {Q:Prop} (q:Q):=t1 (aJ c2 (ZaY.snd c3) q)
   refine iteB h4 (fun c4 h5=>?_) (fun c4 h6=>?_)
   ·obtain rfl:=Zab h5
    exact af fol hE (o2 ++ [.r [(3,wF),(4,wF),(5,wF),(6,wF)],.c true,.r []]) [] 0 [] (t2 (aM c4 c4 c4 c4 c4 eT))
   ·refine iteB h6 (fun c5 h7=>?_) (fun c5 h8=>?_)
    ·obtain rfl:=Zab h7
     exact af fol hE (o2 ++ [.r [(7,yF)],.c true,.r []]) [] 0 [] (t2 (aM c4 c4 c4 c4 c4 c5))
    ·obtain ⟨c6,c7,h9⟩:=ck2 h8
     obtain ⟨x5,c8,h10⟩:=Zcl h9
     obtain rfl:=Zab h10
     exact af fol hE (o2 ++ [.r [(7,yF)],.c false,.r [(3,{oe:=[L.int .i64 x5]})]]) [] 0 [] (t2 (aO c4 c4 c4 c4 c4 c5 c6 (aI c7 c8)))
noncomputable def Zbc.B:Code:=Tryz.f49.body.getD .skip
noncomputable def Zbc.rs (r:LL):List CV:=[.row true 1 r]
noncomputable def Zbc.p1 (N:Nat) (t_0:Zao) (x1:Int) (c1_:(Int×Int×LL)→Option LL):(Int×Int×LL)→Option LL:=fun (at_2,i_3,v6)=>
 if (decide (i_3≥0))=true then
  chk (0≤i_3)<|
  chk (i_3<((Int.toNat (if (0:Int)>x1 then 0 else x1):Nat):Int))<|
  optE (ZbP N t_0 at_2) fun (x7,x8)=>
  c1_ (x7.Ahead,w64 (i_3-1),List.set v6 (0+(Int.toNat i_3)) [L.int .i64 at_2])
 else
 chk ((Int.toNat (if (0:Int)>x1 then 0 else x1))≤(List.length v6))<|
 some (List.take (Int.toNat (if (0:Int)>x1 then 0 else x1)) v6)
noncomputable def Zbc (N:Nat) (t_0:Zao) (at_1:Int):Option LL:=
 optE (ZaO N t_0 at_1) fun x1=>
 chk (0≤(if (0:Int)>x1 then 0 else x1))<|
 chk (8*(if (0:Int)>x1 then 0 else x1)≤281474976710656)<|
 chk ((if (0:Int)>x1 then 0 else x1)≤9223372036854775807)<|
 loopN (Zbc.p1 N t_0 x1) N (at_1,w64 (((Int.toNat (if (0:Int)>x1 then 0 else x1):Nat):Int)-1),List.replicate (Int.toNat (if (0:Int)>x1 then 0 else x1)) [L.int .i64 0])
noncomputable def Zbc.p1.S (t_0:Zao) (at_2 x1 i_3:Int) (v6 st:LL):S:=mkS 34 [(0,.one (.l (L.bx 2 t_0.ls))),(1,sI at_2),(5,.one (.h (.row 13 0) 1 0 (Int.toNat (if (0:Int)>x1 then 0 else x1)))),(6,sI i_3)] [(13,.row 0 true 1 v6)] st
theorem Zbc.p1_ok {t_0 at_2 x1 i_3 v6 st r c1_ J1} (h:Zbc.p1 N t_0 x1 c1_ (at_2,i_3,v6)=some r) (hE:En Tryz.f49 g0 w0 (Zbc.rs r) st R) (hc1 : ∀at_2 i_3 v6,c1_ (at_2,i_3,v6)=some r→At g0 w0 (Zbc.p1.S t_0 at_2 x1 i_3 v6 st) J1):At g0 w0 (Zbc.p1.S t_0 at_2 x1 i_3 v6 st) (XK Tryz.prog R (.c (csub Zbc.B [1,1,0,1,0,0]) :: .h J1 :: [.b 0,.c (csub Zbc.B [1,1,1])])):=by
 unfold Zbc.p1 at h
 refine iteB h (fun c10 h1=>?_) (fun c10 h2=>?_)
 ·obtain ⟨c11,c12,h3⟩:=ck2 h1
  obtain ⟨⟨x7,x8⟩,c13,h4⟩:=Zac h3
  exact an fol [.r [],.c true,.r [],.r [(2,q0 [.agg x7.ls,oB x8])],.r [],.r []] [0,1,5,6] [13] (aK c10 c11 c12 (ZbP.snd c13)) (hc1 x7.Ahead (w64 (i_3-1)) (List.set v6 (0+(Int.toNat i_3)) [L.int .i64 at_2]) h4)
 ·obtain ⟨c14,h5⟩:=ZaS h2
  obtain rfl:=Zab h5
  exact af fol hE [.r [],.c false,.r []] [] 2 [0] (aJ c10 z0 c14)
theorem Zbc.snd {t_0:Zao} {at_1:Int} {r:LL} (h:Zbc N t_0 at_1=some r):SndQ Tryz.prog 49 [.one (L.bx 2 t_0.ls),oI at_1] (Zbc.rs r):=fun st=>
 sO Zbc.B Tryz.func49 fun g0 w0 R hE=>by
  unfold Zbc at h
  obtain ⟨x1,c1,h6⟩:=Zac h
  obtain ⟨c2,c3,c4,h7⟩:=ck3 h6
  exact aq fol [.r [(0,{m:=2})],.r [(2,q0 [oI x1])],.r []] [0,1,5,6] [13] (aL (ZaO.snd c1) c2 (@rfl Int (if (0:Int)>x1 then 0 else x1)) c3 c4) (At.loop N (At.loopN (fun y:Int×Int×LL=>Zbc.p1.S t_0 y.1 x1 y.2.1 y.2.2 st) (fun c J hc y h=>Zbc.p1_ok (at_2:=y.1) (i_3:=y.2.1) (v6:=y.2.2) h hE (fun at_2 i_3 v6=>hc (at_2,i_3,v6))) N (at_1,w64 (((Int.toNat (if (0:Int)>x1 then 0 else x1):Nat):Int)-1),List.replicate (Int.toNat (if (0:Int)>x1 then 0 else x1)) [L.int .i64 0]) h7))
noncomputable def ZbR.B:Code:=Tryz.f50.body.getD .skip
noncomputable def ZbR.rs (r:Bool):List CV:=[oB r]
noncomputable def ZbR (N:Nat) (t_0:Zao) (at_1 of_2:Int):Option Bool:=
 optE (ZaO N t_0 at_1) fun x1=>
 if (decide (x1≥0))=true then
  optE (Zan N t_0 of_2 x1) fun x2=>
  some (x2==at_1)
 else
 some false
theorem ZbR.snd {t_0:Zao} {at_1 of_2:Int} {r:Bool} (h:ZbR N t_0 at_1 of_2=some r):SndQ Tryz.prog 50 [.one (L.bx 2 t_0.ls),oI at_1,oI of_2] (ZbR.rs r):=fun st=>
 sO ZbR.B Tryz.func50 fun g0 w0 R hE=>by
  unfold ZbR at h
  obtain ⟨x1,c1,h1⟩:=Zac h
  let o1:List PS:=[.r [],.r [(2,q0 [oI x1])]]
  refine iteB h1 (fun c2 h2=>?_) (fun c2 h3=>?_)
  ·obtain ⟨x2,c3,h4⟩:=Zac h2
   obtain rfl:=Zab h4
   exact af fol hE (o1 ++ [.r [(6,q0 [oI x2])]]) [] 0 [] (aO (ZaO.snd c1) c2 c2 c2 c2 (Zan.snd c3) c2 (aI c2 c2))
  ·obtain rfl:=Zab h3
   exact af fol hE (o1 ++ [.r [(3,wF),(4,wF),(5,wF),(6,wF),(7,wF),(8,wF),(9,yF)]]) [] 0 [] (aO (ZaO.snd c1) c2 c2 c2 c2 c2 c2 c2)
noncomputable def ZcL.B:Code:=Tryz.f50.body.getD .skip
noncomputable def ZcL.rs (r:Bool×LL):List CV:=[oB r.1]
noncomputable def ZcL (N:Nat) (t_0:Option Nat) (at_1 of_2:Int) (st:LL):Option (Bool×LL):=
 optE (ZbD N t_0 at_1 st) fun (x1,st2)=>
 if (decide (x1≥0))=true then
  optE (Zav N t_0 of_2 x1 st2) fun (x3,st4)=>
  some (x3==at_1,st4)
 else
 some (false,st2)
theorem ZcL.snd {t_0:Option Nat} {at_1 of_2:Int} {st:LL} {r:Bool×LL} (h:ZcL N t_0 at_1 of_2 st=some r):Snd Tryz.prog 50 [.one (L.ptr t_0),oI at_1,oI of_2] st (ZcL.rs r) r.2:=
 sO ZcL.B Tryz.func50 fun g0 w0 R hE=>by
  unfold ZcL at h
  obtain ⟨⟨x1,st2⟩,c1,h1⟩:=Zac h
  let o1:List PS:=[.r [],.r [(2,{rs:=[oI x1],st:=st2})]]
  refine iteB h1 (fun c2 h2=>?_) (fun c2 h3=>?_)
  ·obtain ⟨⟨x3,st4⟩,c3,h4⟩:=Zac h2
   obtain rfl:=Zab h4
   exact af fol hE (o1 ++ [.r [(6,{rs:=[oI x3],st:=st4})]]) [] 0 [] (aO (ZbD.snd c1) c2 c2 c2 c2 (Zav.snd c3) c2 (aI c2 c2))
  ·obtain rfl:=Zab h3
   exact af fol hE (o1 ++ [.r [(3,wF),(4,wF),(5,wF),(6,wF),(7,wF),(8,wF),(9,yF)]]) [] 0 [] (aO (ZbD.snd c1) c2 c2 c2 c2 c2 c2 c2)
noncomputable def ZcA.B:Code:=Tryz.f36.body.getD .skip
noncomputable def ZcA.rs (r:Int):List CV:=[oI r]
noncomputable def ZcA (N:Nat) (a_0:Zax):Option Int:=
 some a_0.room
theorem ZcA.snd {a_0:Zax} {r:Int} (h:ZcA N a_0=some r):SndQ Tryz.prog 36 [.one (L.bx 87 a_0.ls)] (ZcA.rs r):=fun st=>
 sO ZcA.B Tryz.func36 fun g0 w0 R hE=>by
  unfold ZcA at h
  obtain rfl:=Zab h
  exact af fol hE [.r [],.r [],.c false,.r [(3,{oe:=a_0.ls})]] [] 0 [] (aI eF (eO a_0.ls))
noncomputable def Zdf.B:Code:=Tryz.f35.body.getD .skip
noncomputable def Zdf.rs (r:Int×LL):List CV:=[oI r.1]
noncomputable def Zdf (N:Nat) (t_0:Option Nat) (st:LL):Option (Int×LL):=
 if (Option.isNone t_0)=true then
  some (0,st)
 else
 optE t_0 fun i1=>
 getE (st[i1]?) Zco fun x2 x3=>
 optE x2 fun i4=>
 getE (st[i4]?) Zbj fun x5=>
 optE (ZcA N x5) fun x6=>
 some (x6,st)
theorem Zdf.snd {t_0:Option Nat} {st:LL} {r:Int×LL} (h:Zdf N t_0 st=some r):Snd Tryz.prog 35 [.one (L.ptr t_0)] st (Zdf.rs r) r.2:=
 sO Zdf.B Tryz.func35 fun g0 w0 R hE=>by
  unfold Zdf at h
  refine iteB h (fun c1 h1=>?_) (fun c1 h2=>?_)
  ·obtain rfl:=Zab h1
   exact af fol hE [.r [],.r [],.c true,.r []] [] 0 [] c1
  ·obtain ⟨i1,rfl,h3⟩:=Zac h2
   obtain ⟨x2,x3,c3,h4⟩:=ZbX h3
   obtain ⟨i4,rfl,h5⟩:=Zac h4
   obtain ⟨x5,c5,h6⟩:=ZaZ h5
   obtain ⟨x6,c6,h7⟩:=Zac h6
   obtain rfl:=Zab h7
   exact af fol hE [.r [],.r [],.c false,.r [(3,{oc:=[L.ptr (some i4),L.own true 1 x3]}),(4,{rs:=[oI x6],m:=10,cv:=[.one (L.bx 87 x5.ls)]})]] [] 0 [] (aK c1 c3 (bO 87 c5 (Zax.bv x5)) (ZcA.snd c6))
noncomputable def Zbz.B:Code:=Tryz.f49.body.getD .skip
noncomputable def Zbz.rs (r:LL×LL):List CV:=[.row true 1 r.1]
noncomputable def Zbz.p1 (N:Nat) (t_0:Option Nat) (x1:Int) (c1_:(Int×Int×LL×LL)→Option (LL×LL)):(Int×Int×LL×LL)→Option (LL×LL):=fun (at_3,i_4,v8,st9)=>
 if (decide (i_4≥0))=true then
  chk (0≤i_4)<|
  chk (i_4<((Int.toNat (if (0:Int)>x1 then 0 else x1):Nat):Int))<|
  optE (ZcU N t_0 at_3 st9) fun (x10,x11,st12)=>
  c1_ (x10.Ahead,w64 (i_4-1),List.set v8 (0+(Int.toNat i_4)) [L.int .i64 at_3],st12)
 else
 chk ((Int.toNat (if (0:Int)>x1 then 0 else x1))≤(List.length v8))<|
 some (List.take (Int.toNat (if (0:Int)>x1 then 0 else x1)) v8,st9)
noncomputable def Zbz (N:Nat) (t_0:Option Nat) (at_1:Int) (st:LL):Option (LL×LL):=
 optE (ZbD N t_0 at_1 st) fun (x1,st2)=>
 chk (0≤(if (0:Int)>x1 then 0 else x1))<|
 chk (8*(if (0:Int)>x1 then 0 else x1)≤281474976710656)<|
 chk ((if (0:Int)>x1 then 0 else x1)≤9223372036854775807)<|
 loopN (Zbz.p1 N t_0 x1) N (at_1,w64 (((Int.toNat (if (0:Int)>x1 then 0 else x1):Nat):Int)-1),List.replicate (Int.toNat (if (0:Int)>x1 then 0 else x1)) [L.int .i64 0],st2)
noncomputable def Zbz.p1.S (t_0:Option Nat) (at_3 x1 i_4:Int) (v8 st9:LL):S:=mkS 34 [(0,sP t_0),(1,sI at_3),(5,.one (.h (.row 13 0) 1 0 (Int.toNat (if (0:Int)>x1 then 0 else x1)))),(6,sI i_4)] [(13,.row 0 true 1 v8)] st9
theorem Zbz.p1_ok {t_0 at_3 x1 i_4 v8 st9 r c1_ J1} (h:Zbz.p1 N t_0 x1 c1_ (at_3,i_4,v8,st9)=some r) (hE:En Tryz.f49 g0 w0 (Zbz.rs r) r.2 R) (hc1 : ∀at_3 i_4 v8 st9,c1_ (at_3,i_4,v8,st9)=some r→At g0 w0 (Zbz.p1.S t_0 at_3 x1 i_4 v8 st9) J1):At g0 w0 (Zbz.p1.S t_0 at_3 x1 i_4 v8 st9) (XK Tryz.prog R (.c (csub Zbz.B [1,1,0,1,0,0]) :: .h J1 :: [.b 0,.c (csub Zbz.B [1,1,1])])):=by
 unfold Zbz.p1 at h
 refine iteB h (fun c10 h1=>?_) (fun c10 h2=>?_)
 ·obtain ⟨c11,c12,h3⟩:=ck2 h1
  obtain ⟨⟨x10,x11,st12⟩,c13,h4⟩:=Zac h3
  exact an fol [.r [],.c true,.r [],.r [(2,{rs:=[.agg x10.ls,oB x11],st:=st12})],.r [],.r []] [0,1,5,6] [13] (aK c10 c11 c12 (ZcU.snd c13)) (hc1 x10.Ahead (w64 (i_4-1)) (List.set v8 (0+(Int.toNat i_4)) [L.int .i64 at_3]) st12 h4)
 ·obtain ⟨c14,h5⟩:=ZaS h2
  obtain rfl:=Zab h5
  exact af fol hE [.r [],.c false,.r []] [] 2 [0] (aJ c10 z0 c14)
theorem Zbz.snd {t_0:Option Nat} {at_1:Int} {st:LL} {r:LL×LL} (h:Zbz N t_0 at_1 st=some r):Snd Tryz.prog 49 [.one (L.ptr t_0),oI at_1] st (Zbz.rs r) r.2:=
 sO Zbz.B Tryz.func49 fun g0 w0 R hE=>by
  unfold Zbz at h
  obtain ⟨⟨x1,st2⟩,c1,h6⟩:=Zac h
  obtain ⟨c2,c3,c4,h7⟩:=ck3 h6
  exact aq fol [.r [(0,{m:=2})],.r [(2,{rs:=[oI x1],st:=st2})],.r []] [0,1,5,6] [13] (aL (ZbD.snd c1) c2 (@rfl Int (if (0:Int)>x1 then 0 else x1)) c3 c4) (At.loop N (At.loopN (fun y:Int×Int×LL×LL=>Zbz.p1.S t_0 y.1 x1 y.2.1 y.2.2.1 y.2.2.2) (fun c J hc y h=>Zbz.p1_ok (at_3:=y.1) (i_4:=y.2.1) (v8:=y.2.2.1) (st9:=y.2.2.2) h hE (fun at_3 i_4 v8 st9=>hc (at_3,i_4,v8,st9))) N (at_1,w64 (((Int.toNat (if (0:Int)>x1 then 0 else x1):Nat):Int)-1),List.replicate (Int.toNat (if (0:Int)>x1 then 0 else x1)) [L.int .i64 0],st2) h7))
noncomputable def ZaH.B:Code:=Tryz.f51.body.getD .skip
noncomputable def ZaH.rs (r:Int×LL):List CV:=[oI r.1]
noncomputable def ZaH.p2 (N:Nat) (c1_:(Int×Int×LL)→Option (Int×LL)) (t_0:Option Nat) (places_1:LL) (v3:Int) (c2_:(Int×Int×Int×LL)→Option (Int×LL)):(Int×Int×Int×LL)→Option (Int×LL):=fun (h_35,a_36,b_37,st42)=>
 if (a_36 != b_37)=true then
  optE (Zav N t_0 a_36 (w64 (h_35-1)) st42) fun (x43,st44)=>
  optE (Zav N t_0 b_37 (w64 (h_35-1)) st44) fun (x45,st46)=>
  c2_ (w64 (h_35-1),x43,x45,st46)
 else
 c1_ (a_36,w64 (v3+1),st42)
noncomputable def ZaH.p1 (N:Nat) (t_0:Option Nat) (places_1:LL) (c1_:(Int×Int×LL)→Option (Int×LL)):(Int×Int×LL)→Option (Int×LL):=fun (out_2,v3,st25)=>
 if (decide (v3<(len places_1)))=true then
  chk (0≤v3)<|
  getE (places_1[Int.toNat v3]?) ZcI fun x26=>
  optE (ZbD N t_0 out_2 st25) fun (x27,st28)=>
  optE (ZbD N t_0 x26 st28) fun (x29,st30)=>
  if (decide ((if x29<x27 then x29 else x27)<0))=true then
   some ((-1),st30)
  else
  optE (Zav N t_0 out_2 (if x29<x27 then x29 else x27) st30) fun (x31,st32)=>
  optE (Zav N t_0 x26 (if x29<x27 then x29 else x27) st32) fun (x33,st34)=>
  loopN (ZaH.p2 N c1_ t_0 places_1 v3) N (if x29<x27 then x29 else x27,x31,x33,st34)
 else
 some (out_2,st25)
noncomputable def ZaH (N:Nat) (t_0:Option Nat) (places_1 st:LL):Option (Int×LL):=
 if ((len places_1)==0)=true then
  some ((-1),st)
 else
 chk (0<(len places_1))<|
 getE (places_1[0]?) ZcI fun x1=>
 loopN (ZaH.p1 N t_0 places_1) N (x1,0,st)
noncomputable def ZaH.p2.S (t_0:Option Nat) (h_35 a_36 b_37:Int) (places_1:LL) (v3:Int) (st42:LL):S:=mkS 56 [(0,sP t_0),(8,sI h_35),(9,sI a_36),(10,sI b_37),(17,sV 1 places_1),(18,sI (len places_1)),(19,sI v3)] [] st42
noncomputable def ZaH.p1.S (t_0:Option Nat) (out_2:Int) (places_1:LL) (v3:Int) (st25:LL):S:=mkS 56 [(0,sP t_0),(5,sI out_2),(17,sV 1 places_1),(18,sI (len places_1)),(19,sI v3)] [] st25
theorem ZaH.p2_ok {t_0 h_35 a_36 b_37 places_1 v3 st42 r c1_ c2_ J1 J2} (h:ZaH.p2 N c1_ t_0 places_1 v3 c2_ (h_35,a_36,b_37,st42)=some r) (hE:En Tryz.f51 g0 w0 (ZaH.rs r) r.2 R) (hc1 : ∀out_2 v3 st25,c1_ (out_2,v3,st25)=some r→At g0 w0 (ZaH.p1.S t_0 out_2 places_1 v3 st25) J1) (hc2 : ∀h_35 a_36 b_37 st42,c2_ (h_35,a_36,b_37,st42)=some r→At g0 w0 (ZaH.p2.S t_0 h_35 a_36 b_37 places_1 v3 st42) J2):At g0 w0 (ZaH.p2.S t_0 h_35 a_36 b_37 places_1 v3 st42) (XK Tryz.prog R (.c (csub ZaH.B [1,1,1,0,1,0,0,1,1,0,0,1,1,1,1,0,0,0]) :: .h J2 :: [.b 2,.c (csub ZaH.B [1,1,1,0,1,0,0,1,1,0,0,1,1,1,1,1]),.b 1,.c (csub ZaH.B [1,1,1,0,1,0,0,1,1,1]),.h J1,.b 0,.c (csub ZaH.B [1,1,1,1])])):=by
 unfold ZaH.p2 at h
 refine iteB h (fun c29 h1=>?_) (fun c29 h2=>?_)
 ·obtain ⟨⟨x43,st44⟩,c30,h3⟩:=Zac h1
  obtain ⟨⟨x45,st46⟩,c31,h4⟩:=Zac h3
  exact an fol [.r [],.c true,.r [],.r [(3,{rs:=[oI x43],st:=st44}),(7,{rs:=[oI x45],st:=st46})]] [0,8,9,10,17,18,19] [] (aJ c29 (Zav.snd c30) (Zav.snd c31)) (hc2 (w64 (h_35-1)) x43 x45 st46 h4)
 ·exact an fol [.r [],.c false,.r [],.r []] [0,5,17,18,19] [] c29 (hc1 a_36 (w64 (v3+1)) st42 h2)
theorem ZaH.p1_ok {t_0 out_2 places_1 v3 st25 r c1_ J1} (h:ZaH.p1 N t_0 places_1 c1_ (out_2,v3,st25)=some r) (hE:En Tryz.f51 g0 w0 (ZaH.rs r) r.2 R) (hc1 : ∀out_2 v3 st25,c1_ (out_2,v3,st25)=some r→At g0 w0 (ZaH.p1.S t_0 out_2 places_1 v3 st25) J1):At g0 w0 (ZaH.p1.S t_0 out_2 places_1 v3 st25) (XK Tryz.prog R (.c (csub ZaH.B [1,1,1,0,1,0,0]) :: .h J1 :: [.b 0,.c (csub ZaH.B [1,1,1,1])])):=by
 unfold ZaH.p1 at h
 refine iteB h (fun c18 h5=>?_) (fun c18 h6=>?_)
 ·obtain ⟨c19,h7⟩:=ZaS h5
  obtain ⟨x26,c20,h8⟩:=Zcl h7
  obtain ⟨⟨x27,st28⟩,c21,h9⟩:=Zac h8
  obtain ⟨⟨x29,st30⟩,c22,h10⟩:=Zac h9
  let o1:List PS:=[.r [],.c true,.r [(1,{oe:=[L.int .i64 x26]})],.r [(2,{rs:=[oI x27],st:=st28}),(5,{rs:=[oI x29],st:=st30})],.r []]
  have t1 {Q:Prop} (q:Q):=aN c18 c19 (oD c18) c20 (ZbD.snd c21) (ZbD.snd c22) q
  refine iteB h10 (fun c23 h11=>?_) (fun c23 h12=>?_)
  ·obtain rfl:=Zab h11
   exact af fol hE (o1 ++ [.c true,.r []]) [] 0 [] (t1 c23)
  ·obtain ⟨⟨x31,st32⟩,c24,h13⟩:=Zac h12
   obtain ⟨⟨x33,st34⟩,c25,h14⟩:=Zac h13
   exact aq fol (o1 ++ [.c false,.r [(3,{rs:=[oI x31],st:=st32}),(7,{rs:=[oI x33],st:=st34})]]) [0,8,9,10,17,18,19] [] (t1 (aJ c23 (Zav.snd c24) (Zav.snd c25))) (At.loop N (At.loopN (fun y:Int×Int×Int×LL=>ZaH.p2.S t_0 y.1 y.2.1 y.2.2.1 places_1 v3 y.2.2.2) (fun c J hc y h=>ZaH.p2_ok (h_35:=y.1) (a_36:=y.2.1) (b_37:=y.2.2.1) (st42:=y.2.2.2) h hE hc1 (fun h_35 a_36 b_37 st42=>hc (h_35,a_36,b_37,st42))) N (if x29<x27 then x29 else x27,x31,x33,st34) h14))
 ·obtain rfl:=Zab h6
  exact af fol hE [.r [],.c false,.r []] [] 0 [] c18
theorem ZaH.snd {t_0:Option Nat} {places_1:LL} {st:LL} {r:Int×LL} (h:ZaH N t_0 places_1 st=some r):Snd Tryz.prog 51 [.one (L.ptr t_0),.one (L.sl 1 places_1)] st (ZaH.rs r) r.2:=
 sO ZaH.B Tryz.func51 fun g0 w0 R hE=>by
  unfold ZaH at h
  refine iteB h (fun c1 h15=>?_) (fun c1 h16=>?_)
  ·obtain rfl:=Zab h15
   exact af fol hE [.r [],.r [],.c true,.r []] [] 0 [] c1
  ·obtain ⟨c2,h17⟩:=ZaS h16
   obtain ⟨x1,c3,h18⟩:=Zcl h17
   exact aq fol [.r [],.r [],.c false,.r [(2,{oe:=[L.int .i64 x1]})],.r []] [0,5,17,18,19] [] (aK c1 (leI 0 0) c2 c3) (At.loop N (At.loopN (fun y:Int×Int×LL=>ZaH.p1.S t_0 y.1 places_1 y.2.1 y.2.2) (fun c J hc y h=>ZaH.p1_ok (out_2:=y.1) (v3:=y.2.1) (st25:=y.2.2) h hE (fun out_2 v3 st25=>hc (out_2,v3,st25))) N (x1,0,st) h18))
noncomputable def ZcB.B:Code:=Tryz.f38.body.getD .skip
noncomputable def ZcB.rs (r:Int):List CV:=[oI r]
noncomputable def ZcB (N:Nat) (a_0:Zax) (id_1_0:List Int):Option Int:=
 optM (mfind a_0.places (L.arr .u8 32 id_1_0)) (fun j1 e=>ZcI [e] fun x2=>
  some x2)
 (
  some (-1))
theorem ZcB.snd {a_0:Zax} {id_1_0:List Int} {r:Int} (h:ZcB N a_0 id_1_0=some r):SndQ Tryz.prog 38 [.one (L.bx 87 a_0.ls),.agg [L.arr .u8 32 id_1_0]] (ZcB.rs r):=fun st=>
 sO ZcB.B Tryz.func38 fun g0 w0 R hE=>by
  unfold ZcB at h
  rcases ZgS h with ⟨j1,h4,c1,h1⟩ | ⟨c1,h2⟩
  ·obtain ⟨x2,h5,h3⟩:=Zfc h1
   obtain rfl:=Zfm h5
   obtain rfl:=Zab h3
   exact afd fol hE [.r [],.r [],.c false,.d {ds:=[(3,{oe:=a_0.ls}),(5,{oe:=[L.int .i64 x2]})],hv:=0,Hs:=[]},.r [],.c true,.r []] [] 0 [] (aK eF (eO a_0.ls) (Zka c1) eT)
  ·obtain rfl:=Zab h2
   exact afd fol hE [.r [],.r [],.c false,.d {ds:=[(3,{oe:=a_0.ls}),(5,yF)],hv:=0,Hs:=[]},.r [],.c false,.r []] [] 0 [] (aK eF (eO a_0.ls) c1 eF)
noncomputable def Zdn.B:Code:=Tryz.f38.body.getD .skip
noncomputable def Zdn.rs (r:Int×LL):List CV:=[oI r.1]
noncomputable def Zdn (N:Nat) (a_0:Option Nat) (id_1_0:List Int) (st:LL):Option (Int×LL):=
 if (Option.isNone a_0)=true then
  some ((-1),st)
 else
 optE a_0 fun i1=>
 getE (st[i1]?) Zbj fun x2=>
 optM (mfind x2.places (L.arr .u8 32 id_1_0)) (fun j3 e=>ZcI [e] fun x4=>
  some (x4,st))
 (
  some ((-1),st))
theorem Zdn.snd {a_0:Option Nat} {id_1_0:List Int} {st:LL} {r:Int×LL} (h:Zdn N a_0 id_1_0 st=some r):Snd Tryz.prog 38 [.one (L.ptr a_0),.agg [L.arr .u8 32 id_1_0]] st (Zdn.rs r) r.2:=
 sO Zdn.B Tryz.func38 fun g0 w0 R hE=>by
  unfold Zdn at h
  refine iteB h (fun c1 h1=>?_) (fun c1 h2=>?_)
  ·obtain rfl:=Zab h1
   exact af fol hE [.r [],.r [],.c true,.r []] [] 0 [] c1
  ·obtain ⟨i1,rfl,h3⟩:=Zac h2
   obtain ⟨x2,c3,h4⟩:=ZaZ h3
   rcases ZgS h4 with ⟨j3,h8,c4,h5⟩ | ⟨c4,h6⟩
   ·obtain ⟨x4,h9,h7⟩:=Zfc h5
    obtain rfl:=Zfm h9
    obtain rfl:=Zab h7
    exact afd fol hE [.r [],.r [],.c false,.d {ds:=[(3,{oc:=x2.lo}),(5,{oc:=x2.lo,oe:=[L.int .i64 x4]})],hv:=0,Hs:=[]},.r [],.c true,.r []] [] 0 [] (aL c1 c3 (Zka c4) c3 eT)
   ·obtain rfl:=Zab h6
    exact afd fol hE [.r [],.r [],.c false,.d {ds:=[(3,{oc:=x2.lo}),(5,{oc:=x2.lo,yes:=false})],hv:=0,Hs:=[]},.r [],.c false,.r []] [] 0 [] (aL c1 c3 c4 c3 eF)
noncomputable def Zdg.B:Code:=Tryz.f37.body.getD .skip
noncomputable def Zdg.rs (r:Int×LL):List CV:=[oI r.1]
noncomputable def Zdg (N:Nat) (t_0:Option Nat) (id_1_0:List Int) (st:LL):Option (Int×LL):=
 if (Option.isNone t_0)=true then
  some ((-1),st)
 else
 optE t_0 fun i1=>
 getE (st[i1]?) Zco fun x2 x3=>
 optE x2 fun i4=>
 getE (st[i4]?) Zbj fun x5=>
 optE (ZcB N x5 id_1_0) fun x6=>
 some (x6,st)
theorem Zdg.snd {t_0:Option Nat} {id_1_0:List Int} {st:LL} {r:Int×LL} (h:Zdg N t_0 id_1_0 st=some r):Snd Tryz.prog 37 [.one (L.ptr t_0),.agg [L.arr .u8 32 id_1_0]] st (Zdg.rs r) r.2:=
 sO Zdg.B Tryz.func37 fun g0 w0 R hE=>by
  unfold Zdg at h
  refine iteB h (fun c1 h1=>?_) (fun c1 h2=>?_)
  ·obtain rfl:=Zab h1
   exact af fol hE [.r [],.r [],.c true,.r []] [] 0 [] c1
  ·obtain ⟨i1,rfl,h3⟩:=Zac h2
   obtain ⟨x2,x3,c3,h4⟩:=ZbX h3
   obtain ⟨i4,rfl,h5⟩:=Zac h4
   obtain ⟨x5,c5,h6⟩:=ZaZ h5
   obtain ⟨x6,c6,h7⟩:=Zac h6
   obtain rfl:=Zab h7
   exact afd fol hE [.r [],.r [],.c false,.d {ds:=[(3,{oc:=[L.ptr (some i4),L.own true 1 x3]}),(5,{rs:=[oI x6],m:=10,cv:=[.one (L.bx 87 x5.ls)]})],hv:=32,Hs:=[32]}] [] 0 [] (aK c1 c3 (bO 87 c5 (Zax.bv x5)) (ZcB.snd c6))
noncomputable def Zcp.B:Code:=Tryz.f33.body.getD .skip
noncomputable def Zcp.rs (r:Bool):List CV:=[oB r]
noncomputable def Zcp (N:Nat) (a_0:Zax) (x_1 y_2:Int):Option Bool:=
 optE (ZbE N a_0 x_1) fun x1=>
 if (!x1)=true then
  some x1
 else
 optE (ZbE N a_0 y_2) fun x2=>
 if (!x2)=true then
  some x1
 else
 chk (0≤x_1)<|
 chk (x_1<(len a_0.list))<|
 getE (a_0.list[Int.toNat x_1]?) ZdA fun x3=>
 chk (0≤y_2)<|
 chk (y_2<(len a_0.list))<|
 getE (a_0.list[Int.toNat y_2]?) ZdA fun x4=>
 optE (Zbl N x3.Work x4.Work) fun x5=>
 if (decide (x5>0))=true then
  some true
 else
 if (x5==0)=true then
  some (decide (x_1<y_2))
 else
 some false
theorem Zcp.snd {a_0:Zax} {x_1 y_2:Int} {r:Bool} (h:Zcp N a_0 x_1 y_2=some r):SndQ Tryz.prog 33 [.one (L.bx 87 a_0.ls),oI x_1,oI y_2] (Zcp.rs r):=fun st=>
 sO Zcp.B Tryz.func33 fun g0 w0 R hE=>by
  unfold Zcp at h
  obtain ⟨x1,c1,h1⟩:=Zac h
  have t1 {Q:Prop} (q:Q):=aI (ZbE.snd c1) q
  refine iteB h1 (fun c2 h2=>?_) (fun c2 h3=>?_)
  ·obtain rfl:=Zab h2
   exact af fol hE [.r [],.r [(2,q0 [oB x1]),(5,wF),(6,wF),(7,wF),(8,wF)],.c true,.r [(2,q0 [oB x1])]] [] 0 [] (t1 (aN (not_false (Zbe c2)) (not_false (Zbe c2)) (not_false (Zbe c2)) (not_false (Zbe c2)) (not_false (Zbe c2)) eT (ZbE.snd c1)))
  ·obtain ⟨x2,c3,h4⟩:=Zac h3
   let o1:List PS:=[.r [],.r [(2,q0 [oB x1]),(7,q0 [oB x2]),(9,yF)]]
   have t2 {Q:Prop} (q:Q):=t1 (aN (not_true (ZaV c2)) (not_true (ZaV c2)) (not_true (ZaV c2)) (ZbE.snd c3) (not_true (ZaV c2)) (not_true (ZaV c2)) q)
   refine iteB h4 (fun c4 h5=>?_) (fun c4 h6=>?_)
   ·obtain rfl:=Zab h5
    exact af fol hE (o1 ++ [.c true,.r [(2,q0 [oB x1])]]) [] 0 [] (t2 (aI c4 (ZbE.snd c1)))
   ·obtain ⟨c5,c6,h7⟩:=ck2 h6
    obtain ⟨x3,c7,h8⟩:=ZdV h7
    obtain ⟨c8,c9,h9⟩:=ck2 h8
    obtain ⟨x4,c10,h10⟩:=ZdV h9
    obtain ⟨x5,c11,h11⟩:=Zac h10
    let o2:List PS:=o1 ++ [.c false,.d {ds:=[(3,{oe:=a_0.ls}),(7,{oe:=x3.ls}),(11,{oe:=a_0.ls}),(15,{oe:=x4.ls}),(16,q1 [oI x5])],hv:=0,Hs:=[]}]
    have t3 {Q:Prop} (q:Q):=t2 (aO c4 (eO a_0.ls) c5 c6 c7 (eO a_0.ls) c8 (aK c9 c10 (Zbl.snd c11) q))
    refine iteB h11 (fun c12 h12=>?_) (fun c12 h13=>?_)
    ·obtain rfl:=Zab h12
     exact afd fol hE (o2 ++ [.r [(3,wF),(4,wF),(5,wF),(9,wF)]]) [] 0 [] (t3 (aL c12 c12 c12 c12 c12))
    ·refine iteB h13 (fun c13 h14=>?_) (fun c13 h15=>?_)
     ·obtain rfl:=Zab h14
      exact afd fol hE (o2 ++ [.r [(10,yF)]]) [] 0 [] (t3 (aO c12 c12 c12 c13 c13 c13 c12 (aI c13 c12)))
     ·obtain rfl:=Zab h15
      exact afd fol hE (o2 ++ [.r [(6,wF),(7,wF),(8,wF),(9,yF),(10,yF)]]) [] 0 [] (t3 (aO c12 c12 c12 c13 c13 c13 c12 (aI c13 c12)))
noncomputable def ZcF.B:Code:=Tryz.f32.body.getD .skip
noncomputable def ZcF.rs (r:Bool×LL):List CV:=[oB r.1]
noncomputable def ZcF (N:Nat) (t_0:Option Nat) (x_1 y_2:Int) (st:LL):Option (Bool×LL):=
 if (!(Option.isNone t_0))=true then
  optE t_0 fun i1=>
  getE (st[i1]?) Zco fun x2 x3=>
  optE x2 fun i4=>
  getE (st[i4]?) Zbj fun x5=>
  optE (Zcp N x5 x_1 y_2) fun x6=>
  some (x6,st)
 else
 some (false,st)
theorem ZcF.snd {t_0:Option Nat} {x_1 y_2:Int} {st:LL} {r:Bool×LL} (h:ZcF N t_0 x_1 y_2 st=some r):Snd Tryz.prog 32 [.one (L.ptr t_0),oI x_1,oI y_2] st (ZcF.rs r) r.2:=
 sO ZcF.B Tryz.func32 fun g0 w0 R hE=>by
  unfold ZcF at h
  refine iteB h (fun c1 h1=>?_) (fun c1 h2=>?_)
  ·obtain ⟨i1,rfl,h3⟩:=Zac h1
   obtain ⟨x2,x3,c3,h4⟩:=ZbX h3
   obtain ⟨i4,rfl,h5⟩:=Zac h4
   obtain ⟨x5,c5,h6⟩:=ZaZ h5
   obtain ⟨x6,c6,h7⟩:=Zac h6
   obtain rfl:=Zab h7
   exact af fol hE [.r [],.r [(6,{oc:=[L.ptr (some i4),L.own true 1 x3]}),(9,{rs:=[oB x6],m:=10,cv:=[.one (L.bx 87 x5.ls)]})]] [] 0 [] (aO eT eT eT eT c3 eT eT (aK eT (bO 87 c5 (Zax.bv x5)) (Zcp.snd c6) eT))
  ·obtain rfl:=Zab h2
   exact af fol hE [.r [],.r [(3,wF),(4,wF),(5,wF),(6,wF),(7,wF),(8,wF),(9,wF),(10,yF)]] [] 0 [] (aO c1 c1 c1 c1 c1 c1 c1 c1)
noncomputable def Zak.B:Code:=Tryz.f7.body.getD .skip
noncomputable def Zak.rs (r:Bool×LL):List CV:=[oB r.1]
noncomputable def Zak.p3 (N:Nat) (c1_:Int→Option (Bool×LL)) (at_2:Int) (i8 i14:Nat) (v18:Int) (x20:LL) (x15:Zaa) (st7:LL) (c3_:(Bool×Int)→Option (Bool×LL)):(Bool×Int)→Option (Bool×LL):=fun (in_35,v36)=>
 if (decide (v36<(len x20)))=true then
  chk (0≤v36)<|
  getE (x20[0+(Int.toNat v36)]?) ZcI fun x37=>
  if in_35=true then
   c3_ (true,w64 (v36+1))
  else
  c3_ (x37==at_2,w64 (v36+1))
 else
 getE (st7[i8]?) Zco fun x38 x39=>
 optE x38 fun i40=>
 getE (st7[i40]?) Zbj fun x41=>
 optE (ZbR N (Zao.mk x41 x39) at_2 v18) fun x42=>
 if (!(x42==in_35))=true then
  some (false,st7)
 else
 optE (Zan N (Zao.mk x41 x39) v18 (len x20)) fun x43=>
 if (x43 != (-1))=true then
  some (false,st7)
 else
 optE (Zan N (Zao.mk x41 x39) v18 (-1)) fun x44=>
 if (x44 != (-1))=true then
  some (false,st7)
 else
 c1_ (w64 (v18+1))
noncomputable def Zak.p2 (N:Nat) (c1_:Int→Option (Bool×LL)) (at_2:Int) (i8 i14:Nat) (v18:Int) (x20 x25:LL) (x15:Zaa) (st7:LL) (c2_:Int→Option (Bool×LL)):Int→Option (Bool×LL):=fun v26=>
 if (decide (v26<(len x20)))=true then
  getE (st7[i8]?) Zco fun x27 x28=>
  optE x27 fun i29=>
  getE (st7[i29]?) Zbj fun x30=>
  optE (Zan N (Zao.mk x30 x28) v18 v26) fun x31=>
  chk (0≤v26)<|
  getE (x20[0+(Int.toNat v26)]?) ZcI fun x32=>
  if (x31 != x32)=true then
   some (false,st7)
  else
  optE (ZbR N (Zao.mk x30 x28) x32 v18) fun x33=>
  if (!x33)=true then
   some (false,st7)
  else
  if (decide (v26>0))=true then
   chk (0≤(w64 (v26-1)))<|
   chk ((w64 (v26-1))<(len x25))<|
   getE (x25[0+(Int.toNat (w64 (v26-1)))]?) ZcI fun x34=>
   if (x34 != x32)=true then
    some (false,st7)
   else
   c2_ (w64 (v26+1))
  else
  c2_ (w64 (v26+1))
 else
 loopN (Zak.p3 N c1_ at_2 i8 i14 v18 x20 x15 st7) N (false,0)
noncomputable def Zak.p1 (N:Nat) (at_2:Int) (i8 i14:Nat) (x15:Zaa) (st7:LL) (c1_:Int→Option (Bool×LL)):Int→Option (Bool×LL):=fun v18=>
 if (decide (v18<(len x15.List_)))=true then
  getE (st7[i14]?) ZbA fun x19=>
  optE (ZaE N x19 v18) fun x20=>
  chk (plainRow x20=true)<|
  getE (st7[i8]?) Zco fun x21 x22=>
  optE x21 fun i23=>
  getE (st7[i23]?) Zbj fun x24=>
  optE (Zbc N (Zao.mk x24 x22) v18) fun x25=>
  chk (plainRow x25=true)<|
  if ((len x25) != (w64 ((len x20)-1)))=true then
   some (false,st7)
  else
  loopN (Zak.p2 N c1_ at_2 i8 i14 v18 x20 x25 x15 st7) N 0
 else
 optE (Zbs N none (Zai.mk 0 (List.replicate 32 0) (List.replicate 32 0) 0 0 0) 1 st7) fun (x45,x46,x47,st48)=>
 if (x47==2)=true then
  optE (Zdq N none st48) fun (x49,st50)=>
  optE (Zdf N none st50) fun (x51,st52)=>
  if ((w64 (x49+x51))==0)=true then
   optE (Zav N none 0 0 st52) fun (x53,st54)=>
   if (x53==(-1))=true then
    optE (ZcL N none 0 0 st54) fun (x55,st56)=>
    if (!x55)=true then
     optE (Zbz N none 0 st56) fun (x57,st58)=>
     if ((len x57)==0)=true then
      optE (ZaH N none [[L.int .i64 0]] st58) fun (x59,st60)=>
      if (x59==(-1))=true then
       optE (Zdg N none (List.replicate 32 0) st60) fun (x61,st62)=>
       if (x61==(-1))=true then
        optE (ZcF N none 0 0 st62) fun (x63,st64)=>
        some (!x63,st64)
       else
       some (false,st62)
      else
      some (false,st60)
     else
     some (false,st58)
    else
    some (false,st56)
   else
   some (false,st54)
  else
  some (false,st52)
 else
 some (false,st48)
noncomputable def Zak (N:Nat) (p_0:Zae) (list_1:LL) (at_2 height_3:Int) (st:LL):Option (Bool×LL):=
 optE (Zdk N st) fun (x1,st2)=>
 if (!x1)=true then
  some (false,st2)
 else
 optE (ZbM N p_0 list_1) fun x3=>
 if x3=true then
  some (true,st2)
 else
 optE (ZbH N p_0 list_1 st2) fun (x4,x5,x6,st7)=>
 if (!x6)=true then
  some (false,st7)
 else
 optE x4 fun i8=>
 getE (st7[i8]?) Zco fun x9 x10=>
 optE x9 fun i11=>
 getE (st7[i11]?) Zbj fun x12=>
 optE (Zcq N (Zao.mk x12 x10)) fun x13=>
 optE x5 fun i14=>
 getE (st7[i14]?) ZbA fun x15=>
 if (x13 != (len x15.List_))=true then
  some (false,st7)
 else
 optE (Zan N (Zao.mk x12 x10) at_2 height_3) fun x16=>
 optE (Zct N x15 at_2 height_3) fun x17=>
 if (x16 != x17)=true then
  some (false,st7)
 else
 loopN (Zak.p1 N at_2 i8 i14 x15 st7) N 0
noncomputable def Zak.p3.S (at_2:Int) (i8 i14:Nat) (v18:Int) (x20:LL) (in_35:Bool) (x15:Zaa) (v36:Int) (st7:LL):S:=mkS 203 [(2,sI at_2),(9,sP (some i8)),(10,sP (some i14)),(12,sI v18),(13,.one (.h (.row 68 0) 1 0 (List.length x20))),(16,.one (.l (L.bool in_35))),(62,sI (len x15.List_)),(63,sI v18),(119,.one (.h (.row 68 0) 1 0 (List.length x20))),(120,sI (len x20)),(121,sI v36)] [(68,.row 0 true 1 x20)] st7
noncomputable def Zak.p2.S (at_2:Int) (i8 i14:Nat) (v18:Int) (x20 x25:LL) (x15:Zaa) (v26:Int) (st7:LL):S:=mkS 203 [(2,sI at_2),(9,sP (some i8)),(10,sP (some i14)),(12,sI v18),(13,.one (.h (.row 68 0) 1 0 (List.length x20))),(14,.one (.h (.row 71 0) 1 0 (List.length x25))),(62,sI (len x15.List_)),(63,sI v18),(79,sI (len x20)),(80,sI v26)] [(68,.row 0 true 1 x20),(71,.row 0 true 1 x25)] st7
noncomputable def Zak.p1.S (at_2:Int) (i8 i14:Nat) (x15:Zaa) (v18:Int) (st7:LL):S:=mkS 203 [(2,sI at_2),(9,sP (some i8)),(10,sP (some i14)),(62,sI (len x15.List_)),(63,sI v18)] [] st7
theorem Zak.p3_ok {at_2 i8 i14 v18 x20 in_35 x15 v36 st7 r c1_ c3_ J1 J3} (h:Zak.p3 N c1_ at_2 i8 i14 v18 x20 x15 st7 c3_ (in_35,v36)=some r) (hE:En Tryz.f7 g0 w0 (Zak.rs r) r.2 R) (hc1 : ∀v18,c1_ v18=some r→At g0 w0 (Zak.p1.S at_2 i8 i14 x15 v18 st7) J1) (hc3 : ∀in_35 v36,c3_ (in_35,v36)=some r→At g0 w0 (Zak.p3.S at_2 i8 i14 v18 x20 in_35 x15 v36 st7) J3):At g0 w0 (Zak.p3.S at_2 i8 i14 v18 x20 in_35 x15 v36 st7) (XK Tryz.prog R (.c (csub Zak.B [1,1,1,1,1,0,1,0,0,1,1,0,0,1,1,1,1,1,1,0,1,0,0]) :: .h J3 :: [.b 4,.c (csub Zak.B [1,1,1,1,1,0,1,0,0,1,1,0,0,1,1,1,1,1,1,1]),.b 1,.c (csub Zak.B [1,1,1,1,1,0,1,0,0,1,1,1]),.h J1,.b 0,.c (csub Zak.B [1,1,1,1,1,1])])):=by
 unfold Zak.p3 at h
 refine iteB h (fun c43 h1=>?_) (fun c43 h2=>?_)
 ·obtain ⟨c44,h3⟩:=ZaS h1
  obtain ⟨x37,c45,h4⟩:=Zcl h3
  let o1:List PS:=[.r [],.c true,.r [(1,{oe:=[L.int .i64 x37]})]]
  refine iteB h4 (fun c46 h5=>?_) (fun c46 h6=>?_)
  ·exact an fol (o1 ++ [.r [(2,wF),(3,wF),(4,wF)],.r []]) [2,9,10,12,13,16,62,63,119,120,121] [68] (aO c43 c44 (oD c43) c45 c46 c46 c46 c46) (hc3 true (w64 (v36+1)) h5)
  ·exact an fol (o1 ++ [.r [(5,yF)],.r []]) [2,9,10,12,13,16,62,63,119,120,121] [68] (aO c43 c44 (oD c43) c45 c46 c46 c46 c46) (hc3 (x37==at_2) (w64 (v36+1)) h6)
 ·obtain ⟨x38,x39,c47,h7⟩:=ZbX h2
  obtain ⟨i40,rfl,h8⟩:=Zac h7
  obtain ⟨x41,c49,h9⟩:=ZaZ h8
  obtain ⟨x42,c50,h10⟩:=Zac h9
  let o2:List PS:=[.r [],.c false]
  have t1 {Q:Prop} (q:Q):=aK c43 (bO 2 c47 ((bC 87 c49 (Zax.bv x41) (bW bN)):BVs st7 [L.ptr (some i40),L.own true 1 x39] (Zao.ls (Zao.mk x41 x39)))) (ZbR.snd c50) q
  refine iteB h10 (fun c51 h11=>?_) (fun c51 h12=>?_)
  ·obtain rfl:=Zab h11
   exact af fol hE (o2 ++ [.r [(3,{rs:=[oB x42],m:=10,cv:=[.one (L.bx 2 (Zao.ls (Zao.mk x41 x39)))]}),(7,wF),(8,wF),(9,wF),(10,wF),(11,wF),(12,wF),(15,wF),(16,wF),(17,wF),(18,wF)],.c true,.r []]) [] 0 [] (t1 (aO c51 c51 c51 c51 c51 c51 c51 (aM eT eT eT eT eT eT)))
  ·obtain ⟨x43,c52,h13⟩:=Zac h12
   have t2 {Q:Prop} (q:Q):=t1 (aO c51 c51 c51 c51 c51 (bO 2 c47 ((bC 87 c49 (Zax.bv x41) (bW bN)):BVs st7 [L.ptr (some i40),L.own true 1 x39] (Zao.ls (Zao.mk x41 x39)))) (Zan.snd c52) (aJ c51 c51 q))
   refine iteB h13 (fun c53 h14=>?_) (fun c53 h15=>?_)
   ·obtain rfl:=Zab h14
    exact af fol hE (o2 ++ [.r [(3,{rs:=[oB x42],m:=10,cv:=[.one (L.bx 2 (Zao.ls (Zao.mk x41 x39)))]}),(11,{rs:=[oI x43],m:=10,cv:=[.one (L.bx 2 (Zao.ls (Zao.mk x41 x39)))]}),(13,yF),(15,wF),(16,wF),(17,wF),(18,wF)],.c true,.r []]) [] 0 [] (t2 (aM c53 c53 c53 c53 c53 eT))
   ·obtain ⟨x44,c54,h16⟩:=Zac h15
    let o3:List PS:=o2 ++ [.r [(3,{rs:=[oB x42],m:=10,cv:=[.one (L.bx 2 (Zao.ls (Zao.mk x41 x39)))]}),(11,{rs:=[oI x43],m:=10,cv:=[.one (L.bx 2 (Zao.ls (Zao.mk x41 x39)))]}),(13,yF),(17,{rs:=[oI x44],m:=10,cv:=[.one (L.bx 2 (Zao.ls (Zao.mk x41 x39)))]}),(19,yF)]]
    have t3 {Q:Prop} (q:Q):=t2 (aO c53 c53 c53 (bO 2 c47 ((bC 87 c49 (Zax.bv x41) (bW bN)):BVs st7 [L.ptr (some i40),L.own true 1 x39] (Zao.ls (Zao.mk x41 x39)))) (Zan.snd c54) c53 c53 q)
    refine iteB h16 (fun c55 h17=>?_) (fun c55 h18=>?_)
    ·obtain rfl:=Zab h17
     exact af fol hE (o3 ++ [.c true,.r []]) [] 0 [] (t3 c55)
    ·exact an fol (o3 ++ [.c false,.r []]) [2,9,10,62,63] [] (t3 c55) (hc1 (w64 (v18+1)) h18)
theorem Zak.p2_ok {at_2 i8 i14 v18 x20 x25 x15 v26 st7 r c1_ c2_ J1 J2} (h:Zak.p2 N c1_ at_2 i8 i14 v18 x20 x25 x15 st7 c2_ v26=some r) (hE:En Tryz.f7 g0 w0 (Zak.rs r) r.2 R) (hc1 : ∀v18,c1_ v18=some r→At g0 w0 (Zak.p1.S at_2 i8 i14 x15 v18 st7) J1) (hc2 : ∀v26,c2_ v26=some r→At g0 w0 (Zak.p2.S at_2 i8 i14 v18 x20 x25 x15 v26 st7) J2):At g0 w0 (Zak.p2.S at_2 i8 i14 v18 x20 x25 x15 v26 st7) (XK Tryz.prog R (.c (csub Zak.B [1,1,1,1,1,0,1,0,0,1,1,0,0,1,1,1,1,0,1,0,0]) :: .h J2 :: [.b 2,.c (csub Zak.B [1,1,1,1,1,0,1,0,0,1,1,0,0,1,1,1,1,1]),.b 1,.c (csub Zak.B [1,1,1,1,1,0,1,0,0,1,1,1]),.h J1,.b 0,.c (csub Zak.B [1,1,1,1,1,1])])):=by
 unfold Zak.p2 at h
 refine iteB h (fun c28 h19=>?_) (fun c28 h20=>?_)
 ·obtain ⟨x27,x28,c29,h21⟩:=ZbX h19
  obtain ⟨i29,rfl,h22⟩:=Zac h21
  obtain ⟨x30,c31,h23⟩:=ZaZ h22
  obtain ⟨x31,c32,h24⟩:=Zac h23
  obtain ⟨c33,h25⟩:=ZaS h24
  obtain ⟨x32,c34,h26⟩:=Zcl h25
  let o4:List PS:=[.r [],.c true,.r []]
  have t4 {Q:Prop} (q:Q):=aO c28 (bO 2 c29 ((bC 87 c31 (Zax.bv x30) (bW bN)):BVs st7 [L.ptr (some i29),L.own true 1 x28] (Zao.ls (Zao.mk x30 x28)))) (Zan.snd c32) c33 (oD c28) c33 (oD c28) (aJ c34 c34 q)
  refine iteB h26 (fun c35 h27=>?_) (fun c35 h28=>?_)
  ·obtain rfl:=Zab h27
   exact afd fol hE (o4 ++ [.d {ds:=[(3,{rs:=[oI x31],m:=10,cv:=[.one (L.bx 2 (Zao.ls (Zao.mk x30 x28)))]}),(7,{oe:=[L.int .i64 x32]}),(10,wF),(11,wF),(12,wF),(13,wF),(14,wF),(15,wF),(16,wF),(17,wF),(20,wF),(21,wF),(22,wF),(33,wF)],hv:=8,Hs:=[8]},.c true,.r []]) [] 0 [] (t4 (aO c35 c35 c35 c35 c35 c35 c35 (aO c35 c35 eT eT eT eT eT eT)))
  ·obtain ⟨x33,c36,h29⟩:=Zac h28
   have t5 {Q:Prop} (q:Q):=t4 (aO c35 c35 c35 c35 c33 (oD c28) c35 (aO c34 c35 c35 (bO 2 c29 ((bC 87 c31 (Zax.bv x30) (bW bN)):BVs st7 [L.ptr (some i29),L.own true 1 x28] (Zao.ls (Zao.mk x30 x28)))) (ZbR.snd c36) c35 c35 q))
   refine iteB h29 (fun c37 h30=>?_) (fun c37 h31=>?_)
   ·obtain rfl:=Zab h30
    exact afd fol hE (o4 ++ [.d {ds:=[(3,{rs:=[oI x31],m:=10,cv:=[.one (L.bx 2 (Zao.ls (Zao.mk x30 x28)))]}),(7,{oe:=[L.int .i64 x32]}),(14,{oe:=[L.int .i64 x32]}),(16,{rs:=[oB x33],m:=10,cv:=[.one (L.bx 2 (Zao.ls (Zao.mk x30 x28)))]}),(18,yF),(20,wF),(21,wF),(22,wF),(33,wF)],hv:=65544,Hs:=[8,65544]},.c true,.r []]) [] 0 [] (t5 (aM (not_false (Zbe c37)) (not_false (Zbe c37)) (not_false (Zbe c37)) (not_false (Zbe c37)) (not_false (Zbe c37)) eT))
   ·have t6 {Q:Prop} (q:Q):=t5 (aK (not_true (ZaV c37)) (not_true (ZaV c37)) (not_true (ZaV c37)) q)
    refine iteB h31 (fun c38 h32=>?_) (fun c38 h33=>?_)
    ·obtain ⟨c39,c40,h34⟩:=ck2 h32
     obtain ⟨x34,c41,h35⟩:=Zcl h34
     let o5:List PS:=o4 ++ [.d {ds:=[(3,{rs:=[oI x31],m:=10,cv:=[.one (L.bx 2 (Zao.ls (Zao.mk x30 x28)))]}),(7,{oe:=[L.int .i64 x32]}),(14,{oe:=[L.int .i64 x32]}),(16,{rs:=[oB x33],m:=10,cv:=[.one (L.bx 2 (Zao.ls (Zao.mk x30 x28)))]}),(18,yF),(27,{oe:=[L.int .i64 x34]}),(31,{oe:=[L.int .i64 x32]}),(34,yF)],hv:=65544,Hs:=[8,65544]}]
     have t7 {Q:Prop} (q:Q):=t6 (aO c38 c38 c38 c38 c39 c40 c38 (aO c41 c38 c38 c38 c33 (oD c28) c38 (aM c34 c38 (not_true (ZaV c37)) c38 (not_true (ZaV c37)) q)))
     refine iteB h35 (fun c42 h36=>?_) (fun c42 h37=>?_)
     ·obtain rfl:=Zab h36
      exact afd fol hE (o5 ++ [.c true,.r []]) [] 0 [] (t7 c42)
     ·exact and_ fol (o5 ++ [.c false,.r []]) [2,9,10,12,13,14,62,63,79,80] [68,71] (t7 c42) (hc2 (w64 (v26+1)) h37)
    ·exact and_ fol (o4 ++ [.d {ds:=[(3,{rs:=[oI x31],m:=10,cv:=[.one (L.bx 2 (Zao.ls (Zao.mk x30 x28)))]}),(7,{oe:=[L.int .i64 x32]}),(14,{oe:=[L.int .i64 x32]}),(16,{rs:=[oB x33],m:=10,cv:=[.one (L.bx 2 (Zao.ls (Zao.mk x30 x28)))]}),(18,yF),(23,wF),(24,wF),(25,wF),(26,wF),(27,wF),(28,wF),(29,wF),(30,wF),(31,wF),(32,wF),(33,yF),(34,yF)],hv:=65544,Hs:=[8,65544]},.c false,.r []]) [2,9,10,12,13,14,62,63,79,80] [68,71] (t6 (aO c38 c38 c38 c38 c38 c38 c38 (aN c38 c38 c38 (not_true (ZaV c37)) c38 (not_true (ZaV c37)) eF))) (hc2 (w64 (v26+1)) h33)
 ·exact aq fol [.r [],.c false,.r [],.r []] [2,9,10,12,13,16,62,63,119,120,121] [68] c28 (At.loop N (At.loopN (fun y:Bool×Int=>Zak.p3.S at_2 i8 i14 v18 x20 y.1 x15 y.2 st7) (fun c J hc y h=>Zak.p3_ok (in_35:=y.1) (v36:=y.2) h hE hc1 (fun in_35 v36=>hc (in_35,v36))) N (false,0) h20))
theorem Zak.p1_ok {at_2 i8 i14 x15 v18 st7 r c1_ J1} (h:Zak.p1 N at_2 i8 i14 x15 st7 c1_ v18=some r) (hE:En Tryz.f7 g0 w0 (Zak.rs r) r.2 R) (hc1 : ∀v18,c1_ v18=some r→At g0 w0 (Zak.p1.S at_2 i8 i14 x15 v18 st7) J1):At g0 w0 (Zak.p1.S at_2 i8 i14 x15 v18 st7) (XK Tryz.prog R (.c (csub Zak.B [1,1,1,1,1,0,1,0,0]) :: .h J1 :: [.b 0,.c (csub Zak.B [1,1,1,1,1,1])])):=by
 unfold Zak.p1 at h
 refine iteB h (fun c18 h38=>?_) (fun c18 h39=>?_)
 ·obtain ⟨x19,c19,h40⟩:=ZbW h38
  obtain ⟨x20,c20,h41⟩:=Zac h40
  obtain ⟨c21,h42⟩:=ZaS h41
  obtain ⟨x21,x22,c22,h43⟩:=ZbX h42
  obtain ⟨i23,rfl,h44⟩:=Zac h43
  obtain ⟨x24,c24,h45⟩:=ZaZ h44
  obtain ⟨x25,c25,h46⟩:=Zac h45
  obtain ⟨c26,h47⟩:=ZaS h46
  let o6:List PS:=[.r [],.c true,.r [],.r [(2,{rs:=[.row true 1 x20],ns:=[68],m:=10,cv:=[.one (L.bx 88 x19.ls)]})],.r [(2,{rs:=[.row true 1 x25],ns:=[71],m:=10,cv:=[.one (L.bx 2 (Zao.ls (Zao.mk x24 x22)))]})],.r []]
  have t8 {Q:Prop} (q:Q):=aO c18 (bO 88 c19 (Zaa.bv x19)) c21 (ZaE.snd c20) (bO 2 c22 ((bC 87 c24 (Zax.bv x24) (bW bN)):BVs st7 [L.ptr (some i23),L.own true 1 x22] (Zao.ls (Zao.mk x24 x22)))) c26 (Zbc.snd c25) q
  refine iteB h47 (fun c27 h48=>?_) (fun c27 h49=>?_)
  ·obtain rfl:=Zab h48
   exact af fol hE (o6 ++ [.c true,.r []]) [] 0 [] (t8 c27)
  ·exact aq fol (o6 ++ [.c false,.r []]) [2,9,10,12,13,14,62,63,79,80] [68,71] (t8 c27) (At.loop N (At.loopN (fun y:Int=>Zak.p2.S at_2 i8 i14 v18 x20 x25 x15 y st7) (fun c J hc y h=>Zak.p2_ok h hE hc1 (fun v26=>hc v26)) N 0 h49))
 ·obtain ⟨⟨x45,x46,x47,st48⟩,c56,h50⟩:=Zac h39
  let o7:List PS:=[.r [],.c false,.r [],.r [(2,{rs:=[oI x45,oI x46,oI x47],st:=st48})]]
  have t9 {Q:Prop} (q:Q):=aJ c18 (Zbs.snd c56) q
  refine iteB h50 (fun c57 h51=>?_) (fun c57 h52=>?_)
  ·obtain ⟨⟨x49,st50⟩,c58,h53⟩:=Zac h51
   obtain ⟨⟨x51,st52⟩,c59,h54⟩:=Zac h53
   have t10 {Q:Prop} (q:Q):=t9 (aO c57 c57 (Zdq.snd c58) c57 c57 (Zdf.snd c59) c57 (aJ c57 c57 q))
   refine iteB h54 (fun c60 h55=>?_) (fun c60 h56=>?_)
   ·obtain ⟨⟨x53,st54⟩,c61,h57⟩:=Zac h55
    have t11 {Q:Prop} (q:Q):=t10 (aM c60 c60 (Zav.snd c61) c60 c60 q)
    refine iteB h57 (fun c62 h58=>?_) (fun c62 h59=>?_)
    ·obtain ⟨⟨x55,st56⟩,c63,h60⟩:=Zac h58
     have t12 {Q:Prop} (q:Q):=t11 (aM c62 c62 (ZcL.snd c63) c62 c62 q)
     refine iteB h60 (fun c64 h61=>?_) (fun c64 h62=>?_)
     ·obtain ⟨⟨x57,st58⟩,c65,h63⟩:=Zac h61
      have t13 {Q:Prop} (q:Q):=t12 (aN (not_false (Zbe c64)) (not_false (Zbe c64)) (Zbz.snd c65) (not_false (Zbe c64)) (not_false (Zbe c64)) (not_false (Zbe c64)) q)
      refine iteB h63 (fun c66 h64=>?_) (fun c66 h65=>?_)
      ·obtain ⟨⟨x59,st60⟩,c67,h66⟩:=Zac h64
       have t14 {Q:Prop} (q:Q):=t13 (aO c66 c66 c66 z0 (eN (1)) (ZaH.snd c67) c66 (aI c66 q))
       refine iteB h66 (fun c68 h67=>?_) (fun c68 h68=>?_)
       ·obtain ⟨⟨x61,st62⟩,c69,h69⟩:=Zac h67
        have t15 {Q:Prop} (q:Q):=t14 (aN c68 c68 c68 (Zdg.snd c69) c68 c68 q)
        refine iteB h69 (fun c70 h70=>?_) (fun c70 h71=>?_)
        ·obtain ⟨⟨x63,st64⟩,c71,h72⟩:=Zac h70
         obtain rfl:=Zab h72
         exact af fol hE (o7 ++ [.r [(4,{rs:=[oI x49],st:=st50}),(6,{rs:=[oI x51],st:=st52}),(12,{rs:=[oI x53],st:=st54}),(17,{rs:=[oB x55],st:=st56}),(22,{rs:=[.row true 1 x57],st:=st58,ns:=[182]}),(29,{rs:=[oI x59],st:=st60,fz:=[188]}),(35,{rs:=[oI x61],st:=st62}),(40,{rs:=[oB x63],st:=st64})]]) [] 0 [] (t15 (aL c70 c70 (ZcF.snd c71) c70 c70))
        ·obtain rfl:=Zab h71
         exact af fol hE (o7 ++ [.r [(4,{rs:=[oI x49],st:=st50}),(6,{rs:=[oI x51],st:=st52}),(12,{rs:=[oI x53],st:=st54}),(17,{rs:=[oB x55],st:=st56}),(22,{rs:=[.row true 1 x57],st:=st58,ns:=[182]}),(29,{rs:=[oI x59],st:=st60,fz:=[188]}),(35,{rs:=[oI x61],st:=st62}),(39,wF),(40,wF),(41,wF),(42,yF)]]) [] 0 [] (t15 (aK c70 c70 c70 c70))
       ·obtain rfl:=Zab h68
        exact af fol hE (o7 ++ [.r [(4,{rs:=[oI x49],st:=st50}),(6,{rs:=[oI x51],st:=st52}),(12,{rs:=[oI x53],st:=st54}),(17,{rs:=[oB x55],st:=st56}),(22,{rs:=[.row true 1 x57],st:=st58,ns:=[182]}),(29,{rs:=[oI x59],st:=st60,fz:=[188]}),(33,wF),(34,wF),(35,wF),(36,wF),(37,yF),(39,wF),(40,wF),(41,wF),(42,yF)]]) [] 0 [] (t14 (aO c68 c68 c68 c68 c68 eF eF (aI eF eF)))
      ·obtain rfl:=Zab h65
       exact af fol hE (o7 ++ [.r [(4,{rs:=[oI x49],st:=st50}),(6,{rs:=[oI x51],st:=st52}),(12,{rs:=[oI x53],st:=st54}),(17,{rs:=[oB x55],st:=st56}),(22,{rs:=[.row true 1 x57],st:=st58,ns:=[182]}),(27,wF),(28,wF),(29,{want:=false,fz:=[188]}),(30,wF),(31,yF),(33,wF),(34,wF),(35,wF),(36,wF),(37,yF),(39,wF),(40,wF),(41,wF),(42,yF)]]) [] 0 [] (t13 (aO c66 c66 c66 c66 c66 eF eF (aN eF eF eF eF eF eF eF)))
     ·obtain rfl:=Zab h62
      exact af fol hE (o7 ++ [.r [(4,{rs:=[oI x49],st:=st50}),(6,{rs:=[oI x51],st:=st52}),(12,{rs:=[oI x53],st:=st54}),(17,{rs:=[oB x55],st:=st56}),(21,wF),(22,wF),(23,wF),(24,wF),(25,yF),(27,wF),(28,wF),(29,{want:=false,fz:=[188]}),(30,wF),(31,yF),(33,wF),(34,wF),(35,wF),(36,wF),(37,yF),(39,wF),(40,wF),(41,wF),(42,yF)]]) [] 0 [] (t12 (aO (not_true (ZaV c64)) (not_true (ZaV c64)) (not_true (ZaV c64)) (not_true (ZaV c64)) (not_true (ZaV c64)) eF eF (aO eF eF eF eF eF eF eF (aL eF eF eF eF eF))))
    ·obtain rfl:=Zab h59
     exact af fol hE (o7 ++ [.r [(4,{rs:=[oI x49],st:=st50}),(6,{rs:=[oI x51],st:=st52}),(12,{rs:=[oI x53],st:=st54}),(16,wF),(17,wF),(18,wF),(19,yF),(21,wF),(22,wF),(23,wF),(24,wF),(25,yF),(27,wF),(28,wF),(29,{want:=false,fz:=[188]}),(30,wF),(31,yF),(33,wF),(34,wF),(35,wF),(36,wF),(37,yF),(39,wF),(40,wF),(41,wF),(42,yF)]]) [] 0 [] (t11 (aO c62 c62 c62 c62 eF eF eF (aO eF eF eF eF eF eF eF (aO eF eF eF eF eF eF eF (aI eF eF)))))
   ·obtain rfl:=Zab h56
    exact af fol hE (o7 ++ [.r [(4,{rs:=[oI x49],st:=st50}),(6,{rs:=[oI x51],st:=st52}),(11,wF),(12,wF),(13,wF),(14,yF),(16,wF),(17,wF),(18,wF),(19,yF),(21,wF),(22,wF),(23,wF),(24,wF),(25,yF),(27,wF),(28,wF),(29,{want:=false,fz:=[188]}),(30,wF),(31,yF),(33,wF),(34,wF),(35,wF),(36,wF),(37,yF),(39,wF),(40,wF),(41,wF),(42,yF)]]) [] 0 [] (t10 (aO c60 c60 c60 c60 eF eF eF (aO eF eF eF eF eF eF eF (aO eF eF eF eF eF eF eF (aM eF eF eF eF eF eF)))))
  ·obtain rfl:=Zab h52
   exact af fol hE (o7 ++ [.r [(3,wF),(4,wF),(5,wF),(6,wF),(7,wF),(8,wF),(9,yF),(11,wF),(12,wF),(13,wF),(14,yF),(16,wF),(17,wF),(18,wF),(19,yF),(21,wF),(22,wF),(23,wF),(24,wF),(25,yF),(27,wF),(28,wF),(29,{want:=false,fz:=[188]}),(30,wF),(31,yF),(33,wF),(34,wF),(35,wF),(36,wF),(37,yF),(39,wF),(40,wF),(41,wF),(42,yF)]]) [] 0 [] (t9 (aO c57 c57 c57 c57 c57 c57 c57 (aO eF eF eF eF eF eF eF (aO eF eF eF eF eF eF eF (aO eF eF eF eF eF eF eF (aM eF eF eF eF eF eF))))))
theorem Zak.snd {p_0:Zae} {list_1:LL} {at_2 height_3:Int} {st:LL} {r:Bool×LL} (h:Zak N p_0 list_1 at_2 height_3 st=some r):Snd Tryz.prog 7 [.agg p_0.ls,.one (L.sl 69 list_1),oI at_2,oI height_3] st (Zak.rs r) r.2:=
 sO Zak.B Tryz.func7 fun g0 w0 R hE=>by
  unfold Zak at h
  obtain ⟨⟨x1,st2⟩,c1,h73⟩:=Zac h
  let o8:List PS:=[.r [],.r [(0,{rs:=[oB x1],st:=st2})]]
  have t16 {Q:Prop} (q:Q):=aI (Zdk.snd c1) q
  refine iteB h73 (fun c2 h74=>?_) (fun c2 h75=>?_)
  ·obtain rfl:=Zab h74
   exact af fol hE (o8 ++ [.c true,.r []]) [] 0 [] (t16 c2)
  ·obtain ⟨x3,c3,h76⟩:=Zac h75
   let o9:List PS:=o8 ++ [.c false,.r [(2,q1 [oB x3])]]
   have t17 {Q:Prop} (q:Q):=t16 (aJ c2 (ZbM.snd c3) q)
   refine iteB h76 (fun c4 h77=>?_) (fun c4 h78=>?_)
   ·obtain rfl:=Zab h77
    exact af fol hE (o9 ++ [.c true,.r []]) [] 0 [] (t17 c4)
   ·obtain ⟨⟨x4,x5,x6,st7⟩,c5,h79⟩:=Zac h78
    have t18 {Q:Prop} (q:Q):=t17 (aJ c4 (ZbH.snd c5) q)
    refine iteB h79 (fun c6 h80=>?_) (fun c6 h81=>?_)
    ·obtain rfl:=Zab h80
     exact afd fol hE (o9 ++ [.c false,.r [(2,{rs:=[.one (L.ptr x4),.one (L.ptr x5),oB x6],st:=st7})],.d {ds:=[(3,wF),(4,wF),(5,wF),(6,wF),(7,wF),(8,wF),(9,wF),(10,wF),(13,wF),(14,wF),(15,wF),(16,wF),(17,wF),(18,wF),(19,wF),(20,wF),(21,wF)],hv:=0,Hs:=[]},.c true,.r []]) [] 0 [] (t18 (aO (not_false (Zbe c6)) (not_false (Zbe c6)) (not_false (Zbe c6)) (not_false (Zbe c6)) (not_false (Zbe c6)) (not_false (Zbe c6)) (not_false (Zbe c6)) (aO (not_false (Zbe c6)) (not_false (Zbe c6)) eT eT eT eT eT (aM eT eT eT eT eT eT))))
    ·obtain ⟨i8,rfl,h82⟩:=Zac h81
     obtain ⟨x9,x10,c8,h83⟩:=ZbX h82
     obtain ⟨i11,rfl,h84⟩:=Zac h83
     obtain ⟨x12,c10,h85⟩:=ZaZ h84
     obtain ⟨x13,c11,h86⟩:=Zac h85
     obtain ⟨i14,rfl,h87⟩:=Zac h86
     obtain ⟨x15,c13,h88⟩:=ZbW h87
     let o10:List PS:=o9 ++ [.c false,.r [(2,{rs:=[.one (L.ptr (some i8)),.one (L.ptr (some i14)),oB x6],st:=st7})]]
     have t19 {Q:Prop} (q:Q):=t18 (aO (not_true (ZaV c6)) (not_true (ZaV c6)) (bO 2 c8 ((bC 87 c10 (Zax.bv x12) (bW bN)):BVs st7 [L.ptr (some i11),L.own true 1 x10] (Zao.ls (Zao.mk x12 x10)))) (Zcq.snd c11) (not_true (ZaV c6)) (not_true (ZaV c6)) (not_true (ZaV c6)) (aO (not_true (ZaV c6)) (not_true (ZaV c6)) (not_true (ZaV c6)) (not_true (ZaV c6)) c13 (not_true (ZaV c6)) c13 (aL (not_true (ZaV c6)) (not_true (ZaV c6)) (not_true (ZaV c6)) (not_true (ZaV c6)) q)))
     refine iteB h88 (fun c14 h89=>?_) (fun c14 h90=>?_)
     ·obtain rfl:=Zab h89
      exact afd fol hE (o10 ++ [.d {ds:=[(4,{rs:=[oI x13],m:=10,cv:=[.one (L.bx 2 (Zao.ls (Zao.mk x12 x10)))]}),(8,{oc:=x15.lo}),(11,yF),(13,wF),(14,wF),(15,wF),(16,wF),(17,wF),(18,wF),(19,wF),(20,wF),(21,wF)],hv:=16,Hs:=[16]},.c true,.r []]) [] 0 [] (t19 (aO c14 c14 c14 c14 c14 c14 c14 (aK c14 c14 c14 eT)))
     ·obtain ⟨x16,c15,h91⟩:=Zac h90
      obtain ⟨x17,c16,h92⟩:=Zac h91
      let o11:List PS:=o10 ++ [.d {ds:=[(4,{rs:=[oI x13],m:=10,cv:=[.one (L.bx 2 (Zao.ls (Zao.mk x12 x10)))]}),(8,{oc:=x15.lo}),(11,yF),(16,{rs:=[oI x16],m:=10,cv:=[.one (L.bx 2 (Zao.ls (Zao.mk x12 x10)))]}),(20,{rs:=[oI x17],m:=10,cv:=[.one (L.bx 88 x15.ls)]}),(22,yF)],hv:=1114128,Hs:=[16,65552,1114128]}]
      have t20 {Q:Prop} (q:Q):=t19 (aO c14 c14 c14 c14 (bO 2 c8 ((bC 87 c10 (Zax.bv x12) (bW bN)):BVs st7 [L.ptr (some i11),L.own true 1 x10] (Zao.ls (Zao.mk x12 x10)))) (Zan.snd c15) c14 (aO c14 c14 c14 c14 c14 c14 (bO 88 c13 (Zaa.bv x15)) (aK (Zct.snd c16) c14 c14 q)))
      refine iteB h92 (fun c17 h93=>?_) (fun c17 h94=>?_)
      ·obtain rfl:=Zab h93
       exact afd fol hE (o11 ++ [.c true,.r []]) [] 0 [] (t20 c17)
      ·exact aqd fol (o11 ++ [.c false,.r [(3,{oc:=x15.lo})]]) [2,9,10,62,63] [] (t20 (aI c17 c13)) (At.loop N (At.loopN (fun y:Int=>Zak.p1.S at_2 i8 i14 x15 y st7) (fun c J hc y h=>Zak.p1_ok h hE (fun v18=>hc v18)) N 0 h94))
end Go.Dn.F
