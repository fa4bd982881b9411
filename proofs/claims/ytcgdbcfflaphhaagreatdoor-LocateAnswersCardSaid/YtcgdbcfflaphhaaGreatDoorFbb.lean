/- Contracts of functions of the program, as shallow functions, and their proofs. -/
import Derived.Test.YtcgdbcfflaphhaaGreatDoorFba
set_option linter.all false
set_option maxRecDepth 100000
namespace Go.Dn.F
open Go.Proofs
variable {N:Nat} {g0:G} {w0:World} {R:Exit→Act→World→Prop}
noncomputable def ZaT.B:Code:=Tryz.f216.body.getD .skip
noncomputable def ZaT.rs (r:Int):List CV:=[oI r]
noncomputable def ZaT.p2 (N:Nat) (size_5 word_6:Int):Option Int:=
 some (bitsOf .or .i64 (shlOf .i64 size_5 24) word_6)
noncomputable def ZaT.p1 (N:Nat) (x1 word_4:Int):Option Int:=
 if ((bitsOf .and .i64 word_4 8388608) != 0)=true then
  ZaT.p2 N (w64 ((w64 (Int.tdiv (w64 (x1+7)) 8))+1)) (shrOf .i64 word_4 8)
 else
 ZaT.p2 N (w64 (Int.tdiv (w64 (x1+7)) 8)) word_4
noncomputable def ZaT (N:Nat) (n_0_0:List Int):Option Int:=
 optE (Zch N n_0_0) fun x1=>
 if (decide ((w64 (Int.tdiv (w64 (x1+7)) 8))≤3))=true then
  optE (Zby N n_0_0 (w64 (8*(w64 (3-(w64 (Int.tdiv (w64 (x1+7)) 8))))))) fun x2=>
  ZaT.p1 N x1 (w64 (List.getD x2 0 0))
 else
 optE (Zbf N n_0_0 (w64 (8*(w64 ((w64 (Int.tdiv (w64 (x1+7)) 8))-3))))) fun x3=>
 ZaT.p1 N x1 (w64 (List.getD x3 0 0))
noncomputable def ZaT.p2.S (size_5 word_6:Int) (st:LL):S:=mkS 36 [(3,sI size_5),(4,sI word_6)] [] st
noncomputable def ZaT.p1.S (x1 word_4:Int) (st:LL):S:=mkS 36 [(3,sI (w64 (Int.tdiv (w64 (x1+7)) 8))),(4,sI word_4)] [] st
theorem ZaT.p2_ok {size_5 word_6 st r} (h:ZaT.p2 N size_5 word_6=some r) (hE:En Tryz.f216 g0 w0 (ZaT.rs r) st R):At g0 w0 (ZaT.p2.S size_5 word_6 st) (XK Tryz.prog R [.c (csub ZaT.B [1,1,1,1,1])]):=by
 unfold ZaT.p2 at h
 obtain rfl:=Zab h
 exact af fol hE [.r []] [] 0 [] (leI 0 24)
theorem ZaT.p1_ok {x1 word_4 st r} (h:ZaT.p1 N x1 word_4=some r) (hE:En Tryz.f216 g0 w0 (ZaT.rs r) st R):At g0 w0 (ZaT.p1.S x1 word_4 st) (XK Tryz.prog R [.c (csub ZaT.B [1,1,1,1])]):=by
 unfold ZaT.p1 at h
 refine iteB h (fun c5 h1=>?_) (fun c5 h2=>?_)
 ·exact aq fol [.r [],.c true,.r [],.r [],.s 1] [3,4] [] (aI c5 (leI 0 8)) (ZaT.p2_ok h1 hE)
 ·exact aq fol [.r [],.c false,.s 1] [3,4] [] c5 (ZaT.p2_ok h2 hE)
theorem ZaT.snd {n_0_0:List Int} {r:Int} (h:ZaT N n_0_0=some r):SndQ Tryz.prog 216 [.agg [L.arr .u64 4 n_0_0]] (ZaT.rs r):=fun st=>
 sO ZaT.B Tryz.func216 fun g0 w0 R hE=>by
  unfold ZaT at h
  obtain ⟨x1,c1,h3⟩:=Zad h
  refine iteB h3 (fun c2 h4=>?_) (fun c2 h5=>?_)
  ·obtain ⟨x2,c3,h6⟩:=Zad h4
   exact aq fol [.r [],.r [(1,q1 [oI x1])],.r [],.r [],.c true,.r [(4,q1 [.agg [L.arr .u64 4 x2]])],.s 1] [3,4] [] (aM (Zch.snd c1) (neI 8) c2 (Zby.snd c3) (leI 0 0) (ltI 0 4)) (ZaT.p1_ok h6 hE)
  ·obtain ⟨x3,c4,h7⟩:=Zad h5
   exact aq fol [.r [],.r [(1,q1 [oI x1])],.r [],.r [],.c false,.r [(4,q1 [.agg [L.arr .u64 4 x3]])],.s 1] [3,4] [] (aM (Zch.snd c1) (neI 8) c2 (Zbf.snd c4) (leI 0 0) (ltI 0 4)) (ZaT.p1_ok h7 hE)
noncomputable def ZbA.B:Code:=Tryz.f189.body.getD .skip
noncomputable def ZbA.rs (r:Int):List CV:=[oI r]
noncomputable def ZbA.p1 (N:Nat) (n_17:List Int):Option Int:=
 optE (ZaT N n_17) fun x18=>
 some x18
noncomputable def ZbA (N:Nat) (p_0:Zae) (bits_1 from_2 to_3:Int):Option Int:=
 optE (ZaZ N bits_1 p_0.Limit) fun (x1,x2)=>
 optE (ZcK N p_0) fun x3=>
 if (!x3)=true then
  some p_0.Limit
 else
 if (!x2)=true then
  some p_0.Limit
 else
 optE (Zdz N p_0 from_2 to_3) fun x4=>
 optE (ZbP N x1 (v64 (w64 (p_0.Interval*p_0.Spacing)))) fun (x5,x6)=>
 optE (Zbz N x5 (v64 (x4))) fun (x7,x8)=>
 chk ((v64 (w64 (p_0.Interval*p_0.Spacing)))≠0)<|
 optE (Zcp N (v64 (Int.tdiv (v64 (x6*(v64 (x4)))) (v64 (w64 (p_0.Interval*p_0.Spacing)))))) fun x9=>
 optE (Zbs N x7 x9) fun (x10,x11)=>
 optE (ZaZ N p_0.Limit p_0.Limit) fun (x12,x13)=>
 if x8=true then
  some p_0.Limit
 else
 if x11=true then
  some p_0.Limit
 else
 optE (ZcA N x12 x10) fun x14=>
 if x14=true then
  some p_0.Limit
 else
 optE (Zcv N x10) fun x15=>
 if x15=true then
  optE (Zcp N 1) fun x16=>
  ZbA.p1 N x16
 else
 ZbA.p1 N x10
noncomputable def ZbA.p1.S (n_17:List Int) (st:LL):S:=mkS 94 [(15,sA 15)] [(15,.cells [L.arr .u64 4 n_17])] st
theorem ZbA.p1_ok {n_17 st r} (h:ZbA.p1 N n_17=some r) (hE:En Tryz.f189 g0 w0 (ZbA.rs r) st R):At g0 w0 (ZbA.p1.S n_17 st) (XK Tryz.prog R [.c (csub ZbA.B [1,1,1,1,1,1,1,1,1,1,1])]):=by
 unfold ZbA.p1 at h
 obtain ⟨x18,c19,h1⟩:=Zad h
 obtain rfl:=Zab h1
 exact af fol hE [.r [(1,q1 [oI x18])]] [] 0 [] (ZaT.snd c19)
theorem ZbA.snd {p_0:Zae} {bits_1 from_2 to_3:Int} {r:Int} (h:ZbA N p_0 bits_1 from_2 to_3=some r):SndQ Tryz.prog 189 [.agg p_0.ls,oI bits_1,oI from_2,oI to_3] (ZbA.rs r):=fun st=>
 sO ZbA.B Tryz.func189 fun g0 w0 R hE=>by
  unfold ZbA at h
  obtain ⟨⟨x1,x2⟩,c1,h2⟩:=Zad h
  obtain ⟨x3,c2,h3⟩:=Zad h2
  refine iteB h3 (fun c3 h4=>?_) (fun c3 h5=>?_)
  ·obtain rfl:=Zab h4
   exact af fol hE [.r [],.r [(3,q1 [.agg [L.arr .u64 4 x1],oB x2])],.r [(1,q1 [oB x3]),(4,wF),(5,wF)],.c true,.r []] [] 0 [] (aM (ZaZ.snd c1) (ZcK.snd c2) (not_false (Zce c3)) (not_false (Zce c3)) (not_false (Zce c3)) eT)
  ·refine iteB h5 (fun c4 h6=>?_) (fun c4 h7=>?_)
   ·obtain rfl:=Zab h6
    exact af fol hE [.r [],.r [(3,q1 [.agg [L.arr .u64 4 x1],oB x2])],.r [(1,q1 [oB x3]),(6,yF)],.c true,.r []] [] 0 [] (aM (ZaZ.snd c1) (ZcK.snd c2) (not_true (ZaE c3)) (not_true (ZaE c3)) (not_true (ZaE c3)) c4)
   ·obtain ⟨x4,c5,h8⟩:=Zad h7
    obtain ⟨⟨x5,x6⟩,c6,h9⟩:=Zad h8
    obtain ⟨⟨x7,x8⟩,c7,h10⟩:=Zad h9
    obtain ⟨c8,h11⟩:=ZaS h10
    obtain ⟨x9,c9,h12⟩:=Zad h11
    obtain ⟨⟨x10,x11⟩,c10,h13⟩:=Zad h12
    obtain ⟨⟨x12,x13⟩,c11,h14⟩:=Zad h13
    refine iteB h14 (fun c12 h15=>?_) (fun c12 h16=>?_)
    ·obtain rfl:=Zab h15
     exact afd fol hE [.r [],.r [(3,q1 [.agg [L.arr .u64 4 x1],oB x2])],.r [(1,q1 [oB x3]),(6,yF)],.c false,.r [],.r [(3,q1 [oI x4])],.r [(2,q1 [.agg [L.arr .u64 4 x5],.one (L.int .u64 x6)])],.r [(2,q1 [.agg [L.arr .u64 4 x7],oB x8])],.d {ds:=[(6,q1 [.agg [L.arr .u64 4 x9]]),(7,q1 [.agg [L.arr .u64 4 x10],oB x11])],hv:=2048,Hs:=[2048]},.r [(4,q1 [.agg [L.arr .u64 4 x12],oB x13])],.r [(2,wF),(5,wF),(6,wF),(7,wF)],.c true,.r []] [] 0 [] (aO (ZaZ.snd c1) (ZcK.snd c2) (not_true (ZaE c3)) (not_true (ZaE c3)) (not_true (ZaE c3)) c4 (Zdz.snd c5) (aO (ZbP.snd c6) (Zbz.snd c7) c8 (Zcp.snd c9) (Zbs.snd c10) (ZaZ.snd c11) c12 (aM c12 eT eT eT eT eT)))
    ·refine iteB h16 (fun c13 h17=>?_) (fun c13 h18=>?_)
     ·obtain rfl:=Zab h17
      exact afd fol hE [.r [],.r [(3,q1 [.agg [L.arr .u64 4 x1],oB x2])],.r [(1,q1 [oB x3]),(6,yF)],.c false,.r [],.r [(3,q1 [oI x4])],.r [(2,q1 [.agg [L.arr .u64 4 x5],.one (L.int .u64 x6)])],.r [(2,q1 [.agg [L.arr .u64 4 x7],oB x8])],.d {ds:=[(6,q1 [.agg [L.arr .u64 4 x9]]),(7,q1 [.agg [L.arr .u64 4 x10],oB x11])],hv:=2048,Hs:=[2048]},.r [(4,q1 [.agg [L.arr .u64 4 x12],oB x13])],.r [(3,yF),(5,wF),(6,wF),(7,wF)],.c true,.r []] [] 0 [] (aO (ZaZ.snd c1) (ZcK.snd c2) (not_true (ZaE c3)) (not_true (ZaE c3)) (not_true (ZaE c3)) c4 (Zdz.snd c5) (aO (ZbP.snd c6) (Zbz.snd c7) c8 (Zcp.snd c9) (Zbs.snd c10) (ZaZ.snd c11) c12 (aM c12 c13 c13 c13 c13 eT)))
     ·obtain ⟨x14,c14,h19⟩:=Zad h18
      refine iteB h19 (fun c15 h20=>?_) (fun c15 h21=>?_)
      ·obtain rfl:=Zab h20
       exact afd fol hE [.r [],.r [(3,q1 [.agg [L.arr .u64 4 x1],oB x2])],.r [(1,q1 [oB x3]),(6,yF)],.c false,.r [],.r [(3,q1 [oI x4])],.r [(2,q1 [.agg [L.arr .u64 4 x5],.one (L.int .u64 x6)])],.r [(2,q1 [.agg [L.arr .u64 4 x7],oB x8])],.d {ds:=[(6,q1 [.agg [L.arr .u64 4 x9]]),(7,q1 [.agg [L.arr .u64 4 x10],oB x11])],hv:=2048,Hs:=[2048]},.r [(4,q1 [.agg [L.arr .u64 4 x12],oB x13])],.r [(3,yF),(7,q1 [oB x14]),(8,yF)],.c true,.r []] [] 0 [] (aO (ZaZ.snd c1) (ZcK.snd c2) (not_true (ZaE c3)) (not_true (ZaE c3)) (not_true (ZaE c3)) c4 (Zdz.snd c5) (aO (ZbP.snd c6) (Zbz.snd c7) c8 (Zcp.snd c9) (Zbs.snd c10) (ZaZ.snd c11) c12 (aN c12 c13 c13 c13 (ZcA.snd c14) c13 c15)))
      ·obtain ⟨x15,c16,h22⟩:=Zad h21
       refine iteB h22 (fun c17 h23=>?_) (fun c17 h24=>?_)
       ·obtain ⟨x16,c18,h25⟩:=Zad h23
        exact aqd fol [.r [],.r [(3,q1 [.agg [L.arr .u64 4 x1],oB x2])],.r [(1,q1 [oB x3]),(6,yF)],.c false,.r [],.r [(3,q1 [oI x4])],.r [(2,q1 [.agg [L.arr .u64 4 x5],.one (L.int .u64 x6)])],.r [(2,q1 [.agg [L.arr .u64 4 x7],oB x8])],.d {ds:=[(6,q1 [.agg [L.arr .u64 4 x9]]),(7,q1 [.agg [L.arr .u64 4 x10],oB x11])],hv:=2048,Hs:=[2048]},.r [(4,q1 [.agg [L.arr .u64 4 x12],oB x13])],.r [(3,yF),(7,q1 [oB x14]),(8,yF)],.c false,.r [(1,q1 [oB x15])],.c true,.r [(0,q1 [.agg [L.arr .u64 4 x16]])],.s 1] [15] [15] (aO (ZaZ.snd c1) (ZcK.snd c2) (not_true (ZaE c3)) (not_true (ZaE c3)) (not_true (ZaE c3)) c4 (Zdz.snd c5) (aO (ZbP.snd c6) (Zbz.snd c7) c8 (Zcp.snd c9) (Zbs.snd c10) (ZaZ.snd c11) c12 (aO c12 c13 c13 c13 (ZcA.snd c14) c13 c15 (aJ (Zcv.snd c16) c17 (Zcp.snd c18))))) (ZbA.p1_ok h25 hE)
       ·exact aqd fol [.r [],.r [(3,q1 [.agg [L.arr .u64 4 x1],oB x2])],.r [(1,q1 [oB x3]),(6,yF)],.c false,.r [],.r [(3,q1 [oI x4])],.r [(2,q1 [.agg [L.arr .u64 4 x5],.one (L.int .u64 x6)])],.r [(2,q1 [.agg [L.arr .u64 4 x7],oB x8])],.d {ds:=[(6,q1 [.agg [L.arr .u64 4 x9]]),(7,q1 [.agg [L.arr .u64 4 x10],oB x11])],hv:=2048,Hs:=[2048]},.r [(4,q1 [.agg [L.arr .u64 4 x12],oB x13])],.r [(3,yF),(7,q1 [oB x14]),(8,yF)],.c false,.r [(1,q1 [oB x15])],.c false,.s 1] [15] [15] (aO (ZaZ.snd c1) (ZcK.snd c2) (not_true (ZaE c3)) (not_true (ZaE c3)) (not_true (ZaE c3)) c4 (Zdz.snd c5) (aO (ZbP.snd c6) (Zbz.snd c7) c8 (Zcp.snd c9) (Zbs.snd c10) (ZaZ.snd c11) c12 (aO c12 c13 c13 c13 (ZcA.snd c14) c13 c15 (aI (Zcv.snd c16) c17)))) (ZbA.p1_ok h24 hE)
noncomputable def Zdi.B:Code:=Tryz.f149.body.getD .skip
noncomputable def Zdi.rs (r:Int):List CV:=[oI r]
noncomputable def Zdi (N:Nat) (p_0:Zae) (at_1:Zde) (time_2:Int):Option Int:=
 if (decide (at_1.Height≤0))=true then
  some p_0.Limit
 else
 optE (Zcs N p_0 at_1.Height) fun x1=>
 if x1=true then
  optE (ZbA N p_0 at_1.Bits at_1.First at_1.Time) fun x2=>
  some x2
 else
 if (!p_0.Easy)=true then
  some at_1.Bits
 else
 if (decide ((w64 (time_2-at_1.Time))>(w64 (2*p_0.Spacing))))=true then
  some p_0.Limit
 else
 some at_1.Hard
theorem Zdi.snd {p_0:Zae} {at_1:Zde} {time_2:Int} {r:Int} (h:Zdi N p_0 at_1 time_2=some r):SndQ Tryz.prog 149 [.agg p_0.ls,.agg at_1.ls,oI time_2] (Zdi.rs r):=fun st=>
 sO Zdi.B Tryz.func149 fun g0 w0 R hE=>by
  unfold Zdi at h
  refine iteB h (fun c1 h1=>?_) (fun c1 h2=>?_)
  ·obtain rfl:=Zab h1
   exact af fol hE [.r [],.r [],.c true,.r []] [] 0 [] c1
  ·obtain ⟨x1,c2,h3⟩:=Zad h2
   refine iteB h3 (fun c3 h4=>?_) (fun c3 h5=>?_)
   ·obtain ⟨x2,c4,h6⟩:=Zad h4
    obtain rfl:=Zab h6
    exact af fol hE [.r [],.r [],.c false,.r [(3,q1 [oB x1])],.c true,.r [(7,q1 [oI x2])]] [] 0 [] (aK c1 (Zcs.snd c2) c3 (ZbA.snd c4))
   ·refine iteB h5 (fun c5 h7=>?_) (fun c5 h8=>?_)
    ·obtain rfl:=Zab h7
     exact af fol hE [.r [],.r [],.c false,.r [(3,q1 [oB x1])],.c false,.r [],.c true,.r []] [] 0 [] (aK c1 (Zcs.snd c2) c3 c5)
    ·refine iteB h8 (fun c6 h9=>?_) (fun c6 h10=>?_)
     ·obtain rfl:=Zab h9
      exact af fol hE [.r [],.r [],.c false,.r [(3,q1 [oB x1])],.c false,.r [],.c false,.r [],.c true,.r []] [] 0 [] (aL c1 (Zcs.snd c2) c3 c5 c6)
     ·obtain rfl:=Zab h10
      exact af fol hE [.r [],.r [],.c false,.r [(3,q1 [oB x1])],.c false,.r [],.c false,.r [],.c false,.r []] [] 0 [] (aL c1 (Zcs.snd c2) c3 c5 c6)
noncomputable def Zbv.B:Code:=Tryz.f217.body.getD .skip
noncomputable def Zbv.rs (r:(List Int)):List CV:=[.agg [L.arr .u64 4 r]]
noncomputable def Zbv.p1 (N:Nat) (h_0_0:List Int) (c1_:(Int×(List Int))→Option (List Int)):(Int×(List Int))→Option (List Int):=fun (v1,out_2)=>
 if (decide (v1<32))=true then
  chk (0≤v1)<|
  chk (0≤(w64 (Int.tdiv v1 8)))<|
  chk ((w64 (Int.tdiv v1 8))<4)<|
  chk (0≤(w64 (8*(Int.tmod v1 8))))<|
  c1_ (w64 (v1+1),List.set out_2 (Int.toNat (w64 (Int.tdiv v1 8))) (bitsOf .or .u64 (List.getD out_2 (Int.toNat (w64 (Int.tdiv v1 8))) 0) (shlOf .u64 (v64 (List.getD h_0_0 (Int.toNat v1) 0)) (w64 (8*(Int.tmod v1 8))))))
 else
 some out_2
noncomputable def Zbv (N:Nat) (h_0_0:List Int):Option (List Int):=
 loopN (Zbv.p1 N h_0_0) N (0,List.replicate 4 0)
noncomputable def Zbv.p1.S (h_0_0:List Int) (v1:Int) (out_2:List Int) (st:LL):S:=mkS 25 [(2,sA 2),(3,sA 3),(6,.agg [.l (L.arr .u8 32 h_0_0)]),(7,sI v1)] [(2,.cells [L.arr .u64 4 (List.replicate 4 0)]),(3,.cells [L.arr .u64 4 out_2])] st
theorem Zbv.p1_ok {h_0_0 v1 out_2 st r c1_ J1} (h:Zbv.p1 N h_0_0 c1_ (v1,out_2)=some r) (hE:En Tryz.f217 g0 w0 (Zbv.rs r) st R) (hc1 : ∀v1 out_2,c1_ (v1,out_2)=some r→At g0 w0 (Zbv.p1.S h_0_0 v1 out_2 st) J1):At g0 w0 (Zbv.p1.S h_0_0 v1 out_2 st) (XK Tryz.prog R (.c (csub Zbv.B [1,1,0,1,0,0]) :: .h J1 :: [.b 0,.c (csub Zbv.B [1,1,1])])):=by
 unfold Zbv.p1 at h
 refine iteB h (fun c6 h1=>?_) (fun c6 h2=>?_)
 ·obtain ⟨c7,c8,c9,c10,h3⟩:=ck4 h1
  exact and_ fol [.r [],.c true,.r [],.d {ds:=[],hv:=4096,Hs:=[4096]},.r []] [2,3,6,7] [2,3] (aO c6 c7 (oD c6) (neI 8) c8 c9 (neI 8) (aJ c10 c8 c9)) (hc1 (w64 (v1+1)) (List.set out_2 (Int.toNat (w64 (Int.tdiv v1 8))) (bitsOf .or .u64 (List.getD out_2 (Int.toNat (w64 (Int.tdiv v1 8))) 0) (shlOf .u64 (v64 (List.getD h_0_0 (Int.toNat v1) 0)) (w64 (8*(Int.tmod v1 8)))))) h3)
 ·obtain rfl:=Zab h2
  exact af fol hE [.r [],.c false,.r []] [] 0 [] c6
theorem Zbv.snd {h_0_0:List Int} {r:(List Int)} (h:Zbv N h_0_0=some r):SndQ Tryz.prog 217 [.agg [L.arr .u8 32 h_0_0]] (Zbv.rs r):=fun st=>
 sO Zbv.B Tryz.func217 fun g0 w0 R hE=>by
  unfold Zbv at h
  exact aq fol [.r [],.r [],.r []] [2,3,6,7] [2,3] trivial (At.loop N (At.loopN (fun y:Int×(List Int)=>Zbv.p1.S h_0_0 y.1 y.2 st) (fun c J hc y h=>Zbv.p1_ok (v1:=y.1) (out_2:=y.2) h hE (fun v1 out_2=>hc (v1,out_2))) N (0,List.replicate 4 0) h))
noncomputable def ZcN.B:Code:=Tryz.f190.body.getD .skip
noncomputable def ZcN.rs (r:Bool):List CV:=[oB r]
noncomputable def ZcN (N:Nat) (h_0_0 target_1_0:List Int):Option Bool:=
 optE (Zbv N h_0_0) fun x1=>
 optE (ZcA N target_1_0 x1) fun x2=>
 some (!x2)
theorem ZcN.snd {h_0_0 target_1_0:List Int} {r:Bool} (h:ZcN N h_0_0 target_1_0=some r):SndQ Tryz.prog 190 [.agg [L.arr .u8 32 h_0_0],.agg [L.arr .u64 4 target_1_0]] (ZcN.rs r):=fun st=>
 sO ZcN.B Tryz.func190 fun g0 w0 R hE=>by
  unfold ZcN at h
  obtain ⟨x1,c1,h1⟩:=Zad h
  obtain ⟨x2,c2,h2⟩:=Zad h1
  obtain rfl:=Zab h2
  exact afd fol hE [.r [],.d {ds:=[(2,q1 [.agg [L.arr .u64 4 x1]]),(3,q1 [oB x2])],hv:=0,Hs:=[]}] [] 0 [] (aI (Zbv.snd c1) (ZcA.snd c2))
noncomputable def ZcG.B:Code:=Tryz.f150.body.getD .skip
noncomputable def ZcG.rs (r:Int):List CV:=[oI r]
noncomputable def ZcG (N:Nat) (p_0:Zae) (h_1:Zag):Option Int:=
 optE (Zbr N h_1) fun x1=>
 if (!x1)=true then
  some 1
 else
 optE (ZaZ N h_1.Bits p_0.Limit) fun (x2,x3)=>
 if (!x3)=true then
  some 4
 else
 optE (Zdf N h_1) fun x4=>
 optE (ZcN N x4 x2) fun x5=>
 if (!x5)=true then
  some 4
 else
 some 0
theorem ZcG.snd {p_0:Zae} {h_1:Zag} {r:Int} (h:ZcG N p_0 h_1=some r):SndQ Tryz.prog 150 [.agg p_0.ls,.agg h_1.ls] (ZcG.rs r):=fun st=>
 sO ZcG.B Tryz.func150 fun g0 w0 R hE=>by
  unfold ZcG at h
  obtain ⟨x1,c1,h1⟩:=Zad h
  refine iteB h1 (fun c2 h2=>?_) (fun c2 h3=>?_)
  ·obtain rfl:=Zab h2
   exact af fol hE [.r [],.r [(1,q1 [oB x1])],.c true,.r []] [] 0 [] (aI (Zbr.snd c1) c2)
  ·obtain ⟨⟨x2,x3⟩,c3,h4⟩:=Zad h3
   refine iteB h4 (fun c4 h5=>?_) (fun c4 h6=>?_)
   ·obtain rfl:=Zab h5
    exact afd fol hE [.r [],.r [(1,q1 [oB x1])],.c false,.r [(4,q1 [.agg [L.arr .u64 4 x2],oB x3])],.d {ds:=[(3,wF),(4,wF),(5,wF),(6,wF),(7,wF)],hv:=0,Hs:=[]},.c true,.r []] [] 0 [] (aO (Zbr.snd c1) c2 (ZaZ.snd c3) (not_false (Zce c4)) (not_false (Zce c4)) (not_false (Zce c4)) (not_false (Zce c4)) (aJ (not_false (Zce c4)) (not_false (Zce c4)) eT))
   ·obtain ⟨x4,c5,h7⟩:=Zad h6
    obtain ⟨x5,c6,h8⟩:=Zad h7
    refine iteB h8 (fun c7 h9=>?_) (fun c7 h10=>?_)
    ·obtain rfl:=Zab h9
     exact afd fol hE [.r [],.r [(1,q1 [oB x1])],.c false,.r [(4,q1 [.agg [L.arr .u64 4 x2],oB x3])],.d {ds:=[(4,q1 [.agg [L.arr .u8 32 x4]]),(6,q1 [oB x5]),(8,yF)],hv:=0,Hs:=[]},.c true,.r []] [] 0 [] (aO (Zbr.snd c1) c2 (ZaZ.snd c3) (not_true (ZaE c4)) (not_true (ZaE c4)) (Zdf.snd c5) (not_true (ZaE c4)) (aL (not_true (ZaE c4)) (ZcN.snd c6) (not_true (ZaE c4)) (not_true (ZaE c4)) c7))
    ·obtain rfl:=Zab h10
     exact afd fol hE [.r [],.r [(1,q1 [oB x1])],.c false,.r [(4,q1 [.agg [L.arr .u64 4 x2],oB x3])],.d {ds:=[(4,q1 [.agg [L.arr .u8 32 x4]]),(6,q1 [oB x5]),(8,yF)],hv:=0,Hs:=[]},.c false,.r []] [] 0 [] (aO (Zbr.snd c1) c2 (ZaZ.snd c3) (not_true (ZaE c4)) (not_true (ZaE c4)) (Zdf.snd c5) (not_true (ZaE c4)) (aL (not_true (ZaE c4)) (ZcN.snd c6) (not_true (ZaE c4)) (not_true (ZaE c4)) c7))
noncomputable def ZdY.B:Code:=Tryz.f162.body.getD .skip
noncomputable def ZdY.rs (r:Int):List CV:=[oI r]
noncomputable def ZdY (N:Nat) (times_0:LL):Option Int:=
 chk (0≤(if (11:Int)<(len times_0) then 11 else (len times_0)))<|
 chk ((Int.toNat (if (11:Int)<(len times_0) then 11 else (len times_0)))≤(List.length times_0))<|
 optE (Zbx N (List.take (Int.toNat (if (11:Int)<(len times_0) then 11 else (len times_0))) (List.drop 0 times_0))) fun x1=>
 if ((len x1)==0)=true then
  some 0
 else
 chk (isI x1=true)<|
 chk (List.length x1<4611686018427387904)<|
 chk (0≤(w64 (Int.tdiv (len x1) 2)))<|
 chk ((w64 (Int.tdiv (len x1) 2))<(len x1))<|
 getE ((sortR x1)[0+(Int.toNat (w64 (Int.tdiv (len x1) 2)))]?) ZcP fun x2=>
 some x2
theorem ZdY.snd {times_0:LL} {r:Int} (h:ZdY N times_0=some r):SndQ Tryz.prog 162 [.one (L.sl 1 times_0)] (ZdY.rs r):=fun st=>
 sO ZdY.B Tryz.func162 fun g0 w0 R hE=>by
  unfold ZdY at h
  obtain ⟨c1,c2,h1⟩:=ck2 h
  obtain ⟨x1,c3,h2⟩:=Zad h1
  refine iteB h2 (fun c4 h3=>?_) (fun c4 h4=>?_)
  ·obtain rfl:=Zab h3
   exact af fol hE [.r [],.r [(5,{rs:=[.row true 1 x1],ns:=[9],m:=1})],.r [],.c true,.r []] [] 0 [] (aL c1 (Nat.zero_le (Int.toNat (if (11:Int)<(len times_0) then 11 else (len times_0)))) c2 (Zbx.snd c3) c4)
  ·obtain ⟨c5,c6,c7,c8,h5⟩:=ck4 h4
   obtain ⟨x2,c9,h6⟩:=Zco h5
   obtain rfl:=Zab h6
   exact af fol hE [.r [],.r [(5,{rs:=[.row true 1 x1],ns:=[9],m:=1})],.r [],.c false,.r [(1,{m:=7})],.r [(5,{oe:=[L.int .i64 x2]})]] [] 0 [] (aO c1 (Nat.zero_le (Int.toNat (if (11:Int)<(len times_0) then 11 else (len times_0)))) c2 (Zbx.snd c3) c4 z0 (@rfl _ (List.length x1):(List.length x1)=(List.length x1)) (aN c5 c6 slices_Sort_int.snd (neI 2) c7 c8 c9))
noncomputable def ZcE.B:Code:=Tryz.f151.body.getD .skip
noncomputable def ZcE.rs (r:Bool):List CV:=[oB r]
noncomputable def ZcE (N:Nat) (time_0:Int) (times_1:LL):Option Bool:=
 if ((len times_1)==0)=true then
  some true
 else
 optE (ZdY N times_1) fun x1=>
 some (decide (time_0>x1))
theorem ZcE.snd {time_0:Int} {times_1:LL} {r:Bool} (h:ZcE N time_0 times_1=some r):SndQ Tryz.prog 151 [oI time_0,.one (L.sl 1 times_1)] (ZcE.rs r):=fun st=>
 sO ZcE.B Tryz.func151 fun g0 w0 R hE=>by
  unfold ZcE at h
  refine iteB h (fun c1 h1=>?_) (fun c1 h2=>?_)
  ·obtain rfl:=Zab h1
   exact af fol hE [.r [],.r [(4,wF),(5,wF),(6,wF),(7,wF)]] [] 0 [] (aL c1 c1 c1 c1 c1)
  ·obtain ⟨x1,c2,h3⟩:=Zad h2
   obtain rfl:=Zab h3
   exact af fol hE [.r [],.r [(6,q1 [oI x1]),(8,yF)]] [] 0 [] (aM c1 c1 c1 (ZdY.snd c2) c1 c1)
noncomputable def Zda.B:Code:=Tryz.f152.body.getD .skip
noncomputable def Zda.rs (r:Bool):List CV:=[oB r]
noncomputable def Zda (N:Nat) (time_0 now_1 future_2:Int):Option Bool:=
 if (decide (future_2≥0))=true then
  if (decide (time_0≤now_1))=true then
   some true
  else
  some (decide ((w64 (time_0-now_1))≤future_2))
 else
 some false
theorem Zda.snd {time_0 now_1 future_2:Int} {r:Bool} (h:Zda N time_0 now_1 future_2=some r):SndQ Tryz.prog 152 [oI time_0,oI now_1,oI future_2] (Zda.rs r):=fun st=>
 sO Zda.B Tryz.func152 fun g0 w0 R hE=>by
  unfold Zda at h
  refine iteB h (fun c1 h1=>?_) (fun c1 h2=>?_)
  ·refine iteB h1 (fun c2 h3=>?_) (fun c2 h4=>?_)
   ·obtain rfl:=Zab h3
    exact af fol hE [.r [],.r [(7,wF),(8,wF),(9,wF),(10,wF),(11,wF)]] [] 0 [] (aO c1 c1 c1 c1 c2 c2 c2 (aL c2 c2 c1 c2 c1))
   ·obtain rfl:=Zab h4
    exact af fol hE [.r [],.r [(12,yF)]] [] 0 [] (aO c1 c1 c1 c1 c2 c2 c2 (aL c2 c2 c1 c2 c1))
  ·obtain rfl:=Zab h2
   exact af fol hE [.r [],.r [(3,wF),(4,wF),(5,wF),(6,wF),(12,wF),(13,yF)]] [] 0 [] (aM c1 c1 c1 c1 c1 c1)
noncomputable def Zbb.B:Code:=Tryz.f153.body.getD .skip
noncomputable def Zbb.rs (r:Int):List CV:=[oI r]
noncomputable def Zbb.p2 (N:Nat) (c1_:(Int×Int)→Option Int) (height_0 least_4:Int) (gates_1:LL) (v2:Int):Option Int:=
 c1_ (least_4,w64 (v2+1))
noncomputable def Zbb.p1 (N:Nat) (height_0:Int) (gates_1:LL) (c1_:(Int×Int)→Option Int):(Int×Int)→Option Int:=fun (least_1,v2)=>
 if (decide (v2<(len gates_1)))=true then
  chk (0≤v2)<|
  getE (gates_1[Int.toNat v2]?) ZdN fun x3=>
  if (decide (height_0≥x3.Height))=true then
   Zbb.p2 N c1_ height_0 (if x3.Version>least_1 then x3.Version else least_1) gates_1 v2
  else
  Zbb.p2 N c1_ height_0 least_1 gates_1 v2
 else
 some least_1
noncomputable def Zbb (N:Nat) (height_0:Int) (gates_1:LL):Option Int:=
 loopN (Zbb.p1 N height_0 gates_1) N ((-2147483648),0)
noncomputable def Zbb.p2.S (height_0 least_4:Int) (gates_1:LL) (v2:Int) (st:LL):S:=mkS 24 [(0,sI height_0),(5,sI least_4),(8,sV 2 gates_1),(9,sI (len gates_1)),(10,sI v2)] [] st
noncomputable def Zbb.p1.S (height_0 least_1:Int) (gates_1:LL) (v2:Int) (st:LL):S:=mkS 24 [(0,sI height_0),(5,sI least_1),(8,sV 2 gates_1),(9,sI (len gates_1)),(10,sI v2)] [] st
theorem Zbb.p2_ok {height_0 least_4 gates_1 v2 st r c1_ J1} (h:Zbb.p2 N c1_ height_0 least_4 gates_1 v2=some r) (hE:En Tryz.f153 g0 w0 (Zbb.rs r) st R) (hc1 : ∀least_1 v2,c1_ (least_1,v2)=some r→At g0 w0 (Zbb.p1.S height_0 least_1 gates_1 v2 st) J1):At g0 w0 (Zbb.p2.S height_0 least_4 gates_1 v2 st) (XK Tryz.prog R [.c (csub Zbb.B [1,1,0,1,0,0,1,1,1]),.h J1,.b 0,.c (csub Zbb.B [1,1,1])]):=by
 unfold Zbb.p2 at h
 exact an fol [.r []] [0,5,8,9,10] [] trivial (hc1 least_4 (w64 (v2+1)) h)
theorem Zbb.p1_ok {height_0 least_1 gates_1 v2 st r c1_ J1} (h:Zbb.p1 N height_0 gates_1 c1_ (least_1,v2)=some r) (hE:En Tryz.f153 g0 w0 (Zbb.rs r) st R) (hc1 : ∀least_1 v2,c1_ (least_1,v2)=some r→At g0 w0 (Zbb.p1.S height_0 least_1 gates_1 v2 st) J1):At g0 w0 (Zbb.p1.S height_0 least_1 gates_1 v2 st) (XK Tryz.prog R (.c (csub Zbb.B [1,1,0,1,0,0]) :: .h J1 :: [.b 0,.c (csub Zbb.B [1,1,1])])):=by
 unfold Zbb.p1 at h
 refine iteB h (fun c1 h1=>?_) (fun c1 h2=>?_)
 ·obtain ⟨c2,h3⟩:=ZaS h1
  obtain ⟨x3,c3,h4⟩:=ZdR h3
  refine iteB h4 (fun c4 h5=>?_) (fun c4 h6=>?_)
  ·exact aq fol [.r [],.c true,.r [(1,{oe:=x3.ls})],.r [],.c true,.r [],.s 4] [0,5,8,9,10] [] (aL c1 c2 (oD c1) c3 c4) (Zbb.p2_ok h5 hE hc1)
  ·exact aq fol [.r [],.c true,.r [(1,{oe:=x3.ls})],.r [],.c false,.s 4] [0,5,8,9,10] [] (aL c1 c2 (oD c1) c3 c4) (Zbb.p2_ok h6 hE hc1)
 ·obtain rfl:=Zab h2
  exact af fol hE [.r [],.c false,.r []] [] 0 [] c1
theorem Zbb.snd {height_0:Int} {gates_1:LL} {r:Int} (h:Zbb N height_0 gates_1=some r):SndQ Tryz.prog 153 [oI height_0,.one (L.sl 2 gates_1)] (Zbb.rs r):=fun st=>
 sO Zbb.B Tryz.func153 fun g0 w0 R hE=>by
  unfold Zbb at h
  exact aq fol [.r [],.r [],.r []] [0,5,8,9,10] [] trivial (At.loop N (At.loopN (fun y:Int×Int=>Zbb.p1.S height_0 y.1 gates_1 y.2 st) (fun c J hc y h=>Zbb.p1_ok (least_1:=y.1) (v2:=y.2) h hE (fun least_1 v2=>hc (least_1,v2))) N ((-2147483648),0) h))
noncomputable def ZbM.B:Code:=Tryz.f154.body.getD .skip
noncomputable def ZbM.rs (r:Bool):List CV:=[oB r]
noncomputable def ZbM.p1 (N:Nat) (height_0:Int) (checks_2:LL) (id_1_0:List Int) (c1_:Int→Option Bool):Int→Option Bool:=fun v1=>
 if (decide (v1<(len checks_2)))=true then
  chk (0≤v1)<|
  getE (checks_2[Int.toNat v1]?) ZdG fun x2=>
  if (x2.Height==height_0)=true then
   if (!(x2.Id==id_1_0))=true then
    some false
   else
   c1_ (w64 (v1+1))
  else
  c1_ (w64 (v1+1))
 else
 some true
noncomputable def ZbM (N:Nat) (height_0:Int) (id_1_0:List Int) (checks_2:LL):Option Bool:=
 loopN (ZbM.p1 N height_0 checks_2 id_1_0) N 0
noncomputable def ZbM.p1.S (height_0:Int) (checks_2:LL) (v1:Int) (id_1_0:List Int) (st:LL):S:=mkS 26 [(0,sI height_0),(4,sA 4),(9,sV 33 checks_2),(10,sI (len checks_2)),(11,sI v1)] [(4,.cells [L.arr .u8 32 id_1_0])] st
theorem ZbM.p1_ok {height_0 checks_2 v1 id_1_0 st r c1_ J1} (h:ZbM.p1 N height_0 checks_2 id_1_0 c1_ v1=some r) (hE:En Tryz.f154 g0 w0 (ZbM.rs r) st R) (hc1 : ∀v1,c1_ v1=some r→At g0 w0 (ZbM.p1.S height_0 checks_2 v1 id_1_0 st) J1):At g0 w0 (ZbM.p1.S height_0 checks_2 v1 id_1_0 st) (XK Tryz.prog R (.c (csub ZbM.B [1,0,1,0,0]) :: .h J1 :: [.b 0,.c (csub ZbM.B [1,1])])):=by
 unfold ZbM.p1 at h
 refine iteB h (fun c1 h1=>?_) (fun c1 h2=>?_)
 ·obtain ⟨c2,h3⟩:=ZaS h1
  obtain ⟨x2,c3,h4⟩:=ZdK h3
  refine iteB h4 (fun c4 h5=>?_) (fun c4 h6=>?_)
  ·refine iteB h5 (fun c5 h7=>?_) (fun c5 h8=>?_)
   ·obtain rfl:=Zab h7
    exact af fol hE [.r [],.c true,.r [(1,{oe:=x2.ls})],.r [],.c true,.r []] [] 0 [] (aO c1 c2 (oD c1) c3 c4 c4 c4 (aJ c4 c4 c5))
   ·exact an fol [.r [],.c true,.r [(1,{oe:=x2.ls})],.r [],.c false,.r []] [0,4,9,10,11] [4] (aO c1 c2 (oD c1) c3 c4 c4 c4 (aJ c4 c4 c5)) (hc1 (w64 (v1+1)) h8)
  ·exact an fol [.r [],.c true,.r [(1,{oe:=x2.ls})],.r [(5,wF),(6,wF),(7,wF),(8,wF),(9,yF)],.c false,.r []] [0,4,9,10,11] [4] (aO c1 c2 (oD c1) c3 c4 c4 c4 (aJ c4 c4 eF)) (hc1 (w64 (v1+1)) h6)
 ·obtain rfl:=Zab h2
  exact af fol hE [.r [],.c false,.r []] [] 0 [] c1
theorem ZbM.snd {height_0:Int} {id_1_0:List Int} {checks_2:LL} {r:Bool} (h:ZbM N height_0 id_1_0 checks_2=some r):SndQ Tryz.prog 154 [oI height_0,.agg [L.arr .u8 32 id_1_0],.one (L.sl 33 checks_2)] (ZbM.rs r):=fun st=>
 sO ZbM.B Tryz.func154 fun g0 w0 R hE=>by
  unfold ZbM at h
  exact aq fol [.r [],.r []] [0,4,9,10,11] [4] trivial (At.loop N (At.loopN (fun y:Int=>ZbM.p1.S height_0 checks_2 y id_1_0 st) (fun c J hc y h=>ZbM.p1_ok h hE (fun v1=>hc v1)) N 0 h))
noncomputable def Zdu.B:Code:=Tryz.f92.body.getD .skip
noncomputable def Zdu.rs (r:Int):List CV:=[oI r]
noncomputable def Zdu (N:Nat) (p_0:Zae) (at_1:ZaR) (h_2:Zag) (now_3:Int):Option Int:=
 optE (Zbr N h_2) fun x1=>
 if (!x1)=true then
  some 1
 else
 if (!(h_2.Prev==at_1.Prev))=true then
  some 2
 else
 optE (Zdi N p_0 at_1.Point h_2.Time) fun x2=>
 if (h_2.Bits != x2)=true then
  some 3
 else
 optE (ZcG N p_0 h_2) fun x3=>
 if (x3 != 0)=true then
  some 4
 else
 optE (ZcE N h_2.Time at_1.Times) fun x4=>
 if (!x4)=true then
  some 5
 else
 optE (Zda N h_2.Time now_3 p_0.Future) fun x5=>
 if (!x5)=true then
  some 6
 else
 optE (Zbb N at_1.Point.Height p_0.Gates) fun x6=>
 if (decide (h_2.Version<x6))=true then
  some 7
 else
 optE (Zdf N h_2) fun x7=>
 optE (ZbM N at_1.Point.Height x7 p_0.Checks) fun x8=>
 if (!x8)=true then
  some 8
 else
 some 0
theorem Zdu.snd {p_0:Zae} {at_1:ZaR} {h_2:Zag} {now_3:Int} {r:Int} (h:Zdu N p_0 at_1 h_2 now_3=some r):SndQ Tryz.prog 92 [.agg p_0.ls,.agg at_1.ls,.agg h_2.ls,oI now_3] (Zdu.rs r):=fun st=>
 sO Zdu.B Tryz.func92 fun g0 w0 R hE=>by
  unfold Zdu at h
  obtain ⟨x1,c1,h1⟩:=Zad h
  refine iteB h1 (fun c2 h2=>?_) (fun c2 h3=>?_)
  ·obtain rfl:=Zab h2
   exact af fol hE [.r [],.r [(1,q1 [oB x1])],.c true,.r []] [] 0 [] (aI (Zbr.snd c1) c2)
  ·refine iteB h3 (fun c3 h4=>?_) (fun c3 h5=>?_)
   ·obtain rfl:=Zab h4
    exact af fol hE [.r [],.r [(1,q1 [oB x1])],.c false,.r [],.c true,.r []] [] 0 [] (aJ (Zbr.snd c1) c2 c3)
   ·obtain ⟨x2,c4,h6⟩:=Zad h5
    refine iteB h6 (fun c5 h7=>?_) (fun c5 h8=>?_)
    ·obtain rfl:=Zab h7
     exact afd fol hE [.r [],.r [(1,q1 [oB x1])],.c false,.r [],.c false,.d {ds:=[(7,q1 [oI x2])],hv:=0,Hs:=[]},.c true,.r []] [] 0 [] (aL (Zbr.snd c1) c2 c3 (Zdi.snd c4) c5)
    ·obtain ⟨x3,c6,h9⟩:=Zad h8
     refine iteB h9 (fun c7 h10=>?_) (fun c7 h11=>?_)
     ·obtain rfl:=Zab h10
      exact afd fol hE [.r [],.r [(1,q1 [oB x1])],.c false,.r [],.c false,.d {ds:=[(7,q1 [oI x2])],hv:=0,Hs:=[]},.c false,.r [(2,q1 [oI x3])],.c true,.r []] [] 0 [] (aN (Zbr.snd c1) c2 c3 (Zdi.snd c4) c5 (ZcG.snd c6) c7)
     ·obtain ⟨x4,c8,h12⟩:=Zad h11
      refine iteB h12 (fun c9 h13=>?_) (fun c9 h14=>?_)
      ·obtain rfl:=Zab h13
       exact afd fol hE [.r [],.r [(1,q1 [oB x1])],.c false,.r [],.c false,.d {ds:=[(7,q1 [oI x2])],hv:=0,Hs:=[]},.c false,.r [(2,q1 [oI x3])],.c false,.r [(4,q1 [oB x4])],.c true,.r []] [] 0 [] (aO (Zbr.snd c1) c2 c3 (Zdi.snd c4) c5 (ZcG.snd c6) c7 (aI (ZcE.snd c8) c9))
      ·obtain ⟨x5,c10,h15⟩:=Zad h14
       refine iteB h15 (fun c11 h16=>?_) (fun c11 h17=>?_)
       ·obtain rfl:=Zab h16
        exact afd fol hE [.r [],.r [(1,q1 [oB x1])],.c false,.r [],.c false,.d {ds:=[(7,q1 [oI x2])],hv:=0,Hs:=[]},.c false,.r [(2,q1 [oI x3])],.c false,.r [(4,q1 [oB x4])],.c false,.r [(5,q1 [oB x5])],.c true,.r []] [] 0 [] (aO (Zbr.snd c1) c2 c3 (Zdi.snd c4) c5 (ZcG.snd c6) c7 (aK (ZcE.snd c8) c9 (Zda.snd c10) c11))
       ·obtain ⟨x6,c12,h18⟩:=Zad h17
        refine iteB h18 (fun c13 h19=>?_) (fun c13 h20=>?_)
        ·obtain rfl:=Zab h19
         exact afd fol hE [.r [],.r [(1,q1 [oB x1])],.c false,.r [],.c false,.d {ds:=[(7,q1 [oI x2])],hv:=0,Hs:=[]},.c false,.r [(2,q1 [oI x3])],.c false,.r [(4,q1 [oB x4])],.c false,.r [(5,q1 [oB x5])],.c false,.d {ds:=[(7,q1 [oI x6])],hv:=0,Hs:=[]},.c true,.r []] [] 0 [] (aO (Zbr.snd c1) c2 c3 (Zdi.snd c4) c5 (ZcG.snd c6) c7 (aM (ZcE.snd c8) c9 (Zda.snd c10) c11 (Zbb.snd c12) c13))
        ·obtain ⟨x7,c14,h21⟩:=Zad h20
         obtain ⟨x8,c15,h22⟩:=Zad h21
         refine iteB h22 (fun c16 h23=>?_) (fun c16 h24=>?_)
         ·obtain rfl:=Zab h23
          exact afd fol hE [.r [],.r [(1,q1 [oB x1])],.c false,.r [],.c false,.d {ds:=[(7,q1 [oI x2])],hv:=0,Hs:=[]},.c false,.r [(2,q1 [oI x3])],.c false,.r [(4,q1 [oB x4])],.c false,.r [(5,q1 [oB x5])],.c false,.d {ds:=[(7,q1 [oI x6])],hv:=0,Hs:=[]},.c false,.d {ds:=[(4,q1 [.agg [L.arr .u8 32 x7]]),(7,q1 [oB x8])],hv:=0,Hs:=[]},.c true,.r []] [] 0 [] (aO (Zbr.snd c1) c2 c3 (Zdi.snd c4) c5 (ZcG.snd c6) c7 (aO (ZcE.snd c8) c9 (Zda.snd c10) c11 (Zbb.snd c12) c13 (Zdf.snd c14) (aI (ZbM.snd c15) c16)))
         ·obtain rfl:=Zab h24
          exact afd fol hE [.r [],.r [(1,q1 [oB x1])],.c false,.r [],.c false,.d {ds:=[(7,q1 [oI x2])],hv:=0,Hs:=[]},.c false,.r [(2,q1 [oI x3])],.c false,.r [(4,q1 [oB x4])],.c false,.r [(5,q1 [oB x5])],.c false,.d {ds:=[(7,q1 [oI x6])],hv:=0,Hs:=[]},.c false,.d {ds:=[(4,q1 [.agg [L.arr .u8 32 x7]]),(7,q1 [oB x8])],hv:=0,Hs:=[]},.c false,.r []] [] 0 [] (aO (Zbr.snd c1) c2 c3 (Zdi.snd c4) c5 (ZcG.snd c6) c7 (aO (ZcE.snd c8) c9 (Zda.snd c10) c11 (Zbb.snd c12) c13 (Zdf.snd c14) (aI (ZbM.snd c15) c16)))
noncomputable def ZaB.B:Code:=Tryz.f26.body.getD .skip
noncomputable def ZaB.rs (r:Int×Int×Int×LL):List CV:=[oI r.1,oI r.2.1,oI r.2.2.1]
noncomputable def ZaB.p2 (N:Nat) (i2:Nat) (now_2 ahead_12:Int) (is_13:Bool) (h_1:Zag) (st:LL):Option (Int×Int×Int×LL):=
 if (!is_13)=true then
  some ((-1),2,5,st)
 else
 getE (st[i2]?) ZbZ fun x14=>
 chk (0≤ahead_12)<|
 chk (ahead_12<(len x14.spots))<|
 getE (x14.spots[0+(Int.toNat ahead_12)]?) ZeP fun x15=>
 optE (Zdu N x14.rules x15 h_1 now_2) fun x16=>
 if (x16 != 0)=true then
  some ((-1),x16,8,st)
 else
 if (decide ((len x14.list)≥x14.room))=true then
  some ((-1),0,6,st)
 else
 optE (Zdh N x14.rules x15 h_1) fun x17=>
 optE (ZaX N (some i2) h_1 ahead_12 x17 st) fun (x18,st19)=>
 some (x18,0,0,st19)
noncomputable def ZaB.p1 (N:Nat) (i2:Nat) (now_2 at_7:Int) (is_8:Bool) (h_1:Zag) (st:LL):Option (Int×Int×Int×LL):=
 if is_8=true then
  some (at_7,0,0,st)
 else
 getE (st[i2]?) ZbZ fun x9=>
 optM (mfind x9.places (L.arr .u8 32 h_1.Prev)) (fun j10 e=>ZcP [e] fun x11=>
  ZaB.p2 N i2 now_2 x11 true h_1 st)
 (
  ZaB.p2 N i2 now_2 0 false h_1 st)
noncomputable def ZaB (N:Nat) (a_0:Option Nat) (h_1:Zag) (now_2:Int) (st:LL):Option (Int×Int×Int×LL):=
 if (Option.isNone a_0)=true then
  some ((-1),0,2,st)
 else
 optE (Zbr N h_1) fun x1=>
 if (!x1)=true then
  some ((-1),1,8,st)
 else
 optE a_0 fun i2=>
 getE (st[i2]?) ZbZ fun x3=>
 optE (Zdf N h_1) fun x4=>
 optM (mfind x3.places (L.arr .u8 32 x4)) (fun j5 e=>ZcP [e] fun x6=>
  ZaB.p1 N i2 now_2 x6 true h_1 st)
 (
  ZaB.p1 N i2 now_2 0 false h_1 st)
noncomputable def ZaB.p2.S (i2:Nat) (now_2 ahead_12:Int) (is_13:Bool) (h_1:Zag) (st:LL):S:=mkS 87 [(0,sP (some i2)),(2,sI now_2),(4,sA 4),(11,sI ahead_12),(12,.one (.l (L.bool is_13)))] [(4,.cells h_1.ls)] st
noncomputable def ZaB.p1.S (i2:Nat) (now_2 at_7:Int) (is_8:Bool) (h_1:Zag) (st:LL):S:=mkS 87 [(0,sP (some i2)),(2,sI now_2),(4,sA 4),(9,sI at_7),(10,.one (.l (L.bool is_8)))] [(4,.cells h_1.ls)] st
theorem ZaB.p2_ok {i2 now_2 ahead_12 is_13 h_1 st r} (h:ZaB.p2 N i2 now_2 ahead_12 is_13 h_1 st=some r) (hE:En Tryz.f26 g0 w0 (ZaB.rs r) r.2.2.2 R):At g0 w0 (ZaB.p2.S i2 now_2 ahead_12 is_13 h_1 st) (XK Tryz.prog R [.c (csub ZaB.B [1,1,1,1,1])]):=by
 unfold ZaB.p2 at h
 refine iteB h (fun c11 h1=>?_) (fun c11 h2=>?_)
 ·obtain rfl:=Zab h1
  exact af fol hE [.r [],.c true,.r []] [] 0 [] c11
 ·obtain ⟨x14,c12,h3⟩:=ZbX h2
  obtain ⟨c13,c14,h4⟩:=ck2 h3
  obtain ⟨x15,c15,h5⟩:=Zhx h4
  obtain ⟨x16,c16,h6⟩:=Zad h5
  refine iteB h6 (fun c17 h7=>?_) (fun c17 h8=>?_)
  ·obtain rfl:=Zab h7
   exact afd fol hE [.r [],.c false,.d {ds:=[(3,{oc:=x14.lo}),(7,{oc:=x14.lo}),(10,{oc:=x14.lo,oe:=x15.ls}),(13,q1 [oI x16])],hv:=0,Hs:=[]},.r [],.c true,.r []] [] 0 [] (aO c11 c12 c12 c13 c14 c15 c12 (aI (Zdu.snd c16) c17))
  ·refine iteB h8 (fun c18 h9=>?_) (fun c18 h10=>?_)
   ·obtain rfl:=Zab h9
    exact afd fol hE [.r [],.c false,.d {ds:=[(3,{oc:=x14.lo}),(7,{oc:=x14.lo}),(10,{oc:=x14.lo,oe:=x15.ls}),(13,q1 [oI x16])],hv:=0,Hs:=[]},.r [],.c false,.d {ds:=[(3,{oc:=x14.lo}),(8,{oc:=x14.lo})],hv:=0,Hs:=[]},.c true,.r []] [] 0 [] (aO c11 c12 c12 c13 c14 c15 c12 (aL (Zdu.snd c16) c17 c12 c12 c18))
   ·obtain ⟨x17,c19,h11⟩:=Zad h10
    obtain ⟨⟨x18,st19⟩,c20,h12⟩:=Zad h11
    obtain rfl:=Zab h12
    exact afd fol hE [.r [],.c false,.d {ds:=[(3,{oc:=x14.lo}),(7,{oc:=x14.lo}),(10,{oc:=x14.lo,oe:=x15.ls}),(13,q1 [oI x16])],hv:=0,Hs:=[]},.r [],.c false,.d {ds:=[(3,{oc:=x14.lo}),(8,{oc:=x14.lo})],hv:=0,Hs:=[]},.c false,.d {ds:=[(6,{oc:=x14.lo}),(10,{oc:=x14.lo}),(13,{oc:=x14.lo,oe:=x15.ls}),(15,q1 [.agg x17.ls]),(16,{rs:=[oI x18],st:=st19})],hv:=65536,Hs:=[65536]}] [] 0 [] (aO c11 c12 c12 c13 c14 c15 c12 (aO (Zdu.snd c16) c17 c12 c12 c18 c12 c12 (aM c13 c14 c15 c12 (Zdh.snd c19) (ZaX.snd c20))))
theorem ZaB.p1_ok {i2 now_2 at_7 is_8 h_1 st r} (h:ZaB.p1 N i2 now_2 at_7 is_8 h_1 st=some r) (hE:En Tryz.f26 g0 w0 (ZaB.rs r) r.2.2.2 R):At g0 w0 (ZaB.p1.S i2 now_2 at_7 is_8 h_1 st) (XK Tryz.prog R [.c (csub ZaB.B [1,1,1,0,1]),.c (csub ZaB.B [1,1,1,1])]):=by
 unfold ZaB.p1 at h
 refine iteB h (fun c8 h13=>?_) (fun c8 h14=>?_)
 ·obtain rfl:=Zab h13
  exact af fol hE [.r [],.c true,.r []] [] 0 [] c8
 ·obtain ⟨x9,c9,h15⟩:=ZbX h14
  rcases ZgS h15 with ⟨j10,h19,c10,h16⟩ | ⟨c10,h17⟩
  ·obtain ⟨x11,h20,h18⟩:=ZeZ h16
   obtain rfl:=Zfl h20
   exact aqd fol [.r [],.c false,.d {ds:=[(3,{oc:=x9.lo}),(6,{oc:=x9.lo,oe:=[L.int .i64 x11]})],hv:=0,Hs:=[]},.s 1] [0,2,4,11,12] [4] (aK c8 c9 (Zkh c10) c9) (ZaB.p2_ok h18 hE)
  ·exact aqd fol [.r [],.c false,.d {ds:=[(3,{oc:=x9.lo}),(6,{oc:=x9.lo,yes:=false})],hv:=0,Hs:=[]},.s 1] [0,2,4,11,12] [4] (aK c8 c9 c10 c9) (ZaB.p2_ok h17 hE)
theorem ZaB.snd {a_0:Option Nat} {h_1:Zag} {now_2:Int} {st:LL} {r:Int×Int×Int×LL} (h:ZaB N a_0 h_1 now_2 st=some r):Snd Tryz.prog 26 [.one (L.ptr a_0),.agg h_1.ls,oI now_2] st (ZaB.rs r) r.2.2.2:=
 sO ZaB.B Tryz.func26 fun g0 w0 R hE=>by
  unfold ZaB at h
  refine iteB h (fun c1 h21=>?_) (fun c1 h22=>?_)
  ·obtain rfl:=Zab h21
   exact af fol hE [.r [],.r [],.c true,.r []] [] 0 [] c1
  ·obtain ⟨x1,c2,h23⟩:=Zad h22
   refine iteB h23 (fun c3 h24=>?_) (fun c3 h25=>?_)
   ·obtain rfl:=Zab h24
    exact af fol hE [.r [],.r [],.c false,.r [(1,q1 [oB x1])],.c true,.r []] [] 0 [] (aJ c1 (Zbr.snd c2) c3)
   ·obtain ⟨i2,rfl,h26⟩:=Zad h25
    obtain ⟨x3,c5,h27⟩:=ZbX h26
    obtain ⟨x4,c6,h28⟩:=Zad h27
    rcases ZgS h28 with ⟨j5,h32,c7,h29⟩ | ⟨c7,h30⟩
    ·obtain ⟨x6,h33,h31⟩:=ZeZ h29
     obtain rfl:=Zfl h33
     exact aqd fol [.r [],.r [],.c false,.r [(1,q1 [oB x1])],.c false,.d {ds:=[(3,{oc:=x3.lo}),(5,q1 [.agg [L.arr .u8 32 x4]]),(6,{oc:=x3.lo,oe:=[L.int .i64 x6]})],hv:=0,Hs:=[]},.s 2] [0,2,4,9,10] [4] (aN c1 (Zbr.snd c2) c3 c5 (Zdf.snd c6) (Zkh c7) c5) (ZaB.p1_ok h31 hE)
    ·exact aqd fol [.r [],.r [],.c false,.r [(1,q1 [oB x1])],.c false,.d {ds:=[(3,{oc:=x3.lo}),(5,q1 [.agg [L.arr .u8 32 x4]]),(6,{oc:=x3.lo,yes:=false})],hv:=0,Hs:=[]},.s 2] [0,2,4,9,10] [4] (aN c1 (Zbr.snd c2) c3 c5 (Zdf.snd c6) c7 c5) (ZaB.p1_ok h30 hE)
noncomputable def Zcq.B:Code:=Tryz.f94.body.getD .skip
noncomputable def Zcq.rs (r:Bool):List CV:=[oB r]
noncomputable def Zcq (N:Nat) (a_0:ZaA) (at_1:Int):Option Bool:=
 if (decide (at_1≥0))=true then
  some (decide (at_1<(len a_0.list)))
 else
 some false
theorem Zcq.snd {a_0:ZaA} {at_1:Int} {r:Bool} (h:Zcq N a_0 at_1=some r):SndQ Tryz.prog 94 [.one (L.bx 87 a_0.ls),oI at_1] (Zcq.rs r):=fun st=>
 sO Zcq.B Tryz.func94 fun g0 w0 R hE=>by
  unfold Zcq at h
  refine iteB h (fun c1 h1=>?_) (fun c1 h2=>?_)
  ·obtain rfl:=Zab h1
   exact af fol hE [.r [],.r [(11,{oe:=a_0.ls})]] [] 0 [] (aO eT eT eT c1 c1 c1 c1 (aL c1 (eO a_0.ls) c1 c1 c1))
  ·obtain rfl:=Zab h2
   exact af fol hE [.r [],.r [(7,wF),(8,wF),(9,wF),(10,wF),(11,wF),(12,wF),(13,wF),(14,yF)]] [] 0 [] (aO eT eT eT c1 c1 c1 c1 (aK c1 c1 c1 c1))
noncomputable def ZbO.B:Code:=Tryz.f29.body.getD .skip
noncomputable def ZbO.rs (r:ZbK×Bool):List CV:=[.agg r.1.ls,oB r.2]
noncomputable def ZbO (N:Nat) (a_0:ZaA) (at_1:Int):Option (ZbK×Bool):=
 optE (Zcq N a_0 at_1) fun x1=>
 if (!x1)=true then
  some (ZbK.mk (Zag.mk 0 (List.replicate 32 0) (List.replicate 32 0) 0 0 0) (List.replicate 32 0) (-1) 0 (List.replicate 4 0),false)
 else
 chk (0≤at_1)<|
 chk (at_1<(len a_0.list))<|
 getE (a_0.list[Int.toNat at_1]?) Zea fun x2=>
 some (x2,true)
theorem ZbO.snd {a_0:ZaA} {at_1:Int} {r:ZbK×Bool} (h:ZbO N a_0 at_1=some r):SndQ Tryz.prog 29 [.one (L.bx 87 a_0.ls),oI at_1] (ZbO.rs r):=fun st=>
 sO ZbO.B Tryz.func29 fun g0 w0 R hE=>by
  unfold ZbO at h
  obtain ⟨x1,c1,h1⟩:=Zad h
  refine iteB h1 (fun c2 h2=>?_) (fun c2 h3=>?_)
  ·obtain rfl:=Zab h2
   exact af fol hE [.r [],.r [(2,q0 [oB x1])],.c true,.r []] [] 0 [] (aI (Zcq.snd c1) c2)
  ·obtain ⟨c3,c4,h4⟩:=ck2 h3
   obtain ⟨x2,c5,h5⟩:=Zfa h4
   obtain rfl:=Zab h5
   exact af fol hE [.r [],.r [(2,q0 [oB x1])],.c false,.r [(3,{oe:=a_0.ls}),(6,{oe:=x2.ls})]] [] 0 [] (aM (Zcq.snd c1) c2 (eO a_0.ls) c3 c4 c5)
noncomputable def Zdk.B:Code:=Tryz.f144.body.getD .skip
noncomputable def Zdk.rs (r:Int):List CV:=[oI r]
noncomputable def Zdk (N:Nat) (n_0:Int):Option Int:=
 some (bitsOf .and .i64 n_0 (w64 (n_0-1)))
theorem Zdk.snd {n_0:Int} {r:Int} (h:Zdk N n_0=some r):SndQ Tryz.prog 144 [oI n_0] (Zdk.rs r):=fun st=>
 sO Zdk.B Tryz.func144 fun g0 w0 R hE=>by
  unfold Zdk at h
  obtain rfl:=Zab h
  exact af fol hE [.r [],.r []] [] 0 [] trivial
noncomputable def Zdy.B:Code:=Tryz.f86.body.getD .skip
noncomputable def Zdy.rs (r:Int):List CV:=[oI r]
noncomputable def Zdy (N:Nat) (h_0:Int):Option Int:=
 if (decide (h_0<2))=true then
  some 0
 else
 if ((bitsOf .and .i64 h_0 1)==0)=true then
  optE (Zdk N h_0) fun x1=>
  some x1
 else
 optE (Zdk N (w64 (h_0-1))) fun x2=>
 optE (Zdk N x2) fun x3=>
 some (w64 (x3+1))
theorem Zdy.snd {h_0:Int} {r:Int} (h:Zdy N h_0=some r):SndQ Tryz.prog 86 [oI h_0] (Zdy.rs r):=fun st=>
 sO Zdy.B Tryz.func86 fun g0 w0 R hE=>by
  unfold Zdy at h
  refine iteB h (fun c1 h1=>?_) (fun c1 h2=>?_)
  ·obtain rfl:=Zab h1
   exact af fol hE [.r [],.r [],.c true,.r []] [] 0 [] c1
  ·refine iteB h2 (fun c2 h3=>?_) (fun c2 h4=>?_)
   ·obtain ⟨x1,c3,h5⟩:=Zad h3
    obtain rfl:=Zab h5
    exact af fol hE [.r [],.r [],.c false,.r [],.c true,.r [(1,q1 [oI x1])]] [] 0 [] (aJ c1 c2 (Zdk.snd c3))
   ·obtain ⟨x2,c4,h6⟩:=Zad h4
    obtain ⟨x3,c5,h7⟩:=Zad h6
    obtain rfl:=Zab h7
    exact af fol hE [.r [],.r [],.c false,.r [],.c false,.r [(2,q1 [oI x2]),(3,q1 [oI x3])]] [] 0 [] (aK c1 c2 (Zdk.snd c4) (Zdk.snd c5))
noncomputable def Zbj.B:Code:=Tryz.f28.body.getD .skip
noncomputable def Zbj.rs (r:ZbK×Bool):List CV:=[.agg r.1.ls,oB r.2]
noncomputable def Zbj (N:Nat) (t_0:ZaJ) (at_1:Int):Option (ZbK×Bool):=
 optE (ZbO N t_0.store at_1) fun (x1,x2)=>
 some (x1,x2)
theorem Zbj.snd {t_0:ZaJ} {at_1:Int} {r:ZbK×Bool} (h:Zbj N t_0 at_1=some r):SndQ Tryz.prog 28 [.one (L.bx 2 t_0.ls),oI at_1] (Zbj.rs r):=fun st=>
 sO Zbj.B Tryz.func28 fun g0 w0 R hE=>by
  unfold Zbj at h
  obtain ⟨⟨x1,x2⟩,c1,h1⟩:=Zad h
  obtain rfl:=Zab h1
  exact af fol hE [.r [],.r [],.c false,.r [(3,{oe:=t_0.ls}),(5,q0 [.agg x1.ls,oB x2])]] [] 0 [] (aJ eF (eO t_0.ls) (ZbO.snd c1))
noncomputable def ZaM.B:Code:=Tryz.f98.body.getD .skip
noncomputable def ZaM.rs (r:Int):List CV:=[oI r]
noncomputable def ZaM (N:Nat) (t_0:ZaJ) (at_1:Int):Option Int:=
 optE (Zbj N t_0 at_1) fun (x1,x2)=>
 if (!x2)=true then
  some (-1)
 else
 some x1.Height
theorem ZaM.snd {t_0:ZaJ} {at_1:Int} {r:Int} (h:ZaM N t_0 at_1=some r):SndQ Tryz.prog 98 [.one (L.bx 2 t_0.ls),oI at_1] (ZaM.rs r):=fun st=>
 sO ZaM.B Tryz.func98 fun g0 w0 R hE=>by
  unfold ZaM at h
  obtain ⟨⟨x1,x2⟩,c1,h1⟩:=Zad h
  refine iteB h1 (fun c2 h2=>?_) (fun c2 h3=>?_)
  ·obtain rfl:=Zab h2
   exact af fol hE [.r [],.r [(2,q0 [.agg x1.ls,oB x2])],.r [],.c true,.r []] [] 0 [] (aI (Zbj.snd c1) c2)
  ·obtain rfl:=Zab h3
   exact af fol hE [.r [],.r [(2,q0 [.agg x1.ls,oB x2])],.r [],.c false,.r []] [] 0 [] (aI (Zbj.snd c1) c2)
noncomputable def Zar.B:Code:=Tryz.f47.body.getD .skip
noncomputable def Zar.rs (r:Int):List CV:=[oI r]
noncomputable def Zar.p2 (N:Nat) (c1_:(Int×Int)→Option Int) (t_0:ZaJ) (height_2 next_8 x6 x7:Int):Option Int:=
 optE (ZaM N t_0 next_8) fun x9=>
 c1_ (next_8,x9)
noncomputable def Zar.p1 (N:Nat) (t_0:ZaJ) (height_2:Int) (c1_:(Int×Int)→Option Int):(Int×Int)→Option Int:=fun (at_2,h_3)=>
 if (decide (h_3>height_2))=true then
  optE (Zbj N t_0 at_2) fun (x4,x5)=>
  chk (0≤at_2)<|
  chk (at_2<(len t_0.leaps))<|
  getE (t_0.leaps[Int.toNat at_2]?) ZcP fun x6=>
  if (x6 != (-1))=true then
   optE (ZaM N t_0 x6) fun x7=>
   if (decide (x7≥height_2))=true then
    Zar.p2 N c1_ t_0 height_2 x6 x6 x7
   else
   Zar.p2 N c1_ t_0 height_2 x4.Ahead x6 x7
  else
  optE (ZaM N t_0 x4.Ahead) fun x10=>
  c1_ (x4.Ahead,x10)
 else
 some at_2
noncomputable def Zar (N:Nat) (t_0:ZaJ) (at_1 height_2:Int):Option Int:=
 optE (ZaM N t_0 at_1) fun x1=>
 if (decide (height_2<0))=true then
  some (-1)
 else
 if (decide (height_2>x1))=true then
  some (-1)
 else
 loopN (Zar.p1 N t_0 height_2) N (at_1,x1)
noncomputable def Zar.p2.S (t_0:ZaJ) (height_2 next_8 x6 x7:Int) (st:LL):S:=mkS 55 [(0,.one (.l (L.bx 2 t_0.ls))),(2,sI height_2),(10,sI next_8),(43,.one (.l (L.bx 2 t_0.ls))),(44,sI x6),(45,sI x7),(46,sI height_2),(47,.one (.l (L.bool (decide (x7≥height_2)))))] [] st
noncomputable def Zar.p1.S (t_0:ZaJ) (at_2 height_2 h_3:Int) (st:LL):S:=mkS 55 [(0,.one (.l (L.bx 2 t_0.ls))),(1,sI at_2),(2,sI height_2),(7,sI h_3)] [] st
theorem Zar.p2_ok {t_0 height_2 next_8 x6 x7 st r c1_ J1} (h:Zar.p2 N c1_ t_0 height_2 next_8 x6 x7=some r) (hE:En Tryz.f47 g0 w0 (Zar.rs r) st R) (hc1 : ∀at_2 h_3,c1_ (at_2,h_3)=some r→At g0 w0 (Zar.p1.S t_0 at_2 height_2 h_3 st) J1):At g0 w0 (Zar.p2.S t_0 height_2 next_8 x6 x7 st) (XK Tryz.prog R [.c (csub Zar.B [1,1,1,0,0,0,1,0,1,1,1]),.b 1,.h J1,.b 0,.c (csub Zar.B [1,1,1,1])]):=by
 unfold Zar.p2 at h
 obtain ⟨x9,c12,h1⟩:=Zad h
 exact an fol [.r [(3,q0 [oI x9])]] [0,1,2,7] [] (ZaM.snd c12) (hc1 next_8 x9 h1)
theorem Zar.p1_ok {t_0 at_2 height_2 h_3 st r c1_ J1} (h:Zar.p1 N t_0 height_2 c1_ (at_2,h_3)=some r) (hE:En Tryz.f47 g0 w0 (Zar.rs r) st R) (hc1 : ∀at_2 h_3,c1_ (at_2,h_3)=some r→At g0 w0 (Zar.p1.S t_0 at_2 height_2 h_3 st) J1):At g0 w0 (Zar.p1.S t_0 at_2 height_2 h_3 st) (XK Tryz.prog R (.c (csub Zar.B [1,1,1,0,0,0]) :: .h J1 :: [.b 0,.c (csub Zar.B [1,1,1,1])])):=by
 unfold Zar.p1 at h
 refine iteB h (fun c4 h2=>?_) (fun c4 h3=>?_)
 ·obtain ⟨⟨x4,x5⟩,c5,h4⟩:=Zad h2
  obtain ⟨c6,c7,h5⟩:=ck2 h4
  obtain ⟨x6,c8,h6⟩:=Zco h5
  refine iteB h6 (fun c9 h7=>?_) (fun c9 h8=>?_)
  ·obtain ⟨x7,c10,h9⟩:=Zad h7
   refine iteB h9 (fun c11 h10=>?_) (fun c11 h11=>?_)
   ·exact aq fol [.r [],.c true,.r [(2,q0 [.agg x4.ls,oB x5])],.r [],.r [(3,{oe:=t_0.ls}),(6,{oe:=[L.int .i64 x6]})],.r [(5,q0 [oI x7])],.c true,.r [],.s 5] [0,2,10,43,44,45,46,47] [] (aO c4 (Zbj.snd c5) (eO t_0.ls) c6 c7 c8 c9 (aN c9 c9 (ZaM.snd c10) c9 c9 c9 c11)) (Zar.p2_ok h10 hE hc1)
   ·exact aq fol [.r [],.c true,.r [(2,q0 [.agg x4.ls,oB x5])],.r [],.r [(3,{oe:=t_0.ls}),(6,{oe:=[L.int .i64 x6]})],.r [(5,q0 [oI x7])],.c false,.s 5] [0,2,10,43,44,45,46,47] [] (aO c4 (Zbj.snd c5) (eO t_0.ls) c6 c7 c8 c9 (aN c9 c9 (ZaM.snd c10) c9 c9 c9 c11)) (Zar.p2_ok h11 hE hc1)
  ·obtain ⟨x10,c13,h12⟩:=Zad h8
   exact an fol [.r [],.c true,.r [(2,q0 [.agg x4.ls,oB x5])],.r [],.r [(3,{oe:=t_0.ls}),(6,{oe:=[L.int .i64 x6]})],.r [(3,wF),(4,wF),(5,wF),(6,wF),(7,wF),(8,yF)],.c false,.r [(3,q0 [oI x10])]] [0,1,2,7] [] (aO c4 (Zbj.snd c5) (eO t_0.ls) c6 c7 c8 c9 (aN c9 c9 c9 c9 c9 eF (ZaM.snd c13))) (hc1 x4.Ahead x10 h12)
 ·obtain rfl:=Zab h3
  exact af fol hE [.r [],.c false,.r []] [] 0 [] c4
theorem Zar.snd {t_0:ZaJ} {at_1 height_2:Int} {r:Int} (h:Zar N t_0 at_1 height_2=some r):SndQ Tryz.prog 47 [.one (L.bx 2 t_0.ls),oI at_1,oI height_2] (Zar.rs r):=fun st=>
 sO Zar.B Tryz.func47 fun g0 w0 R hE=>by
  unfold Zar at h
  obtain ⟨x1,c1,h13⟩:=Zad h
  refine iteB h13 (fun c2 h14=>?_) (fun c2 h15=>?_)
  ·obtain rfl:=Zab h14
   exact af fol hE [.r [],.r [(2,q0 [oI x1])],.r [(3,wF),(4,wF),(5,wF)],.c true,.r []] [] 0 [] (aM (ZaM.snd c1) c2 c2 c2 c2 eT)
  ·refine iteB h15 (fun c3 h16=>?_) (fun c3 h17=>?_)
   ·obtain rfl:=Zab h16
    exact af fol hE [.r [],.r [(2,q0 [oI x1])],.r [(6,yF)],.c true,.r []] [] 0 [] (aM (ZaM.snd c1) c2 c2 c2 c2 c3)
   ·exact aq fol [.r [],.r [(2,q0 [oI x1])],.r [(6,yF)],.c false] [0,1,2,7] [] (aM (ZaM.snd c1) c2 c2 c2 c2 c3) (At.loop N (At.loopN (fun y:Int×Int=>Zar.p1.S t_0 y.1 height_2 y.2 st) (fun c J hc y h=>Zar.p1_ok (at_2:=y.1) (h_3:=y.2) h hE (fun at_2 h_3=>hc (at_2,h_3))) N (at_1,x1) h17))
noncomputable def Zds.B:Code:=Tryz.f28.body.getD .skip
noncomputable def Zds.rs (r:ZbK×Bool×LL):List CV:=[.agg r.1.ls,oB r.2.1]
noncomputable def Zds (N:Nat) (t_0:Option Nat) (at_1:Int) (st:LL):Option (ZbK×Bool×LL):=
 if (Option.isNone t_0)=true then
  some (ZbK.mk (Zag.mk 0 (List.replicate 32 0) (List.replicate 32 0) 0 0 0) (List.replicate 32 0) (-1) 0 (List.replicate 4 0),false,st)
 else
 optE t_0 fun i1=>
 getE (st[i1]?) Zdp fun x2 x3=>
 optE x2 fun i4=>
 getE (st[i4]?) ZbZ fun x5=>
 optE (ZbO N x5 at_1) fun (x6,x7)=>
 some (x6,x7,st)
theorem Zds.snd {t_0:Option Nat} {at_1:Int} {st:LL} {r:ZbK×Bool×LL} (h:Zds N t_0 at_1 st=some r):Snd Tryz.prog 28 [.one (L.ptr t_0),oI at_1] st (Zds.rs r) r.2.2:=
 sO Zds.B Tryz.func28 fun g0 w0 R hE=>by
  unfold Zds at h
  refine iteB h (fun c1 h1=>?_) (fun c1 h2=>?_)
  ·obtain rfl:=Zab h1
   exact af fol hE [.r [],.r [],.c true,.r []] [] 0 [] c1
  ·obtain ⟨i1,rfl,h3⟩:=Zad h2
   obtain ⟨x2,x3,c3,h4⟩:=Zdv h3
   obtain ⟨i4,rfl,h5⟩:=Zad h4
   obtain ⟨x5,c5,h6⟩:=ZbX h5
   obtain ⟨⟨x6,x7⟩,c6,h7⟩:=Zad h6
   obtain rfl:=Zab h7
   exact af fol hE [.r [],.r [],.c false,.r [(3,{oc:=[L.ptr (some i4),L.own true 1 x3]}),(5,{rs:=[.agg x6.ls,oB x7],m:=10,cv:=[.one (L.bx 87 x5.ls)]})]] [] 0 [] (aK c1 c3 (bO 87 c5 (ZaA.bv x5)) (ZbO.snd c6))
noncomputable def Zcx.B:Code:=Tryz.f98.body.getD .skip
noncomputable def Zcx.rs (r:Int×LL):List CV:=[oI r.1]
noncomputable def Zcx (N:Nat) (t_0:Option Nat) (at_1:Int) (st:LL):Option (Int×LL):=
 optE (Zds N t_0 at_1 st) fun (x1,x2,st3)=>
 if (!x2)=true then
  some ((-1),st3)
 else
 some (x1.Height,st3)
theorem Zcx.snd {t_0:Option Nat} {at_1:Int} {st:LL} {r:Int×LL} (h:Zcx N t_0 at_1 st=some r):Snd Tryz.prog 98 [.one (L.ptr t_0),oI at_1] st (Zcx.rs r) r.2:=
 sO Zcx.B Tryz.func98 fun g0 w0 R hE=>by
  unfold Zcx at h
  obtain ⟨⟨x1,x2,st3⟩,c1,h1⟩:=Zad h
  refine iteB h1 (fun c2 h2=>?_) (fun c2 h3=>?_)
  ·obtain rfl:=Zab h2
   exact af fol hE [.r [],.r [(2,{rs:=[.agg x1.ls,oB x2],st:=st3})],.r [],.c true,.r []] [] 0 [] (aI (Zds.snd c1) c2)
  ·obtain rfl:=Zab h3
   exact af fol hE [.r [],.r [(2,{rs:=[.agg x1.ls,oB x2],st:=st3})],.r [],.c false,.r []] [] 0 [] (aI (Zds.snd c1) c2)
noncomputable def ZaH.B:Code:=Tryz.f47.body.getD .skip
noncomputable def ZaH.rs (r:Int×LL):List CV:=[oI r.1]
noncomputable def ZaH.p2 (N:Nat) (c1_:((Option Nat)×Int×Int×LL)→Option (Int×LL)) (i26:Nat) (height_2 next_35 x33 x34:Int) (st25:LL):Option (Int×LL):=
 getE (st25[i26]?) Zdp fun x36 x37=>
 optE x36 fun i38=>
 getE (st25[i38]?) ZbZ fun x39=>
 optE (ZaM N (ZaJ.mk x39 x37) next_35) fun x40=>
 c1_ ((some i26),next_35,x40,st25)
noncomputable def ZaH.p1 (N:Nat) (height_2:Int) (c1_:((Option Nat)×Int×Int×LL)→Option (Int×LL)):((Option Nat)×Int×Int×LL)→Option (Int×LL):=fun (t_24,at_3,h_4,st25)=>
 if (decide (h_4>height_2))=true then
  optE t_24 fun i26=>
  getE (st25[i26]?) Zdp fun x27 x28=>
  optE x27 fun i29=>
  getE (st25[i29]?) ZbZ fun x30=>
  optE (Zbj N (ZaJ.mk x30 x28) at_3) fun (x31,x32)=>
  chk (0≤at_3)<|
  chk (at_3<(len x28))<|
  getE (x28[0+(Int.toNat at_3)]?) ZcP fun x33=>
  if (x33 != (-1))=true then
   optE (ZaM N (ZaJ.mk x30 x28) x33) fun x34=>
   if (decide (x34≥height_2))=true then
    ZaH.p2 N c1_ i26 height_2 x33 x33 x34 st25
   else
   ZaH.p2 N c1_ i26 height_2 x31.Ahead x33 x34 st25
  else
  optE (ZaM N (ZaJ.mk x30 x28) x31.Ahead) fun x41=>
  c1_ ((some i26),x31.Ahead,x41,st25)
 else
 some (at_3,st25)
noncomputable def ZaH (N:Nat) (t_0:Option Nat) (at_1 height_2:Int) (st:LL):Option (Int×LL):=
 optE (Zcx N t_0 at_1 st) fun (x1,st2)=>
 if (decide (height_2<0))=true then
  some ((-1),st2)
 else
 if (decide (height_2>x1))=true then
  some ((-1),st2)
 else
 loopN (ZaH.p1 N height_2) N (t_0,at_1,x1,st2)
noncomputable def ZaH.p2.S (i26:Nat) (height_2 next_35 x33 x34:Int) (st25:LL):S:=mkS 55 [(0,sP (some i26)),(2,sI height_2),(10,sI next_35),(43,sP (some i26)),(44,sI x33),(45,sI x34),(46,sI height_2),(47,.one (.l (L.bool (decide (x34≥height_2)))))] [] st25
noncomputable def ZaH.p1.S (t_24:Option Nat) (at_3 height_2 h_4:Int) (st25:LL):S:=mkS 55 [(0,sP t_24),(1,sI at_3),(2,sI height_2),(7,sI h_4)] [] st25
theorem ZaH.p2_ok {i26 height_2 next_35 x33 x34 st25 r c1_ J1} (h:ZaH.p2 N c1_ i26 height_2 next_35 x33 x34 st25=some r) (hE:En Tryz.f47 g0 w0 (ZaH.rs r) r.2 R) (hc1 : ∀t_24 at_3 h_4 st25,c1_ (t_24,at_3,h_4,st25)=some r→At g0 w0 (ZaH.p1.S t_24 at_3 height_2 h_4 st25) J1):At g0 w0 (ZaH.p2.S i26 height_2 next_35 x33 x34 st25) (XK Tryz.prog R [.c (csub ZaH.B [1,1,1,0,0,0,1,0,1,1,1]),.b 1,.h J1,.b 0,.c (csub ZaH.B [1,1,1,1])]):=by
 unfold ZaH.p2 at h
 obtain ⟨x36,x37,c35,h1⟩:=Zdv h
 obtain ⟨i38,rfl,h2⟩:=Zad h1
 obtain ⟨x39,c37,h3⟩:=ZbX h2
 obtain ⟨x40,c38,h4⟩:=Zad h3
 exact an fol [.r [(3,{rs:=[oI x40],m:=10,cv:=[.one (L.bx 2 (ZaJ.ls (ZaJ.mk x39 x37)))]})]] [0,1,2,7] [] (aI (bO 2 c35 ((bC 87 c37 (ZaA.bv x39) (bW bN)):BVs st25 [L.ptr (some i38),L.own true 1 x37] (ZaJ.ls (ZaJ.mk x39 x37)))) (ZaM.snd c38)) (hc1 (some i26) next_35 x40 st25 h4)
theorem ZaH.p1_ok {t_24 at_3 height_2 h_4 st25 r c1_ J1} (h:ZaH.p1 N height_2 c1_ (t_24,at_3,h_4,st25)=some r) (hE:En Tryz.f47 g0 w0 (ZaH.rs r) r.2 R) (hc1 : ∀t_24 at_3 h_4 st25,c1_ (t_24,at_3,h_4,st25)=some r→At g0 w0 (ZaH.p1.S t_24 at_3 height_2 h_4 st25) J1):At g0 w0 (ZaH.p1.S t_24 at_3 height_2 h_4 st25) (XK Tryz.prog R (.c (csub ZaH.B [1,1,1,0,0,0]) :: .h J1 :: [.b 0,.c (csub ZaH.B [1,1,1,1])])):=by
 unfold ZaH.p1 at h
 refine iteB h (fun c23 h5=>?_) (fun c23 h6=>?_)
 ·obtain ⟨i26,rfl,h7⟩:=Zad h5
  obtain ⟨x27,x28,c25,h8⟩:=Zdv h7
  obtain ⟨i29,rfl,h9⟩:=Zad h8
  obtain ⟨x30,c27,h10⟩:=ZbX h9
  obtain ⟨⟨x31,x32⟩,c28,h11⟩:=Zad h10
  obtain ⟨c29,c30,h12⟩:=ck2 h11
  obtain ⟨x33,c31,h13⟩:=Zco h12
  refine iteB h13 (fun c32 h14=>?_) (fun c32 h15=>?_)
  ·obtain ⟨x34,c33,h16⟩:=Zad h14
   refine iteB h16 (fun c34 h17=>?_) (fun c34 h18=>?_)
   ·exact aq fol [.r [],.c true,.r [(2,{rs:=[.agg x31.ls,oB x32],m:=10,cv:=[.one (L.bx 2 (ZaJ.ls (ZaJ.mk x30 x28)))]})],.r [],.r [(3,{oc:=[L.ptr (some i29),L.own true 1 x28]}),(6,{oc:=[L.ptr (some i29),L.own true 1 x28],oe:=[L.int .i64 x33]})],.r [(5,{rs:=[oI x34],m:=10,cv:=[.one (L.bx 2 (ZaJ.ls (ZaJ.mk x30 x28)))]})],.c true,.r [],.s 5] [0,2,10,43,44,45,46,47] [] (aO c23 (bO 2 c25 ((bC 87 c27 (ZaA.bv x30) (bW bN)):BVs st25 [L.ptr (some i29),L.own true 1 x28] (ZaJ.ls (ZaJ.mk x30 x28)))) (Zbj.snd c28) c25 c29 c30 c31 (aO c25 c32 c32 c32 (bO 2 c25 ((bC 87 c27 (ZaA.bv x30) (bW bN)):BVs st25 [L.ptr (some i29),L.own true 1 x28] (ZaJ.ls (ZaJ.mk x30 x28)))) (ZaM.snd c33) c32 (aJ c32 c32 c34))) (ZaH.p2_ok h17 hE hc1)
   ·exact aq fol [.r [],.c true,.r [(2,{rs:=[.agg x31.ls,oB x32],m:=10,cv:=[.one (L.bx 2 (ZaJ.ls (ZaJ.mk x30 x28)))]})],.r [],.r [(3,{oc:=[L.ptr (some i29),L.own true 1 x28]}),(6,{oc:=[L.ptr (some i29),L.own true 1 x28],oe:=[L.int .i64 x33]})],.r [(5,{rs:=[oI x34],m:=10,cv:=[.one (L.bx 2 (ZaJ.ls (ZaJ.mk x30 x28)))]})],.c false,.s 5] [0,2,10,43,44,45,46,47] [] (aO c23 (bO 2 c25 ((bC 87 c27 (ZaA.bv x30) (bW bN)):BVs st25 [L.ptr (some i29),L.own true 1 x28] (ZaJ.ls (ZaJ.mk x30 x28)))) (Zbj.snd c28) c25 c29 c30 c31 (aO c25 c32 c32 c32 (bO 2 c25 ((bC 87 c27 (ZaA.bv x30) (bW bN)):BVs st25 [L.ptr (some i29),L.own true 1 x28] (ZaJ.ls (ZaJ.mk x30 x28)))) (ZaM.snd c33) c32 (aJ c32 c32 c34))) (ZaH.p2_ok h18 hE hc1)
  ·obtain ⟨x41,c39,h19⟩:=Zad h15
   exact an fol [.r [],.c true,.r [(2,{rs:=[.agg x31.ls,oB x32],m:=10,cv:=[.one (L.bx 2 (ZaJ.ls (ZaJ.mk x30 x28)))]})],.r [],.r [(3,{oc:=[L.ptr (some i29),L.own true 1 x28]}),(6,{oc:=[L.ptr (some i29),L.own true 1 x28],oe:=[L.int .i64 x33]})],.r [(3,wF),(4,wF),(5,wF),(6,wF),(7,wF),(8,yF)],.c false,.r [(3,{rs:=[oI x41],m:=10,cv:=[.one (L.bx 2 (ZaJ.ls (ZaJ.mk x30 x28)))]})]] [0,1,2,7] [] (aO c23 (bO 2 c25 ((bC 87 c27 (ZaA.bv x30) (bW bN)):BVs st25 [L.ptr (some i29),L.own true 1 x28] (ZaJ.ls (ZaJ.mk x30 x28)))) (Zbj.snd c28) c25 c29 c30 c31 (aO c25 c32 c32 c32 c32 c32 c32 (aJ eF (bO 2 c25 ((bC 87 c27 (ZaA.bv x30) (bW bN)):BVs st25 [L.ptr (some i29),L.own true 1 x28] (ZaJ.ls (ZaJ.mk x30 x28)))) (ZaM.snd c39)))) (hc1 (some i26) x31.Ahead x41 st25 h19)
 ·obtain rfl:=Zab h6
  exact af fol hE [.r [],.c false,.r []] [] 0 [] c23
theorem ZaH.snd {t_0:Option Nat} {at_1 height_2:Int} {st:LL} {r:Int×LL} (h:ZaH N t_0 at_1 height_2 st=some r):Snd Tryz.prog 47 [.one (L.ptr t_0),oI at_1,oI height_2] st (ZaH.rs r) r.2:=
 sO ZaH.B Tryz.func47 fun g0 w0 R hE=>by
  unfold ZaH at h
  obtain ⟨⟨x1,st2⟩,c1,h20⟩:=Zad h
  refine iteB h20 (fun c2 h21=>?_) (fun c2 h22=>?_)
  ·obtain rfl:=Zab h21
   exact af fol hE [.r [],.r [(2,{rs:=[oI x1],st:=st2})],.r [(3,wF),(4,wF),(5,wF)],.c true,.r []] [] 0 [] (aM (Zcx.snd c1) c2 c2 c2 c2 eT)
  ·refine iteB h22 (fun c3 h23=>?_) (fun c3 h24=>?_)
   ·obtain rfl:=Zab h23
    exact af fol hE [.r [],.r [(2,{rs:=[oI x1],st:=st2})],.r [(6,yF)],.c true,.r []] [] 0 [] (aM (Zcx.snd c1) c2 c2 c2 c2 c3)
   ·exact aq fol [.r [],.r [(2,{rs:=[oI x1],st:=st2})],.r [(6,yF)],.c false] [0,1,2,7] [] (aM (Zcx.snd c1) c2 c2 c2 c2 c3) (At.loop N (At.loopN (fun y:(Option Nat)×Int×Int×LL=>ZaH.p1.S y.1 y.2.1 height_2 y.2.2.1 y.2.2.2) (fun c J hc y h=>ZaH.p1_ok (t_24:=y.1) (at_3:=y.2.1) (h_4:=y.2.2.1) (st25:=y.2.2.2) h hE (fun t_24 at_3 h_4 st25=>hc (t_24,at_3,h_4,st25))) N (t_0,at_1,x1,st2) h24))
noncomputable def ZbI.B:Code:=Tryz.f25.body.getD .skip
noncomputable def ZbI.rs (r:Int×Int×Int×LL):List CV:=[oI r.1,oI r.2.1,oI r.2.2.1]
noncomputable def ZbI.p1 (N:Nat) (x4 x5 x6:Int) (st16:LL):Option (Int×Int×Int×LL):=
 some (x4,x5,x6,st16)
noncomputable def ZbI (N:Nat) (t_0:Option Nat) (h_1:Zag) (now_2:Int) (st:LL):Option (Int×Int×Int×LL):=
 if (Option.isNone t_0)=true then
  some ((-1),0,2,st)
 else
 optE t_0 fun i1=>
 getE (st[i1]?) Zdp fun x2 x3=>
 optE (ZaB N x2 h_1 now_2 st) fun (x4,x5,x6,st7)=>
 if (x6==0)=true then
  getE (st7[i1]?) Zdp fun x8 x9=>
  if (x4==(len x9))=true then
   optE x8 fun i10=>
   getE (st7[i10]?) ZbZ fun x11=>
   optE (ZbO N x11 x4) fun (x12,x13)=>
   optE (Zdy N x12.Height) fun x14=>
   optE (Zar N (ZaJ.mk x11 x9) x12.Ahead x14) fun x15=>
   chk (List.length (x9 ++ [[L.int .i64 x15]])*8≤140737488355328)<|
   ZbI.p1 N x4 x5 x6 (List.set (List.set st7 i1 [L.ptr (some i10),L.gone]) i1 [L.ptr (some i10),L.own true 1 (x9 ++ [[L.int .i64 x15]])])
  else
  ZbI.p1 N x4 x5 x6 st7
 else
 some (x4,x5,x6,st7)
noncomputable def ZbI.p1.S (x4 x5 x6:Int) (st16:LL):S:=mkS 66 [(9,sI x4),(10,sI x5),(11,sI x6)] [] st16
theorem ZbI.p1_ok {x4 x5 x6 st16 r} (h:ZbI.p1 N x4 x5 x6 st16=some r) (hE:En Tryz.f25 g0 w0 (ZbI.rs r) r.2.2.2 R):At g0 w0 (ZbI.p1.S x4 x5 x6 st16) (XK Tryz.prog R [.c (csub ZbI.B [1,1,1,1])]):=by
 unfold ZbI.p1 at h
 obtain rfl:=Zab h
 exact af fol hE [.r []] [] 0 [] trivial
theorem ZbI.snd {t_0:Option Nat} {h_1:Zag} {now_2:Int} {st:LL} {r:Int×Int×Int×LL} (h:ZbI N t_0 h_1 now_2 st=some r):Snd Tryz.prog 25 [.one (L.ptr t_0),.agg h_1.ls,oI now_2] st (ZbI.rs r) r.2.2.2:=
 sO ZbI.B Tryz.func25 fun g0 w0 R hE=>by
  unfold ZbI at h
  refine iteB h (fun c1 h1=>?_) (fun c1 h2=>?_)
  ·obtain rfl:=Zab h1
   exact af fol hE [.r [],.r [],.c true,.r []] [] 0 [] c1
  ·obtain ⟨i1,rfl,h3⟩:=Zad h2
   obtain ⟨x2,x3,c3,h4⟩:=Zdv h3
   obtain ⟨⟨x4,x5,x6,st7⟩,c4,h5⟩:=Zad h4
   refine iteB h5 (fun c5 h6=>?_) (fun c5 h7=>?_)
   ·obtain ⟨x8,x9,c6,h8⟩:=Zdv h6
    refine iteB h8 (fun c7 h9=>?_) (fun c7 h10=>?_)
    ·obtain ⟨i10,rfl,h11⟩:=Zad h9
     obtain ⟨x11,c9,h12⟩:=ZbX h11
     obtain ⟨⟨x12,x13⟩,c10,h13⟩:=Zad h12
     obtain ⟨x14,c11,h14⟩:=Zad h13
     obtain ⟨x15,c12,h15⟩:=Zad h14
     obtain ⟨c13,h16⟩:=ZaS h15
     exact aqd fol [.r [],.r [],.c false,.d {ds:=[(3,{oc:=[L.ptr x2,L.own true 1 x3]}),(6,{rs:=[oI x4,oI x5,oI x6],st:=st7})],hv:=64,Hs:=[64]},.r [(7,{oc:=[L.ptr (some i10),L.own true 1 x9]})],.c true,.r [(3,{oc:=[L.ptr (some i10),L.own true 1 x9]}),(5,{rs:=[.agg x12.ls,oB x13],m:=10,cv:=[.one (L.bx 87 x11.ls)]})],.d {ds:=[(4,{oc:=[L.ptr (some i10),L.own true 1 x9]}),(10,q1 [oI x14]),(11,{rs:=[oI x15],m:=10,cv:=[.one (L.bx 2 (ZaJ.ls (ZaJ.mk x11 x9)))]}),(13,{oe:=[L.ptr (some i10),L.own true 1 x9]}),(16,{oc:=[L.ptr (some i10),L.gone],mv:=[60]})],hv:=79872,Hs:=[2048,6144,14336,79872]},.s 1] [9,10,11] [] (aO c1 c3 (ZaB.snd c4) c5 c5 c5 c5 (aO c5 c6 c5 c5 c5 c7 c6 (aO (bO 87 c9 (ZaA.bv x11)) (ZbO.snd c10) c6 c6 c6 (Zdy.snd c11) (bO 2 c6 ((bC 87 c9 (ZaA.bv x11) (bW bN)):BVs st7 [L.ptr (some i10),L.own true 1 x9] (ZaJ.ls (ZaJ.mk x11 x9)))) (aO (Zar.snd c12) z0 (eN (List.length x9)) c6 z0 (eN (1)) c13 (aJ (Zal c6 [L.ptr (some i10),L.gone]) z0 (eN (List.length (x9 ++ [[L.int .i64 x15]])))))))) (ZbI.p1_ok h16 hE)
    ·exact aqd fol [.r [],.r [],.c false,.d {ds:=[(3,{oc:=[L.ptr x2,L.own true 1 x3]}),(6,{rs:=[oI x4,oI x5,oI x6],st:=st7})],hv:=64,Hs:=[64]},.r [(7,{oc:=[L.ptr x8,L.own true 1 x9]})],.c false,.s 1] [9,10,11] [] (aO c1 c3 (ZaB.snd c4) c5 c5 c5 c5 (aM c5 c6 c5 c5 c5 c7)) (ZbI.p1_ok h10 hE)
   ·obtain rfl:=Zab h7
    exact afd fol hE [.r [],.r [],.c false,.d {ds:=[(3,{oc:=[L.ptr x2,L.own true 1 x3]}),(6,{rs:=[oI x4,oI x5,oI x6],st:=st7})],hv:=64,Hs:=[64]},.r [(3,wF),(4,wF),(5,wF),(6,wF),(7,wF),(8,wF),(9,wF),(10,yF)],.c false,.r []] [] 0 [] (aO c1 c3 (ZaB.snd c4) c5 c5 c5 c5 (aL c5 c5 c5 c5 eF))
noncomputable def Zbg.B:Code:=Tryz.f143.body.getD .skip
noncomputable def Zbg.rs (r:Int):List CV:=[oI r]
noncomputable def Zbg.p1 (N:Nat) (a_0:Zaa) (id_1_0:List Int) (c1_:Int→Option Int):Int→Option Int:=fun v1=>
 if (decide (v1<(len a_0.Ids)))=true then
  chk (0≤v1)<|
  getE (a_0.Ids[Int.toNat v1]?) Zel fun x2=>
  if (x2==id_1_0)=true then
   some v1
  else
  c1_ (w64 (v1+1))
 else
 some (-1)
noncomputable def Zbg (N:Nat) (a_0:Zaa) (id_1_0:List Int):Option Int:=
 loopN (Zbg.p1 N a_0 id_1_0) N 0
noncomputable def Zbg.p1.S (a_0:Zaa) (v1:Int) (id_1_0:List Int) (st:LL):S:=mkS 22 [(3,sA 3),(10,sV 32 a_0.Ids),(11,sI (len a_0.Ids)),(12,sI v1)] [(3,.cells [L.arr .u8 32 id_1_0])] st
theorem Zbg.p1_ok {a_0 v1 id_1_0 st r c1_ J1} (h:Zbg.p1 N a_0 id_1_0 c1_ v1=some r) (hE:En Tryz.f143 g0 w0 (Zbg.rs r) st R) (hc1 : ∀v1,c1_ v1=some r→At g0 w0 (Zbg.p1.S a_0 v1 id_1_0 st) J1):At g0 w0 (Zbg.p1.S a_0 v1 id_1_0 st) (XK Tryz.prog R (.c (csub Zbg.B [1,0,1,0,0]) :: .h J1 :: [.b 0,.c (csub Zbg.B [1,1])])):=by
 unfold Zbg.p1 at h
 refine iteB h (fun c1 h1=>?_) (fun c1 h2=>?_)
 ·obtain ⟨c2,h3⟩:=ZaS h1
  obtain ⟨x2,c3,h4⟩:=ZdP h3
  refine iteB h4 (fun c4 h5=>?_) (fun c4 h6=>?_)
  ·obtain rfl:=Zab h5
   exact af fol hE [.r [],.c true,.r [(2,{oe:=[L.arr .u8 32 x2]})],.r [],.c true,.r []] [] 0 [] (aL c1 c2 (oD c1) c3 c4)
  ·exact an fol [.r [],.c true,.r [(2,{oe:=[L.arr .u8 32 x2]})],.r [],.c false,.r []] [3,10,11,12] [3] (aL c1 c2 (oD c1) c3 c4) (hc1 (w64 (v1+1)) h6)
 ·obtain rfl:=Zab h2
  exact af fol hE [.r [],.c false,.r []] [] 0 [] c1
theorem Zbg.snd {a_0:Zaa} {id_1_0:List Int} {r:Int} (h:Zbg N a_0 id_1_0=some r):SndQ Tryz.prog 143 [.one (L.bx 88 a_0.ls),.agg [L.arr .u8 32 id_1_0]] (Zbg.rs r):=fun st=>
 sO Zbg.B Tryz.func143 fun g0 w0 R hE=>by
  unfold Zbg at h
  exact aq fol [.r [],.r [(3,{oe:=a_0.ls})]] [3,10,11,12] [3] (eO a_0.ls) (At.loop N (At.loopN (fun y:Int=>Zbg.p1.S a_0 y id_1_0 st) (fun c J hc y h=>Zbg.p1_ok h hE (fun v1=>hc v1)) N 0 h))
noncomputable def ZaP.B:Code:=Tryz.f44.body.getD .skip
noncomputable def ZaP.rs (r:LL):List CV:=[.row true 68 r]
noncomputable def ZaP.p1 (N:Nat) (a_0:Zaa) (c1_:(LL×Int)→Option LL):(LL×Int)→Option LL:=fun (out_4,k_1)=>
 if (decide (k_1≥0))=true then
  chk (0≤k_1)<|
  chk (k_1<(len a_0.List_))<|
  getE (a_0.List_[Int.toNat k_1]?) ZcL fun x5=>
  chk (List.length ([x5.ls]++out_4)*96≤140737488355328)<|
  chk (k_1<(len a_0.Ahead))<|
  getE (a_0.Ahead[Int.toNat k_1]?) ZcP fun x6=>
  c1_ ([x5.ls]++out_4,x6)
 else
 some out_4
noncomputable def ZaP (N:Nat) (a_0:Zaa) (at_1:Int):Option LL:=
 loopN (ZaP.p1 N a_0) N ([],at_1)
noncomputable def ZaP.p1.S (a_0:Zaa) (out_4:LL) (k_1:Int) (st:LL):S:=mkS 28 [(0,.one (.l (L.bx 88 a_0.ls))),(5,.one (.h (.row 5 0) 68 0 (List.length out_4))),(6,sI k_1)] [(5,.row 0 true 68 out_4)] st
theorem ZaP.p1_ok {a_0 out_4 k_1 st r c1_ J1} (h:ZaP.p1 N a_0 c1_ (out_4,k_1)=some r) (hE:En Tryz.f44 g0 w0 (ZaP.rs r) st R) (hc1 : ∀out_4 k_1,c1_ (out_4,k_1)=some r→At g0 w0 (ZaP.p1.S a_0 out_4 k_1 st) J1):At g0 w0 (ZaP.p1.S a_0 out_4 k_1 st) (XK Tryz.prog R (.c (csub ZaP.B [1,1,0,1,0,0]) :: .h J1 :: [.b 0,.c (csub ZaP.B [1,1,1])])):=by
 unfold ZaP.p1 at h
 refine iteB h (fun c8 h1=>?_) (fun c8 h2=>?_)
 ·obtain ⟨c9,c10,h3⟩:=ck2 h1
  obtain ⟨x5,c11,h4⟩:=ZcJ h3
  obtain ⟨c12,c13,h5⟩:=ck2 h4
  obtain ⟨x6,c14,h6⟩:=Zco h5
  exact an fol [.r [],.c true,.r [(3,{oe:=a_0.ls}),(6,{oe:=x5.ls}),(10,{m:=4})],.r [(3,{oe:=a_0.ls}),(6,{oe:=[L.int .i64 x6]})]] [0,5,6] [5] (aO c8 (eO a_0.ls) c9 c10 c11 z0 (eN (1)) (aN z0 (eN (List.length out_4)) c12 (eO a_0.ls) c9 c13 c14)) (hc1 ([x5.ls]++out_4) x6 h6)
 ·obtain rfl:=Zab h2
  exact af fol hE [.r [],.c false,.r []] [] 0 [0] (aJ c8 z0 (eN (List.length out_4)))
theorem ZaP.snd {a_0:Zaa} {at_1:Int} {r:LL} (h:ZaP N a_0 at_1=some r):SndQ Tryz.prog 44 [.one (L.bx 88 a_0.ls),oI at_1] (ZaP.rs r):=fun st=>
 sO ZaP.B Tryz.func44 fun g0 w0 R hE=>by
  unfold ZaP at h
  exact aq fol [.r [(0,{m:=2})],.r [(0,{m:=1})],.r []] [0,5,6] [5] trivial (At.loop N (At.loopN (fun y:LL×Int=>ZaP.p1.S a_0 y.1 y.2 st) (fun c J hc y h=>ZaP.p1_ok (out_4:=y.1) (k_1:=y.2) h hE (fun out_4 k_1=>hc (out_4,k_1))) N ([],at_1) h))
noncomputable def Zaq.B:Code:=Tryz.f220.body.getD .skip
noncomputable def Zaq.rs (r:(List Int)×Bool):List CV:=[.agg [L.arr .u64 4 r.1],oB r.2]
noncomputable def Zaq.p2 (N:Nat) (c1_:(Int×Int×(List Int))→Option ((List Int)×Bool)) (by_1 over_2 c_1 i_2 w_12:Int) (n_0_0 d_11:List Int):Option ((List Int)×Bool):=
 chk (0≤i_2)<|
 chk (i_2<10)<|
 c1_ (w64 (Int.tdiv (w64 ((w64 (w_12*by_1))+c_1)) 4294967296),w64 (i_2+1),List.set d_11 (Int.toNat i_2) (Int.tmod (w64 ((w64 (w_12*by_1))+c_1)) 4294967296))
noncomputable def Zaq.p4 (N:Nat) (q_17:List Int) (c4_:(Int×(List Int))→Option ((List Int)×Bool)):(Int×(List Int))→Option ((List Int)×Bool):=fun (i_18,out_19)=>
 if (decide (i_18<8))=true then
  chk (0≤(w64 (Int.tdiv i_18 2)))<|
  chk ((w64 (Int.tdiv i_18 2))<4)<|
  chk (0≤i_18)<|
  chk (i_18<10)<|
  chk (0≤(v64 (w64 (32*(Int.tmod i_18 2)))))<|
  c4_ (w64 (i_18+1),List.set out_19 (Int.toNat (w64 (Int.tdiv i_18 2))) (v64 ((List.getD out_19 (Int.toNat (w64 (Int.tdiv i_18 2))) 0)+(shlOf .u64 (v64 (List.getD q_17 (Int.toNat i_18) 0)) (v64 (w64 (32*(Int.tmod i_18 2))))))))
 else
 if ((List.getD q_17 8 0)==0)=true then
  some (out_19,(List.getD q_17 9 0)==0)
 else
 some (out_19,false)
noncomputable def Zaq.p3 (N:Nat) (over_2:Int) (d_11:List Int) (c3_:(Int×Int×(List Int))→Option ((List Int)×Bool)):(Int×Int×(List Int))→Option ((List Int)×Bool):=fun (rest_13,i_14,q_17)=>
 if (decide (i_14≥0))=true then
  chk (0≤i_14)<|
  chk (i_14<10)<|
  chk (over_2≠0)<|
  c3_ (Int.tmod (w64 ((w64 (rest_13*4294967296))+(List.getD d_11 (Int.toNat i_14) 0))) over_2,w64 (i_14-1),List.set q_17 (Int.toNat i_14) (w64 (Int.tdiv (w64 ((w64 (rest_13*4294967296))+(List.getD d_11 (Int.toNat i_14) 0))) over_2)))
 else
 loopN (Zaq.p4 N q_17) N (0,List.replicate 4 0)
noncomputable def Zaq.p1 (N:Nat) (by_1 over_2:Int) (n_0_0:List Int) (c1_:(Int×Int×(List Int))→Option ((List Int)×Bool)):(Int×Int×(List Int))→Option ((List Int)×Bool):=fun (c_1,i_2,d_11)=>
 if (decide (i_2<10))=true then
  if (decide (i_2<8))=true then
   chk (0≤(w64 (Int.tdiv i_2 2)))<|
   chk ((w64 (Int.tdiv i_2 2))<4)<|
   chk (0≤(v64 (w64 (32*(Int.tmod i_2 2)))))<|
   Zaq.p2 N c1_ by_1 over_2 c_1 i_2 (w64 (Int.tmod (shrOf .u64 (List.getD n_0_0 (Int.toNat (w64 (Int.tdiv i_2 2))) 0) (v64 (w64 (32*(Int.tmod i_2 2))))) 4294967296)) n_0_0 d_11
  else
  Zaq.p2 N c1_ by_1 over_2 c_1 i_2 0 n_0_0 d_11
 else
 loopN (Zaq.p3 N over_2 d_11) N (0,9,List.replicate 10 0)
noncomputable def Zaq (N:Nat) (n_0_0:List Int) (by_1 over_2:Int):Option ((List Int)×Bool):=
 loopN (Zaq.p1 N by_1 over_2 n_0_0) N (0,0,List.replicate 10 0)
noncomputable def Zaq.p2.S (by_1 over_2 c_1 i_2 w_12:Int) (n_0_0 d_11:List Int) (st:LL):S:=mkS 96 [(1,sI by_1),(2,sI over_2),(3,sA 3),(6,sA 6),(8,sA 8),(9,sI c_1),(10,sI i_2),(11,sI w_12)] [(3,.cells [L.arr .u64 4 n_0_0]),(6,.cells [L.arr .u64 4 (List.replicate 4 0)]),(8,.cells [L.arr .i64 10 d_11])] st
noncomputable def Zaq.p4.S (i_18:Int) (q_17 out_19:List Int) (st:LL):S:=mkS 96 [(6,sA 6),(14,sA 14),(17,sA 17),(18,sI i_18)] [(6,.cells [L.arr .u64 4 (List.replicate 4 0)]),(14,.cells [L.arr .i64 10 q_17]),(17,.cells [L.arr .u64 4 out_19])] st
noncomputable def Zaq.p3.S (over_2 rest_13 i_14:Int) (d_11 q_17:List Int) (st:LL):S:=mkS 96 [(2,sI over_2),(6,sA 6),(8,sA 8),(13,sI rest_13),(14,sA 14),(15,sI i_14)] [(6,.cells [L.arr .u64 4 (List.replicate 4 0)]),(8,.cells [L.arr .i64 10 d_11]),(14,.cells [L.arr .i64 10 q_17])] st
noncomputable def Zaq.p1.S (by_1 over_2 c_1 i_2:Int) (n_0_0 d_11:List Int) (st:LL):S:=mkS 96 [(1,sI by_1),(2,sI over_2),(3,sA 3),(6,sA 6),(8,sA 8),(9,sI c_1),(10,sI i_2)] [(3,.cells [L.arr .u64 4 n_0_0]),(6,.cells [L.arr .u64 4 (List.replicate 4 0)]),(8,.cells [L.arr .i64 10 d_11])] st
theorem Zaq.p2_ok {by_1 over_2 c_1 i_2 w_12 n_0_0 d_11 st r c1_ J1} (h:Zaq.p2 N c1_ by_1 over_2 c_1 i_2 w_12 n_0_0 d_11=some r) (hE:En Tryz.f220 g0 w0 (Zaq.rs r) st R) (hc1 : ∀c_1 i_2 d_11,c1_ (c_1,i_2,d_11)=some r→At g0 w0 (Zaq.p1.S by_1 over_2 c_1 i_2 n_0_0 d_11 st) J1):At g0 w0 (Zaq.p2.S by_1 over_2 c_1 i_2 w_12 n_0_0 d_11 st) (XK Tryz.prog R [.c (csub Zaq.B [1,1,1,0,1,0,0,1,0,0,1,1]),.b 1,.c (csub Zaq.B [1,1,1,0,1,0,0,1,1]),.h J1,.b 0,.c (csub Zaq.B [1,1,1,1])]):=by
 unfold Zaq.p2 at h
 obtain ⟨c49,c50,h1⟩:=ck2 h
 exact an fol [.r [],.r [],.r [],.r []] [1,2,3,6,8,9,10] [3,6,8] (aK (neI 4294967296) c49 c50 (neI 4294967296)) (hc1 (w64 (Int.tdiv (w64 ((w64 (w_12*by_1))+c_1)) 4294967296)) (w64 (i_2+1)) (List.set d_11 (Int.toNat i_2) (Int.tmod (w64 ((w64 (w_12*by_1))+c_1)) 4294967296)) h1)
theorem Zaq.p4_ok {i_18 q_17 out_19 st r c4_ J4} (h:Zaq.p4 N q_17 c4_ (i_18,out_19)=some r) (hE:En Tryz.f220 g0 w0 (Zaq.rs r) st R) (hc4 : ∀i_18 out_19,c4_ (i_18,out_19)=some r→At g0 w0 (Zaq.p4.S i_18 q_17 out_19 st) J4):At g0 w0 (Zaq.p4.S i_18 q_17 out_19 st) (XK Tryz.prog R (.c (csub Zaq.B [1,1,1,1,1,1,1,1,0,1,0,0]) :: .h J4 :: [.b 4,.c (csub Zaq.B [1,1,1,1,1,1,1,1,1])])):=by
 unfold Zaq.p4 at h
 refine iteB h (fun c80 h2=>?_) (fun c80 h3=>?_)
 ·obtain ⟨c81,c82,c83,c84,c85,h4⟩:=ck5 h2
  exact and_ fol [.r [],.c true,.d {ds:=[],hv:=131072,Hs:=[131072]},.r []] [6,14,17,18] [6,14,17] (aO c80 (neI 2) (neI 2) c81 c82 c83 c84 (aK (neI 2) c85 c81 c82)) (hc4 (w64 (i_18+1)) (List.set out_19 (Int.toNat (w64 (Int.tdiv i_18 2))) (v64 ((List.getD out_19 (Int.toNat (w64 (Int.tdiv i_18 2))) 0)+(shlOf .u64 (v64 (List.getD q_17 (Int.toNat i_18) 0)) (v64 (w64 (32*(Int.tmod i_18 2)))))))) h4)
 ·refine iteB h3 (fun c86 h5=>?_) (fun c86 h6=>?_)
  ·obtain rfl:=Zab h5
   exact afd fol hE [.r [],.c false,.d {ds:=[],hv:=512,Hs:=[512]}] [] 0 [] (aI c80 (ix 8 10 (aI c86 (ix 9 10 (aI c86 (ix 9 10 (aM c86 c86 c86 c86 c86 c86)))))))
  ·obtain rfl:=Zab h6
   exact afd fol hE [.r [],.c false,.d {ds:=[(5,wF),(6,wF),(7,wF),(8,yF)],hv:=512,Hs:=[512]}] [] 0 [] (aI c80 (ix 8 10 (aO c86 c86 c86 c86 c86 c86 c86 c86)))
theorem Zaq.p3_ok {over_2 rest_13 i_14 d_11 q_17 st r c3_ J3} (h:Zaq.p3 N over_2 d_11 c3_ (rest_13,i_14,q_17)=some r) (hE:En Tryz.f220 g0 w0 (Zaq.rs r) st R) (hc3 : ∀rest_13 i_14 q_17,c3_ (rest_13,i_14,q_17)=some r→At g0 w0 (Zaq.p3.S over_2 rest_13 i_14 d_11 q_17 st) J3):At g0 w0 (Zaq.p3.S over_2 rest_13 i_14 d_11 q_17 st) (XK Tryz.prog R (.c (csub Zaq.B [1,1,1,1,1,1,0,1,0,0]) :: .h J3 :: [.b 2,.c (csub Zaq.B [1,1,1,1,1,1,1])])):=by
 unfold Zaq.p3 at h
 refine iteB h (fun c69 h7=>?_) (fun c69 h8=>?_)
 ·obtain ⟨c70,c71,c72,h9⟩:=ck3 h7
  exact an fol [.r [],.c true,.r [],.r [],.r [],.r []] [2,6,8,13,14,15] [6,8,14] (aN c69 c70 c71 c72 c70 c71 c72) (hc3 (Int.tmod (w64 ((w64 (rest_13*4294967296))+(List.getD d_11 (Int.toNat i_14) 0))) over_2) (w64 (i_14-1)) (List.set q_17 (Int.toNat i_14) (w64 (Int.tdiv (w64 ((w64 (rest_13*4294967296))+(List.getD d_11 (Int.toNat i_14) 0))) over_2))) h9)
 ·exact aq fol [.r [],.c false,.r [],.r []] [6,14,17,18] [6,14,17] c69 (At.loop N (At.loopN (fun y:Int×(List Int)=>Zaq.p4.S y.1 q_17 y.2 st) (fun c J hc y h=>Zaq.p4_ok (i_18:=y.1) (out_19:=y.2) h hE (fun i_18 out_19=>hc (i_18,out_19))) N (0,List.replicate 4 0) h8))
theorem Zaq.p1_ok {by_1 over_2 c_1 i_2 n_0_0 d_11 st r c1_ J1} (h:Zaq.p1 N by_1 over_2 n_0_0 c1_ (c_1,i_2,d_11)=some r) (hE:En Tryz.f220 g0 w0 (Zaq.rs r) st R) (hc1 : ∀c_1 i_2 d_11,c1_ (c_1,i_2,d_11)=some r→At g0 w0 (Zaq.p1.S by_1 over_2 c_1 i_2 n_0_0 d_11 st) J1):At g0 w0 (Zaq.p1.S by_1 over_2 c_1 i_2 n_0_0 d_11 st) (XK Tryz.prog R (.c (csub Zaq.B [1,1,1,0,1,0,0]) :: .h J1 :: [.b 0,.c (csub Zaq.B [1,1,1,1])])):=by
 unfold Zaq.p1 at h
 refine iteB h (fun c44 h10=>?_) (fun c44 h11=>?_)
 ·refine iteB h10 (fun c45 h12=>?_) (fun c45 h13=>?_)
  ·obtain ⟨c46,c47,c48,h14⟩:=ck3 h12
   exact aq fol [.r [],.c true,.r [],.r [],.c true,.r [],.s 6] [1,2,3,6,8,9,10,11] [3,6,8] (aO c44 c45 (neI 2) c46 c47 (neI 2) c48 (neI 4294967296)) (Zaq.p2_ok h14 hE hc1)
  ·exact aq fol [.r [],.c true,.r [],.r [],.c false,.s 6] [1,2,3,6,8,9,10,11] [3,6,8] (aI c44 c45) (Zaq.p2_ok h13 hE hc1)
 ·exact aq fol [.r [],.c false,.r [],.r [],.r []] [2,6,8,13,14,15] [6,8,14] c44 (At.loop N (At.loopN (fun y:Int×Int×(List Int)=>Zaq.p3.S over_2 y.1 y.2.1 d_11 y.2.2 st) (fun c J hc y h=>Zaq.p3_ok (rest_13:=y.1) (i_14:=y.2.1) (q_17:=y.2.2) h hE (fun rest_13 i_14 q_17=>hc (rest_13,i_14,q_17))) N (0,9,List.replicate 10 0) h11))
theorem Zaq.snd {n_0_0:List Int} {by_1 over_2:Int} {r:(List Int)×Bool} (h:Zaq N n_0_0 by_1 over_2=some r):SndQ Tryz.prog 220 [.agg [L.arr .u64 4 n_0_0],oI by_1,oI over_2] (Zaq.rs r):=fun st=>
 sO Zaq.B Tryz.func220 fun g0 w0 R hE=>by
  unfold Zaq at h
  exact aq fol [.r [],.r [],.r [],.r []] [1,2,3,6,8,9,10] [3,6,8] trivial (At.loop N (At.loopN (fun y:Int×Int×(List Int)=>Zaq.p1.S by_1 over_2 y.1 y.2.1 n_0_0 y.2.2 st) (fun c J hc y h=>Zaq.p1_ok (c_1:=y.1) (i_2:=y.2.1) (d_11:=y.2.2) h hE (fun c_1 i_2 d_11=>hc (c_1,i_2,d_11))) N (0,0,List.replicate 10 0) h))
noncomputable def Zat.B:Code:=Tryz.f221.body.getD .skip
noncomputable def Zat.rs (r:Int):List CV:=[oI r]
noncomputable def Zat.p2 (N:Nat) (c1_:(Int×Int)→Option Int) (size_4 i_2:Int) (n_0_0:List Int):Option Int:=
 c1_ (size_4,w64 (i_2+1))
noncomputable def Zat.p4 (N:Nat) (size_8 word_9:Int):Option Int:=
 some (w64 ((w64 (size_8*16777216))+word_9))
noncomputable def Zat.p3 (N:Nat) (size_1 word_7:Int):Option Int:=
 if (decide (word_7≥8388608))=true then
  Zat.p4 N (w64 (size_1+1)) (w64 (Int.tdiv word_7 256))
 else
 Zat.p4 N size_1 word_7
noncomputable def Zat.p1 (N:Nat) (n_0_0:List Int) (c1_:(Int×Int)→Option Int):(Int×Int)→Option Int:=fun (size_1,i_2)=>
 if (decide (i_2<32))=true then
  optE (Zaj N n_0_0 (w64 ((-8)*i_2))) fun x3=>
  if (decide ((Int.tmod (List.getD x3 0 0) 256)>0))=true then
   Zat.p2 N c1_ (w64 (i_2+1)) i_2 n_0_0
  else
  Zat.p2 N c1_ size_1 i_2 n_0_0
 else
 optE (Zaj N n_0_0 (w64 (8*(w64 (3-size_1))))) fun x5=>
 if (decide (size_1>3))=true then
  optE (Zaj N n_0_0 (w64 ((-8)*(w64 (size_1-3))))) fun x6=>
  Zat.p3 N size_1 (w64 (Int.tmod (List.getD x6 0 0) 16777216))
 else
 Zat.p3 N size_1 (w64 (Int.tmod (List.getD x5 0 0) 16777216))
noncomputable def Zat (N:Nat) (n_0_0:List Int):Option Int:=
 loopN (Zat.p1 N n_0_0) N (0,0)
noncomputable def Zat.p2.S (size_4 i_2:Int) (n_0_0:List Int) (st:LL):S:=mkS 49 [(1,sA 1),(3,sI size_4),(4,sI i_2)] [(1,.cells [L.arr .u64 4 n_0_0])] st
noncomputable def Zat.p4.S (size_8 word_9:Int) (st:LL):S:=mkS 49 [(3,sI size_8),(6,sI word_9)] [] st
noncomputable def Zat.p3.S (size_1 word_7:Int) (st:LL):S:=mkS 49 [(3,sI size_1),(6,sI word_7)] [] st
noncomputable def Zat.p1.S (size_1 i_2:Int) (n_0_0:List Int) (st:LL):S:=mkS 49 [(1,sA 1),(3,sI size_1),(4,sI i_2)] [(1,.cells [L.arr .u64 4 n_0_0])] st
theorem Zat.p2_ok {size_4 i_2 n_0_0 st r c1_ J1} (h:Zat.p2 N c1_ size_4 i_2 n_0_0=some r) (hE:En Tryz.f221 g0 w0 (Zat.rs r) st R) (hc1 : ∀size_1 i_2,c1_ (size_1,i_2)=some r→At g0 w0 (Zat.p1.S size_1 i_2 n_0_0 st) J1):At g0 w0 (Zat.p2.S size_4 i_2 n_0_0 st) (XK Tryz.prog R [.c (csub Zat.B [1,1,0,1,0,0,1,1]),.h J1,.b 0,.c (csub Zat.B [1,1,1])]):=by
 unfold Zat.p2 at h
 exact an fol [.r []] [1,3,4] [1] trivial (hc1 size_4 (w64 (i_2+1)) h)
theorem Zat.p4_ok {size_8 word_9 st r} (h:Zat.p4 N size_8 word_9=some r) (hE:En Tryz.f221 g0 w0 (Zat.rs r) st R):At g0 w0 (Zat.p4.S size_8 word_9 st) (XK Tryz.prog R [.c (csub Zat.B [1,1,1,1,1,1])]):=by
 unfold Zat.p4 at h
 obtain rfl:=Zab h
 exact af fol hE [.r []] [] 0 [] trivial
theorem Zat.p3_ok {size_1 word_7 st r} (h:Zat.p3 N size_1 word_7=some r) (hE:En Tryz.f221 g0 w0 (Zat.rs r) st R):At g0 w0 (Zat.p3.S size_1 word_7 st) (XK Tryz.prog R [.c (csub Zat.B [1,1,1,1,1])]):=by
 unfold Zat.p3 at h
 refine iteB h (fun c7 h1=>?_) (fun c7 h2=>?_)
 ·exact aq fol [.r [],.c true,.r [],.r [],.s 1] [3,6] [] (aI c7 (neI 256)) (Zat.p4_ok h1 hE)
 ·exact aq fol [.r [],.c false,.s 1] [3,6] [] c7 (Zat.p4_ok h2 hE)
theorem Zat.p1_ok {size_1 i_2 n_0_0 st r c1_ J1} (h:Zat.p1 N n_0_0 c1_ (size_1,i_2)=some r) (hE:En Tryz.f221 g0 w0 (Zat.rs r) st R) (hc1 : ∀size_1 i_2,c1_ (size_1,i_2)=some r→At g0 w0 (Zat.p1.S size_1 i_2 n_0_0 st) J1):At g0 w0 (Zat.p1.S size_1 i_2 n_0_0 st) (XK Tryz.prog R (.c (csub Zat.B [1,1,0,1,0,0]) :: .h J1 :: [.b 0,.c (csub Zat.B [1,1,1])])):=by
 unfold Zat.p1 at h
 refine iteB h (fun c1 h3=>?_) (fun c1 h4=>?_)
 ·obtain ⟨x3,c2,h5⟩:=Zad h3
  refine iteB h5 (fun c3 h6=>?_) (fun c3 h7=>?_)
  ·exact aq fol [.r [],.c true,.r [(3,q1 [.agg [L.arr .u64 4 x3]])],.r [],.c true,.r [],.s 4] [1,3,4] [1] (aJ c1 (Zaj.snd c2) (ix 0 4 (aI (neI 256) c3))) (Zat.p2_ok h6 hE hc1)
  ·exact aq fol [.r [],.c true,.r [(3,q1 [.agg [L.arr .u64 4 x3]])],.r [],.c false,.s 4] [1,3,4] [1] (aJ c1 (Zaj.snd c2) (ix 0 4 (aI (neI 256) c3))) (Zat.p2_ok h7 hE hc1)
 ·obtain ⟨x5,c4,h8⟩:=Zad h4
  refine iteB h8 (fun c5 h9=>?_) (fun c5 h10=>?_)
  ·obtain ⟨x6,c6,h11⟩:=Zad h9
   exact aq fol [.r [],.c false,.r [(4,q1 [.agg [L.arr .u64 4 x5]])],.r [],.c true,.r [(4,q1 [.agg [L.arr .u64 4 x6]])],.s 1] [3,6] [] (aJ c1 (Zaj.snd c4) (ix 0 4 (aK (neI 16777216) c5 (Zaj.snd c6) (ix 0 4 (neI 16777216))))) (Zat.p3_ok h11 hE)
  ·exact aq fol [.r [],.c false,.r [(4,q1 [.agg [L.arr .u64 4 x5]])],.r [],.c false,.s 1] [3,6] [] (aJ c1 (Zaj.snd c4) (ix 0 4 (aI (neI 16777216) c5))) (Zat.p3_ok h10 hE)
theorem Zat.snd {n_0_0:List Int} {r:Int} (h:Zat N n_0_0=some r):SndQ Tryz.prog 221 [.agg [L.arr .u64 4 n_0_0]] (Zat.rs r):=fun st=>
 sO Zat.B Tryz.func221 fun g0 w0 R hE=>by
  unfold Zat at h
  exact aq fol [.r [],.r [],.r []] [1,3,4] [1] trivial (At.loop N (At.loopN (fun y:Int×Int=>Zat.p1.S y.1 y.2 n_0_0 st) (fun c J hc y h=>Zat.p1_ok (size_1:=y.1) (i_2:=y.2) h hE (fun size_1 i_2=>hc (size_1,i_2))) N (0,0) h))
noncomputable def Zav.B:Code:=Tryz.f204.body.getD .skip
noncomputable def Zav.rs (r:Int):List CV:=[oI r]
noncomputable def Zav.p3 (N:Nat) (n_11:List Int):Option Int:=
 optE (Zat N n_11) fun x12=>
 some x12
noncomputable def Zav.p2 (N:Nat) (p_0:Zae) (took_5:Int) (x1:List Int):Option Int:=
 optE (Zaq N x1 took_5 (w64 (p_0.Interval*p_0.Spacing))) fun (x6,x7)=>
 optE (Zbn N p_0.Limit p_0.Limit) fun (x8,x9)=>
 if (!x7)=true then
  some p_0.Limit
 else
 optE (Zbi N x8 x6) fun x10=>
 if x10=true then
  some p_0.Limit
 else
 if (x6==(List.replicate 4 0))=true then
  Zav.p3 N [1,0,0,0]
 else
 Zav.p3 N x6
noncomputable def Zav.p1 (N:Nat) (p_0:Zae) (took_4:Int) (x1:List Int):Option Int:=
 if (decide (took_4>(w64 ((w64 (p_0.Interval*p_0.Spacing))*4))))=true then
  Zav.p2 N p_0 (w64 ((w64 (p_0.Interval*p_0.Spacing))*4)) x1
 else
 Zav.p2 N p_0 took_4 x1
noncomputable def Zav (N:Nat) (p_0:Zae) (bits_1 from_2 to_3:Int):Option Int:=
 optE (Zbn N bits_1 p_0.Limit) fun (x1,x2)=>
 optE (ZcC N p_0) fun x3=>
 if (!x3)=true then
  some p_0.Limit
 else
 if (!x2)=true then
  some p_0.Limit
 else
 if (decide ((w64 (to_3-from_2))<(w64 (Int.tdiv (w64 (p_0.Interval*p_0.Spacing)) 4))))=true then
  Zav.p1 N p_0 (w64 (Int.tdiv (w64 (p_0.Interval*p_0.Spacing)) 4)) x1
 else
 Zav.p1 N p_0 (w64 (to_3-from_2)) x1
noncomputable def Zav.p3.S (n_11:List Int) (st:LL):S:=mkS 83 [(13,sA 13)] [(13,.cells [L.arr .u64 4 n_11])] st
noncomputable def Zav.p2.S (p_0:Zae) (took_5:Int) (x1:List Int) (st:LL):S:=mkS 83 [(4,sA 4),(9,sA 9),(11,sI (w64 (p_0.Interval*p_0.Spacing))),(12,sI took_5)] [(4,.cells p_0.ls),(9,.cells [L.arr .u64 4 x1])] st
noncomputable def Zav.p1.S (p_0:Zae) (took_4:Int) (x1:List Int) (st:LL):S:=mkS 83 [(4,sA 4),(9,sA 9),(11,sI (w64 (p_0.Interval*p_0.Spacing))),(12,sI took_4)] [(4,.cells p_0.ls),(9,.cells [L.arr .u64 4 x1])] st
theorem Zav.p3_ok {n_11 st r} (h:Zav.p3 N n_11=some r) (hE:En Tryz.f204 g0 w0 (Zav.rs r) st R):At g0 w0 (Zav.p3.S n_11 st) (XK Tryz.prog R [.c (csub Zav.B [1,1,1,1,1,1,1,1,1,1,1])]):=by
 unfold Zav.p3 at h
 obtain ⟨x12,c13,h1⟩:=Zad h
 obtain rfl:=Zab h1
 exact af fol hE [.r [(1,q1 [oI x12])]] [] 0 [] (Zat.snd c13)
theorem Zav.p2_ok {p_0 took_5 x1 st r} (h:Zav.p2 N p_0 took_5 x1=some r) (hE:En Tryz.f204 g0 w0 (Zav.rs r) st R):At g0 w0 (Zav.p2.S p_0 took_5 x1 st) (XK Tryz.prog R [.c (csub Zav.B [1,1,1,1,1,1,1])]):=by
 unfold Zav.p2 at h
 obtain ⟨⟨x6,x7⟩,c7,h2⟩:=Zad h
 obtain ⟨⟨x8,x9⟩,c8,h3⟩:=Zad h2
 refine iteB h3 (fun c9 h4=>?_) (fun c9 h5=>?_)
 ·obtain rfl:=Zab h4
  exact af fol hE [.r [(3,q1 [.agg [L.arr .u64 4 x6],oB x7])],.r [(4,q1 [.agg [L.arr .u64 4 x8],oB x9])],.r [(3,wF),(4,wF),(5,wF)],.c true,.r []] [] 0 [] (aN (Zaq.snd c7) (Zbn.snd c8) (not_false (Zce c9)) (not_false (Zce c9)) (not_false (Zce c9)) (not_false (Zce c9)) eT)
 ·obtain ⟨x10,c10,h6⟩:=Zad h5
  refine iteB h6 (fun c11 h7=>?_) (fun c11 h8=>?_)
  ·obtain rfl:=Zab h7
   exact af fol hE [.r [(3,q1 [.agg [L.arr .u64 4 x6],oB x7])],.r [(4,q1 [.agg [L.arr .u64 4 x8],oB x9])],.r [(5,q1 [oB x10]),(6,yF)],.c true,.r []] [] 0 [] (aO (Zaq.snd c7) (Zbn.snd c8) (not_true (ZaE c9)) (not_true (ZaE c9)) (not_true (ZaE c9)) (Zbi.snd c10) (not_true (ZaE c9)) c11)
  ·refine iteB h8 (fun c12 h9=>?_) (fun c12 h10=>?_)
   ·exact aq fol [.r [(3,q1 [.agg [L.arr .u64 4 x6],oB x7])],.r [(4,q1 [.agg [L.arr .u64 4 x8],oB x9])],.r [(5,q1 [oB x10]),(6,yF)],.c false,.r [],.c true,.r [(0,{m:=3})],.s 1] [13] [13] (aO (Zaq.snd c7) (Zbn.snd c8) (not_true (ZaE c9)) (not_true (ZaE c9)) (not_true (ZaE c9)) (Zbi.snd c10) (not_true (ZaE c9)) (aI c11 c12)) (Zav.p3_ok h9 hE)
   ·exact aq fol [.r [(3,q1 [.agg [L.arr .u64 4 x6],oB x7])],.r [(4,q1 [.agg [L.arr .u64 4 x8],oB x9])],.r [(5,q1 [oB x10]),(6,yF)],.c false,.r [],.c false,.s 1] [13] [13] (aO (Zaq.snd c7) (Zbn.snd c8) (not_true (ZaE c9)) (not_true (ZaE c9)) (not_true (ZaE c9)) (Zbi.snd c10) (not_true (ZaE c9)) (aI c11 c12)) (Zav.p3_ok h10 hE)
theorem Zav.p1_ok {p_0 took_4 x1 st r} (h:Zav.p1 N p_0 took_4 x1=some r) (hE:En Tryz.f204 g0 w0 (Zav.rs r) st R):At g0 w0 (Zav.p1.S p_0 took_4 x1 st) (XK Tryz.prog R [.c (csub Zav.B [1,1,1,1,1,1])]):=by
 unfold Zav.p1 at h
 refine iteB h (fun c6 h11=>?_) (fun c6 h12=>?_)
 ·exact aq fol [.r [],.c true,.r [],.s 1] [4,9,11,12] [4,9] c6 (Zav.p2_ok h11 hE)
 ·exact aq fol [.r [],.c false,.s 1] [4,9,11,12] [4,9] c6 (Zav.p2_ok h12 hE)
theorem Zav.snd {p_0:Zae} {bits_1 from_2 to_3:Int} {r:Int} (h:Zav N p_0 bits_1 from_2 to_3=some r):SndQ Tryz.prog 204 [.agg p_0.ls,oI bits_1,oI from_2,oI to_3] (Zav.rs r):=fun st=>
 sO Zav.B Tryz.func204 fun g0 w0 R hE=>by
  unfold Zav at h
  obtain ⟨⟨x1,x2⟩,c1,h13⟩:=Zad h
  obtain ⟨x3,c2,h14⟩:=Zad h13
  refine iteB h14 (fun c3 h15=>?_) (fun c3 h16=>?_)
  ·obtain rfl:=Zab h15
   exact af fol hE [.r [],.r [(3,q1 [.agg [L.arr .u64 4 x1],oB x2])],.r [(1,q1 [oB x3]),(4,wF),(5,wF)],.c true,.r []] [] 0 [] (aM (Zbn.snd c1) (ZcC.snd c2) (not_false (Zce c3)) (not_false (Zce c3)) (not_false (Zce c3)) eT)
  ·refine iteB h16 (fun c4 h17=>?_) (fun c4 h18=>?_)
   ·obtain rfl:=Zab h17
    exact af fol hE [.r [],.r [(3,q1 [.agg [L.arr .u64 4 x1],oB x2])],.r [(1,q1 [oB x3]),(6,yF)],.c true,.r []] [] 0 [] (aM (Zbn.snd c1) (ZcC.snd c2) (not_true (ZaE c3)) (not_true (ZaE c3)) (not_true (ZaE c3)) c4)
   ·refine iteB h18 (fun c5 h19=>?_) (fun c5 h20=>?_)
    ·exact aq fol [.r [],.r [(3,q1 [.agg [L.arr .u64 4 x1],oB x2])],.r [(1,q1 [oB x3]),(6,yF)],.c false,.r [],.r [],.r [],.c true,.r [],.s 1] [4,9,11,12] [4,9] (aO (Zbn.snd c1) (ZcC.snd c2) (not_true (ZaE c3)) (not_true (ZaE c3)) (not_true (ZaE c3)) c4 (neI 4) (aI c5 (neI 4))) (Zav.p1_ok h19 hE)
    ·exact aq fol [.r [],.r [(3,q1 [.agg [L.arr .u64 4 x1],oB x2])],.r [(1,q1 [oB x3]),(6,yF)],.c false,.r [],.r [],.r [],.c false,.s 1] [4,9,11,12] [4,9] (aO (Zbn.snd c1) (ZcC.snd c2) (not_true (ZaE c3)) (not_true (ZaE c3)) (not_true (ZaE c3)) c4 (neI 4) c5) (Zav.p1_ok h20 hE)
noncomputable def Zcb.B:Code:=Tryz.f171.body.getD .skip
noncomputable def Zcb.rs (r:Int):List CV:=[oI r]
noncomputable def Zcb.p1 (N:Nat) (bits_2 time_3 hard_5 own_6:Int) (p_0:Zae):Option Int:=
 if (!p_0.Easy)=true then
  some bits_2
 else
 if (decide ((w64 (own_6-time_3))>(w64 (2*p_0.Spacing))))=true then
  some p_0.Limit
 else
 some hard_5
noncomputable def Zcb (N:Nat) (p_0:Zae) (height_1 bits_2 time_3 first_4 hard_5 own_6:Int):Option Int:=
 if (decide (height_1≤0))=true then
  some p_0.Limit
 else
 if (decide (p_0.Interval>0))=true then
  chk (p_0.Interval≠0)<|
  if ((Int.tmod height_1 p_0.Interval)==0)=true then
   optE (Zav N p_0 bits_2 first_4 time_3) fun x1=>
   some x1
  else
  Zcb.p1 N bits_2 time_3 hard_5 own_6 p_0
 else
 Zcb.p1 N bits_2 time_3 hard_5 own_6 p_0
noncomputable def Zcb.p1.S (bits_2 time_3 hard_5 own_6:Int) (p_0:Zae) (st:LL):S:=mkS 48 [(2,sI bits_2),(3,sI time_3),(5,sI hard_5),(6,sI own_6),(7,sA 7)] [(7,.cells p_0.ls)] st
theorem Zcb.p1_ok {bits_2 time_3 hard_5 own_6 p_0 st r} (h:Zcb.p1 N bits_2 time_3 hard_5 own_6 p_0=some r) (hE:En Tryz.f171 g0 w0 (Zcb.rs r) st R):At g0 w0 (Zcb.p1.S bits_2 time_3 hard_5 own_6 p_0 st) (XK Tryz.prog R [.c (csub Zcb.B [1,1,1])]):=by
 unfold Zcb.p1 at h
 refine iteB h (fun c6 h1=>?_) (fun c6 h2=>?_)
 ·obtain rfl:=Zab h1
  exact af fol hE [.r [],.c true,.r []] [] 0 [] c6
 ·refine iteB h2 (fun c7 h3=>?_) (fun c7 h4=>?_)
  ·obtain rfl:=Zab h3
   exact af fol hE [.r [],.c false,.r [],.c true,.r []] [] 0 [] (aI c6 c7)
  ·obtain rfl:=Zab h4
   exact af fol hE [.r [],.c false,.r [],.c false,.r []] [] 0 [] (aI c6 c7)
theorem Zcb.snd {p_0:Zae} {height_1 bits_2 time_3 first_4 hard_5 own_6:Int} {r:Int} (h:Zcb N p_0 height_1 bits_2 time_3 first_4 hard_5 own_6=some r):SndQ Tryz.prog 171 [.agg p_0.ls,oI height_1,oI bits_2,oI time_3,oI first_4,oI hard_5,oI own_6] (Zcb.rs r):=fun st=>
 sO Zcb.B Tryz.func171 fun g0 w0 R hE=>by
  unfold Zcb at h
  refine iteB h (fun c1 h5=>?_) (fun c1 h6=>?_)
  ·obtain rfl:=Zab h5
   exact af fol hE [.r [],.r [],.c true,.r []] [] 0 [] c1
  ·refine iteB h6 (fun c2 h7=>?_) (fun c2 h8=>?_)
   ·obtain ⟨c3,h9⟩:=ZaS h7
    refine iteB h9 (fun c4 h10=>?_) (fun c4 h11=>?_)
    ·obtain ⟨x1,c5,h12⟩:=Zad h10
     obtain rfl:=Zab h12
     exact af fol hE [.r [],.r [],.c false,.r [],.c true,.r [(4,q1 [oI x1])]] [] 0 [] (aO c1 c2 c2 c2 c2 c3 c2 (aJ c2 c4 (Zav.snd c5)))
    ·exact aq fol [.r [],.r [],.c false,.r [],.c false,.s 1] [2,3,5,6,7] [7] (aO c1 c2 c2 c2 c2 c3 c2 (aI c2 c4)) (Zcb.p1_ok h11 hE)
   ·exact aq fol [.r [],.r [],.c false,.r [(4,wF),(5,wF),(6,wF),(7,wF),(8,wF),(9,yF)],.c false,.s 1] [2,3,5,6,7] [7] (aO c1 c2 c2 c2 c2 c2 c2 eF) (Zcb.p1_ok h8 hE)
noncomputable def Zay.B:Code:=Tryz.f111.body.getD .skip
noncomputable def Zay.rs (r:Int):List CV:=[oI r]
noncomputable def Zay.p4 (N:Nat) (c1_:(Int×Int×Int)→Option Int) (time_2:Int) (chain_1:LL) (first_7 hard_8 v4:Int) (p_0:Zae) (x1:Zag):Option Int:=
 c1_ (first_7,hard_8,w64 (v4+1))
noncomputable def Zay.p3 (N:Nat) (c1_:(Int×Int×Int)→Option Int) (time_2:Int) (chain_1:LL) (first_7 hard_3:Int) (begins_6:Bool) (v4:Int) (p_0:Zae) (x1 x5:Zag):Option Int:=
 if (!p_0.Easy)=true then
  Zay.p4 N c1_ time_2 chain_1 first_7 x5.Bits v4 p_0 x1
 else
 if (x5.Bits != p_0.Limit)=true then
  Zay.p4 N c1_ time_2 chain_1 first_7 x5.Bits v4 p_0 x1
 else
 if begins_6=true then
  Zay.p4 N c1_ time_2 chain_1 first_7 x5.Bits v4 p_0 x1
 else
 Zay.p4 N c1_ time_2 chain_1 first_7 hard_3 v4 p_0 x1
noncomputable def Zay.p2 (N:Nat) (c1_:(Int×Int×Int)→Option Int) (time_2:Int) (chain_1:LL) (first_2 hard_3:Int) (begins_6:Bool) (v4:Int) (p_0:Zae) (x1 x5:Zag):Option Int:=
 if begins_6=true then
  Zay.p3 N c1_ time_2 chain_1 x5.Time hard_3 begins_6 v4 p_0 x1 x5
 else
 Zay.p3 N c1_ time_2 chain_1 first_2 hard_3 begins_6 v4 p_0 x1 x5
noncomputable def Zay.p1 (N:Nat) (time_2:Int) (chain_1:LL) (p_0:Zae) (x1:Zag) (c1_:(Int×Int×Int)→Option Int):(Int×Int×Int)→Option Int:=fun (first_2,hard_3,v4)=>
 if (decide (v4<(len chain_1)))=true then
  chk (0≤v4)<|
  getE (chain_1[Int.toNat v4]?) ZcL fun x5=>
  if (decide (p_0.Interval>0))=true then
   chk (p_0.Interval≠0)<|
   Zay.p2 N c1_ time_2 chain_1 first_2 hard_3 ((Int.tmod v4 p_0.Interval)==0) v4 p_0 x1 x5
  else
  Zay.p2 N c1_ time_2 chain_1 first_2 hard_3 false v4 p_0 x1 x5
 else
 optE (Zcb N p_0 (len chain_1) x1.Bits x1.Time first_2 hard_3 time_2) fun x9=>
 some x9
noncomputable def Zay (N:Nat) (p_0:Zae) (chain_1:LL) (time_2:Int):Option Int:=
 if ((len chain_1)==0)=true then
  some p_0.Limit
 else
 chk (0≤(w64 ((len chain_1)-1)))<|
 chk ((w64 ((len chain_1)-1))<(len chain_1))<|
 getE (chain_1[Int.toNat (w64 ((len chain_1)-1))]?) ZcL fun x1=>
 loopN (Zay.p1 N time_2 chain_1 p_0 x1) N (0,p_0.Limit,0)
noncomputable def Zay.p4.S (time_2:Int) (chain_1:LL) (first_7 hard_8 v4:Int) (p_0:Zae) (x1:Zag) (st:LL):S:=mkS 73 [(2,sI time_2),(3,sA 3),(7,sI (len chain_1)),(8,sA 8),(9,sI first_7),(10,sI hard_8),(27,sV 68 chain_1),(28,sI (len chain_1)),(29,sI v4)] [(3,.cells p_0.ls),(8,.cells x1.ls)] st
noncomputable def Zay.p3.S (time_2:Int) (chain_1:LL) (first_7 hard_3:Int) (begins_6:Bool) (v4:Int) (p_0:Zae) (x1 x5:Zag) (st:LL):S:=mkS 73 [(2,sI time_2),(3,sA 3),(7,sI (len chain_1)),(8,sA 8),(9,sI first_7),(10,sI hard_3),(12,sA 12),(13,.one (.l (L.bool begins_6))),(27,sV 68 chain_1),(28,sI (len chain_1)),(29,sI v4)] [(3,.cells p_0.ls),(8,.cells x1.ls),(12,.cells x5.ls)] st
noncomputable def Zay.p2.S (time_2:Int) (chain_1:LL) (first_2 hard_3:Int) (begins_6:Bool) (v4:Int) (p_0:Zae) (x1 x5:Zag) (st:LL):S:=mkS 73 [(2,sI time_2),(3,sA 3),(7,sI (len chain_1)),(8,sA 8),(9,sI first_2),(10,sI hard_3),(12,sA 12),(13,.one (.l (L.bool begins_6))),(27,sV 68 chain_1),(28,sI (len chain_1)),(29,sI v4)] [(3,.cells p_0.ls),(8,.cells x1.ls),(12,.cells x5.ls)] st
noncomputable def Zay.p1.S (time_2:Int) (chain_1:LL) (first_2 hard_3 v4:Int) (p_0:Zae) (x1:Zag) (st:LL):S:=mkS 73 [(2,sI time_2),(3,sA 3),(7,sI (len chain_1)),(8,sA 8),(9,sI first_2),(10,sI hard_3),(27,sV 68 chain_1),(28,sI (len chain_1)),(29,sI v4)] [(3,.cells p_0.ls),(8,.cells x1.ls)] st
theorem Zay.p4_ok {time_2 chain_1 first_7 hard_8 v4 p_0 x1 st r c1_ J1} (h:Zay.p4 N c1_ time_2 chain_1 first_7 hard_8 v4 p_0 x1=some r) (hE:En Tryz.f111 g0 w0 (Zay.rs r) st R) (hc1 : ∀first_2 hard_3 v4,c1_ (first_2,hard_3,v4)=some r→At g0 w0 (Zay.p1.S time_2 chain_1 first_2 hard_3 v4 p_0 x1 st) J1):At g0 w0 (Zay.p4.S time_2 chain_1 first_7 hard_8 v4 p_0 x1 st) (XK Tryz.prog R [.c (csub Zay.B [1,1,1,1,1,1,0,1,0,0,1,1,1]),.h J1,.b 0,.c (csub Zay.B [1,1,1,1,1,1,1])]):=by
 unfold Zay.p4 at h
 exact an fol [.r []] [2,3,7,8,9,10,27,28,29] [3,8] trivial (hc1 first_7 hard_8 (w64 (v4+1)) h)
theorem Zay.p3_ok {time_2 chain_1 first_7 hard_3 begins_6 v4 p_0 x1 x5 st r c1_ J1} (h:Zay.p3 N c1_ time_2 chain_1 first_7 hard_3 begins_6 v4 p_0 x1 x5=some r) (hE:En Tryz.f111 g0 w0 (Zay.rs r) st R) (hc1 : ∀first_2 hard_3 v4,c1_ (first_2,hard_3,v4)=some r→At g0 w0 (Zay.p1.S time_2 chain_1 first_2 hard_3 v4 p_0 x1 st) J1):At g0 w0 (Zay.p3.S time_2 chain_1 first_7 hard_3 begins_6 v4 p_0 x1 x5 st) (XK Tryz.prog R [.c (csub Zay.B [1,1,1,1,1,1,0,1,0,0,1,1,0,0,1,1,1]),.b 1,.c (csub Zay.B [1,1,1,1,1,1,0,1,0,0,1,1,1]),.h J1,.b 0,.c (csub Zay.B [1,1,1,1,1,1,1])]):=by
 unfold Zay.p3 at h
 refine iteB h (fun c11 h1=>?_) (fun c11 h2=>?_)
 ·exact aq fol [.r [(4,wF),(5,wF),(6,wF),(7,wF),(8,wF),(11,wF)],.c true,.r [],.s 4] [2,3,7,8,9,10,27,28,29] [3,8] (aO (not_false (Zce c11)) (not_false (Zce c11)) (not_false (Zce c11)) (not_false (Zce c11)) (not_false (Zce c11)) (not_false (Zce c11)) eT (aI eT eT)) (Zay.p4_ok h1 hE hc1)
 ·refine iteB h2 (fun c12 h3=>?_) (fun c12 h4=>?_)
  ·exact aq fol [.r [(9,yF),(11,wF)],.c true,.r [],.s 4] [2,3,7,8,9,10,27,28,29] [3,8] (aO (not_true (ZaE c11)) (not_true (ZaE c11)) (not_true (ZaE c11)) (not_true (ZaE c11)) (not_true (ZaE c11)) (not_true (ZaE c11)) c12 (aI c12 eT)) (Zay.p4_ok h3 hE hc1)
  ·refine iteB h4 (fun c13 h5=>?_) (fun c13 h6=>?_)
   ·exact aq fol [.r [(9,yF),(12,yF)],.c true,.r [],.s 4] [2,3,7,8,9,10,27,28,29] [3,8] (aO (not_true (ZaE c11)) (not_true (ZaE c11)) (not_true (ZaE c11)) (not_true (ZaE c11)) (not_true (ZaE c11)) (not_true (ZaE c11)) c12 (aI c12 c13)) (Zay.p4_ok h5 hE hc1)
   ·exact aq fol [.r [(9,yF),(12,yF)],.c false,.s 4] [2,3,7,8,9,10,27,28,29] [3,8] (aO (not_true (ZaE c11)) (not_true (ZaE c11)) (not_true (ZaE c11)) (not_true (ZaE c11)) (not_true (ZaE c11)) (not_true (ZaE c11)) c12 (aI c12 c13)) (Zay.p4_ok h6 hE hc1)
theorem Zay.p2_ok {time_2 chain_1 first_2 hard_3 begins_6 v4 p_0 x1 x5 st r c1_ J1} (h:Zay.p2 N c1_ time_2 chain_1 first_2 hard_3 begins_6 v4 p_0 x1 x5=some r) (hE:En Tryz.f111 g0 w0 (Zay.rs r) st R) (hc1 : ∀first_2 hard_3 v4,c1_ (first_2,hard_3,v4)=some r→At g0 w0 (Zay.p1.S time_2 chain_1 first_2 hard_3 v4 p_0 x1 st) J1):At g0 w0 (Zay.p2.S time_2 chain_1 first_2 hard_3 begins_6 v4 p_0 x1 x5 st) (XK Tryz.prog R [.c (csub Zay.B [1,1,1,1,1,1,0,1,0,0,1,1,0,0,1,1]),.b 1,.c (csub Zay.B [1,1,1,1,1,1,0,1,0,0,1,1,1]),.h J1,.b 0,.c (csub Zay.B [1,1,1,1,1,1,1])]):=by
 unfold Zay.p2 at h
 refine iteB h (fun c10 h7=>?_) (fun c10 h8=>?_)
 ·exact aq fol [.r [],.c true,.r [],.s 6] [2,3,7,8,9,10,12,13,27,28,29] [3,8,12] c10 (Zay.p3_ok h7 hE hc1)
 ·exact aq fol [.r [],.c false,.s 6] [2,3,7,8,9,10,12,13,27,28,29] [3,8,12] c10 (Zay.p3_ok h8 hE hc1)
theorem Zay.p1_ok {time_2 chain_1 first_2 hard_3 v4 p_0 x1 st r c1_ J1} (h:Zay.p1 N time_2 chain_1 p_0 x1 c1_ (first_2,hard_3,v4)=some r) (hE:En Tryz.f111 g0 w0 (Zay.rs r) st R) (hc1 : ∀first_2 hard_3 v4,c1_ (first_2,hard_3,v4)=some r→At g0 w0 (Zay.p1.S time_2 chain_1 first_2 hard_3 v4 p_0 x1 st) J1):At g0 w0 (Zay.p1.S time_2 chain_1 first_2 hard_3 v4 p_0 x1 st) (XK Tryz.prog R (.c (csub Zay.B [1,1,1,1,1,1,0,1,0,0]) :: .h J1 :: [.b 0,.c (csub Zay.B [1,1,1,1,1,1,1])])):=by
 unfold Zay.p1 at h
 refine iteB h (fun c5 h9=>?_) (fun c5 h10=>?_)
 ·obtain ⟨c6,h11⟩:=ZaS h9
  obtain ⟨x5,c7,h12⟩:=ZcJ h11
  refine iteB h12 (fun c8 h13=>?_) (fun c8 h14=>?_)
  ·obtain ⟨c9,h15⟩:=ZaS h13
   exact aq fol [.r [],.c true,.r [(2,{oe:=x5.ls})],.r [],.s 6] [2,3,7,8,9,10,12,13,27,28,29] [3,8,12] (aO c5 c6 (oD c5) c7 c8 c8 c8 (aK c8 c9 c8 c8)) (Zay.p2_ok h15 hE hc1)
  ·exact aq fol [.r [],.c true,.r [(2,{oe:=x5.ls})],.r [(4,wF),(5,wF),(6,wF),(7,wF),(8,wF),(9,yF)],.s 6] [2,3,7,8,9,10,12,13,27,28,29] [3,8,12] (aO c5 c6 (oD c5) c7 c8 c8 c8 (aJ c8 c8 c8)) (Zay.p2_ok h14 hE hc1)
 ·obtain ⟨x9,c14,h16⟩:=Zad h10
  obtain rfl:=Zab h16
  exact af fol hE [.r [],.c false,.r [(9,q1 [oI x9])]] [] 0 [] (aI c5 (Zcb.snd c14))
theorem Zay.snd {p_0:Zae} {chain_1:LL} {time_2:Int} {r:Int} (h:Zay N p_0 chain_1 time_2=some r):SndQ Tryz.prog 111 [.agg p_0.ls,.one (L.sl 68 chain_1),oI time_2] (Zay.rs r):=fun st=>
 sO Zay.B Tryz.func111 fun g0 w0 R hE=>by
  unfold Zay at h
  refine iteB h (fun c1 h17=>?_) (fun c1 h18=>?_)
  ·obtain rfl:=Zab h17
   exact af fol hE [.r [],.r [],.r [],.c true,.r []] [] 0 [] c1
  ·obtain ⟨c2,c3,h19⟩:=ck2 h18
   obtain ⟨x1,c4,h20⟩:=ZcJ h19
   exact aq fol [.r [],.r [],.r [],.c false,.r [(4,{oe:=x1.ls})],.r [],.r [],.r []] [2,3,7,8,9,10,27,28,29] [3,8] (aK c1 c2 c3 c4) (At.loop N (At.loopN (fun y:Int×Int×Int=>Zay.p1.S time_2 chain_1 y.1 y.2.1 y.2.2 p_0 x1 st) (fun c J hc y h=>Zay.p1_ok (first_2:=y.1) (hard_3:=y.2.1) (v4:=y.2.2) h hE (fun first_2 hard_3 v4=>hc (first_2,hard_3,v4))) N (0,p_0.Limit,0) h20))
noncomputable def ZbC.B:Code:=Tryz.f173.body.getD .skip
noncomputable def ZbC.rs (r:(List Int)):List CV:=[.agg [L.arr .u64 4 r]]
noncomputable def ZbC.p1 (N:Nat) (h_0_0:List Int) (c1_:(Int×(List Int))→Option (List Int)):(Int×(List Int))→Option (List Int):=fun (i_1,out_3)=>
 if (decide (i_1≥0))=true then
  optE (Zaj N out_3 8) fun x4=>
  chk (0≤i_1)<|
  chk (i_1<32)<|
  c1_ (w64 (i_1-1),List.set x4 0 (v64 ((List.getD x4 0 0)+(v64 (List.getD h_0_0 (Int.toNat i_1) 0)))))
 else
 some out_3
noncomputable def ZbC (N:Nat) (h_0_0:List Int):Option (List Int):=
 loopN (ZbC.p1 N h_0_0) N (31,List.replicate 4 0)
noncomputable def ZbC.p1.S (i_1:Int) (h_0_0 out_3:List Int) (st:LL):S:=mkS 21 [(1,sA 1),(2,sA 2),(3,sA 3),(4,sI i_1)] [(1,.cells [L.arr .u8 32 h_0_0]),(2,.cells [L.arr .u64 4 (List.replicate 4 0)]),(3,.cells [L.arr .u64 4 out_3])] st
theorem ZbC.p1_ok {i_1 h_0_0 out_3 st r c1_ J1} (h:ZbC.p1 N h_0_0 c1_ (i_1,out_3)=some r) (hE:En Tryz.f173 g0 w0 (ZbC.rs r) st R) (hc1 : ∀i_1 out_3,c1_ (i_1,out_3)=some r→At g0 w0 (ZbC.p1.S i_1 h_0_0 out_3 st) J1):At g0 w0 (ZbC.p1.S i_1 h_0_0 out_3 st) (XK Tryz.prog R (.c (csub ZbC.B [1,1,0,1,0,0]) :: .h J1 :: [.b 0,.c (csub ZbC.B [1,1,1])])):=by
 unfold ZbC.p1 at h
 refine iteB h (fun c5 h1=>?_) (fun c5 h2=>?_)
 ·obtain ⟨x4,c6,h3⟩:=Zad h1
  obtain ⟨c7,c8,h4⟩:=ck2 h3
  exact and_ fol [.r [],.c true,.r [(1,q1 [.agg [L.arr .u64 4 x4]])],.d {ds:=[],hv:=256,Hs:=[256]},.r []] [1,2,3,4] [1,2,3] (aJ c5 (Zaj.snd c6) (ix 0 4 (aK c7 c8 (leI 0 0) (ltI 0 4)))) (hc1 (w64 (i_1-1)) (List.set x4 0 (v64 ((List.getD x4 0 0)+(v64 (List.getD h_0_0 (Int.toNat i_1) 0))))) h4)
 ·obtain rfl:=Zab h2
  exact af fol hE [.r [],.c false,.r []] [] 0 [] c5
theorem ZbC.snd {h_0_0:List Int} {r:(List Int)} (h:ZbC N h_0_0=some r):SndQ Tryz.prog 173 [.agg [L.arr .u8 32 h_0_0]] (ZbC.rs r):=fun st=>
 sO ZbC.B Tryz.func173 fun g0 w0 R hE=>by
  unfold ZbC at h
  exact aq fol [.r [],.r [],.r []] [1,2,3,4] [1,2,3] trivial (At.loop N (At.loopN (fun y:Int×(List Int)=>ZbC.p1.S y.1 h_0_0 y.2 st) (fun c J hc y h=>ZbC.p1_ok (i_1:=y.1) (out_3:=y.2) h hE (fun i_1 out_3=>hc (i_1,out_3))) N (31,List.replicate 4 0) h))
noncomputable def Zdm.B:Code:=Tryz.f112.body.getD .skip
noncomputable def Zdm.rs (r:Bool):List CV:=[oB r]
noncomputable def Zdm (N:Nat) (p_0:Zae) (h_1:Zag):Option Bool:=
 optE (Zbn N h_1.Bits p_0.Limit) fun (x1,x2)=>
 if x2=true then
  optE (Zcn N h_1) fun x3=>
  optE (ZbC N x3) fun x4=>
  optE (Zbi N x1 x4) fun x5=>
  some (!x5)
 else
 some false
theorem Zdm.snd {p_0:Zae} {h_1:Zag} {r:Bool} (h:Zdm N p_0 h_1=some r):SndQ Tryz.prog 112 [.agg p_0.ls,.agg h_1.ls] (Zdm.rs r):=fun st=>
 sO Zdm.B Tryz.func112 fun g0 w0 R hE=>by
  unfold Zdm at h
  obtain ⟨⟨x1,x2⟩,c1,h1⟩:=Zad h
  refine iteB h1 (fun c2 h2=>?_) (fun c2 h3=>?_)
  ·obtain ⟨x3,c3,h4⟩:=Zad h2
   obtain ⟨x4,c4,h5⟩:=Zad h4
   obtain ⟨x5,c5,h6⟩:=Zad h5
   obtain rfl:=Zab h6
   exact afd fol hE [.r [],.r [(4,q1 [.agg [L.arr .u64 4 x1],oB x2])],.d {ds:=[(4,q1 [.agg [L.arr .u8 32 x3]]),(5,q1 [.agg [L.arr .u64 4 x4]]),(6,q1 [oB x5])],hv:=0,Hs:=[]}] [] 0 [] (aO (Zbn.snd c1) c2 c2 c2 (Zcn.snd c3) c2 (ZbC.snd c4) (aK c2 (Zbi.snd c5) c2 c2))
  ·obtain rfl:=Zab h3
   exact afd fol hE [.r [],.r [(4,q1 [.agg [L.arr .u64 4 x1],oB x2])],.d {ds:=[(2,wF),(3,wF),(4,wF),(5,wF),(6,wF),(7,wF),(8,yF)],hv:=0,Hs:=[]}] [] 0 [] (aO (Zbn.snd c1) c2 c2 c2 c2 c2 c2 c2)
noncomputable def ZbY.B:Code:=Tryz.f113.body.getD .skip
noncomputable def ZbY.rs (r:LL):List CV:=[.row true 1 r]
noncomputable def ZbY.p1 (N:Nat) (row_0:LL) (c1_:(LL×Int)→Option LL):(LL×Int)→Option LL:=fun (out_3,i_1)=>
 if (decide (i_1≥0))=true then
  if (decide ((len out_3)<11))=true then
   chk (0≤i_1)<|
   chk (i_1<(len row_0))<|
   getE (row_0[Int.toNat i_1]?) ZcP fun x4=>
   chk (List.length (out_3 ++ [[L.int .i64 x4]])*8≤140737488355328)<|
   c1_ (out_3 ++ [[L.int .i64 x4]],w64 (i_1-1))
  else
  some out_3
 else
 some out_3
noncomputable def ZbY (N:Nat) (row_0:LL):Option LL:=
 loopN (ZbY.p1 N row_0) N ([],w64 ((len row_0)-1))
noncomputable def ZbY.p1.S (row_0 out_3:LL) (i_1:Int) (st:LL):S:=mkS 25 [(0,sV 1 row_0),(3,.one (.h (.row 3 0) 1 0 (List.length out_3))),(4,sI i_1)] [(3,.row 0 true 1 out_3)] st
theorem ZbY.p1_ok {row_0 out_3 i_1 st r c1_ J1} (h:ZbY.p1 N row_0 c1_ (out_3,i_1)=some r) (hE:En Tryz.f113 g0 w0 (ZbY.rs r) st R) (hc1 : ∀out_3 i_1,c1_ (out_3,i_1)=some r→At g0 w0 (ZbY.p1.S row_0 out_3 i_1 st) J1):At g0 w0 (ZbY.p1.S row_0 out_3 i_1 st) (XK Tryz.prog R (.c (csub ZbY.B [1,1,0,1,0,0]) :: .h J1 :: [.b 0,.c (csub ZbY.B [1,1,1])])):=by
 unfold ZbY.p1 at h
 refine iteB h (fun c6 h1=>?_) (fun c6 h2=>?_)
 ·refine iteB h1 (fun c7 h3=>?_) (fun c7 h4=>?_)
  ·obtain ⟨c8,c9,h5⟩:=ck2 h3
   obtain ⟨x4,c10,h6⟩:=Zco h5
   obtain ⟨c11,h7⟩:=ZaS h6
   exact an fol [.r [],.c true,.r [(4,{oe:=[L.int .i64 x4]})],.r []] [0,3,4] [3] (aO c6 c6 c6 c6 c7 c8 c9 (aM c10 z0 (eN (List.length out_3)) z0 (eN (1)) c11)) (hc1 (out_3 ++ [[L.int .i64 x4]]) (w64 (i_1-1)) h7)
  ·obtain rfl:=Zab h4
   exact af fol hE [.r [],.c false,.r []] [] 0 [0] (aN c6 c6 c6 c6 c7 z0 (eN (List.length out_3)))
 ·obtain rfl:=Zab h2
  exact af fol hE [.r [(3,wF),(4,wF),(5,wF),(6,yF)],.c false,.r []] [] 0 [0] (aN c6 c6 c6 c6 eF z0 (eN (List.length out_3)))
theorem ZbY.snd {row_0:LL} {r:LL} (h:ZbY N row_0=some r):SndQ Tryz.prog 113 [.one (L.sl 1 row_0)] (ZbY.rs r):=fun st=>
 sO ZbY.B Tryz.func113 fun g0 w0 R hE=>by
  unfold ZbY at h
  exact aq fol [.r [(0,{m:=2})],.r [(0,{m:=1})],.r []] [0,3,4] [3] trivial (At.loop N (At.loopN (fun y:LL×Int=>ZbY.p1.S row_0 y.1 y.2 st) (fun c J hc y h=>ZbY.p1_ok (out_3:=y.1) (i_1:=y.2) h hE (fun out_3 i_1=>hc (out_3,i_1))) N ([],w64 ((len row_0)-1)) h))
noncomputable def ZaG.B:Code:=Tryz.f106.body.getD .skip
noncomputable def ZaG.rs (r:Int):List CV:=[oI r]
noncomputable def ZaG.p4 (N:Nat) (c2_:(Int×Int×Int)→Option Int) (c1_:Int→Option Int) (times_0:LL) (i_1 less_7 same_10 j_4:Int):Option Int:=
 c2_ (less_7,same_10,w64 (j_4+1))
noncomputable def ZaG.p3 (N:Nat) (c2_:(Int×Int×Int)→Option Int) (c1_:Int→Option Int) (times_0:LL) (i_1 less_7 same_3 j_4:Int):Option Int:=
 chk (0≤j_4)<|
 chk (j_4<(len times_0))<|
 getE (times_0[Int.toNat j_4]?) ZcP fun x8=>
 chk (0≤i_1)<|
 chk (i_1<(len times_0))<|
 getE (times_0[Int.toNat i_1]?) ZcP fun x9=>
 if (x8==x9)=true then
  ZaG.p4 N c2_ c1_ times_0 i_1 less_7 (w64 (same_3+1)) j_4
 else
 ZaG.p4 N c2_ c1_ times_0 i_1 less_7 same_3 j_4
noncomputable def ZaG.p2 (N:Nat) (c1_:Int→Option Int) (times_0:LL) (i_1:Int) (c2_:(Int×Int×Int)→Option Int):(Int×Int×Int)→Option Int:=fun (less_2,same_3,j_4)=>
 if (decide (j_4<(if (11:Int)<(len times_0) then 11 else (len times_0))))=true then
  chk (0≤j_4)<|
  chk (j_4<(len times_0))<|
  getE (times_0[Int.toNat j_4]?) ZcP fun x5=>
  chk (0≤i_1)<|
  chk (i_1<(len times_0))<|
  getE (times_0[Int.toNat i_1]?) ZcP fun x6=>
  if (decide (x5<x6))=true then
   ZaG.p3 N c2_ c1_ times_0 i_1 (w64 (less_2+1)) same_3 j_4
  else
  ZaG.p3 N c2_ c1_ times_0 i_1 less_2 same_3 j_4
 else
 if (decide (less_2≤(w64 (Int.tdiv (if (11:Int)<(len times_0) then 11 else (len times_0)) 2))))=true then
  if (decide ((w64 (Int.tdiv (if (11:Int)<(len times_0) then 11 else (len times_0)) 2))<(w64 (less_2+same_3))))=true then
   chk (0≤i_1)<|
   chk (i_1<(len times_0))<|
   getE (times_0[Int.toNat i_1]?) ZcP fun x11=>
   some x11
  else
  c1_ (w64 (i_1+1))
 else
 c1_ (w64 (i_1+1))
noncomputable def ZaG.p1 (N:Nat) (times_0:LL) (c1_:Int→Option Int):Int→Option Int:=fun i_1=>
 if (decide (i_1<(if (11:Int)<(len times_0) then 11 else (len times_0))))=true then
  loopN (ZaG.p2 N c1_ times_0 i_1) N (0,0,0)
 else
 some 0
noncomputable def ZaG (N:Nat) (times_0:LL):Option Int:=
 loopN (ZaG.p1 N times_0) N 0
noncomputable def ZaG.p4.S (times_0:LL) (i_1 less_7 same_10 j_4:Int) (st:LL):S:=mkS 59 [(0,sV 1 times_0),(3,sI (if (11:Int)<(len times_0) then 11 else (len times_0))),(4,sI i_1),(5,sI less_7),(6,sI same_10),(7,sI j_4)] [] st
noncomputable def ZaG.p3.S (times_0:LL) (i_1 less_7 same_3 j_4:Int) (st:LL):S:=mkS 59 [(0,sV 1 times_0),(3,sI (if (11:Int)<(len times_0) then 11 else (len times_0))),(4,sI i_1),(5,sI less_7),(6,sI same_3),(7,sI j_4)] [] st
noncomputable def ZaG.p2.S (times_0:LL) (i_1 less_2 same_3 j_4:Int) (st:LL):S:=mkS 59 [(0,sV 1 times_0),(3,sI (if (11:Int)<(len times_0) then 11 else (len times_0))),(4,sI i_1),(5,sI less_2),(6,sI same_3),(7,sI j_4)] [] st
noncomputable def ZaG.p1.S (times_0:LL) (i_1:Int) (st:LL):S:=mkS 59 [(0,sV 1 times_0),(3,sI (if (11:Int)<(len times_0) then 11 else (len times_0))),(4,sI i_1)] [] st
theorem ZaG.p4_ok {times_0 i_1 less_7 same_10 j_4 st r c2_ c1_ J2 J1} (h:ZaG.p4 N c2_ c1_ times_0 i_1 less_7 same_10 j_4=some r) (hE:En Tryz.f106 g0 w0 (ZaG.rs r) st R) (hc2 : ∀less_2 same_3 j_4,c2_ (less_2,same_3,j_4)=some r→At g0 w0 (ZaG.p2.S times_0 i_1 less_2 same_3 j_4 st) J2) (hc1 : ∀i_1,c1_ i_1=some r→At g0 w0 (ZaG.p1.S times_0 i_1 st) J1):At g0 w0 (ZaG.p4.S times_0 i_1 less_7 same_10 j_4 st) (XK Tryz.prog R [.c (csub ZaG.B [1,1,0,1,0,0,1,0,0,1,1,0,1,0,0,1,1]),.h J2,.b 2,.c (csub ZaG.B [1,1,0,1,0,0,1,0,0,1,1,1]),.b 1,.c (csub ZaG.B [1,1,0,1,0,0,1,1]),.h J1,.b 0,.c (csub ZaG.B [1,1,1])]):=by
 unfold ZaG.p4 at h
 exact an fol [.r []] [0,3,4,5,6,7] [] trivial (hc2 less_7 same_10 (w64 (j_4+1)) h)
theorem ZaG.p3_ok {times_0 i_1 less_7 same_3 j_4 st r c2_ c1_ J2 J1} (h:ZaG.p3 N c2_ c1_ times_0 i_1 less_7 same_3 j_4=some r) (hE:En Tryz.f106 g0 w0 (ZaG.rs r) st R) (hc2 : ∀less_2 same_3 j_4,c2_ (less_2,same_3,j_4)=some r→At g0 w0 (ZaG.p2.S times_0 i_1 less_2 same_3 j_4 st) J2) (hc1 : ∀i_1,c1_ i_1=some r→At g0 w0 (ZaG.p1.S times_0 i_1 st) J1):At g0 w0 (ZaG.p3.S times_0 i_1 less_7 same_3 j_4 st) (XK Tryz.prog R [.c (csub ZaG.B [1,1,0,1,0,0,1,0,0,1,1,0,1,0,0,1,0,0,1]),.b 3,.c (csub ZaG.B [1,1,0,1,0,0,1,0,0,1,1,0,1,0,0,1,1]),.h J2,.b 2,.c (csub ZaG.B [1,1,0,1,0,0,1,0,0,1,1,1]),.b 1,.c (csub ZaG.B [1,1,0,1,0,0,1,1]),.h J1,.b 0,.c (csub ZaG.B [1,1,1])]):=by
 unfold ZaG.p3 at h
 obtain ⟨c10,c11,h1⟩:=ck2 h
 obtain ⟨x8,c12,h2⟩:=Zco h1
 obtain ⟨c13,c14,h3⟩:=ck2 h2
 obtain ⟨x9,c15,h4⟩:=Zco h3
 refine iteB h4 (fun c16 h5=>?_) (fun c16 h6=>?_)
 ·exact aqd fol [.d {ds:=[(3,{oe:=[L.int .i64 x8]}),(7,{oe:=[L.int .i64 x9]})],hv:=0,Hs:=[]},.c true,.r [],.s 9] [0,3,4,5,6,7] [] (aN c10 c11 c12 c13 c14 c15 c16) (ZaG.p4_ok h5 hE hc2 hc1)
 ·exact aqd fol [.d {ds:=[(3,{oe:=[L.int .i64 x8]}),(7,{oe:=[L.int .i64 x9]})],hv:=0,Hs:=[]},.c false,.s 9] [0,3,4,5,6,7] [] (aN c10 c11 c12 c13 c14 c15 c16) (ZaG.p4_ok h6 hE hc2 hc1)
theorem ZaG.p2_ok {times_0 i_1 less_2 same_3 j_4 st r c1_ c2_ J1 J2} (h:ZaG.p2 N c1_ times_0 i_1 c2_ (less_2,same_3,j_4)=some r) (hE:En Tryz.f106 g0 w0 (ZaG.rs r) st R) (hc1 : ∀i_1,c1_ i_1=some r→At g0 w0 (ZaG.p1.S times_0 i_1 st) J1) (hc2 : ∀less_2 same_3 j_4,c2_ (less_2,same_3,j_4)=some r→At g0 w0 (ZaG.p2.S times_0 i_1 less_2 same_3 j_4 st) J2):At g0 w0 (ZaG.p2.S times_0 i_1 less_2 same_3 j_4 st) (XK Tryz.prog R (.c (csub ZaG.B [1,1,0,1,0,0,1,0,0,1,1,0,1,0,0]) :: .h J2 :: [.b 2,.c (csub ZaG.B [1,1,0,1,0,0,1,0,0,1,1,1]),.b 1,.c (csub ZaG.B [1,1,0,1,0,0,1,1]),.h J1,.b 0,.c (csub ZaG.B [1,1,1])])):=by
 unfold ZaG.p2 at h
 refine iteB h (fun c2 h7=>?_) (fun c2 h8=>?_)
 ·obtain ⟨c3,c4,h9⟩:=ck2 h7
  obtain ⟨x5,c5,h10⟩:=Zco h9
  obtain ⟨c6,c7,h11⟩:=ck2 h10
  obtain ⟨x6,c8,h12⟩:=Zco h11
  refine iteB h12 (fun c9 h13=>?_) (fun c9 h14=>?_)
  ·exact aqd fol [.r [],.c true,.d {ds:=[(3,{oe:=[L.int .i64 x5]}),(7,{oe:=[L.int .i64 x6]})],hv:=0,Hs:=[]},.c true,.r [],.s 11] [0,3,4,5,6,7] [] (aO c2 c3 c4 c5 c6 c7 c8 c9) (ZaG.p3_ok h13 hE hc2 hc1)
  ·exact aqd fol [.r [],.c true,.d {ds:=[(3,{oe:=[L.int .i64 x5]}),(7,{oe:=[L.int .i64 x6]})],hv:=0,Hs:=[]},.c false,.s 11] [0,3,4,5,6,7] [] (aO c2 c3 c4 c5 c6 c7 c8 c9) (ZaG.p3_ok h14 hE hc2 hc1)
 ·refine iteB h8 (fun c17 h15=>?_) (fun c17 h16=>?_)
  ·refine iteB h15 (fun c18 h17=>?_) (fun c18 h18=>?_)
   ·obtain ⟨c19,c20,h19⟩:=ck2 h17
    obtain ⟨x11,c21,h20⟩:=Zco h19
    obtain rfl:=Zab h20
    exact af fol hE [.r [],.c false,.r [],.c true,.r [(3,{oe:=[L.int .i64 x11]})]] [] 0 [] (aO c2 (neI 2) c17 c17 (neI 2) c17 c17 (aN c17 c17 c17 c18 c19 c20 c21))
   ·exact an fol [.r [],.c false,.r [],.c false,.r []] [0,3,4] [] (aO c2 (neI 2) c17 c17 (neI 2) c17 c17 (aK c17 c17 c17 c18)) (hc1 (w64 (i_1+1)) h18)
  ·exact an fol [.r [],.c false,.r [(5,wF),(6,wF),(7,wF),(8,wF),(9,wF),(10,wF),(11,yF)],.c false,.r []] [0,3,4] [] (aO c2 (neI 2) c17 c17 c17 c17 c17 (aJ c17 c17 eF)) (hc1 (w64 (i_1+1)) h16)
theorem ZaG.p1_ok {times_0 i_1 st r c1_ J1} (h:ZaG.p1 N times_0 c1_ i_1=some r) (hE:En Tryz.f106 g0 w0 (ZaG.rs r) st R) (hc1 : ∀i_1,c1_ i_1=some r→At g0 w0 (ZaG.p1.S times_0 i_1 st) J1):At g0 w0 (ZaG.p1.S times_0 i_1 st) (XK Tryz.prog R (.c (csub ZaG.B [1,1,0,1,0,0]) :: .h J1 :: [.b 0,.c (csub ZaG.B [1,1,1])])):=by
 unfold ZaG.p1 at h
 refine iteB h (fun c1 h21=>?_) (fun c1 h22=>?_)
 ·exact aq fol [.r [],.c true,.r [],.r [],.r []] [0,3,4,5,6,7] [] c1 (At.loop N (At.loopN (fun y:Int×Int×Int=>ZaG.p2.S times_0 i_1 y.1 y.2.1 y.2.2 st) (fun c J hc y h=>ZaG.p2_ok (less_2:=y.1) (same_3:=y.2.1) (j_4:=y.2.2) h hE hc1 (fun less_2 same_3 j_4=>hc (less_2,same_3,j_4))) N (0,0,0) h21))
 ·obtain rfl:=Zab h22
  exact af fol hE [.r [],.c false,.r []] [] 0 [] c1
theorem ZaG.snd {times_0:LL} {r:Int} (h:ZaG N times_0=some r):SndQ Tryz.prog 106 [.one (L.sl 1 times_0)] (ZaG.rs r):=fun st=>
 sO ZaG.B Tryz.func106 fun g0 w0 R hE=>by
  unfold ZaG at h
  exact aq fol [.r [],.r [],.r []] [0,3,4] [] trivial (At.loop N (At.loopN (fun y:Int=>ZaG.p1.S times_0 y st) (fun c J hc y h=>ZaG.p1_ok h hE (fun i_1=>hc i_1)) N 0 h))
noncomputable def Zao.B:Code:=Tryz.f61.body.getD .skip
noncomputable def Zao.rs (r:Int):List CV:=[oI r]
noncomputable def Zao.p6 (N:Nat) (chain_1:LL) (p_0:Zae) (h_2:Zag) (c6_:Int→Option Int):Int→Option Int:=fun v21=>
 if (decide (v21<(len p_0.Checks)))=true then
  chk (0≤v21)<|
  getE (p_0.Checks[Int.toNat v21]?) ZdG fun x22=>
  if (x22.Height==(len chain_1))=true then
   optE (Zcn N h_2) fun x23=>
   if (!(x22.Id==x23))=true then
    some 8
   else
   c6_ (w64 (v21+1))
  else
  c6_ (w64 (v21+1))
 else
 some 0
noncomputable def Zao.p5 (N:Nat) (chain_1:LL) (p_0:Zae) (h_2:Zag) (c5_:Int→Option Int):Int→Option Int:=fun v19=>
 if (decide (v19<(len p_0.Gates)))=true then
  chk (0≤v19)<|
  getE (p_0.Gates[Int.toNat v19]?) ZdN fun x20=>
  if (decide (x20.Height≤(len chain_1)))=true then
   if (decide (h_2.Version<x20.Version))=true then
    some 7
   else
   c5_ (w64 (v19+1))
  else
  c5_ (w64 (v19+1))
 else
 loopN (Zao.p6 N chain_1 p_0 h_2) N 0
noncomputable def Zao.p4 (N:Nat) (chain_1:LL) (p_0:Zae) (h_2:Zag):Option Int:=
 loopN (Zao.p5 N chain_1 p_0 h_2) N 0
noncomputable def Zao.p3 (N:Nat) (now_3:Int) (chain_1:LL) (p_0:Zae) (h_2:Zag):Option Int:=
 if (decide (p_0.Future<0))=true then
  some 6
 else
 if (decide (h_2.Time>now_3))=true then
  if (decide ((w64 (h_2.Time-now_3))>p_0.Future))=true then
   some 6
  else
  Zao.p4 N chain_1 p_0 h_2
 else
 Zao.p4 N chain_1 p_0 h_2
noncomputable def Zao.p2 (N:Nat) (now_3:Int) (chain_1:LL) (p_0:Zae) (h_2:Zag) (c2_:(LL×Int)→Option Int):(LL×Int)→Option Int:=fun (times_15,v6)=>
 if (decide (v6<(len chain_1)))=true then
  chk (0≤v6)<|
  getE (chain_1[Int.toNat v6]?) ZcL fun x16=>
  chk (List.length (times_15 ++ [[L.int .i64 x16.Time]])*8≤140737488355328)<|
  c2_ (times_15 ++ [[L.int .i64 x16.Time]],w64 (v6+1))
 else
 if (decide ((len chain_1)>0))=true then
  optE (ZbY N times_15) fun x17=>
  chk (plainRow x17=true)<|
  optE (ZaG N x17) fun x18=>
  if (decide (h_2.Time≤x18))=true then
   some 5
  else
  Zao.p3 N now_3 chain_1 p_0 h_2
 else
 Zao.p3 N now_3 chain_1 p_0 h_2
noncomputable def Zao.p1 (N:Nat) (chain_1:LL) (now_3:Int) (p_0:Zae) (h_2:Zag):Option Int:=
 optE (Zay N p_0 chain_1 h_2.Time) fun x4=>
 if (h_2.Bits != x4)=true then
  some 3
 else
 optE (Zdm N p_0 h_2) fun x5=>
 if (!x5)=true then
  some 4
 else
 loopN (Zao.p2 N now_3 chain_1 p_0 h_2) N ([],0)
noncomputable def Zao (N:Nat) (p_0:Zae) (chain_1:LL) (h_2:Zag) (now_3:Int):Option Int:=
 optE (ZbT N h_2) fun x1=>
 if (!x1)=true then
  some 1
 else
 if (decide ((len chain_1)>0))=true then
  chk (0≤(w64 ((len chain_1)-1)))<|
  chk ((w64 ((len chain_1)-1))<(len chain_1))<|
  getE (chain_1[Int.toNat (w64 ((len chain_1)-1))]?) ZcL fun x2=>
  optE (Zcn N x2) fun x3=>
  if (!(h_2.Prev==x3))=true then
   some 2
  else
  Zao.p1 N chain_1 now_3 p_0 h_2
 else
 Zao.p1 N chain_1 now_3 p_0 h_2
noncomputable def Zao.p6.S (chain_1:LL) (p_0:Zae) (v21:Int) (h_2:Zag) (st:LL):S:=mkS 125 [(6,sA 6),(9,sI (len chain_1)),(107,sV 33 p_0.Checks),(108,sI (len p_0.Checks)),(109,sI v21)] [(6,.cells h_2.ls)] st
noncomputable def Zao.p5.S (chain_1:LL) (p_0:Zae) (v19:Int) (h_2:Zag) (st:LL):S:=mkS 125 [(4,sA 4),(6,sA 6),(9,sI (len chain_1)),(88,sV 2 p_0.Gates),(89,sI (len p_0.Gates)),(90,sI v19)] [(4,.cells p_0.ls),(6,.cells h_2.ls)] st
noncomputable def Zao.p4.S (chain_1:LL) (p_0:Zae) (h_2:Zag) (st:LL):S:=mkS 125 [(4,sA 4),(6,sA 6),(9,sI (len chain_1))] [(4,.cells p_0.ls),(6,.cells h_2.ls)] st
noncomputable def Zao.p3.S (now_3:Int) (chain_1:LL) (p_0:Zae) (h_2:Zag) (st:LL):S:=mkS 125 [(3,sI now_3),(4,sA 4),(6,sA 6),(9,sI (len chain_1))] [(4,.cells p_0.ls),(6,.cells h_2.ls)] st
noncomputable def Zao.p2.S (now_3:Int) (chain_1 times_15:LL) (v6:Int) (p_0:Zae) (h_2:Zag) (st:LL):S:=mkS 125 [(3,sI now_3),(4,sA 4),(6,sA 6),(9,sI (len chain_1)),(10,.one (.h (.row 10 0) 1 0 (List.length times_15))),(47,sV 68 chain_1),(48,sI (len chain_1)),(49,sI v6)] [(4,.cells p_0.ls),(6,.cells h_2.ls),(10,.row 0 true 1 times_15)] st
noncomputable def Zao.p1.S (chain_1:LL) (now_3:Int) (p_0:Zae) (h_2:Zag) (st:LL):S:=mkS 125 [(1,sV 68 chain_1),(3,sI now_3),(4,sA 4),(6,sA 6),(9,sI (len chain_1))] [(4,.cells p_0.ls),(6,.cells h_2.ls)] st
theorem Zao.p6_ok {chain_1 p_0 v21 h_2 st r c6_ J6} (h:Zao.p6 N chain_1 p_0 h_2 c6_ v21=some r) (hE:En Tryz.f61 g0 w0 (Zao.rs r) st R) (hc6 : ∀v21,c6_ v21=some r→At g0 w0 (Zao.p6.S chain_1 p_0 v21 h_2 st) J6):At g0 w0 (Zao.p6.S chain_1 p_0 v21 h_2 st) (XK Tryz.prog R (.c (csub Zao.B [1,1,1,1,1,1,1,1,1,1,1,0,1,0,0]) :: .h J6 :: [.b 4,.c (csub Zao.B [1,1,1,1,1,1,1,1,1,1,1,1])])):=by
 unfold Zao.p6 at h
 refine iteB h (fun c53 h1=>?_) (fun c53 h2=>?_)
 ·obtain ⟨c54,h3⟩:=ZaS h1
  obtain ⟨x22,c55,h4⟩:=ZdK h3
  refine iteB h4 (fun c56 h5=>?_) (fun c56 h6=>?_)
  ·obtain ⟨x23,c57,h7⟩:=Zad h5
   refine iteB h7 (fun c58 h8=>?_) (fun c58 h9=>?_)
   ·obtain rfl:=Zab h8
    exact afd fol hE [.r [],.c true,.r [(1,{oe:=x22.ls})],.d {ds:=[(8,q1 [.agg [L.arr .u8 32 x23]])],hv:=0,Hs:=[]},.c true,.r []] [] 0 [] (aO c53 c54 (oD c53) c55 c56 c56 c56 (aL c56 (Zcn.snd c57) c56 c56 c58))
   ·exact and_ fol [.r [],.c true,.r [(1,{oe:=x22.ls})],.d {ds:=[(8,q1 [.agg [L.arr .u8 32 x23]])],hv:=0,Hs:=[]},.c false,.r []] [6,9,107,108,109] [6] (aO c53 c54 (oD c53) c55 c56 c56 c56 (aL c56 (Zcn.snd c57) c56 c56 c58)) (hc6 (w64 (v21+1)) h9)
  ·exact and_ fol [.r [],.c true,.r [(1,{oe:=x22.ls})],.d {ds:=[(5,wF),(6,wF),(7,wF),(8,wF),(9,wF),(10,yF)],hv:=0,Hs:=[]},.c false,.r []] [6,9,107,108,109] [6] (aO c53 c54 (oD c53) c55 c56 c56 c56 (aK c56 c56 c56 eF)) (hc6 (w64 (v21+1)) h6)
 ·obtain rfl:=Zab h2
  exact af fol hE [.r [],.c false,.r []] [] 0 [] c53
theorem Zao.p5_ok {chain_1 p_0 v19 h_2 st r c5_ J5} (h:Zao.p5 N chain_1 p_0 h_2 c5_ v19=some r) (hE:En Tryz.f61 g0 w0 (Zao.rs r) st R) (hc5 : ∀v19,c5_ v19=some r→At g0 w0 (Zao.p5.S chain_1 p_0 v19 h_2 st) J5):At g0 w0 (Zao.p5.S chain_1 p_0 v19 h_2 st) (XK Tryz.prog R (.c (csub Zao.B [1,1,1,1,1,1,1,1,1,1,0,1,0,0]) :: .h J5 :: [.b 2,.c (csub Zao.B [1,1,1,1,1,1,1,1,1,1,1])])):=by
 unfold Zao.p5 at h
 refine iteB h (fun c48 h10=>?_) (fun c48 h11=>?_)
 ·obtain ⟨c49,h12⟩:=ZaS h10
  obtain ⟨x20,c50,h13⟩:=ZdR h12
  refine iteB h13 (fun c51 h14=>?_) (fun c51 h15=>?_)
  ·refine iteB h14 (fun c52 h16=>?_) (fun c52 h17=>?_)
   ·obtain rfl:=Zab h16
    exact af fol hE [.r [],.c true,.r [(1,{oe:=x20.ls})],.r [],.c true,.r []] [] 0 [] (aO c48 c49 (oD c48) c50 c51 c51 c51 (aK c51 c51 c51 c52))
   ·exact an fol [.r [],.c true,.r [(1,{oe:=x20.ls})],.r [],.c false,.r []] [4,6,9,88,89,90] [4,6] (aO c48 c49 (oD c48) c50 c51 c51 c51 (aK c51 c51 c51 c52)) (hc5 (w64 (v19+1)) h17)
  ·exact an fol [.r [],.c true,.r [(1,{oe:=x20.ls})],.r [(5,wF),(6,wF),(7,wF),(8,wF),(9,wF),(10,yF)],.c false,.r []] [4,6,9,88,89,90] [4,6] (aO c48 c49 (oD c48) c50 c51 c51 c51 (aK c51 c51 c51 eF)) (hc5 (w64 (v19+1)) h15)
 ·exact aq fol [.r [],.c false,.r []] [6,9,107,108,109] [6] c48 (At.loop N (At.loopN (fun y:Int=>Zao.p6.S chain_1 p_0 y h_2 st) (fun c J hc y h=>Zao.p6_ok h hE (fun v21=>hc v21)) N 0 h11))
theorem Zao.p4_ok {chain_1 p_0 h_2 st r} (h:Zao.p4 N chain_1 p_0 h_2=some r) (hE:En Tryz.f61 g0 w0 (Zao.rs r) st R):At g0 w0 (Zao.p4.S chain_1 p_0 h_2 st) (XK Tryz.prog R [.c (csub Zao.B [1,1,1,1,1,1,1,1,1,1])]):=by
 unfold Zao.p4 at h
 exact aq fol [.r []] [4,6,9,88,89,90] [4,6] trivial (At.loop N (At.loopN (fun y:Int=>Zao.p5.S chain_1 p_0 y h_2 st) (fun c J hc y h=>Zao.p5_ok h hE (fun v19=>hc v19)) N 0 h))
theorem Zao.p3_ok {now_3 chain_1 p_0 h_2 st r} (h:Zao.p3 N now_3 chain_1 p_0 h_2=some r) (hE:En Tryz.f61 g0 w0 (Zao.rs r) st R):At g0 w0 (Zao.p3.S now_3 chain_1 p_0 h_2 st) (XK Tryz.prog R [.c (csub Zao.B [1,1,1,1,1,1,1,1,1])]):=by
 unfold Zao.p3 at h
 refine iteB h (fun c45 h18=>?_) (fun c45 h19=>?_)
 ·obtain rfl:=Zab h18
  exact af fol hE [.r [(4,wF),(5,wF),(6,wF),(7,wF),(8,wF),(16,wF)],.c true,.r []] [] 0 [] (aO c45 c45 c45 c45 c45 c45 c45 eT)
 ·refine iteB h19 (fun c46 h20=>?_) (fun c46 h21=>?_)
  ·refine iteB h20 (fun c47 h22=>?_) (fun c47 h23=>?_)
   ·obtain rfl:=Zab h22
    exact af fol hE [.r [(17,yF)],.c true,.r []] [] 0 [] (aO c45 c45 c45 c45 c45 c46 c46 (aO c46 c46 c46 c46 c46 c45 c46 (aI c45 c47)))
   ·exact aq fol [.r [(17,yF)],.c false,.s 1] [4,6,9] [4,6] (aO c45 c45 c45 c45 c45 c46 c46 (aO c46 c46 c46 c46 c46 c45 c46 (aI c45 c47))) (Zao.p4_ok h23 hE)
  ·exact aq fol [.r [(9,wF),(10,wF),(11,wF),(12,wF),(13,wF),(14,wF),(15,wF),(16,yF),(17,yF)],.c false,.s 1] [4,6,9] [4,6] (aO c45 c45 c45 c45 c45 c46 c46 (aO c46 c46 c46 c46 c46 c45 c46 (aI c45 eF))) (Zao.p4_ok h21 hE)
theorem Zao.p2_ok {now_3 chain_1 times_15 v6 p_0 h_2 st r c2_ J2} (h:Zao.p2 N now_3 chain_1 p_0 h_2 c2_ (times_15,v6)=some r) (hE:En Tryz.f61 g0 w0 (Zao.rs r) st R) (hc2 : ∀times_15 v6,c2_ (times_15,v6)=some r→At g0 w0 (Zao.p2.S now_3 chain_1 times_15 v6 p_0 h_2 st) J2):At g0 w0 (Zao.p2.S now_3 chain_1 times_15 v6 p_0 h_2 st) (XK Tryz.prog R (.c (csub Zao.B [1,1,1,1,1,1,1,0,1,0,0]) :: .h J2 :: [.b 0,.c (csub Zao.B [1,1,1,1,1,1,1,1])])):=by
 unfold Zao.p2 at h
 refine iteB h (fun c36 h24=>?_) (fun c36 h25=>?_)
 ·obtain ⟨c37,h26⟩:=ZaS h24
  obtain ⟨x16,c38,h27⟩:=ZcJ h26
  obtain ⟨c39,h28⟩:=ZaS h27
  exact an fol [.r [],.c true,.r [(1,{oe:=x16.ls})],.r [],.r []] [3,4,6,9,10,47,48,49] [4,6,10] (aO c36 c37 (oD c36) c38 z0 (eN (List.length times_15)) z0 (aI (eN (1)) c39)) (hc2 (times_15 ++ [[L.int .i64 x16.Time]]) (w64 (v6+1)) h28)
 ·refine iteB h25 (fun c40 h29=>?_) (fun c40 h30=>?_)
  ·obtain ⟨x17,c41,h31⟩:=Zad h29
   obtain ⟨c42,h32⟩:=ZaS h31
   obtain ⟨x18,c43,h33⟩:=Zad h32
   refine iteB h33 (fun c44 h34=>?_) (fun c44 h35=>?_)
   ·obtain rfl:=Zab h34
    exact afd fol hE [.r [],.c false,.d {ds:=[(6,{rs:=[.row true 1 x17],ns:=[65],m:=2}),(7,{rs:=[oI x18],m:=2})],hv:=64,Hs:=[64]},.c true,.r []] [] 0 [] (aO c36 c40 c40 c40 c40 c40 c40 (aO z0 (eN (List.length times_15)) c42 (ZbY.snd c41) c40 z0 (eN (List.length x17)) (aK (ZaG.snd c43) c40 c40 c44)))
   ·exact aqd fol [.r [],.c false,.d {ds:=[(6,{rs:=[.row true 1 x17],ns:=[65],m:=2}),(7,{rs:=[oI x18],m:=2})],hv:=64,Hs:=[64]},.c false,.s 1] [3,4,6,9] [4,6] (aO c36 c40 c40 c40 c40 c40 c40 (aO z0 (eN (List.length times_15)) c42 (ZbY.snd c41) c40 z0 (eN (List.length x17)) (aK (ZaG.snd c43) c40 c40 c44))) (Zao.p3_ok h35 hE)
  ·exact aqd fol [.r [],.c false,.d {ds:=[(3,wF),(4,wF),(5,wF),(6,wF),(7,wF),(8,wF),(9,yF)],hv:=0,Hs:=[]},.c false,.s 1] [3,4,6,9] [4,6] (aO c36 c40 c40 c40 c40 c40 c40 (aI c40 eF)) (Zao.p3_ok h30 hE)
theorem Zao.p1_ok {chain_1 now_3 p_0 h_2 st r} (h:Zao.p1 N chain_1 now_3 p_0 h_2=some r) (hE:En Tryz.f61 g0 w0 (Zao.rs r) st R):At g0 w0 (Zao.p1.S chain_1 now_3 p_0 h_2 st) (XK Tryz.prog R [.c (csub Zao.B [1,1,1,1])]):=by
 unfold Zao.p1 at h
 obtain ⟨x4,c9,h36⟩:=Zad h
 refine iteB h36 (fun c10 h37=>?_) (fun c10 h38=>?_)
 ·obtain rfl:=Zab h37
  exact afd fol hE [.d {ds:=[(6,q1 [oI x4])],hv:=0,Hs:=[]},.c true,.r []] [] 0 [] (aI (Zay.snd c9) c10)
 ·obtain ⟨x5,c11,h39⟩:=Zad h38
  refine iteB h39 (fun c12 h40=>?_) (fun c12 h41=>?_)
  ·obtain rfl:=Zab h40
   exact afd fol hE [.d {ds:=[(6,q1 [oI x4])],hv:=0,Hs:=[]},.c false,.r [(2,q1 [oB x5])],.c true,.r []] [] 0 [] (aK (Zay.snd c9) c10 (Zdm.snd c11) c12)
  ·exact aqd fol [.d {ds:=[(6,q1 [oI x4])],hv:=0,Hs:=[]},.c false,.r [(2,q1 [oB x5])],.c false,.r [(0,{m:=1})],.r []] [3,4,6,9,10,47,48,49] [4,6,10] (aK (Zay.snd c9) c10 (Zdm.snd c11) c12) (At.loop N (At.loopN (fun y:LL×Int=>Zao.p2.S now_3 chain_1 y.1 y.2 p_0 h_2 st) (fun c J hc y h=>Zao.p2_ok (times_15:=y.1) (v6:=y.2) h hE (fun times_15 v6=>hc (times_15,v6))) N ([],0) h41))
theorem Zao.snd {p_0:Zae} {chain_1:LL} {h_2:Zag} {now_3:Int} {r:Int} (h:Zao N p_0 chain_1 h_2 now_3=some r):SndQ Tryz.prog 61 [.agg p_0.ls,.one (L.sl 68 chain_1),.agg h_2.ls,oI now_3] (Zao.rs r):=fun st=>
 sO Zao.B Tryz.func61 fun g0 w0 R hE=>by
  unfold Zao at h
  obtain ⟨x1,c1,h42⟩:=Zad h
  refine iteB h42 (fun c2 h43=>?_) (fun c2 h44=>?_)
  ·obtain rfl:=Zab h43
   exact af fol hE [.r [],.r [],.r [(1,q1 [oB x1])],.c true,.r []] [] 0 [] (aI (ZbT.snd c1) c2)
  ·refine iteB h44 (fun c3 h45=>?_) (fun c3 h46=>?_)
   ·obtain ⟨c4,c5,h47⟩:=ck2 h45
    obtain ⟨x2,c6,h48⟩:=ZcJ h47
    obtain ⟨x3,c7,h49⟩:=Zad h48
    refine iteB h49 (fun c8 h50=>?_) (fun c8 h51=>?_)
    ·obtain rfl:=Zab h50
     exact afd fol hE [.r [],.r [],.r [(1,q1 [oB x1])],.c false,.d {ds:=[(9,{oe:=x2.ls}),(10,q1 [.agg [L.arr .u8 32 x3]])],hv:=0,Hs:=[]},.c true,.r []] [] 0 [] (aO (ZbT.snd c1) c2 c3 c3 c3 c3 c3 (aO c3 c4 c5 c3 c6 c3 (Zcn.snd c7) (aJ c3 c3 c8)))
    ·exact aqd fol [.r [],.r [],.r [(1,q1 [oB x1])],.c false,.d {ds:=[(9,{oe:=x2.ls}),(10,q1 [.agg [L.arr .u8 32 x3]])],hv:=0,Hs:=[]},.c false,.s 1] [1,3,4,6,9] [4,6] (aO (ZbT.snd c1) c2 c3 c3 c3 c3 c3 (aO c3 c4 c5 c3 c6 c3 (Zcn.snd c7) (aJ c3 c3 c8))) (Zao.p1_ok h51 hE)
   ·exact aqd fol [.r [],.r [],.r [(1,q1 [oB x1])],.c false,.d {ds:=[(3,wF),(4,wF),(5,wF),(6,wF),(7,wF),(8,wF),(9,wF),(10,wF),(11,wF),(12,yF)],hv:=0,Hs:=[]},.c false,.s 1] [1,3,4,6,9] [4,6] (aO (ZbT.snd c1) c2 c3 c3 c3 c3 c3 (aM c3 c3 c3 c3 c3 eF)) (Zao.p1_ok h46 hE)
noncomputable def ZaN.B:Code:=Tryz.f143.body.getD .skip
noncomputable def ZaN.rs (r:Int×LL):List CV:=[oI r.1]
noncomputable def ZaN.p1 (N:Nat) (i1:Nat) (x2:Zaa) (id_1_0:List Int) (st:LL) (c1_:Int→Option (Int×LL)):Int→Option (Int×LL):=fun v3=>
 if (decide (v3<(len x2.Ids)))=true then
  chk (0≤v3)<|
  getE (st[i1]?) Zcl fun x4=>
  getE (x4.Ids[0+(Int.toNat v3)]?) Zel fun x5=>
  if (x5==id_1_0)=true then
   some (v3,st)
  else
  c1_ (w64 (v3+1))
 else
 some ((-1),st)
noncomputable def ZaN (N:Nat) (a_0:Option Nat) (id_1_0:List Int) (st:LL):Option (Int×LL):=
 optE a_0 fun i1=>
 getE (st[i1]?) Zcl fun x2=>
 loopN (ZaN.p1 N i1 x2 id_1_0 st) N 0
noncomputable def ZaN.p1.S (i1:Nat) (x2:Zaa) (v3:Int) (id_1_0:List Int) (st:LL):S:=mkS 22 [(3,sA 3),(10,.one (.h (.mem (.obj i1) 84 0) 32 0 (List.length x2.Ids))),(11,sI (len x2.Ids)),(12,sI v3)] [(3,.cells [L.arr .u8 32 id_1_0])] st
theorem ZaN.p1_ok {i1 x2 v3 id_1_0 st r c1_ J1} (h:ZaN.p1 N i1 x2 id_1_0 st c1_ v3=some r) (hE:En Tryz.f143 g0 w0 (ZaN.rs r) r.2 R) (hc1 : ∀v3,c1_ v3=some r→At g0 w0 (ZaN.p1.S i1 x2 v3 id_1_0 st) J1):At g0 w0 (ZaN.p1.S i1 x2 v3 id_1_0 st) (XK Tryz.prog R (.c (csub ZaN.B [1,0,1,0,0]) :: .h J1 :: [.b 0,.c (csub ZaN.B [1,1])])):=by
 unfold ZaN.p1 at h
 refine iteB h (fun c3 h1=>?_) (fun c3 h2=>?_)
 ·obtain ⟨c4,h3⟩:=ZaS h1
  obtain ⟨x4,c5,h4⟩:=ZcI h3
  obtain ⟨x5,c6,h5⟩:=ZdP h4
  refine iteB h5 (fun c7 h6=>?_) (fun c7 h7=>?_)
  ·obtain rfl:=Zab h6
   exact af fol hE [.r [],.c true,.r [(2,{oc:=x4.lo,oe:=[L.arr .u8 32 x5]})],.r [],.c true,.r []] [] 0 [] (aM c3 c4 (oD c3) c6 c5 c7)
  ·exact an fol [.r [],.c true,.r [(2,{oc:=x4.lo,oe:=[L.arr .u8 32 x5]})],.r [],.c false,.r []] [3,10,11,12] [3] (aM c3 c4 (oD c3) c6 c5 c7) (hc1 (w64 (v3+1)) h7)
 ·obtain rfl:=Zab h2
  exact af fol hE [.r [],.c false,.r []] [] 0 [] c3
theorem ZaN.snd {a_0:Option Nat} {id_1_0:List Int} {st:LL} {r:Int×LL} (h:ZaN N a_0 id_1_0 st=some r):Snd Tryz.prog 143 [.one (L.ptr a_0),.agg [L.arr .u8 32 id_1_0]] st (ZaN.rs r) r.2:=
 sO ZaN.B Tryz.func143 fun g0 w0 R hE=>by
  unfold ZaN at h
  obtain ⟨i1,rfl,h8⟩:=Zad h
  obtain ⟨x2,c2,h9⟩:=ZcI h8
  exact aq fol [.r [],.r [(3,{oc:=x2.lo})]] [3,10,11,12] [3] c2 (At.loop N (At.loopN (fun y:Int=>ZaN.p1.S i1 x2 y id_1_0 st) (fun c J hc y h=>ZaN.p1_ok h hE (fun v3=>hc v3)) N 0 h9))
noncomputable def ZdM.B:Code:=Tryz.f105.body.getD .skip
noncomputable def ZdM.rs (r:(List Int)):List CV:=[.agg [L.arr .u64 4 r]]
noncomputable def ZdM (N:Nat) (a_0_0 b_1_0:List Int):Option (List Int):=
 optE (ZaY N a_0_0 b_1_0) fun (x1,x2)=>
 if x2=true then
  optE (ZcD N ) fun x3=>
  some x3
 else
 some x1
theorem ZdM.snd {a_0_0 b_1_0:List Int} {r:(List Int)} (h:ZdM N a_0_0 b_1_0=some r):SndQ Tryz.prog 105 [.agg [L.arr .u64 4 a_0_0],.agg [L.arr .u64 4 b_1_0]] (ZdM.rs r):=fun st=>
 sO ZdM.B Tryz.func105 fun g0 w0 R hE=>by
  unfold ZdM at h
  obtain ⟨⟨x1,x2⟩,c1,h1⟩:=Zad h
  refine iteB h1 (fun c2 h2=>?_) (fun c2 h3=>?_)
  ·obtain ⟨x3,c3,h4⟩:=Zad h2
   obtain rfl:=Zab h4
   exact af fol hE [.r [],.r [(2,q1 [.agg [L.arr .u64 4 x1],oB x2])],.r [],.c true,.r [(0,q1 [.agg [L.arr .u64 4 x3]])]] [] 0 [] (aJ (ZaY.snd c1) c2 (ZcD.snd c3))
  ·obtain rfl:=Zab h3
   exact af fol hE [.r [],.r [(2,q1 [.agg [L.arr .u64 4 x1],oB x2])],.r [],.c false,.r []] [] 0 [] (aI (ZaY.snd c1) c2)
noncomputable def Zcz.B:Code:=Tryz.f85.body.getD .skip
noncomputable def Zcz.rs (r:Int×Int×Int×LL):List CV:=[oI r.1,oI r.2.1,oI r.2.2.1]
noncomputable def Zcz (N:Nat) (a_0:Option Nat) (h_1:Zag) (now_2:Int) (st:LL):Option (Int×Int×Int×LL):=
 optE (ZbT N h_1) fun x1=>
 if (!x1)=true then
  some ((-1),1,8,st)
 else
 optE (Zcn N h_1) fun x2=>
 optE (ZaN N a_0 x2 st) fun (x3,st4)=>
 if (decide (x3≥0))=true then
  some (x3,0,0,st4)
 else
 optE (ZaN N a_0 h_1.Prev st4) fun (x5,st6)=>
 if (decide (x5<0))=true then
  some ((-1),2,5,st6)
 else
 optE a_0 fun i7=>
 getE (st6[i7]?) Zcl fun x8=>
 optE (ZaP N x8 x5) fun x9=>
 chk (plainRow x9=true)<|
 optE (Zao N x8.Rules x9 h_1 now_2) fun x10=>
 if (decide (x10>0))=true then
  some ((-1),x10,8,st6)
 else
 if (decide ((len x8.List_)≥x8.Room))=true then
  some ((-1),0,6,st6)
 else
 chk (List.length (x8.List_ ++ [h_1.ls])*96≤140737488355328)<|
 chk (List.length (x8.Ids ++ [[L.arr .u8 32 x2]])*32≤140737488355328)<|
 chk (0≤x5)<|
 chk (x5<(len x8.Works))<|
 getE (x8.Works[0+(Int.toNat x5)]?) Zge fun x11=>
 optE (Zca N h_1.Bits) fun x12=>
 optE (ZdM N x11 x12) fun x13=>
 chk (List.length (x8.Works ++ [[L.arr .u64 4 x13]])*32≤140737488355328)<|
 chk (List.length (x8.Ahead ++ [[L.int .i64 x5]])*8≤140737488355328)<|
 some (w64 ((len (x8.List_ ++ [h_1.ls]))-1),0,0,List.set (List.set (List.set (List.set (List.set (List.set (List.set (List.set st6 i7 (gs x8.lo 15)) i7 (Zaa.lo {x8 with List_:=x8.List_ ++ [h_1.ls]})) i7 (gs (Zaa.lo {x8 with List_:=x8.List_ ++ [h_1.ls]}) 16)) i7 (Zaa.lo {x8 with List_:=x8.List_ ++ [h_1.ls],Ids:=x8.Ids ++ [[L.arr .u8 32 x2]]})) i7 (gs (Zaa.lo {x8 with List_:=x8.List_ ++ [h_1.ls],Ids:=x8.Ids ++ [[L.arr .u8 32 x2]]}) 18)) i7 (Zaa.lo {x8 with List_:=x8.List_ ++ [h_1.ls],Ids:=x8.Ids ++ [[L.arr .u8 32 x2]],Works:=x8.Works ++ [[L.arr .u64 4 x13]]})) i7 (gs (Zaa.lo {x8 with List_:=x8.List_ ++ [h_1.ls],Ids:=x8.Ids ++ [[L.arr .u8 32 x2]],Works:=x8.Works ++ [[L.arr .u64 4 x13]]}) 17)) i7 (Zaa.lo (Zaa.mk x8.Rules (x8.List_ ++ [h_1.ls]) (x8.Ids ++ [[L.arr .u8 32 x2]]) (x8.Ahead ++ [[L.int .i64 x5]]) (x8.Works ++ [[L.arr .u64 4 x13]]) x8.Room)))
theorem Zcz.snd {a_0:Option Nat} {h_1:Zag} {now_2:Int} {st:LL} {r:Int×Int×Int×LL} (h:Zcz N a_0 h_1 now_2 st=some r):Snd Tryz.prog 85 [.one (L.ptr a_0),.agg h_1.ls,oI now_2] st (Zcz.rs r) r.2.2.2:=
 sO Zcz.B Tryz.func85 fun g0 w0 R hE=>by
  unfold Zcz at h
  obtain ⟨x1,c1,h1⟩:=Zad h
  refine iteB h1 (fun c2 h2=>?_) (fun c2 h3=>?_)
  ·obtain rfl:=Zab h2
   exact af fol hE [.r [],.r [(1,q1 [oB x1])],.c true,.r []] [] 0 [] (aI (ZbT.snd c1) c2)
  ·obtain ⟨x2,c3,h4⟩:=Zad h3
   obtain ⟨⟨x3,st4⟩,c4,h5⟩:=Zad h4
   refine iteB h5 (fun c5 h6=>?_) (fun c5 h7=>?_)
   ·obtain rfl:=Zab h6
    exact af fol hE [.r [],.r [(1,q1 [oB x1])],.c false,.r [(2,q1 [.agg [L.arr .u8 32 x2]]),(3,{rs:=[oI x3],st:=st4})],.r [],.c true,.r []] [] 0 [] (aL (ZbT.snd c1) c2 (Zcn.snd c3) (ZaN.snd c4) c5)
   ·obtain ⟨⟨x5,st6⟩,c6,h8⟩:=Zad h7
    refine iteB h8 (fun c7 h9=>?_) (fun c7 h10=>?_)
    ·obtain rfl:=Zab h9
     exact af fol hE [.r [],.r [(1,q1 [oB x1])],.c false,.r [(2,q1 [.agg [L.arr .u8 32 x2]]),(3,{rs:=[oI x3],st:=st4})],.r [],.c false,.r [(3,{rs:=[oI x5],st:=st6})],.r [],.c true,.r []] [] 0 [] (aN (ZbT.snd c1) c2 (Zcn.snd c3) (ZaN.snd c4) c5 (ZaN.snd c6) c7)
    ·obtain ⟨i7,rfl,h11⟩:=Zad h10
     obtain ⟨x8,c9,h12⟩:=ZcI h11
     obtain ⟨x9,c10,h13⟩:=Zad h12
     obtain ⟨c11,h14⟩:=ZaS h13
     obtain ⟨x10,c12,h15⟩:=Zad h14
     refine iteB h15 (fun c13 h16=>?_) (fun c13 h17=>?_)
     ·obtain rfl:=Zab h16
      exact afd fol hE [.r [],.r [(1,q1 [oB x1])],.c false,.r [(2,q1 [.agg [L.arr .u8 32 x2]]),(3,{rs:=[oI x3],st:=st4})],.r [],.c false,.r [(3,{rs:=[oI x5],st:=st6})],.r [],.c false,.d {ds:=[(3,{oc:=x8.lo}),(6,{rs:=[.row true 68 x9],ns:=[34],m:=10,cv:=[.one (L.bx 88 x8.ls)]}),(9,{rs:=[oI x10],m:=2})],hv:=64,Hs:=[64]},.r [],.c true,.r []] [] 0 [] (aO (ZbT.snd c1) c2 (Zcn.snd c3) (ZaN.snd c4) c5 (ZaN.snd c6) c7 (aO c9 c9 (bO 88 c9 (Zaa.bv x8)) c11 (ZaP.snd c10) z0 (eN (List.length x9)) (aI (Zao.snd c12) c13)))
     ·refine iteB h17 (fun c14 h18=>?_) (fun c14 h19=>?_)
      ·obtain rfl:=Zab h18
       exact afd fol hE [.r [],.r [(1,q1 [oB x1])],.c false,.r [(2,q1 [.agg [L.arr .u8 32 x2]]),(3,{rs:=[oI x3],st:=st4})],.r [],.c false,.r [(3,{rs:=[oI x5],st:=st6})],.r [],.c false,.d {ds:=[(3,{oc:=x8.lo}),(6,{rs:=[.row true 68 x9],ns:=[34],m:=10,cv:=[.one (L.bx 88 x8.ls)]}),(9,{rs:=[oI x10],m:=2})],hv:=64,Hs:=[64]},.r [],.c false,.d {ds:=[(3,{oc:=x8.lo}),(8,{oc:=x8.lo})],hv:=0,Hs:=[]},.c true,.r []] [] 0 [] (aO (ZbT.snd c1) c2 (Zcn.snd c3) (ZaN.snd c4) c5 (ZaN.snd c6) c7 (aO c9 c9 (bO 88 c9 (Zaa.bv x8)) c11 (ZaP.snd c10) z0 (eN (List.length x9)) (aL (Zao.snd c12) c13 c9 c9 c14)))
      ·obtain ⟨c15,c16,c17,c18,h20⟩:=ck4 h19
       obtain ⟨x11,c19,h21⟩:=Zhd h20
       obtain ⟨x12,c20,h22⟩:=Zad h21
       obtain ⟨x13,c21,h23⟩:=Zad h22
       obtain ⟨c22,c23,h24⟩:=ck2 h23
       obtain rfl:=Zab h24
       exact afd fol hE [.r [],.r [(1,q1 [oB x1])],.c false,.r [(2,q1 [.agg [L.arr .u8 32 x2]]),(3,{rs:=[oI x3],st:=st4})],.r [],.c false,.r [(3,{rs:=[oI x5],st:=st6})],.r [],.c false,.d {ds:=[(3,{oc:=x8.lo}),(6,{rs:=[.row true 68 x9],ns:=[34],m:=10,cv:=[.one (L.bx 88 x8.ls)]}),(9,{rs:=[oI x10],m:=2})],hv:=64,Hs:=[64]},.r [],.c false,.d {ds:=[(3,{oc:=x8.lo}),(8,{oc:=x8.lo})],hv:=0,Hs:=[]},.c false,.d {ds:=[(4,{oc:=x8.lo}),(7,{oe:=x8.lo}),(10,{oc:=gs x8.lo 15,mv:=[58]})],hv:=1216,Hs:=[64,192,1216]},.d {ds:=[(4,{oc:=Zaa.lo {x8 with List_:=x8.List_ ++ [h_1.ls]}}),(6,q1 [.agg [L.arr .u8 32 x2]]),(8,{oe:=Zaa.lo {x8 with List_:=x8.List_ ++ [h_1.ls]}}),(11,{oc:=gs (Zaa.lo {x8 with List_:=x8.List_ ++ [h_1.ls]}) 16,mv:=[69]})],hv:=2432,Hs:=[128,384,2432]},.d {ds:=[(4,{oc:=Zaa.lo {x8 with List_:=x8.List_ ++ [h_1.ls],Ids:=x8.Ids ++ [[L.arr .u8 32 x2]]}}),(8,{oc:=Zaa.lo {x8 with List_:=x8.List_ ++ [h_1.ls],Ids:=x8.Ids ++ [[L.arr .u8 32 x2]]}}),(11,{oc:=Zaa.lo {x8 with List_:=x8.List_ ++ [h_1.ls],Ids:=x8.Ids ++ [[L.arr .u8 32 x2]]},oe:=[L.arr .u64 4 x11]}),(14,q1 [.agg [L.arr .u64 4 x12]]),(15,q1 [.agg [L.arr .u64 4 x13]]),(17,{oe:=Zaa.lo {x8 with List_:=x8.List_ ++ [h_1.ls],Ids:=x8.Ids ++ [[L.arr .u8 32 x2]]}}),(20,{oc:=gs (Zaa.lo {x8 with List_:=x8.List_ ++ [h_1.ls],Ids:=x8.Ids ++ [[L.arr .u8 32 x2]]}) 18,mv:=[89]})],hv:=1245184,Hs:=[65536,196608,1245184]},.r [(4,{oc:=Zaa.lo {x8 with List_:=x8.List_ ++ [h_1.ls],Ids:=x8.Ids ++ [[L.arr .u8 32 x2]],Works:=x8.Works ++ [[L.arr .u64 4 x13]]}}),(7,{oe:=Zaa.lo {x8 with List_:=x8.List_ ++ [h_1.ls],Ids:=x8.Ids ++ [[L.arr .u8 32 x2]],Works:=x8.Works ++ [[L.arr .u64 4 x13]]}}),(10,{oc:=gs (Zaa.lo {x8 with List_:=x8.List_ ++ [h_1.ls],Ids:=x8.Ids ++ [[L.arr .u8 32 x2]],Works:=x8.Works ++ [[L.arr .u64 4 x13]]}) 17,mv:=[99]})],.r [(3,{oc:=Zaa.lo (Zaa.mk x8.Rules (x8.List_ ++ [h_1.ls]) (x8.Ids ++ [[L.arr .u8 32 x2]]) (x8.Ahead ++ [[L.int .i64 x5]]) (x8.Works ++ [[L.arr .u64 4 x13]]) x8.Room)})]] [] 0 [] (aO (ZbT.snd c1) c2 (Zcn.snd c3) (ZaN.snd c4) c5 (ZaN.snd c6) c7 (aO c9 c9 (bO 88 c9 (Zaa.bv x8)) c11 (ZaP.snd c10) z0 (eN (List.length x9)) (aO (Zao.snd c12) c13 c9 c9 c14 c9 c9 (aO z0 (eN (List.length x8.List_)) c9 z0 (eN (1)) c15 (Zal c9 (gs x8.lo 15)) (aO z0 (eN (List.length (x8.List_ ++ [h_1.ls]))) (Zal (Zal c9 (gs x8.lo 15)) (Zaa.lo {x8 with List_:=x8.List_ ++ [h_1.ls]})) (Zal (Zal c9 (gs x8.lo 15)) (Zaa.lo {x8 with List_:=x8.List_ ++ [h_1.ls]})) (Zcn.snd c3) z0 (eN (List.length x8.Ids)) (aO (Zal (Zal c9 (gs x8.lo 15)) (Zaa.lo {x8 with List_:=x8.List_ ++ [h_1.ls]})) z0 (eN (1)) c16 (Zal (Zal (Zal c9 (gs x8.lo 15)) (Zaa.lo {x8 with List_:=x8.List_ ++ [h_1.ls]})) (gs (Zaa.lo {x8 with List_:=x8.List_ ++ [h_1.ls]}) 16)) z0 (eN (List.length (x8.Ids ++ [[L.arr .u8 32 x2]]))) (aO (Zal (Zal (Zal (Zal c9 (gs x8.lo 15)) (Zaa.lo {x8 with List_:=x8.List_ ++ [h_1.ls]})) (gs (Zaa.lo {x8 with List_:=x8.List_ ++ [h_1.ls]}) 16)) (Zaa.lo {x8 with List_:=x8.List_ ++ [h_1.ls],Ids:=x8.Ids ++ [[L.arr .u8 32 x2]]})) (Zal (Zal (Zal (Zal c9 (gs x8.lo 15)) (Zaa.lo {x8 with List_:=x8.List_ ++ [h_1.ls]})) (gs (Zaa.lo {x8 with List_:=x8.List_ ++ [h_1.ls]}) 16)) (Zaa.lo {x8 with List_:=x8.List_ ++ [h_1.ls],Ids:=x8.Ids ++ [[L.arr .u8 32 x2]]})) (Zal (Zal (Zal (Zal c9 (gs x8.lo 15)) (Zaa.lo {x8 with List_:=x8.List_ ++ [h_1.ls]})) (gs (Zaa.lo {x8 with List_:=x8.List_ ++ [h_1.ls]}) 16)) (Zaa.lo {x8 with List_:=x8.List_ ++ [h_1.ls],Ids:=x8.Ids ++ [[L.arr .u8 32 x2]]})) c17 c18 c19 (Zal (Zal (Zal (Zal c9 (gs x8.lo 15)) (Zaa.lo {x8 with List_:=x8.List_ ++ [h_1.ls]})) (gs (Zaa.lo {x8 with List_:=x8.List_ ++ [h_1.ls]}) 16)) (Zaa.lo {x8 with List_:=x8.List_ ++ [h_1.ls],Ids:=x8.Ids ++ [[L.arr .u8 32 x2]]})) (aO (Zca.snd c20) (ZdM.snd c21) z0 (eN (List.length x8.Works)) (Zal (Zal (Zal (Zal c9 (gs x8.lo 15)) (Zaa.lo {x8 with List_:=x8.List_ ++ [h_1.ls]})) (gs (Zaa.lo {x8 with List_:=x8.List_ ++ [h_1.ls]}) 16)) (Zaa.lo {x8 with List_:=x8.List_ ++ [h_1.ls],Ids:=x8.Ids ++ [[L.arr .u8 32 x2]]})) z0 (eN (1)) (aO c22 (Zal (Zal (Zal (Zal (Zal c9 (gs x8.lo 15)) (Zaa.lo {x8 with List_:=x8.List_ ++ [h_1.ls]})) (gs (Zaa.lo {x8 with List_:=x8.List_ ++ [h_1.ls]}) 16)) (Zaa.lo {x8 with List_:=x8.List_ ++ [h_1.ls],Ids:=x8.Ids ++ [[L.arr .u8 32 x2]]})) (gs (Zaa.lo {x8 with List_:=x8.List_ ++ [h_1.ls],Ids:=x8.Ids ++ [[L.arr .u8 32 x2]]}) 18)) z0 (eN (List.length (x8.Works ++ [[L.arr .u64 4 x13]]))) (Zal (Zal (Zal (Zal (Zal (Zal c9 (gs x8.lo 15)) (Zaa.lo {x8 with List_:=x8.List_ ++ [h_1.ls]})) (gs (Zaa.lo {x8 with List_:=x8.List_ ++ [h_1.ls]}) 16)) (Zaa.lo {x8 with List_:=x8.List_ ++ [h_1.ls],Ids:=x8.Ids ++ [[L.arr .u8 32 x2]]})) (gs (Zaa.lo {x8 with List_:=x8.List_ ++ [h_1.ls],Ids:=x8.Ids ++ [[L.arr .u8 32 x2]]}) 18)) (Zaa.lo {x8 with List_:=x8.List_ ++ [h_1.ls],Ids:=x8.Ids ++ [[L.arr .u8 32 x2]],Works:=x8.Works ++ [[L.arr .u64 4 x13]]})) z0 (eN (List.length x8.Ahead)) (aO (Zal (Zal (Zal (Zal (Zal (Zal c9 (gs x8.lo 15)) (Zaa.lo {x8 with List_:=x8.List_ ++ [h_1.ls]})) (gs (Zaa.lo {x8 with List_:=x8.List_ ++ [h_1.ls]}) 16)) (Zaa.lo {x8 with List_:=x8.List_ ++ [h_1.ls],Ids:=x8.Ids ++ [[L.arr .u8 32 x2]]})) (gs (Zaa.lo {x8 with List_:=x8.List_ ++ [h_1.ls],Ids:=x8.Ids ++ [[L.arr .u8 32 x2]]}) 18)) (Zaa.lo {x8 with List_:=x8.List_ ++ [h_1.ls],Ids:=x8.Ids ++ [[L.arr .u8 32 x2]],Works:=x8.Works ++ [[L.arr .u64 4 x13]]})) z0 (eN (1)) c23 (Zal (Zal (Zal (Zal (Zal (Zal (Zal c9 (gs x8.lo 15)) (Zaa.lo {x8 with List_:=x8.List_ ++ [h_1.ls]})) (gs (Zaa.lo {x8 with List_:=x8.List_ ++ [h_1.ls]}) 16)) (Zaa.lo {x8 with List_:=x8.List_ ++ [h_1.ls],Ids:=x8.Ids ++ [[L.arr .u8 32 x2]]})) (gs (Zaa.lo {x8 with List_:=x8.List_ ++ [h_1.ls],Ids:=x8.Ids ++ [[L.arr .u8 32 x2]]}) 18)) (Zaa.lo {x8 with List_:=x8.List_ ++ [h_1.ls],Ids:=x8.Ids ++ [[L.arr .u8 32 x2]],Works:=x8.Works ++ [[L.arr .u64 4 x13]]})) (gs (Zaa.lo {x8 with List_:=x8.List_ ++ [h_1.ls],Ids:=x8.Ids ++ [[L.arr .u8 32 x2]],Works:=x8.Works ++ [[L.arr .u64 4 x13]]}) 17)) z0 (eN (List.length (x8.Ahead ++ [[L.int .i64 x5]]))) (Zal (Zal (Zal (Zal (Zal (Zal (Zal (Zal c9 (gs x8.lo 15)) (Zaa.lo {x8 with List_:=x8.List_ ++ [h_1.ls]})) (gs (Zaa.lo {x8 with List_:=x8.List_ ++ [h_1.ls]}) 16)) (Zaa.lo {x8 with List_:=x8.List_ ++ [h_1.ls],Ids:=x8.Ids ++ [[L.arr .u8 32 x2]]})) (gs (Zaa.lo {x8 with List_:=x8.List_ ++ [h_1.ls],Ids:=x8.Ids ++ [[L.arr .u8 32 x2]]}) 18)) (Zaa.lo {x8 with List_:=x8.List_ ++ [h_1.ls],Ids:=x8.Ids ++ [[L.arr .u8 32 x2]],Works:=x8.Works ++ [[L.arr .u64 4 x13]]})) (gs (Zaa.lo {x8 with List_:=x8.List_ ++ [h_1.ls],Ids:=x8.Ids ++ [[L.arr .u8 32 x2]],Works:=x8.Works ++ [[L.arr .u64 4 x13]]}) 17)) (Zaa.lo (Zaa.mk x8.Rules (x8.List_ ++ [h_1.ls]) (x8.Ids ++ [[L.arr .u8 32 x2]]) (x8.Ahead ++ [[L.int .i64 x5]]) (x8.Works ++ [[L.arr .u64 4 x13]]) x8.Room)))))))))))))
noncomputable def ZbN.B:Code:=Tryz.f17.body.getD .skip
noncomputable def ZbN.rs (r:(Option Nat)×(Option Nat)×LL):List CV:=[.one (L.ptr r.1),.one (L.ptr r.2.1)]
noncomputable def ZbN.p1 (N:Nat) (x1 x4:Option Nat) (list_1:LL) (c1_:(Int×LL)→Option ((Option Nat)×(Option Nat)×LL)):(Int×LL)→Option ((Option Nat)×(Option Nat)×LL):=fun (v6,st16)=>
 if (decide (v6<(len list_1)))=true then
  chk (0≤v6)<|
  getE (list_1[Int.toNat v6]?) Zdc fun x17=>
  optE (ZbI N x1 x17.Header x17.Now st16) fun (x18,x19,x20,st21)=>
  optE (Zcz N x4 x17.Header x17.Now st21) fun (x22,x23,x24,st25)=>
  c1_ (w64 (v6+1),st25)
 else
 some (x1,x4,st16)
noncomputable def ZbN (N:Nat) (p_0:Zae) (list_1 st:LL):Option ((Option Nat)×(Option Nat)×LL):=
 optE (Zer N p_0 100 st) fun (x1,x2,st3)=>
 optE (ZdL N p_0 100 st3) fun (x4,st5)=>
 loopN (ZbN.p1 N x1 x4 list_1) N (0,st5)
noncomputable def ZbN.p1.S (x1 x4:Option Nat) (list_1:LL) (v6:Int) (st16:LL):S:=mkS 39 [(6,sP x1),(8,sP x4),(18,sV 69 list_1),(19,sI (len list_1)),(20,sI v6)] [] st16
theorem ZbN.p1_ok {x1 x4 list_1 v6 st16 r c1_ J1} (h:ZbN.p1 N x1 x4 list_1 c1_ (v6,st16)=some r) (hE:En Tryz.f17 g0 w0 (ZbN.rs r) r.2.2 R) (hc1 : ∀v6 st16,c1_ (v6,st16)=some r→At g0 w0 (ZbN.p1.S x1 x4 list_1 v6 st16) J1):At g0 w0 (ZbN.p1.S x1 x4 list_1 v6 st16) (XK Tryz.prog R (.c (csub ZbN.B [1,1,1,0,1,0,0]) :: .h J1 :: [.b 0,.c (csub ZbN.B [1,1,1,1])])):=by
 unfold ZbN.p1 at h
 refine iteB h (fun c8 h1=>?_) (fun c8 h2=>?_)
 ·obtain ⟨c9,h3⟩:=ZaS h1
  obtain ⟨x17,c10,h4⟩:=ZdZ h3
  obtain ⟨⟨x18,x19,x20,st21⟩,c11,h5⟩:=Zad h4
  obtain ⟨⟨x22,x23,x24,st25⟩,c12,h6⟩:=Zad h5
  exact an fol [.r [],.c true,.r [(1,{oe:=x17.ls})],.r [(5,{rs:=[oI x18,oI x19,oI x20],st:=st21})],.r [(5,{rs:=[oI x22,oI x23,oI x24],st:=st25})],.r []] [6,8,18,19,20] [] (aM c8 c9 (oD c8) c10 (ZbI.snd c11) (Zcz.snd c12)) (hc1 (w64 (v6+1)) st25 h6)
 ·obtain rfl:=Zab h2
  exact af fol hE [.r [],.c false,.r []] [] 0 [] c8
theorem ZbN.snd {p_0:Zae} {list_1:LL} {st:LL} {r:(Option Nat)×(Option Nat)×LL} (h:ZbN N p_0 list_1 st=some r):Snd Tryz.prog 17 [.agg p_0.ls,.one (L.sl 69 list_1)] st (ZbN.rs r) r.2.2:=
 sO ZbN.B Tryz.func17 fun g0 w0 R hE=>by
  unfold ZbN at h
  obtain ⟨⟨x1,x2,st3⟩,c1,h7⟩:=Zad h
  obtain ⟨⟨x4,st5⟩,c2,h8⟩:=Zad h7
  exact aq fol [.r [],.r [(1,{rs:=[.one (L.ptr x1),oI x2],st:=st3})],.r [(1,{rs:=[.one (L.ptr x4)],st:=st5})],.r []] [6,8,18,19,20] [] (aI (Zer.snd c1) (ZdL.snd c2)) (At.loop N (At.loopN (fun y:Int×LL=>ZbN.p1.S x1 x4 list_1 y.1 y.2) (fun c J hc y h=>ZbN.p1_ok (v6:=y.1) (st16:=y.2) h hE (fun v6 st16=>hc (v6,st16))) N (0,st5) h8))
noncomputable def Zbe.B:Code:=Tryz.f49.body.getD .skip
noncomputable def Zbe.rs (r:LL):List CV:=[.row true 1 r]
noncomputable def Zbe.p1 (N:Nat) (t_0:ZaJ) (x1:Int) (c1_:(Int×Int×LL)→Option LL):(Int×Int×LL)→Option LL:=fun (at_2,i_3,v6)=>
 if (decide (i_3≥0))=true then
  chk (0≤i_3)<|
  chk (i_3<((Int.toNat (if (0:Int)>x1 then 0 else x1):Nat):Int))<|
  optE (Zbj N t_0 at_2) fun (x7,x8)=>
  c1_ (x7.Ahead,w64 (i_3-1),List.set v6 (0+(Int.toNat i_3)) [L.int .i64 at_2])
 else
 chk ((Int.toNat (if (0:Int)>x1 then 0 else x1))≤(List.length v6))<|
 some (List.take (Int.toNat (if (0:Int)>x1 then 0 else x1)) v6)
noncomputable def Zbe (N:Nat) (t_0:ZaJ) (at_1:Int):Option LL:=
 optE (ZaM N t_0 at_1) fun x1=>
 chk (0≤(if (0:Int)>x1 then 0 else x1))<|
 chk (8*(if (0:Int)>x1 then 0 else x1)≤281474976710656)<|
 chk ((if (0:Int)>x1 then 0 else x1)≤9223372036854775807)<|
 loopN (Zbe.p1 N t_0 x1) N (at_1,w64 (((Int.toNat (if (0:Int)>x1 then 0 else x1):Nat):Int)-1),List.replicate (Int.toNat (if (0:Int)>x1 then 0 else x1)) [L.int .i64 0])
noncomputable def Zbe.p1.S (t_0:ZaJ) (at_2 x1 i_3:Int) (v6 st:LL):S:=mkS 34 [(0,.one (.l (L.bx 2 t_0.ls))),(1,sI at_2),(5,.one (.h (.row 13 0) 1 0 (Int.toNat (if (0:Int)>x1 then 0 else x1)))),(6,sI i_3)] [(13,.row 0 true 1 v6)] st
theorem Zbe.p1_ok {t_0 at_2 x1 i_3 v6 st r c1_ J1} (h:Zbe.p1 N t_0 x1 c1_ (at_2,i_3,v6)=some r) (hE:En Tryz.f49 g0 w0 (Zbe.rs r) st R) (hc1 : ∀at_2 i_3 v6,c1_ (at_2,i_3,v6)=some r→At g0 w0 (Zbe.p1.S t_0 at_2 x1 i_3 v6 st) J1):At g0 w0 (Zbe.p1.S t_0 at_2 x1 i_3 v6 st) (XK Tryz.prog R (.c (csub Zbe.B [1,1,0,1,0,0]) :: .h J1 :: [.b 0,.c (csub Zbe.B [1,1,1])])):=by
 unfold Zbe.p1 at h
 refine iteB h (fun c10 h1=>?_) (fun c10 h2=>?_)
 ·obtain ⟨c11,c12,h3⟩:=ck2 h1
  obtain ⟨⟨x7,x8⟩,c13,h4⟩:=Zad h3
  exact an fol [.r [],.c true,.r [],.r [(2,q0 [.agg x7.ls,oB x8])],.r [],.r []] [0,1,5,6] [13] (aK c10 c11 c12 (Zbj.snd c13)) (hc1 x7.Ahead (w64 (i_3-1)) (List.set v6 (0+(Int.toNat i_3)) [L.int .i64 at_2]) h4)
 ·obtain ⟨c14,h5⟩:=ZaS h2
  obtain rfl:=Zab h5
  exact af fol hE [.r [],.c false,.r []] [] 2 [0] (aJ c10 z0 c14)
theorem Zbe.snd {t_0:ZaJ} {at_1:Int} {r:LL} (h:Zbe N t_0 at_1=some r):SndQ Tryz.prog 49 [.one (L.bx 2 t_0.ls),oI at_1] (Zbe.rs r):=fun st=>
 sO Zbe.B Tryz.func49 fun g0 w0 R hE=>by
  unfold Zbe at h
  obtain ⟨x1,c1,h6⟩:=Zad h
  obtain ⟨c2,c3,c4,h7⟩:=ck3 h6
  exact aq fol [.r [(0,{m:=2})],.r [(2,q0 [oI x1])],.r []] [0,1,5,6] [13] (aL (ZaM.snd c1) c2 (@rfl Int (if (0:Int)>x1 then 0 else x1)) c3 c4) (At.loop N (At.loopN (fun y:Int×Int×LL=>Zbe.p1.S t_0 y.1 x1 y.2.1 y.2.2 st) (fun c J hc y h=>Zbe.p1_ok (at_2:=y.1) (i_3:=y.2.1) (v6:=y.2.2) h hE (fun at_2 i_3 v6=>hc (at_2,i_3,v6))) N (at_1,w64 (((Int.toNat (if (0:Int)>x1 then 0 else x1):Nat):Int)-1),List.replicate (Int.toNat (if (0:Int)>x1 then 0 else x1)) [L.int .i64 0]) h7))
noncomputable def Zcm.B:Code:=Tryz.f38.body.getD .skip
noncomputable def Zcm.rs (r:Int):List CV:=[oI r]
noncomputable def Zcm (N:Nat) (a_0:ZaA) (id_1_0:List Int):Option Int:=
 optM (mfind a_0.places (L.arr .u8 32 id_1_0)) (fun j1 e=>ZcP [e] fun x2=>
  some x2)
 (
  some (-1))
theorem Zcm.snd {a_0:ZaA} {id_1_0:List Int} {r:Int} (h:Zcm N a_0 id_1_0=some r):SndQ Tryz.prog 38 [.one (L.bx 87 a_0.ls),.agg [L.arr .u8 32 id_1_0]] (Zcm.rs r):=fun st=>
 sO Zcm.B Tryz.func38 fun g0 w0 R hE=>by
  unfold Zcm at h
  rcases ZgS h with ⟨j1,h4,c1,h1⟩ | ⟨c1,h2⟩
  ·obtain ⟨x2,h5,h3⟩:=ZeZ h1
   obtain rfl:=Zfl h5
   obtain rfl:=Zab h3
   exact afd fol hE [.r [],.r [],.c false,.d {ds:=[(3,{oe:=a_0.ls}),(5,{oe:=[L.int .i64 x2]})],hv:=0,Hs:=[]},.r [],.c true,.r []] [] 0 [] (aK eF (eO a_0.ls) (Zkh c1) eT)
  ·obtain rfl:=Zab h2
   exact afd fol hE [.r [],.r [],.c false,.d {ds:=[(3,{oe:=a_0.ls}),(5,yF)],hv:=0,Hs:=[]},.r [],.c false,.r []] [] 0 [] (aK eF (eO a_0.ls) c1 eF)
noncomputable def Zdl.B:Code:=Tryz.f38.body.getD .skip
noncomputable def Zdl.rs (r:Int×LL):List CV:=[oI r.1]
noncomputable def Zdl (N:Nat) (a_0:Option Nat) (id_1_0:List Int) (st:LL):Option (Int×LL):=
 if (Option.isNone a_0)=true then
  some ((-1),st)
 else
 optE a_0 fun i1=>
 getE (st[i1]?) ZbZ fun x2=>
 optM (mfind x2.places (L.arr .u8 32 id_1_0)) (fun j3 e=>ZcP [e] fun x4=>
  some (x4,st))
 (
  some ((-1),st))
theorem Zdl.snd {a_0:Option Nat} {id_1_0:List Int} {st:LL} {r:Int×LL} (h:Zdl N a_0 id_1_0 st=some r):Snd Tryz.prog 38 [.one (L.ptr a_0),.agg [L.arr .u8 32 id_1_0]] st (Zdl.rs r) r.2:=
 sO Zdl.B Tryz.func38 fun g0 w0 R hE=>by
  unfold Zdl at h
  refine iteB h (fun c1 h1=>?_) (fun c1 h2=>?_)
  ·obtain rfl:=Zab h1
   exact af fol hE [.r [],.r [],.c true,.r []] [] 0 [] c1
  ·obtain ⟨i1,rfl,h3⟩:=Zad h2
   obtain ⟨x2,c3,h4⟩:=ZbX h3
   rcases ZgS h4 with ⟨j3,h8,c4,h5⟩ | ⟨c4,h6⟩
   ·obtain ⟨x4,h9,h7⟩:=ZeZ h5
    obtain rfl:=Zfl h9
    obtain rfl:=Zab h7
    exact afd fol hE [.r [],.r [],.c false,.d {ds:=[(3,{oc:=x2.lo}),(5,{oc:=x2.lo,oe:=[L.int .i64 x4]})],hv:=0,Hs:=[]},.r [],.c true,.r []] [] 0 [] (aL c1 c3 (Zkh c4) c3 eT)
   ·obtain rfl:=Zab h6
    exact afd fol hE [.r [],.r [],.c false,.d {ds:=[(3,{oc:=x2.lo}),(5,{oc:=x2.lo,yes:=false})],hv:=0,Hs:=[]},.r [],.c false,.r []] [] 0 [] (aL c1 c3 c4 c3 eF)
noncomputable def Zcy.B:Code:=Tryz.f37.body.getD .skip
noncomputable def Zcy.rs (r:Int):List CV:=[oI r]
noncomputable def Zcy (N:Nat) (t_0:ZaJ) (id_1_0:List Int):Option Int:=
 optE (Zcm N t_0.store id_1_0) fun x1=>
 some x1
theorem Zcy.snd {t_0:ZaJ} {id_1_0:List Int} {r:Int} (h:Zcy N t_0 id_1_0=some r):SndQ Tryz.prog 37 [.one (L.bx 2 t_0.ls),.agg [L.arr .u8 32 id_1_0]] (Zcy.rs r):=fun st=>
 sO Zcy.B Tryz.func37 fun g0 w0 R hE=>by
  unfold Zcy at h
  obtain ⟨x1,c1,h1⟩:=Zad h
  obtain rfl:=Zab h1
  exact afd fol hE [.r [],.r [],.c false,.d {ds:=[(3,{oe:=t_0.ls}),(5,q0 [oI x1])],hv:=32,Hs:=[32]}] [] 0 [] (aJ eF (eO t_0.ls) (Zcm.snd c1))
noncomputable def Zcf.B:Code:=Tryz.f50.body.getD .skip
noncomputable def Zcf.rs (r:Bool):List CV:=[oB r]
noncomputable def Zcf (N:Nat) (t_0:ZaJ) (at_1 of_2:Int):Option Bool:=
 optE (ZaM N t_0 at_1) fun x1=>
 if (decide (x1≥0))=true then
  optE (Zar N t_0 of_2 x1) fun x2=>
  some (x2==at_1)
 else
 some false
theorem Zcf.snd {t_0:ZaJ} {at_1 of_2:Int} {r:Bool} (h:Zcf N t_0 at_1 of_2=some r):SndQ Tryz.prog 50 [.one (L.bx 2 t_0.ls),oI at_1,oI of_2] (Zcf.rs r):=fun st=>
 sO Zcf.B Tryz.func50 fun g0 w0 R hE=>by
  unfold Zcf at h
  obtain ⟨x1,c1,h1⟩:=Zad h
  refine iteB h1 (fun c2 h2=>?_) (fun c2 h3=>?_)
  ·obtain ⟨x2,c3,h4⟩:=Zad h2
   obtain rfl:=Zab h4
   exact af fol hE [.r [],.r [(2,q0 [oI x1])],.r [(6,q0 [oI x2])]] [] 0 [] (aO (ZaM.snd c1) c2 c2 c2 c2 (Zar.snd c3) c2 (aI c2 c2))
  ·obtain rfl:=Zab h3
   exact af fol hE [.r [],.r [(2,q0 [oI x1])],.r [(3,wF),(4,wF),(5,wF),(6,wF),(7,wF),(8,wF),(9,yF)]] [] 0 [] (aO (ZaM.snd c1) c2 c2 c2 c2 c2 c2 c2)
noncomputable def ZbB.B:Code:=Tryz.f45.body.getD .skip
noncomputable def ZbB.rs (r:Int):List CV:=[oI r]
noncomputable def ZbB.p1 (N:Nat) (t_0:ZaJ) (tip_1:Int) (names_2:LL) (c1_:Int→Option Int):Int→Option Int:=fun v1=>
 if (decide (v1<(len names_2)))=true then
  chk (0≤v1)<|
  getE (names_2[Int.toNat v1]?) Zel fun x2=>
  optE (Zcy N t_0 x2) fun x3=>
  optE (Zcf N t_0 x3 tip_1) fun x4=>
  if x4=true then
   some x3
  else
  c1_ (w64 (v1+1))
 else
 some 0
noncomputable def ZbB (N:Nat) (t_0:ZaJ) (tip_1:Int) (names_2:LL):Option Int:=
 loopN (ZbB.p1 N t_0 tip_1 names_2) N 0
noncomputable def ZbB.p1.S (t_0:ZaJ) (tip_1:Int) (names_2:LL) (v1:Int) (st:LL):S:=mkS 25 [(0,.one (.l (L.bx 2 t_0.ls))),(1,sI tip_1),(10,sV 32 names_2),(11,sI (len names_2)),(12,sI v1)] [] st
theorem ZbB.p1_ok {t_0 tip_1 names_2 v1 st r c1_ J1} (h:ZbB.p1 N t_0 tip_1 names_2 c1_ v1=some r) (hE:En Tryz.f45 g0 w0 (ZbB.rs r) st R) (hc1 : ∀v1,c1_ v1=some r→At g0 w0 (ZbB.p1.S t_0 tip_1 names_2 v1 st) J1):At g0 w0 (ZbB.p1.S t_0 tip_1 names_2 v1 st) (XK Tryz.prog R (.c (csub ZbB.B [1,0,1,0,0]) :: .h J1 :: [.b 0,.c (csub ZbB.B [1,1])])):=by
 unfold ZbB.p1 at h
 refine iteB h (fun c1 h1=>?_) (fun c1 h2=>?_)
 ·obtain ⟨c2,h3⟩:=ZaS h1
  obtain ⟨x2,c3,h4⟩:=ZdP h3
  obtain ⟨x3,c4,h5⟩:=Zad h4
  obtain ⟨x4,c5,h6⟩:=Zad h5
  refine iteB h6 (fun c6 h7=>?_) (fun c6 h8=>?_)
  ·obtain rfl:=Zab h7
   exact af fol hE [.r [],.c true,.r [(1,{oe:=[L.arr .u8 32 x2]})],.r [(2,q0 [oI x3])],.r [(3,q0 [oB x4])],.c true,.r []] [] 0 [] (aN c1 c2 (oD c1) c3 (Zcy.snd c4) (Zcf.snd c5) c6)
  ·exact an fol [.r [],.c true,.r [(1,{oe:=[L.arr .u8 32 x2]})],.r [(2,q0 [oI x3])],.r [(3,q0 [oB x4])],.c false,.r []] [0,1,10,11,12] [] (aN c1 c2 (oD c1) c3 (Zcy.snd c4) (Zcf.snd c5) c6) (hc1 (w64 (v1+1)) h8)
 ·obtain rfl:=Zab h2
  exact af fol hE [.r [],.c false,.r []] [] 0 [] c1
theorem ZbB.snd {t_0:ZaJ} {tip_1:Int} {names_2:LL} {r:Int} (h:ZbB N t_0 tip_1 names_2=some r):SndQ Tryz.prog 45 [.one (L.bx 2 t_0.ls),oI tip_1,.one (L.sl 32 names_2)] (ZbB.rs r):=fun st=>
 sO ZbB.B Tryz.func45 fun g0 w0 R hE=>by
  unfold ZbB at h
  exact aq fol [.r [],.r []] [0,1,10,11,12] [] trivial (At.loop N (At.loopN (fun y:Int=>ZbB.p1.S t_0 tip_1 names_2 y st) (fun c J hc y h=>ZbB.p1_ok h hE (fun v1=>hc v1)) N 0 h))
noncomputable def ZaK.B:Code:=Tryz.f19.body.getD .skip
noncomputable def ZaK.rs (r:LL):List CV:=[.row true 68 r]
noncomputable def ZaK.p2 (N:Nat) (out_13:LL):Option LL:=
 some out_13
noncomputable def ZaK.p1 (N:Nat) (t_0:ZaJ) (most_4:Int) (x1:LL) (x3:ZbK) (stop_3_0:List Int) (c1_:(LL×Int)→Option LL):(LL×Int)→Option LL:=fun (out_9,v5)=>
 if (decide (v5<(((List.length x1)-(Int.toNat (if (len x1)<(if (0:Int)>x3.Height then 0 else x3.Height) then (len x1) else (if (0:Int)>x3.Height then 0 else x3.Height))):Nat):Int)))=true then
  chk (0≤v5)<|
  getE (x1[(0+(Int.toNat (if (len x1)<(if (0:Int)>x3.Height then 0 else x3.Height) then (len x1) else (if (0:Int)>x3.Height then 0 else x3.Height))))+(Int.toNat v5)]?) ZcP fun x10=>
  if (decide ((len out_9)≥most_4))=true then
   ZaK.p2 N out_9
  else
  optE (Zbj N t_0 x10) fun (x11,x12)=>
  chk (List.length (out_9 ++ [x11.Header.ls])*96≤140737488355328)<|
  if (x11.Id==stop_3_0)=true then
   ZaK.p2 N (out_9 ++ [x11.Header.ls])
  else
  c1_ (out_9 ++ [x11.Header.ls],w64 (v5+1))
 else
 ZaK.p2 N out_9
noncomputable def ZaK (N:Nat) (t_0:ZaJ) (tip_1:Int) (names_2:LL) (stop_3_0:List Int) (most_4:Int):Option LL:=
 optE (Zbe N t_0 tip_1) fun x1=>
 chk (plainRow x1=true)<|
 optE (ZbB N t_0 tip_1 names_2) fun x2=>
 optE (Zbj N t_0 x2) fun (x3,x4)=>
 chk (0≤(if (len x1)<(if (0:Int)>x3.Height then 0 else x3.Height) then (len x1) else (if (0:Int)>x3.Height then 0 else x3.Height)))<|
 chk ((Int.toNat (if (len x1)<(if (0:Int)>x3.Height then 0 else x3.Height) then (len x1) else (if (0:Int)>x3.Height then 0 else x3.Height)))≤(List.length x1))<|
 loopN (ZaK.p1 N t_0 most_4 x1 x3 stop_3_0) N ([],0)
noncomputable def ZaK.p2.S (out_13 st:LL):S:=mkS 65 [(14,.one (.h (.row 14 0) 68 0 (List.length out_13)))] [(14,.row 0 true 68 out_13)] st
noncomputable def ZaK.p1.S (t_0:ZaJ) (most_4:Int) (out_9 x1:LL) (x3:ZbK) (v5:Int) (stop_3_0:List Int) (st:LL):S:=mkS 65 [(0,.one (.l (L.bx 2 t_0.ls))),(4,sI most_4),(8,sA 8),(14,.one (.h (.row 14 0) 68 0 (List.length out_9))),(38,.one (.h (.row 21 0) 1 (0+(Int.toNat (if (len x1)<(if (0:Int)>x3.Height then 0 else x3.Height) then (len x1) else (if (0:Int)>x3.Height then 0 else x3.Height)))) ((List.length x1)-(Int.toNat (if (len x1)<(if (0:Int)>x3.Height then 0 else x3.Height) then (len x1) else (if (0:Int)>x3.Height then 0 else x3.Height)))))),(39,sI (((List.length x1)-(Int.toNat (if (len x1)<(if (0:Int)>x3.Height then 0 else x3.Height) then (len x1) else (if (0:Int)>x3.Height then 0 else x3.Height))):Nat):Int)),(40,sI v5)] [(8,.cells [L.arr .u8 32 stop_3_0]),(14,.row 0 true 68 out_9),(21,.row 0 true 1 x1)] st
theorem ZaK.p2_ok {out_13 st r} (h:ZaK.p2 N out_13=some r) (hE:En Tryz.f19 g0 w0 (ZaK.rs r) st R):At g0 w0 (ZaK.p2.S out_13 st) (XK Tryz.prog R [.c (csub ZaK.B [1,1,1,1,1])]):=by
 unfold ZaK.p2 at h
 obtain rfl:=Zab h
 exact af fol hE [.r []] [] 0 [0] (aI z0 (eN (List.length out_13)))
theorem ZaK.p1_ok {t_0 most_4 out_9 x1 x3 v5 stop_3_0 st r c1_ J1} (h:ZaK.p1 N t_0 most_4 x1 x3 stop_3_0 c1_ (out_9,v5)=some r) (hE:En Tryz.f19 g0 w0 (ZaK.rs r) st R) (hc1 : ∀out_9 v5,c1_ (out_9,v5)=some r→At g0 w0 (ZaK.p1.S t_0 most_4 out_9 x1 x3 v5 stop_3_0 st) J1):At g0 w0 (ZaK.p1.S t_0 most_4 out_9 x1 x3 v5 stop_3_0 st) (XK Tryz.prog R (.c (csub ZaK.B [1,1,1,1,0,1,0,0]) :: .h J1 :: [.b 0,.c (csub ZaK.B [1,1,1,1,1])])):=by
 unfold ZaK.p1 at h
 refine iteB h (fun c14 h1=>?_) (fun c14 h2=>?_)
 ·obtain ⟨c15,h3⟩:=ZaS h1
  obtain ⟨x10,c16,h4⟩:=Zco h3
  refine iteB h4 (fun c17 h5=>?_) (fun c17 h6=>?_)
  ·exact aq fol [.r [],.c true,.r [(1,{oe:=[L.int .i64 x10]})],.r [],.c true,.s 1] [14] [14] (aL c14 c15 (oD c14) c16 c17) (ZaK.p2_ok h5 hE)
  ·obtain ⟨⟨x11,x12⟩,c18,h7⟩:=Zad h6
   obtain ⟨c19,h8⟩:=ZaS h7
   refine iteB h8 (fun c20 h9=>?_) (fun c20 h10=>?_)
   ·exact aq fol [.r [],.c true,.r [(1,{oe:=[L.int .i64 x10]})],.r [],.c false,.r [(2,q0 [.agg x11.ls,oB x12])],.r [],.r [],.c true,.s 1] [14] [14] (aO c14 c15 (oD c14) c16 c17 (Zbj.snd c18) z0 (aL (eN (List.length out_9)) z0 (eN (1)) c19 c20)) (ZaK.p2_ok h9 hE)
   ·exact an fol [.r [],.c true,.r [(1,{oe:=[L.int .i64 x10]})],.r [],.c false,.r [(2,q0 [.agg x11.ls,oB x12])],.r [],.r [],.c false,.r []] [0,4,8,14,38,39,40] [8,14,21] (aO c14 c15 (oD c14) c16 c17 (Zbj.snd c18) z0 (aL (eN (List.length out_9)) z0 (eN (1)) c19 c20)) (hc1 (out_9 ++ [x11.Header.ls]) (w64 (v5+1)) h10)
 ·exact aq fol [.r [],.c false,.s 1] [14] [14] c14 (ZaK.p2_ok h2 hE)
theorem ZaK.snd {t_0:ZaJ} {tip_1:Int} {names_2:LL} {stop_3_0:List Int} {most_4:Int} {r:LL} (h:ZaK N t_0 tip_1 names_2 stop_3_0 most_4=some r):SndQ Tryz.prog 19 [.one (L.bx 2 t_0.ls),oI tip_1,.one (L.sl 32 names_2),.agg [L.arr .u8 32 stop_3_0],oI most_4] (ZaK.rs r):=fun st=>
 sO ZaK.B Tryz.func19 fun g0 w0 R hE=>by
  unfold ZaK at h
  obtain ⟨x1,c1,h11⟩:=Zad h
  obtain ⟨c2,h12⟩:=ZaS h11
  obtain ⟨x2,c3,h13⟩:=Zad h12
  obtain ⟨⟨x3,x4⟩,c4,h14⟩:=Zad h13
  obtain ⟨c5,c6,h15⟩:=ck2 h14
  exact aq fol [.r [(1,{m:=2})],.r [(2,{rs:=[.row true 1 x1],ns:=[21],m:=10})],.r [(4,q0 [oI x2]),(5,q0 [.agg x3.ls,oB x4])],.r [(0,{m:=1})],.r []] [0,4,8,14,38,39,40] [8,14,21] (aN c2 (Zbe.snd c1) (ZbB.snd c3) (Zbj.snd c4) c5 c6 (Nat.le_refl (List.length x1))) (At.loop N (At.loopN (fun y:LL×Int=>ZaK.p1.S t_0 most_4 y.1 x1 x3 y.2 stop_3_0 st) (fun c J hc y h=>ZaK.p1_ok (out_9:=y.1) (v5:=y.2) h hE (fun out_9 v5=>hc (out_9,v5))) N ([],0) h15))
noncomputable def ZaI.B:Code:=Tryz.f40.body.getD .skip
noncomputable def ZaI.rs (r:LL):List CV:=[.row true 1 r]
noncomputable def ZaI.p1 (N:Nat) (a_0:Zaa) (c1_:(LL×Int)→Option LL):(LL×Int)→Option LL:=fun (out_3,k_1)=>
 if (decide (k_1≥0))=true then
  chk (List.length ([[L.int .i64 k_1]]++out_3)*8≤140737488355328)<|
  chk (0≤k_1)<|
  chk (k_1<(len a_0.Ahead))<|
  getE (a_0.Ahead[Int.toNat k_1]?) ZcP fun x4=>
  c1_ ([[L.int .i64 k_1]]++out_3,x4)
 else
 some out_3
noncomputable def ZaI (N:Nat) (a_0:Zaa) (at_1:Int):Option LL:=
 loopN (ZaI.p1 N a_0) N ([],at_1)
noncomputable def ZaI.p1.S (a_0:Zaa) (out_3:LL) (k_1:Int) (st:LL):S:=mkS 22 [(0,.one (.l (L.bx 88 a_0.ls))),(5,.one (.h (.row 5 0) 1 0 (List.length out_3))),(6,sI k_1)] [(5,.row 0 true 1 out_3)] st
theorem ZaI.p1_ok {a_0 out_3 k_1 st r c1_ J1} (h:ZaI.p1 N a_0 c1_ (out_3,k_1)=some r) (hE:En Tryz.f40 g0 w0 (ZaI.rs r) st R) (hc1 : ∀out_3 k_1,c1_ (out_3,k_1)=some r→At g0 w0 (ZaI.p1.S a_0 out_3 k_1 st) J1):At g0 w0 (ZaI.p1.S a_0 out_3 k_1 st) (XK Tryz.prog R (.c (csub ZaI.B [1,1,0,1,0,0]) :: .h J1 :: [.b 0,.c (csub ZaI.B [1,1,1])])):=by
 unfold ZaI.p1 at h
 refine iteB h (fun c6 h1=>?_) (fun c6 h2=>?_)
 ·obtain ⟨c7,c8,c9,h3⟩:=ck3 h1
  obtain ⟨x4,c10,h4⟩:=Zco h3
  exact an fol [.r [],.c true,.r [(4,{m:=4})],.r [(3,{oe:=a_0.ls}),(6,{oe:=[L.int .i64 x4]})]] [0,5,6] [5] (aO c6 z0 (eN (1)) z0 (eN (List.length out_3)) c7 (eO a_0.ls) (aJ c8 c9 c10)) (hc1 ([[L.int .i64 k_1]]++out_3) x4 h4)
 ·obtain rfl:=Zab h2
  exact af fol hE [.r [],.c false,.r []] [] 0 [0] (aJ c6 z0 (eN (List.length out_3)))
theorem ZaI.snd {a_0:Zaa} {at_1:Int} {r:LL} (h:ZaI N a_0 at_1=some r):SndQ Tryz.prog 40 [.one (L.bx 88 a_0.ls),oI at_1] (ZaI.rs r):=fun st=>
 sO ZaI.B Tryz.func40 fun g0 w0 R hE=>by
  unfold ZaI at h
  exact aq fol [.r [(0,{m:=2})],.r [(0,{m:=1})],.r []] [0,5,6] [5] trivial (At.loop N (At.loopN (fun y:LL×Int=>ZaI.p1.S a_0 y.1 y.2 st) (fun c J hc y h=>ZaI.p1_ok (out_3:=y.1) (k_1:=y.2) h hE (fun out_3 k_1=>hc (out_3,k_1))) N ([],at_1) h))
noncomputable def ZaV.B:Code:=Tryz.f55.body.getD .skip
noncomputable def ZaV.rs (r:Int):List CV:=[oI r]
noncomputable def ZaV.p2 (N:Nat) (c1_:Int→Option Int) (a_0:Zaa) (tip_1:Int) (names_2:LL) (v1:Int) (x3:LL) (x2:List Int) (c2_:Int→Option Int):Int→Option Int:=fun v4=>
 if (decide (v4<(len x3)))=true then
  chk (0≤v4)<|
  getE (x3[0+(Int.toNat v4)]?) ZcP fun x5=>
  chk (0≤x5)<|
  chk (x5<(len a_0.Ids))<|
  getE (a_0.Ids[Int.toNat x5]?) Zel fun x6=>
  if (x6==x2)=true then
   some x5
  else
  c2_ (w64 (v4+1))
 else
 c1_ (w64 (v1+1))
noncomputable def ZaV.p1 (N:Nat) (a_0:Zaa) (tip_1:Int) (names_2:LL) (c1_:Int→Option Int):Int→Option Int:=fun v1=>
 if (decide (v1<(len names_2)))=true then
  chk (0≤v1)<|
  getE (names_2[Int.toNat v1]?) Zel fun x2=>
  optE (ZaI N a_0 tip_1) fun x3=>
  chk (plainRow x3=true)<|
  loopN (ZaV.p2 N c1_ a_0 tip_1 names_2 v1 x3 x2) N 0
 else
 some 0
noncomputable def ZaV (N:Nat) (a_0:Zaa) (tip_1:Int) (names_2:LL):Option Int:=
 if (decide (tip_1<0))=true then
  some 0
 else
 if (decide (tip_1≥(len a_0.List_)))=true then
  some 0
 else
 loopN (ZaV.p1 N a_0 tip_1 names_2) N 0
noncomputable def ZaV.p2.S (a_0:Zaa) (tip_1:Int) (names_2:LL) (v1:Int) (x3:LL) (v4:Int) (x2:List Int) (st:LL):S:=mkS 48 [(0,.one (.l (L.bx 88 a_0.ls))),(1,sI tip_1),(8,sA 8),(22,sV 32 names_2),(23,sI (len names_2)),(24,sI v1),(30,.one (.h (.row 30 0) 1 0 (List.length x3))),(31,sI (len x3)),(32,sI v4)] [(8,.cells [L.arr .u8 32 x2]),(30,.row 0 true 1 x3)] st
noncomputable def ZaV.p1.S (a_0:Zaa) (tip_1:Int) (names_2:LL) (v1:Int) (st:LL):S:=mkS 48 [(0,.one (.l (L.bx 88 a_0.ls))),(1,sI tip_1),(22,sV 32 names_2),(23,sI (len names_2)),(24,sI v1)] [] st
theorem ZaV.p2_ok {a_0 tip_1 names_2 v1 x3 v4 x2 st r c1_ c2_ J1 J2} (h:ZaV.p2 N c1_ a_0 tip_1 names_2 v1 x3 x2 c2_ v4=some r) (hE:En Tryz.f55 g0 w0 (ZaV.rs r) st R) (hc1 : ∀v1,c1_ v1=some r→At g0 w0 (ZaV.p1.S a_0 tip_1 names_2 v1 st) J1) (hc2 : ∀v4,c2_ v4=some r→At g0 w0 (ZaV.p2.S a_0 tip_1 names_2 v1 x3 v4 x2 st) J2):At g0 w0 (ZaV.p2.S a_0 tip_1 names_2 v1 x3 v4 x2 st) (XK Tryz.prog R (.c (csub ZaV.B [1,1,0,1,0,0,1,1,0,0,1,1,0,0]) :: .h J2 :: [.b 2,.b 1,.c (csub ZaV.B [1,1,0,1,0,0,1,1,1]),.h J1,.b 0,.c (csub ZaV.B [1,1,1])])):=by
 unfold ZaV.p2 at h
 refine iteB h (fun c8 h1=>?_) (fun c8 h2=>?_)
 ·obtain ⟨c9,h3⟩:=ZaS h1
  obtain ⟨x5,c10,h4⟩:=Zco h3
  obtain ⟨c11,c12,h5⟩:=ck2 h4
  obtain ⟨x6,c13,h6⟩:=ZdP h5
  refine iteB h6 (fun c14 h7=>?_) (fun c14 h8=>?_)
  ·obtain rfl:=Zab h7
   exact afd fol hE [.r [],.c true,.r [(1,{oe:=[L.int .i64 x5]})],.d {ds:=[(3,{oe:=a_0.ls}),(6,{oe:=[L.arr .u8 32 x6]})],hv:=0,Hs:=[]},.c true,.r []] [] 0 [] (aO c8 c9 (oD c8) c10 (eO a_0.ls) c11 c12 (aI c13 c14))
  ·exact and_ fol [.r [],.c true,.r [(1,{oe:=[L.int .i64 x5]})],.d {ds:=[(3,{oe:=a_0.ls}),(6,{oe:=[L.arr .u8 32 x6]})],hv:=0,Hs:=[]},.c false,.r []] [0,1,8,22,23,24,30,31,32] [8,30] (aO c8 c9 (oD c8) c10 (eO a_0.ls) c11 c12 (aI c13 c14)) (hc2 (w64 (v4+1)) h8)
 ·exact an fol [.r [],.c false,.r []] [0,1,22,23,24] [] c8 (hc1 (w64 (v1+1)) h2)
theorem ZaV.p1_ok {a_0 tip_1 names_2 v1 st r c1_ J1} (h:ZaV.p1 N a_0 tip_1 names_2 c1_ v1=some r) (hE:En Tryz.f55 g0 w0 (ZaV.rs r) st R) (hc1 : ∀v1,c1_ v1=some r→At g0 w0 (ZaV.p1.S a_0 tip_1 names_2 v1 st) J1):At g0 w0 (ZaV.p1.S a_0 tip_1 names_2 v1 st) (XK Tryz.prog R (.c (csub ZaV.B [1,1,0,1,0,0]) :: .h J1 :: [.b 0,.c (csub ZaV.B [1,1,1])])):=by
 unfold ZaV.p1 at h
 refine iteB h (fun c3 h9=>?_) (fun c3 h10=>?_)
 ·obtain ⟨c4,h11⟩:=ZaS h9
  obtain ⟨x2,c5,h12⟩:=ZdP h11
  obtain ⟨x3,c6,h13⟩:=Zad h12
  obtain ⟨c7,h14⟩:=ZaS h13
  exact aq fol [.r [],.c true,.r [(1,{oe:=[L.arr .u8 32 x2]})],.r [(2,{rs:=[.row true 1 x3],ns:=[30],m:=10})]] [0,1,8,22,23,24,30,31,32] [8,30] (aM c3 c4 (oD c3) c5 c7 (ZaI.snd c6)) (At.loop N (At.loopN (fun y:Int=>ZaV.p2.S a_0 tip_1 names_2 v1 x3 y x2 st) (fun c J hc y h=>ZaV.p2_ok h hE hc1 (fun v4=>hc v4)) N 0 h14))
 ·obtain rfl:=Zab h10
  exact af fol hE [.r [],.c false,.r []] [] 0 [] c3
theorem ZaV.snd {a_0:Zaa} {tip_1:Int} {names_2:LL} {r:Int} (h:ZaV N a_0 tip_1 names_2=some r):SndQ Tryz.prog 55 [.one (L.bx 88 a_0.ls),oI tip_1,.one (L.sl 32 names_2)] (ZaV.rs r):=fun st=>
 sO ZaV.B Tryz.func55 fun g0 w0 R hE=>by
  unfold ZaV at h
  refine iteB h (fun c1 h15=>?_) (fun c1 h16=>?_)
  ·obtain rfl:=Zab h15
   exact af fol hE [.r [],.r [(3,wF),(4,wF),(5,wF),(6,wF),(7,wF),(8,wF),(9,wF)],.c true,.r []] [] 0 [] (aO c1 c1 c1 c1 c1 c1 c1 (aI c1 eT))
  ·refine iteB h16 (fun c2 h17=>?_) (fun c2 h18=>?_)
   ·obtain rfl:=Zab h17
    exact af fol hE [.r [],.r [(7,{oe:=a_0.ls}),(10,yF)],.c true,.r []] [] 0 [] (aO c1 c1 c1 c1 c1 (eO a_0.ls) c1 (aJ c1 c1 c2))
   ·exact aq fol [.r [],.r [(7,{oe:=a_0.ls}),(10,yF)],.c false,.r []] [0,1,22,23,24] [] (aO c1 c1 c1 c1 c1 (eO a_0.ls) c1 (aJ c1 c1 c2)) (At.loop N (At.loopN (fun y:Int=>ZaV.p1.S a_0 tip_1 names_2 y st) (fun c J hc y h=>ZaV.p1_ok h hE (fun v1=>hc v1)) N 0 h18))
noncomputable def ZaF.B:Code:=Tryz.f20.body.getD .skip
noncomputable def ZaF.rs (r:LL):List CV:=[.row true 68 r]
noncomputable def ZaF.p2 (N:Nat) (c1_:(LL×Bool×Int)→Option LL) (a_0:Zaa) (most_4:Int) (out_13:LL) (x1:Int) (behind_3:Bool) (x10:Int) (x2:LL) (v4:Int) (stop_3_0:List Int):Option LL:=
 if behind_3=true then
  c1_ (out_13,true,w64 (v4+1))
 else
 c1_ (out_13,x10==x1,w64 (v4+1))
noncomputable def ZaF.p1 (N:Nat) (a_0:Zaa) (most_4 x1:Int) (x2:LL) (stop_3_0:List Int) (c1_:(LL×Bool×Int)→Option LL):(LL×Bool×Int)→Option LL:=fun (out_9,behind_3,v4)=>
 if (decide (v4<(len x2)))=true then
  chk (0≤v4)<|
  getE (x2[0+(Int.toNat v4)]?) ZcP fun x10=>
  if behind_3=true then
   if (decide ((len out_9)<most_4))=true then
    chk (0≤x10)<|
    chk (x10<(len a_0.List_))<|
    getE (a_0.List_[Int.toNat x10]?) ZcL fun x11=>
    chk (List.length (out_9 ++ [x11.ls])*96≤140737488355328)<|
    chk (x10<(len a_0.Ids))<|
    getE (a_0.Ids[Int.toNat x10]?) Zel fun x12=>
    if (x12==stop_3_0)=true then
     some (out_9 ++ [x11.ls])
    else
    ZaF.p2 N c1_ a_0 most_4 (out_9 ++ [x11.ls]) x1 behind_3 x10 x2 v4 stop_3_0
   else
   ZaF.p2 N c1_ a_0 most_4 out_9 x1 behind_3 x10 x2 v4 stop_3_0
  else
  ZaF.p2 N c1_ a_0 most_4 out_9 x1 behind_3 x10 x2 v4 stop_3_0
 else
 some out_9
noncomputable def ZaF (N:Nat) (a_0:Zaa) (tip_1:Int) (names_2:LL) (stop_3_0:List Int) (most_4:Int):Option LL:=
 if (decide (tip_1<0))=true then
  some []
 else
 if (decide (tip_1≥(len a_0.List_)))=true then
  some []
 else
 optE (ZaV N a_0 tip_1 names_2) fun x1=>
 optE (ZaI N a_0 tip_1) fun x2=>
 chk (plainRow x2=true)<|
 loopN (ZaF.p1 N a_0 most_4 x1 x2 stop_3_0) N ([],false,0)
noncomputable def ZaF.p2.S (a_0:Zaa) (most_4:Int) (out_13:LL) (x1:Int) (behind_3:Bool) (x10:Int) (x2:LL) (v4:Int) (stop_3_0:List Int) (st:LL):S:=mkS 75 [(0,.one (.l (L.bx 88 a_0.ls))),(4,sI most_4),(8,sA 8),(11,.one (.h (.row 11 0) 68 0 (List.length out_13))),(12,sI x1),(13,.one (.l (L.bool behind_3))),(15,sI x10),(34,.one (.h (.row 34 0) 1 0 (List.length x2))),(35,sI (len x2)),(36,sI v4)] [(8,.cells [L.arr .u8 32 stop_3_0]),(11,.row 0 true 68 out_13),(34,.row 0 true 1 x2)] st
noncomputable def ZaF.p1.S (a_0:Zaa) (most_4:Int) (out_9:LL) (x1:Int) (behind_3:Bool) (x2:LL) (v4:Int) (stop_3_0:List Int) (st:LL):S:=mkS 75 [(0,.one (.l (L.bx 88 a_0.ls))),(4,sI most_4),(8,sA 8),(11,.one (.h (.row 11 0) 68 0 (List.length out_9))),(12,sI x1),(13,.one (.l (L.bool behind_3))),(34,.one (.h (.row 34 0) 1 0 (List.length x2))),(35,sI (len x2)),(36,sI v4)] [(8,.cells [L.arr .u8 32 stop_3_0]),(11,.row 0 true 68 out_9),(34,.row 0 true 1 x2)] st
theorem ZaF.p2_ok {a_0 most_4 out_13 x1 behind_3 x10 x2 v4 stop_3_0 st r c1_ J1} (h:ZaF.p2 N c1_ a_0 most_4 out_13 x1 behind_3 x10 x2 v4 stop_3_0=some r) (hE:En Tryz.f20 g0 w0 (ZaF.rs r) st R) (hc1 : ∀out_9 behind_3 v4,c1_ (out_9,behind_3,v4)=some r→At g0 w0 (ZaF.p1.S a_0 most_4 out_9 x1 behind_3 x2 v4 stop_3_0 st) J1):At g0 w0 (ZaF.p2.S a_0 most_4 out_13 x1 behind_3 x10 x2 v4 stop_3_0 st) (XK Tryz.prog R [.c (csub ZaF.B [1,1,1,1,1,0,1,0,0,1,1,0,0,1,1]),.b 1,.c (csub ZaF.B [1,1,1,1,1,0,1,0,0,1,1,1]),.h J1,.b 0,.c (csub ZaF.B [1,1,1,1,1,1])]):=by
 unfold ZaF.p2 at h
 refine iteB h (fun c31 h1=>?_) (fun c31 h2=>?_)
 ·exact an fol [.r [(2,wF),(3,wF),(4,wF)],.r []] [0,4,8,11,12,13,34,35,36] [8,11,34] (aK c31 c31 c31 c31) (hc1 out_13 true (w64 (v4+1)) h1)
 ·exact an fol [.r [(5,yF)],.r []] [0,4,8,11,12,13,34,35,36] [8,11,34] (aK c31 c31 c31 c31) (hc1 out_13 (x10==x1) (w64 (v4+1)) h2)
theorem ZaF.p1_ok {a_0 most_4 out_9 x1 behind_3 x2 v4 stop_3_0 st r c1_ J1} (h:ZaF.p1 N a_0 most_4 x1 x2 stop_3_0 c1_ (out_9,behind_3,v4)=some r) (hE:En Tryz.f20 g0 w0 (ZaF.rs r) st R) (hc1 : ∀out_9 behind_3 v4,c1_ (out_9,behind_3,v4)=some r→At g0 w0 (ZaF.p1.S a_0 most_4 out_9 x1 behind_3 x2 v4 stop_3_0 st) J1):At g0 w0 (ZaF.p1.S a_0 most_4 out_9 x1 behind_3 x2 v4 stop_3_0 st) (XK Tryz.prog R (.c (csub ZaF.B [1,1,1,1,1,0,1,0,0]) :: .h J1 :: [.b 0,.c (csub ZaF.B [1,1,1,1,1,1])])):=by
 unfold ZaF.p1 at h
 refine iteB h (fun c19 h3=>?_) (fun c19 h4=>?_)
 ·obtain ⟨c20,h5⟩:=ZaS h3
  obtain ⟨x10,c21,h6⟩:=Zco h5
  refine iteB h6 (fun c22 h7=>?_) (fun c22 h8=>?_)
  ·refine iteB h7 (fun c23 h9=>?_) (fun c23 h10=>?_)
   ·obtain ⟨c24,c25,h11⟩:=ck2 h9
    obtain ⟨x11,c26,h12⟩:=ZcJ h11
    obtain ⟨c27,c28,h13⟩:=ck2 h12
    obtain ⟨x12,c29,h14⟩:=ZdP h13
    refine iteB h14 (fun c30 h15=>?_) (fun c30 h16=>?_)
    ·obtain rfl:=Zab h15
     exact afd fol hE [.r [],.c true,.r [(1,{oe:=[L.int .i64 x10]})],.r [],.c true,.r [(4,{oe:=a_0.ls}),(7,{oe:=x11.ls})],.d {ds:=[(3,{oe:=a_0.ls}),(6,{oe:=[L.arr .u8 32 x12]})],hv:=0,Hs:=[]},.c true,.r []] [] 0 [0] (aO c19 c20 (oD c19) c21 c22 c22 c22 (aO c22 c22 c23 (eO a_0.ls) c24 c25 c26 (aO z0 (eN (List.length out_9)) z0 (eN (1)) c27 (eO a_0.ls) c24 (aL c28 c29 c30 z0 (eN (List.length (out_9 ++ [x11.ls])))))))
    ·exact aqd fol [.r [],.c true,.r [(1,{oe:=[L.int .i64 x10]})],.r [],.c true,.r [(4,{oe:=a_0.ls}),(7,{oe:=x11.ls})],.d {ds:=[(3,{oe:=a_0.ls}),(6,{oe:=[L.arr .u8 32 x12]})],hv:=0,Hs:=[]},.c false,.s 6] [0,4,8,11,12,13,15,34,35,36] [8,11,34] (aO c19 c20 (oD c19) c21 c22 c22 c22 (aO c22 c22 c23 (eO a_0.ls) c24 c25 c26 (aO z0 (eN (List.length out_9)) z0 (eN (1)) c27 (eO a_0.ls) c24 (aJ c28 c29 c30)))) (ZaF.p2_ok h16 hE hc1)
   ·exact aq fol [.r [],.c true,.r [(1,{oe:=[L.int .i64 x10]})],.r [],.c false,.s 6] [0,4,8,11,12,13,15,34,35,36] [8,11,34] (aO c19 c20 (oD c19) c21 c22 c22 c22 (aJ c22 c22 c23)) (ZaF.p2_ok h10 hE hc1)
  ·exact aq fol [.r [],.c true,.r [(1,{oe:=[L.int .i64 x10]})],.r [(2,wF),(3,wF),(4,wF),(5,wF),(6,yF)],.c false,.s 6] [0,4,8,11,12,13,15,34,35,36] [8,11,34] (aO c19 c20 (oD c19) c21 c22 c22 c22 (aJ c22 c22 eF)) (ZaF.p2_ok h8 hE hc1)
 ·obtain rfl:=Zab h4
  exact af fol hE [.r [],.c false,.r []] [] 0 [0] (aJ c19 z0 (eN (List.length out_9)))
theorem ZaF.snd {a_0:Zaa} {tip_1:Int} {names_2:LL} {stop_3_0:List Int} {most_4:Int} {r:LL} (h:ZaF N a_0 tip_1 names_2 stop_3_0 most_4=some r):SndQ Tryz.prog 20 [.one (L.bx 88 a_0.ls),oI tip_1,.one (L.sl 32 names_2),.agg [L.arr .u8 32 stop_3_0],oI most_4] (ZaF.rs r):=fun st=>
 sO ZaF.B Tryz.func20 fun g0 w0 R hE=>by
  unfold ZaF at h
  refine iteB h (fun c1 h17=>?_) (fun c1 h18=>?_)
  ·obtain rfl:=Zab h17
   exact af fol hE [.r [(1,{m:=2})],.r [(0,{m:=1})],.r [(3,wF),(4,wF),(5,wF),(6,wF),(7,wF),(8,wF),(9,wF)],.c true,.r []] [] 0 [0] (aO c1 c1 c1 c1 c1 c1 c1 (aK c1 eT z0 (eN (0))))
  ·refine iteB h18 (fun c2 h19=>?_) (fun c2 h20=>?_)
   ·obtain rfl:=Zab h19
    exact af fol hE [.r [(1,{m:=2})],.r [(0,{m:=1})],.r [(7,{oe:=a_0.ls}),(10,yF)],.c true,.r []] [] 0 [0] (aO c1 c1 c1 c1 c1 (eO a_0.ls) c1 (aL c1 c1 c2 z0 (eN (0))))
   ·obtain ⟨x1,c3,h21⟩:=Zad h20
    obtain ⟨x2,c4,h22⟩:=Zad h21
    obtain ⟨c5,h23⟩:=ZaS h22
    exact aq fol [.r [(1,{m:=2})],.r [(0,{m:=1})],.r [(7,{oe:=a_0.ls}),(10,yF)],.c false,.r [(3,q0 [oI x1])],.r [],.r [(2,{rs:=[.row true 1 x2],ns:=[34],m:=10})]] [0,4,8,11,12,13,34,35,36] [8,11,34] (aO c1 c1 c1 c1 c1 (eO a_0.ls) c1 (aM c1 c1 c2 (ZaV.snd c3) c5 (ZaI.snd c4))) (At.loop N (At.loopN (fun y:LL×Bool×Int=>ZaF.p1.S a_0 most_4 y.1 x1 y.2.1 x2 y.2.2 stop_3_0 st) (fun c J hc y h=>ZaF.p1_ok (out_9:=y.1) (behind_3:=y.2.1) (v4:=y.2.2) h hE (fun out_9 behind_3 v4=>hc (out_9,behind_3,v4))) N ([],false,0) h23))
noncomputable def Zba.B:Code:=Tryz.f18.body.getD .skip
noncomputable def Zba.rs (r:Bool):List CV:=[oB r]
noncomputable def Zba.p1 (N:Nat) (a_0 b_1:LL) (c1_:Int→Option Bool):Int→Option Bool:=fun v1=>
 if (decide (v1<(len a_0)))=true then
  chk (0≤v1)<|
  getE (a_0[Int.toNat v1]?) ZcL fun x2=>
  chk (v1<(len b_1))<|
  getE (b_1[Int.toNat v1]?) ZcL fun x3=>
  if (!((x2.Version==x3.Version)&&((x2.Prev==x3.Prev)&&((x2.Root==x3.Root)&&((x2.Time==x3.Time)&&((x2.Bits==x3.Bits)&&((x2.Nonce==x3.Nonce)&&true)))))))=true then
   some false
  else
  c1_ (w64 (v1+1))
 else
 some true
noncomputable def Zba (N:Nat) (a_0 b_1:LL):Option Bool:=
 if ((len a_0) != (len b_1))=true then
  some false
 else
 loopN (Zba.p1 N a_0 b_1) N 0
noncomputable def Zba.p1.S (a_0 b_1:LL) (v1:Int) (st:LL):S:=mkS 26 [(0,sV 68 a_0),(1,sV 68 b_1),(12,sI (len a_0)),(13,sI v1)] [] st
theorem Zba.p1_ok {a_0 b_1 v1 st r c1_ J1} (h:Zba.p1 N a_0 b_1 c1_ v1=some r) (hE:En Tryz.f18 g0 w0 (Zba.rs r) st R) (hc1 : ∀v1,c1_ v1=some r→At g0 w0 (Zba.p1.S a_0 b_1 v1 st) J1):At g0 w0 (Zba.p1.S a_0 b_1 v1 st) (XK Tryz.prog R (.c (csub Zba.B [1,1,0,1,0,0]) :: .h J1 :: [.b 0,.c (csub Zba.B [1,1,1])])):=by
 unfold Zba.p1 at h
 refine iteB h (fun c2 h1=>?_) (fun c2 h2=>?_)
 ·obtain ⟨c3,h3⟩:=ZaS h1
  obtain ⟨x2,c4,h4⟩:=ZcJ h3
  obtain ⟨c5,h5⟩:=ZaS h4
  obtain ⟨x3,c6,h6⟩:=ZcJ h5
  refine iteB h6 (fun c7 h7=>?_) (fun c7 h8=>?_)
  ·obtain rfl:=Zab h7
   exact afd fol hE [.r [],.c true,.r [],.d {ds:=[(3,{oe:=x2.ls}),(7,{oe:=x3.ls})],hv:=0,Hs:=[]},.c true,.r []] [] 0 [] (aO c2 c3 (oD c2) c4 c3 c5 c6 c7)
  ·exact and_ fol [.r [],.c true,.r [],.d {ds:=[(3,{oe:=x2.ls}),(7,{oe:=x3.ls})],hv:=0,Hs:=[]},.c false,.r []] [0,1,12,13] [] (aO c2 c3 (oD c2) c4 c3 c5 c6 c7) (hc1 (w64 (v1+1)) h8)
 ·obtain rfl:=Zab h2
  exact af fol hE [.r [],.c false,.r []] [] 0 [] c2
theorem Zba.snd {a_0 b_1:LL} {r:Bool} (h:Zba N a_0 b_1=some r):SndQ Tryz.prog 18 [.one (L.sl 68 a_0),.one (L.sl 68 b_1)] (Zba.rs r):=fun st=>
 sO Zba.B Tryz.func18 fun g0 w0 R hE=>by
  unfold Zba at h
  refine iteB h (fun c1 h9=>?_) (fun c1 h10=>?_)
  ·obtain rfl:=Zab h9
   exact af fol hE [.r [],.r [],.c true,.r []] [] 0 [] c1
  ·exact aq fol [.r [],.r [],.c false,.r []] [0,1,12,13] [] c1 (At.loop N (At.loopN (fun y:Int=>Zba.p1.S a_0 b_1 y st) (fun c J hc y h=>Zba.p1_ok h hE (fun v1=>hc v1)) N 0 h10))
noncomputable def Zcj.B:Code:=Tryz.f3.body.getD .skip
noncomputable def Zcj.rs (r:Bool×LL):List CV:=[oB r.1]
noncomputable def Zcj (N:Nat) (p_0:Zae) (list_1:LL) (tip_2:Int) (names_3:LL) (stop_4_0:List Int) (most_5:Int) (st:LL):Option (Bool×LL):=
 optE (ZcW N ) fun x1=>
 if (!x1)=true then
  some (false,st)
 else
 optE (ZbH N p_0 list_1) fun x2=>
 if x2=true then
  some (true,st)
 else
 if (decide ((len names_3)>40))=true then
  some (true,st)
 else
 optE (ZbN N p_0 list_1 st) fun (x3,x4,st5)=>
 optE x3 fun i6=>
 getE (st5[i6]?) Zdp fun x7 x8=>
 optE x7 fun i9=>
 getE (st5[i9]?) ZbZ fun x10=>
 optE (ZaK N (ZaJ.mk x10 x8) tip_2 names_3 stop_4_0 most_5) fun x11=>
 chk (plainRow x11=true)<|
 optE x4 fun i12=>
 getE (st5[i12]?) Zcl fun x13=>
 optE (ZaF N x13 tip_2 names_3 stop_4_0 most_5) fun x14=>
 chk (plainRow x14=true)<|
 optE (Zba N x11 x14) fun x15=>
 some (x15,st5)
theorem Zcj.snd {p_0:Zae} {list_1:LL} {tip_2:Int} {names_3:LL} {stop_4_0:List Int} {most_5:Int} {st:LL} {r:Bool×LL} (h:Zcj N p_0 list_1 tip_2 names_3 stop_4_0 most_5 st=some r):Snd Tryz.prog 3 [.agg p_0.ls,.one (L.sl 69 list_1),oI tip_2,.one (L.sl 32 names_3),.agg [L.arr .u8 32 stop_4_0],oI most_5] st (Zcj.rs r) r.2:=
 sO Zcj.B Tryz.func3 fun g0 w0 R hE=>by
  unfold Zcj at h
  obtain ⟨x1,c1,h1⟩:=Zad h
  refine iteB h1 (fun c2 h2=>?_) (fun c2 h3=>?_)
  ·obtain rfl:=Zab h2
   exact af fol hE [.r [],.r [(0,q1 [oB x1])],.c true,.r []] [] 0 [] (aI (ZcW.snd c1) c2)
  ·obtain ⟨x2,c3,h4⟩:=Zad h3
   refine iteB h4 (fun c4 h5=>?_) (fun c4 h6=>?_)
   ·obtain rfl:=Zab h5
    exact af fol hE [.r [],.r [(0,q1 [oB x1])],.c false,.r [(2,q1 [oB x2]),(4,wF),(5,wF),(6,wF)],.c true,.r []] [] 0 [] (aO (ZcW.snd c1) c2 (ZbH.snd c3) c4 c4 c4 c4 eT)
   ·refine iteB h6 (fun c5 h7=>?_) (fun c5 h8=>?_)
    ·obtain rfl:=Zab h7
     exact af fol hE [.r [],.r [(0,q1 [oB x1])],.c false,.r [(2,q1 [oB x2]),(7,yF)],.c true,.r []] [] 0 [] (aO (ZcW.snd c1) c2 (ZbH.snd c3) c4 c4 c4 c4 c5)
    ·obtain ⟨⟨x3,x4,st5⟩,c6,h9⟩:=Zad h8
     obtain ⟨i6,rfl,h10⟩:=Zad h9
     obtain ⟨x7,x8,c8,h11⟩:=Zdv h10
     obtain ⟨i9,rfl,h12⟩:=Zad h11
     obtain ⟨x10,c10,h13⟩:=ZbX h12
     obtain ⟨x11,c11,h14⟩:=Zad h13
     obtain ⟨c12,h15⟩:=ZaS h14
     obtain ⟨i12,rfl,h16⟩:=Zad h15
     obtain ⟨x13,c14,h17⟩:=ZcI h16
     obtain ⟨x14,c15,h18⟩:=Zad h17
     obtain ⟨c16,h19⟩:=ZaS h18
     obtain ⟨x15,c17,h20⟩:=Zad h19
     obtain rfl:=Zab h20
     exact afd fol hE [.r [],.r [(0,q1 [oB x1])],.c false,.r [(2,q1 [oB x2]),(7,yF)],.c false,.r [(2,{rs:=[.one (L.ptr (some i6)),.one (L.ptr (some i12))],st:=st5})],.d {ds:=[(5,{rs:=[.row true 68 x11],ns:=[36],m:=10,cv:=[.one (L.bx 2 (ZaJ.ls (ZaJ.mk x10 x8)))]}),(11,{rs:=[.row true 68 x14],ns:=[42],m:=10,cv:=[.one (L.bx 88 x13.ls)]}),(12,{rs:=[oB x15],m:=2})],hv:=2080,Hs:=[32,2080]}] [] 0 [] (aO (ZcW.snd c1) c2 (ZbH.snd c3) c4 c4 c4 c4 (aO c5 (ZbN.snd c6) (bO 2 c8 ((bC 87 c10 (ZaA.bv x10) (bW bN)):BVs st5 [L.ptr (some i9),L.own true 1 x8] (ZaJ.ls (ZaJ.mk x10 x8)))) c12 (ZaK.snd c11) (bO 88 c14 (Zaa.bv x13)) c16 (aM (ZaF.snd c15) z0 (eN (List.length x11)) z0 (eN (List.length x14)) (Zba.snd c17))))
end Go.Dn.F
