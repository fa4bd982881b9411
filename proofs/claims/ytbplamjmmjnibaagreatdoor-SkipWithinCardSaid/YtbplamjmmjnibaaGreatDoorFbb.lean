/- Contracts of functions of the program, as shallow functions, and their proofs. -/
import Derived.Test.YtbplamjmmjnibaaGreatDoorFba
set_option linter.all false
set_option maxRecDepth 100000
namespace Go.Dn.F
open Go.Proofs
variable {N:Nat} {g0:G} {w0:World} {R:Exit→Act→World→Prop}
noncomputable def Zah.B:Code:=Tryz.f135.body.getD .skip
noncomputable def Zah.rs (r:Int×Int):List CV:=[.one (L.int .u64 r.1),.one (L.int .u64 r.2)]
noncomputable def Zah.p6 (N:Nat) (y_2 x1 lo_1 q1_4 hi_0 q0_7:Int):Option (Int×Int):=
 chk (0≤(v64 (x1)))<|
 some (v64 ((v64 (q1_4*4294967296))+q0_7),shrOf .u64 (v64 ((v64 ((v64 ((v64 ((v64 ((v64 ((bitsOf .or .u64 (shlOf .u64 hi_0 (v64 (x1))) (shrOf .u64 lo_1 (v64 (64-(v64 (x1))))))*4294967296))+(shrOf .u64 (shlOf .u64 lo_1 (v64 (x1))) 32)))-(v64 (q1_4*(shlOf .u64 y_2 (v64 (x1)))))))*4294967296))+(bitsOf .and .u64 (shlOf .u64 lo_1 (v64 (x1))) 4294967295)))-(v64 (q0_7*(shlOf .u64 y_2 (v64 (x1))))))) (v64 (x1)))
noncomputable def Zah.p5 (N:Nat) (c4_:(Int×Int)→Option (Int×Int)) (y_2 x1 lo_1 q1_4 rhat_5 hi_0 q0_6:Int):Option (Int×Int):=
 if (decide ((v64 (rhat_5+(shrOf .u64 (shlOf .u64 y_2 (v64 (x1))) 32)))≥4294967296))=true then
  Zah.p6 N y_2 x1 lo_1 q1_4 hi_0 (v64 (q0_6-1))
 else
 c4_ (v64 (rhat_5+(shrOf .u64 (shlOf .u64 y_2 (v64 (x1))) 32)),v64 (q0_6-1))
noncomputable def Zah.p4 (N:Nat) (y_2 x1 lo_1 q1_4 hi_0:Int) (c4_:(Int×Int)→Option (Int×Int)):(Int×Int)→Option (Int×Int):=fun (rhat_5,q0_6)=>
 if (decide (q0_6≥4294967296))=true then
  Zah.p5 N c4_ y_2 x1 lo_1 q1_4 rhat_5 hi_0 q0_6
 else
 if (decide ((v64 (q0_6*(bitsOf .and .u64 (shlOf .u64 y_2 (v64 (x1))) 4294967295)))>(v64 ((v64 (4294967296*rhat_5))+(bitsOf .and .u64 (shlOf .u64 lo_1 (v64 (x1))) 4294967295)))))=true then
  Zah.p5 N c4_ y_2 x1 lo_1 q1_4 rhat_5 hi_0 q0_6
 else
 Zah.p6 N y_2 x1 lo_1 q1_4 hi_0 q0_6
noncomputable def Zah.p3 (N:Nat) (y_2 x1 hi_0 lo_1 q1_4:Int):Option (Int×Int):=
 chk ((shrOf .u64 (shlOf .u64 y_2 (v64 (x1))) 32)≠0)<|
 loopN (Zah.p4 N y_2 x1 lo_1 q1_4 hi_0) N (v64 ((v64 ((v64 ((v64 ((bitsOf .or .u64 (shlOf .u64 hi_0 (v64 (x1))) (shrOf .u64 lo_1 (v64 (64-(v64 (x1))))))*4294967296))+(shrOf .u64 (shlOf .u64 lo_1 (v64 (x1))) 32)))-(v64 (q1_4*(shlOf .u64 y_2 (v64 (x1)))))))-(v64 ((v64 (Int.tdiv (v64 ((v64 ((v64 ((bitsOf .or .u64 (shlOf .u64 hi_0 (v64 (x1))) (shrOf .u64 lo_1 (v64 (64-(v64 (x1))))))*4294967296))+(shrOf .u64 (shlOf .u64 lo_1 (v64 (x1))) 32)))-(v64 (q1_4*(shlOf .u64 y_2 (v64 (x1))))))) (shrOf .u64 (shlOf .u64 y_2 (v64 (x1))) 32)))*(shrOf .u64 (shlOf .u64 y_2 (v64 (x1))) 32)))),v64 (Int.tdiv (v64 ((v64 ((v64 ((bitsOf .or .u64 (shlOf .u64 hi_0 (v64 (x1))) (shrOf .u64 lo_1 (v64 (64-(v64 (x1))))))*4294967296))+(shrOf .u64 (shlOf .u64 lo_1 (v64 (x1))) 32)))-(v64 (q1_4*(shlOf .u64 y_2 (v64 (x1))))))) (shrOf .u64 (shlOf .u64 y_2 (v64 (x1))) 32)))
noncomputable def Zah.p2 (N:Nat) (c1_:(Int×Int)→Option (Int×Int)) (y_2 x1 hi_0 lo_1 q1_2 rhat_3:Int):Option (Int×Int):=
 if (decide ((v64 (rhat_3+(shrOf .u64 (shlOf .u64 y_2 (v64 (x1))) 32)))≥4294967296))=true then
  Zah.p3 N y_2 x1 hi_0 lo_1 (v64 (q1_2-1))
 else
 c1_ (v64 (q1_2-1),v64 (rhat_3+(shrOf .u64 (shlOf .u64 y_2 (v64 (x1))) 32)))
noncomputable def Zah.p1 (N:Nat) (y_2 x1 hi_0 lo_1:Int) (c1_:(Int×Int)→Option (Int×Int)):(Int×Int)→Option (Int×Int):=fun (q1_2,rhat_3)=>
 if (decide (q1_2≥4294967296))=true then
  Zah.p2 N c1_ y_2 x1 hi_0 lo_1 q1_2 rhat_3
 else
 if (decide ((v64 (q1_2*(bitsOf .and .u64 (shlOf .u64 y_2 (v64 (x1))) 4294967295)))>(v64 ((v64 (4294967296*rhat_3))+(shrOf .u64 (shlOf .u64 lo_1 (v64 (x1))) 32)))))=true then
  Zah.p2 N c1_ y_2 x1 hi_0 lo_1 q1_2 rhat_3
 else
 Zah.p3 N y_2 x1 hi_0 lo_1 q1_2
noncomputable def Zah (N:Nat) (hi_0 lo_1 y_2:Int):Option (Int×Int):=
 if (y_2==0)=true then
  none
 else
 if (decide (y_2≤hi_0))=true then
  none
 else
 if (hi_0==0)=true then
  chk (y_2≠0)<|
  some (v64 (Int.tdiv lo_1 y_2),Int.tmod lo_1 y_2)
 else
 optE (ZbC N y_2) fun x1=>
 chk (0≤(v64 (x1)))<|
 chk (0≤(v64 (64-(v64 (x1)))))<|
 chk ((shrOf .u64 (shlOf .u64 y_2 (v64 (x1))) 32)≠0)<|
 loopN (Zah.p1 N y_2 x1 hi_0 lo_1) N (v64 (Int.tdiv (bitsOf .or .u64 (shlOf .u64 hi_0 (v64 (x1))) (shrOf .u64 lo_1 (v64 (64-(v64 (x1)))))) (shrOf .u64 (shlOf .u64 y_2 (v64 (x1))) 32)),v64 ((bitsOf .or .u64 (shlOf .u64 hi_0 (v64 (x1))) (shrOf .u64 lo_1 (v64 (64-(v64 (x1))))))-(v64 ((v64 (Int.tdiv (bitsOf .or .u64 (shlOf .u64 hi_0 (v64 (x1))) (shrOf .u64 lo_1 (v64 (64-(v64 (x1)))))) (shrOf .u64 (shlOf .u64 y_2 (v64 (x1))) 32)))*(shrOf .u64 (shlOf .u64 y_2 (v64 (x1))) 32)))))
noncomputable def Zah.p6.S (y_2 x1 lo_1 q1_4 hi_0 q0_7:Int) (st:LL):S:=mkS 135 [(2,.one (.l (L.int .u64 (shlOf .u64 y_2 (v64 (x1)))))),(8,.one (.l (L.int .u64 (v64 (x1))))),(14,.one (.l (L.int .u64 (bitsOf .and .u64 (shlOf .u64 lo_1 (v64 (x1))) 4294967295)))),(15,.one (.l (L.int .u64 q1_4))),(17,.one (.l (L.int .u64 (v64 ((v64 ((v64 ((bitsOf .or .u64 (shlOf .u64 hi_0 (v64 (x1))) (shrOf .u64 lo_1 (v64 (64-(v64 (x1))))))*4294967296))+(shrOf .u64 (shlOf .u64 lo_1 (v64 (x1))) 32)))-(v64 (q1_4*(shlOf .u64 y_2 (v64 (x1)))))))))),(18,.one (.l (L.int .u64 q0_7)))] [] st
noncomputable def Zah.p5.S (y_2 x1 lo_1 q1_4 rhat_5 hi_0 q0_6:Int) (st:LL):S:=mkS 135 [(2,.one (.l (L.int .u64 (shlOf .u64 y_2 (v64 (x1)))))),(8,.one (.l (L.int .u64 (v64 (x1))))),(9,.one (.l (L.int .u64 (shrOf .u64 (shlOf .u64 y_2 (v64 (x1))) 32)))),(10,.one (.l (L.int .u64 (bitsOf .and .u64 (shlOf .u64 y_2 (v64 (x1))) 4294967295)))),(14,.one (.l (L.int .u64 (bitsOf .and .u64 (shlOf .u64 lo_1 (v64 (x1))) 4294967295)))),(15,.one (.l (L.int .u64 q1_4))),(16,.one (.l (L.int .u64 rhat_5))),(17,.one (.l (L.int .u64 (v64 ((v64 ((v64 ((bitsOf .or .u64 (shlOf .u64 hi_0 (v64 (x1))) (shrOf .u64 lo_1 (v64 (64-(v64 (x1))))))*4294967296))+(shrOf .u64 (shlOf .u64 lo_1 (v64 (x1))) 32)))-(v64 (q1_4*(shlOf .u64 y_2 (v64 (x1)))))))))),(18,.one (.l (L.int .u64 q0_6)))] [] st
noncomputable def Zah.p4.S (y_2 x1 lo_1 q1_4 rhat_5 hi_0 q0_6:Int) (st:LL):S:=mkS 135 [(2,.one (.l (L.int .u64 (shlOf .u64 y_2 (v64 (x1)))))),(8,.one (.l (L.int .u64 (v64 (x1))))),(9,.one (.l (L.int .u64 (shrOf .u64 (shlOf .u64 y_2 (v64 (x1))) 32)))),(10,.one (.l (L.int .u64 (bitsOf .and .u64 (shlOf .u64 y_2 (v64 (x1))) 4294967295)))),(14,.one (.l (L.int .u64 (bitsOf .and .u64 (shlOf .u64 lo_1 (v64 (x1))) 4294967295)))),(15,.one (.l (L.int .u64 q1_4))),(16,.one (.l (L.int .u64 rhat_5))),(17,.one (.l (L.int .u64 (v64 ((v64 ((v64 ((bitsOf .or .u64 (shlOf .u64 hi_0 (v64 (x1))) (shrOf .u64 lo_1 (v64 (64-(v64 (x1))))))*4294967296))+(shrOf .u64 (shlOf .u64 lo_1 (v64 (x1))) 32)))-(v64 (q1_4*(shlOf .u64 y_2 (v64 (x1)))))))))),(18,.one (.l (L.int .u64 q0_6)))] [] st
noncomputable def Zah.p3.S (y_2 x1 hi_0 lo_1 q1_4:Int) (st:LL):S:=mkS 135 [(2,.one (.l (L.int .u64 (shlOf .u64 y_2 (v64 (x1)))))),(8,.one (.l (L.int .u64 (v64 (x1))))),(9,.one (.l (L.int .u64 (shrOf .u64 (shlOf .u64 y_2 (v64 (x1))) 32)))),(10,.one (.l (L.int .u64 (bitsOf .and .u64 (shlOf .u64 y_2 (v64 (x1))) 4294967295)))),(11,.one (.l (L.int .u64 (bitsOf .or .u64 (shlOf .u64 hi_0 (v64 (x1))) (shrOf .u64 lo_1 (v64 (64-(v64 (x1))))))))),(13,.one (.l (L.int .u64 (shrOf .u64 (shlOf .u64 lo_1 (v64 (x1))) 32)))),(14,.one (.l (L.int .u64 (bitsOf .and .u64 (shlOf .u64 lo_1 (v64 (x1))) 4294967295)))),(15,.one (.l (L.int .u64 q1_4)))] [] st
noncomputable def Zah.p2.S (y_2 x1 hi_0 lo_1 q1_2 rhat_3:Int) (st:LL):S:=mkS 135 [(2,.one (.l (L.int .u64 (shlOf .u64 y_2 (v64 (x1)))))),(8,.one (.l (L.int .u64 (v64 (x1))))),(9,.one (.l (L.int .u64 (shrOf .u64 (shlOf .u64 y_2 (v64 (x1))) 32)))),(10,.one (.l (L.int .u64 (bitsOf .and .u64 (shlOf .u64 y_2 (v64 (x1))) 4294967295)))),(11,.one (.l (L.int .u64 (bitsOf .or .u64 (shlOf .u64 hi_0 (v64 (x1))) (shrOf .u64 lo_1 (v64 (64-(v64 (x1))))))))),(13,.one (.l (L.int .u64 (shrOf .u64 (shlOf .u64 lo_1 (v64 (x1))) 32)))),(14,.one (.l (L.int .u64 (bitsOf .and .u64 (shlOf .u64 lo_1 (v64 (x1))) 4294967295)))),(15,.one (.l (L.int .u64 q1_2))),(16,.one (.l (L.int .u64 rhat_3)))] [] st
noncomputable def Zah.p1.S (y_2 x1 hi_0 lo_1 q1_2 rhat_3:Int) (st:LL):S:=mkS 135 [(2,.one (.l (L.int .u64 (shlOf .u64 y_2 (v64 (x1)))))),(8,.one (.l (L.int .u64 (v64 (x1))))),(9,.one (.l (L.int .u64 (shrOf .u64 (shlOf .u64 y_2 (v64 (x1))) 32)))),(10,.one (.l (L.int .u64 (bitsOf .and .u64 (shlOf .u64 y_2 (v64 (x1))) 4294967295)))),(11,.one (.l (L.int .u64 (bitsOf .or .u64 (shlOf .u64 hi_0 (v64 (x1))) (shrOf .u64 lo_1 (v64 (64-(v64 (x1))))))))),(13,.one (.l (L.int .u64 (shrOf .u64 (shlOf .u64 lo_1 (v64 (x1))) 32)))),(14,.one (.l (L.int .u64 (bitsOf .and .u64 (shlOf .u64 lo_1 (v64 (x1))) 4294967295)))),(15,.one (.l (L.int .u64 q1_2))),(16,.one (.l (L.int .u64 rhat_3)))] [] st
theorem Zah.p6_ok {y_2 x1 lo_1 q1_4 hi_0 q0_7 st r} (h:Zah.p6 N y_2 x1 lo_1 q1_4 hi_0 q0_7=some r) (hE:En Tryz.f135 g0 w0 (Zah.rs r) st R):At g0 w0 (Zah.p6.S y_2 x1 lo_1 q1_4 hi_0 q0_7 st) (XK Tryz.prog R [.c (csub Zah.B [1,1,1,1,1,1,1,1,1,1,1,1,1,1,1,1,1,1,1])]):=by
 unfold Zah.p6 at h
 obtain ⟨c16,h1⟩:=ZaY h
 obtain rfl:=Zac h1
 exact af fol hE [.r []] [] 0 [] c16
theorem Zah.p5_ok {y_2 x1 lo_1 q1_4 rhat_5 hi_0 q0_6 st r c4_ J4} (h:Zah.p5 N c4_ y_2 x1 lo_1 q1_4 rhat_5 hi_0 q0_6=some r) (hE:En Tryz.f135 g0 w0 (Zah.rs r) st R) (hc4 : ∀rhat_5 q0_6,c4_ (rhat_5,q0_6)=some r→At g0 w0 (Zah.p4.S y_2 x1 lo_1 q1_4 rhat_5 hi_0 q0_6 st) J4):At g0 w0 (Zah.p5.S y_2 x1 lo_1 q1_4 rhat_5 hi_0 q0_6 st) (XK Tryz.prog R [.c (csub Zah.B [1,1,1,1,1,1,1,1,1,1,1,1,1,1,1,1,1,1,0,0,0,1]),.h J4,.b 2,.c (csub Zah.B [1,1,1,1,1,1,1,1,1,1,1,1,1,1,1,1,1,1,1])]):=by
 unfold Zah.p5 at h
 refine iteB h (fun c15 h2=>?_) (fun c15 h3=>?_)
 ·exact aq fol [.r [],.r [],.r [],.c true,.s 1] [2,8,14,15,17,18] [] c15 (Zah.p6_ok h2 hE)
 ·exact an fol [.r [],.r [],.r [],.c false] [2,8,9,10,14,15,16,17,18] [] c15 (hc4 (v64 (rhat_5+(shrOf .u64 (shlOf .u64 y_2 (v64 (x1))) 32))) (v64 (q0_6-1)) h3)
theorem Zah.p4_ok {y_2 x1 lo_1 q1_4 rhat_5 hi_0 q0_6 st r c4_ J4} (h:Zah.p4 N y_2 x1 lo_1 q1_4 hi_0 c4_ (rhat_5,q0_6)=some r) (hE:En Tryz.f135 g0 w0 (Zah.rs r) st R) (hc4 : ∀rhat_5 q0_6,c4_ (rhat_5,q0_6)=some r→At g0 w0 (Zah.p4.S y_2 x1 lo_1 q1_4 rhat_5 hi_0 q0_6 st) J4):At g0 w0 (Zah.p4.S y_2 x1 lo_1 q1_4 rhat_5 hi_0 q0_6 st) (XK Tryz.prog R (.c (csub Zah.B [1,1,1,1,1,1,1,1,1,1,1,1,1,1,1,1,1,1,0,0,0]) :: .h J4 :: [.b 2,.c (csub Zah.B [1,1,1,1,1,1,1,1,1,1,1,1,1,1,1,1,1,1,1])])):=by
 unfold Zah.p4 at h
 refine iteB h (fun c13 h4=>?_) (fun c13 h5=>?_)
 ·exact aq fol [.r [(3,wF),(4,wF),(5,wF),(6,wF),(7,wF),(8,wF),(9,wF),(10,wF)],.c true,.s 4] [2,8,9,10,14,15,16,17,18] [] (aO c13 c13 c13 c13 c13 c13 c13 (aJ c13 c13 eT)) (Zah.p5_ok h4 hE hc4)
 ·refine iteB h5 (fun c14 h6=>?_) (fun c14 h7=>?_)
  ·exact aq fol [.r [(11,yF)],.c true,.s 4] [2,8,9,10,14,15,16,17,18] [] (aO c13 c13 c13 c13 c13 c13 c13 (aJ c13 c13 c14)) (Zah.p5_ok h6 hE hc4)
  ·exact aq fol [.r [(11,yF)],.c false,.s 1] [2,8,14,15,17,18] [] (aO c13 c13 c13 c13 c13 c13 c13 (aJ c13 c13 c14)) (Zah.p6_ok h7 hE)
theorem Zah.p3_ok {y_2 x1 hi_0 lo_1 q1_4 st r} (h:Zah.p3 N y_2 x1 hi_0 lo_1 q1_4=some r) (hE:En Tryz.f135 g0 w0 (Zah.rs r) st R):At g0 w0 (Zah.p3.S y_2 x1 hi_0 lo_1 q1_4 st) (XK Tryz.prog R [.c (csub Zah.B [1,1,1,1,1,1,1,1,1,1,1,1,1,1,1])]):=by
 unfold Zah.p3 at h
 obtain ⟨c12,h8⟩:=ZaY h
 exact aq fol [.r [],.r [],.r []] [2,8,9,10,14,15,16,17,18] [] c12 (At.loop N (At.loopN (fun y:Int×Int=>Zah.p4.S y_2 x1 lo_1 q1_4 y.1 hi_0 y.2 st) (fun c J hc y h=>Zah.p4_ok (rhat_5:=y.1) (q0_6:=y.2) h hE (fun rhat_5 q0_6=>hc (rhat_5,q0_6))) N (v64 ((v64 ((v64 ((v64 ((bitsOf .or .u64 (shlOf .u64 hi_0 (v64 (x1))) (shrOf .u64 lo_1 (v64 (64-(v64 (x1))))))*4294967296))+(shrOf .u64 (shlOf .u64 lo_1 (v64 (x1))) 32)))-(v64 (q1_4*(shlOf .u64 y_2 (v64 (x1)))))))-(v64 ((v64 (Int.tdiv (v64 ((v64 ((v64 ((bitsOf .or .u64 (shlOf .u64 hi_0 (v64 (x1))) (shrOf .u64 lo_1 (v64 (64-(v64 (x1))))))*4294967296))+(shrOf .u64 (shlOf .u64 lo_1 (v64 (x1))) 32)))-(v64 (q1_4*(shlOf .u64 y_2 (v64 (x1))))))) (shrOf .u64 (shlOf .u64 y_2 (v64 (x1))) 32)))*(shrOf .u64 (shlOf .u64 y_2 (v64 (x1))) 32)))),v64 (Int.tdiv (v64 ((v64 ((v64 ((bitsOf .or .u64 (shlOf .u64 hi_0 (v64 (x1))) (shrOf .u64 lo_1 (v64 (64-(v64 (x1))))))*4294967296))+(shrOf .u64 (shlOf .u64 lo_1 (v64 (x1))) 32)))-(v64 (q1_4*(shlOf .u64 y_2 (v64 (x1))))))) (shrOf .u64 (shlOf .u64 y_2 (v64 (x1))) 32))) h8))
theorem Zah.p2_ok {y_2 x1 hi_0 lo_1 q1_2 rhat_3 st r c1_ J1} (h:Zah.p2 N c1_ y_2 x1 hi_0 lo_1 q1_2 rhat_3=some r) (hE:En Tryz.f135 g0 w0 (Zah.rs r) st R) (hc1 : ∀q1_2 rhat_3,c1_ (q1_2,rhat_3)=some r→At g0 w0 (Zah.p1.S y_2 x1 hi_0 lo_1 q1_2 rhat_3 st) J1):At g0 w0 (Zah.p2.S y_2 x1 hi_0 lo_1 q1_2 rhat_3 st) (XK Tryz.prog R [.c (csub Zah.B [1,1,1,1,1,1,1,1,1,1,1,1,1,1,0,0,0,1]),.h J1,.b 0,.c (csub Zah.B [1,1,1,1,1,1,1,1,1,1,1,1,1,1,1])]):=by
 unfold Zah.p2 at h
 refine iteB h (fun c11 h9=>?_) (fun c11 h10=>?_)
 ·exact aq fol [.r [],.r [],.r [],.c true,.s 1] [2,8,9,10,11,13,14,15] [] c11 (Zah.p3_ok h9 hE)
 ·exact an fol [.r [],.r [],.r [],.c false] [2,8,9,10,11,13,14,15,16] [] c11 (hc1 (v64 (q1_2-1)) (v64 (rhat_3+(shrOf .u64 (shlOf .u64 y_2 (v64 (x1))) 32))) h10)
theorem Zah.p1_ok {y_2 x1 hi_0 lo_1 q1_2 rhat_3 st r c1_ J1} (h:Zah.p1 N y_2 x1 hi_0 lo_1 c1_ (q1_2,rhat_3)=some r) (hE:En Tryz.f135 g0 w0 (Zah.rs r) st R) (hc1 : ∀q1_2 rhat_3,c1_ (q1_2,rhat_3)=some r→At g0 w0 (Zah.p1.S y_2 x1 hi_0 lo_1 q1_2 rhat_3 st) J1):At g0 w0 (Zah.p1.S y_2 x1 hi_0 lo_1 q1_2 rhat_3 st) (XK Tryz.prog R (.c (csub Zah.B [1,1,1,1,1,1,1,1,1,1,1,1,1,1,0,0,0]) :: .h J1 :: [.b 0,.c (csub Zah.B [1,1,1,1,1,1,1,1,1,1,1,1,1,1,1])])):=by
 unfold Zah.p1 at h
 refine iteB h (fun c9 h11=>?_) (fun c9 h12=>?_)
 ·exact aq fol [.r [(3,wF),(4,wF),(5,wF),(6,wF),(7,wF),(8,wF),(9,wF),(10,wF)],.c true,.s 4] [2,8,9,10,11,13,14,15,16] [] (aO c9 c9 c9 c9 c9 c9 c9 (aJ c9 c9 eT)) (Zah.p2_ok h11 hE hc1)
 ·refine iteB h12 (fun c10 h13=>?_) (fun c10 h14=>?_)
  ·exact aq fol [.r [(11,yF)],.c true,.s 4] [2,8,9,10,11,13,14,15,16] [] (aO c9 c9 c9 c9 c9 c9 c9 (aJ c9 c9 c10)) (Zah.p2_ok h13 hE hc1)
  ·exact aq fol [.r [(11,yF)],.c false,.s 1] [2,8,9,10,11,13,14,15] [] (aO c9 c9 c9 c9 c9 c9 c9 (aJ c9 c9 c10)) (Zah.p3_ok h14 hE)
theorem Zah.snd {hi_0 lo_1 y_2:Int} {r:Int×Int} (h:Zah N hi_0 lo_1 y_2=some r):SndQ Tryz.prog 135 [.one (L.int .u64 hi_0),.one (L.int .u64 lo_1),.one (L.int .u64 y_2)] (Zah.rs r):=fun st=>
 sO Zah.B Tryz.func135 fun g0 w0 R hE=>by
  unfold Zah at h
  refine iteB h (fun c1 h15=>?_) (fun c1 h16=>?_)
  ·cases h15
  ·refine iteB h16 (fun c2 h17=>?_) (fun c2 h18=>?_)
   ·cases h17
   ·refine iteB h18 (fun c3 h19=>?_) (fun c3 h20=>?_)
    ·obtain ⟨c4,h21⟩:=ZaY h19
     obtain rfl:=Zac h21
     exact afd fol hE [.r [],.r [],.c false,.r [],.c false,.r [],.c true,.d {ds:=[],hv:=0,Hs:=[]}] [] 0 [] (aL c1 c2 c3 c4 c4)
    ·obtain ⟨x1,c5,h22⟩:=Zad h20
     obtain ⟨c6,c7,c8,h23⟩:=ck3 h22
     exact aq fol [.r [],.r [],.c false,.r [],.c false,.r [],.c false,.r [(1,q1 [oI x1])],.r [],.r [],.r [],.r [],.r [],.r [],.r [],.r [],.r []] [2,8,9,10,11,13,14,15,16] [] (aO c1 c2 c3 (ZbC.snd c5) c6 (leI 0 32) c6 (aK c7 c6 (leI 0 32) c8)) (At.loop N (At.loopN (fun y:Int×Int=>Zah.p1.S y_2 x1 hi_0 lo_1 y.1 y.2 st) (fun c J hc y h=>Zah.p1_ok (q1_2:=y.1) (rhat_3:=y.2) h hE (fun q1_2 rhat_3=>hc (q1_2,rhat_3))) N (v64 (Int.tdiv (bitsOf .or .u64 (shlOf .u64 hi_0 (v64 (x1))) (shrOf .u64 lo_1 (v64 (64-(v64 (x1)))))) (shrOf .u64 (shlOf .u64 y_2 (v64 (x1))) 32)),v64 ((bitsOf .or .u64 (shlOf .u64 hi_0 (v64 (x1))) (shrOf .u64 lo_1 (v64 (64-(v64 (x1))))))-(v64 ((v64 (Int.tdiv (bitsOf .or .u64 (shlOf .u64 hi_0 (v64 (x1))) (shrOf .u64 lo_1 (v64 (64-(v64 (x1)))))) (shrOf .u64 (shlOf .u64 y_2 (v64 (x1))) 32)))*(shrOf .u64 (shlOf .u64 y_2 (v64 (x1))) 32))))) h23))
noncomputable def ZbM.B:Code:=Tryz.f110.body.getD .skip
noncomputable def ZbM.rs (r:(List Int)×Int):List CV:=[.agg [L.arr .u64 4 r.1],.one (L.int .u64 r.2)]
noncomputable def ZbM.p1 (N:Nat) (by_1:Int) (c1_:(Int×Int×(List Int))→Option ((List Int)×Int)):(Int×Int×(List Int))→Option ((List Int)×Int):=fun (r_1,i_2,a_5)=>
 if (decide (i_2≥0))=true then
  chk (0≤i_2)<|
  chk (i_2<4)<|
  optE (Zah N r_1 (List.getD a_5 (Int.toNat i_2) 0) by_1) fun (x6,x7)=>
  c1_ (x7,w64 (i_2-1),List.set a_5 (Int.toNat i_2) x6)
 else
 some (a_5,r_1)
noncomputable def ZbM (N:Nat) (a_0_0:List Int) (by_1:Int):Option ((List Int)×Int):=
 if (by_1==0)=true then
  some (List.replicate 4 0,0)
 else
 loopN (ZbM.p1 N by_1) N (0,3,a_0_0)
noncomputable def ZbM.p1.S (by_1 r_1 i_2:Int) (a_5:List Int) (st:LL):S:=mkS 28 [(1,.one (.l (L.int .u64 by_1))),(2,sA 2),(4,sA 4),(6,.one (.l (L.int .u64 r_1))),(7,sI i_2)] [(2,.cells [L.arr .u64 4 a_5]),(4,.cells [L.arr .u64 4 (List.replicate 4 0)])] st
theorem ZbM.p1_ok {by_1 r_1 i_2 a_5 st r c1_ J1} (h:ZbM.p1 N by_1 c1_ (r_1,i_2,a_5)=some r) (hE:En Tryz.f110 g0 w0 (ZbM.rs r) st R) (hc1 : ∀r_1 i_2 a_5,c1_ (r_1,i_2,a_5)=some r→At g0 w0 (ZbM.p1.S by_1 r_1 i_2 a_5 st) J1):At g0 w0 (ZbM.p1.S by_1 r_1 i_2 a_5 st) (XK Tryz.prog R (.c (csub ZbM.B [1,1,1,0,1,0,0]) :: .h J1 :: [.b 0,.c (csub ZbM.B [1,1,1,1])])):=by
 unfold ZbM.p1 at h
 refine iteB h (fun c6 h1=>?_) (fun c6 h2=>?_)
 ·obtain ⟨c7,c8,h3⟩:=ck2 h1
  obtain ⟨⟨x6,x7⟩,c9,h4⟩:=Zad h3
  exact an fol [.r [],.c true,.r [(6,q1 [.one (L.int .u64 x6),.one (L.int .u64 x7)])],.r []] [1,2,4,6,7] [2,4] (aM c6 c7 c8 (Zah.snd c9) c7 c8) (hc1 x7 (w64 (i_2-1)) (List.set a_5 (Int.toNat i_2) x6) h4)
 ·obtain rfl:=Zac h2
  exact af fol hE [.r [],.c false,.r []] [] 0 [] c6
theorem ZbM.snd {a_0_0:List Int} {by_1:Int} {r:(List Int)×Int} (h:ZbM N a_0_0 by_1=some r):SndQ Tryz.prog 110 [.agg [L.arr .u64 4 a_0_0],.one (L.int .u64 by_1)] (ZbM.rs r):=fun st=>
 sO ZbM.B Tryz.func110 fun g0 w0 R hE=>by
  unfold ZbM at h
  refine iteB h (fun c1 h5=>?_) (fun c1 h6=>?_)
  ·obtain rfl:=Zac h5
   exact af fol hE [.r [],.r [],.c true,.r []] [] 0 [] c1
  ·exact aq fol [.r [],.r [],.c false,.r [],.r []] [1,2,4,6,7] [2,4] c1 (At.loop N (At.loopN (fun y:Int×Int×(List Int)=>ZbM.p1.S by_1 y.1 y.2.1 y.2.2 st) (fun c J hc y h=>ZbM.p1_ok (r_1:=y.1) (i_2:=y.2.1) (a_5:=y.2.2) h hE (fun r_1 i_2 a_5=>hc (r_1,i_2,a_5))) N (0,3,a_0_0) h6))
noncomputable def Zcn.B:Code:=Tryz.f136.body.getD .skip
noncomputable def Zcn.rs (r:Int×Int):List CV:=[.one (L.int .u64 r.1),.one (L.int .u64 r.2)]
noncomputable def Zcn (N:Nat) (x_0 y_1:Int):Option (Int×Int):=
 some (v64 ((v64 ((v64 ((shrOf .u64 x_0 32)*(shrOf .u64 y_1 32)))+(shrOf .u64 (v64 ((v64 ((shrOf .u64 x_0 32)*(bitsOf .and .u64 y_1 4294967295)))+(shrOf .u64 (v64 ((bitsOf .and .u64 x_0 4294967295)*(bitsOf .and .u64 y_1 4294967295))) 32))) 32)))+(shrOf .u64 (v64 ((bitsOf .and .u64 (v64 ((v64 ((shrOf .u64 x_0 32)*(bitsOf .and .u64 y_1 4294967295)))+(shrOf .u64 (v64 ((bitsOf .and .u64 x_0 4294967295)*(bitsOf .and .u64 y_1 4294967295))) 32))) 4294967295)+(v64 ((bitsOf .and .u64 x_0 4294967295)*(shrOf .u64 y_1 32))))) 32)),v64 (x_0*y_1))
theorem Zcn.snd {x_0 y_1:Int} {r:Int×Int} (h:Zcn N x_0 y_1=some r):SndQ Tryz.prog 136 [.one (L.int .u64 x_0),.one (L.int .u64 y_1)] (Zcn.rs r):=fun st=>
 sO Zcn.B Tryz.func136 fun g0 w0 R hE=>by
  unfold Zcn at h
  obtain rfl:=Zac h
  exact af fol hE [.r [],.r [],.r [],.r [],.r [],.r [],.r [],.r [],.r [],.r [],.r [],.r []] [] 0 [] (aL (leI 0 32) (leI 0 32) (leI 0 32) (leI 0 32) (leI 0 32))
noncomputable def Zbv.B:Code:=Tryz.f111.body.getD .skip
noncomputable def Zbv.rs (r:(List Int)×Bool):List CV:=[.agg [L.arr .u64 4 r.1],oB r.2]
noncomputable def Zbv.p1 (N:Nat) (by_1:Int) (c1_:(Int×Int×(List Int))→Option ((List Int)×Bool)):(Int×Int×(List Int))→Option ((List Int)×Bool):=fun (c_1,v2,a_7)=>
 if (decide (v2<4))=true then
  chk (0≤v2)<|
  optE (Zcn N (List.getD a_7 (Int.toNat v2) 0) by_1) fun (x8,x9)=>
  optE (Zdn N x9 c_1 0) fun (x10,x11)=>
  c1_ (v64 (x8+x11),w64 (v2+1),List.set a_7 (Int.toNat v2) x10)
 else
 some (a_7,c_1 != 0)
noncomputable def Zbv (N:Nat) (a_0_0:List Int) (by_1:Int):Option ((List Int)×Bool):=
 loopN (Zbv.p1 N by_1) N (0,0,a_0_0)
noncomputable def Zbv.p1.S (by_1 c_1 v2:Int) (a_7:List Int) (st:LL):S:=mkS 37 [(1,.one (.l (L.int .u64 by_1))),(2,sA 2),(4,sA 4),(6,.one (.l (L.int .u64 c_1))),(11,sI v2)] [(2,.cells [L.arr .u64 4 a_7]),(4,.cells [L.arr .u64 4 (List.replicate 4 0)])] st
theorem Zbv.p1_ok {by_1 c_1 v2 a_7 st r c1_ J1} (h:Zbv.p1 N by_1 c1_ (c_1,v2,a_7)=some r) (hE:En Tryz.f111 g0 w0 (Zbv.rs r) st R) (hc1 : ∀c_1 v2 a_7,c1_ (c_1,v2,a_7)=some r→At g0 w0 (Zbv.p1.S by_1 c_1 v2 a_7 st) J1):At g0 w0 (Zbv.p1.S by_1 c_1 v2 a_7 st) (XK Tryz.prog R (.c (csub Zbv.B [1,1,0,1,0,0]) :: .h J1 :: [.b 0,.c (csub Zbv.B [1,1,1])])):=by
 unfold Zbv.p1 at h
 refine iteB h (fun c5 h1=>?_) (fun c5 h2=>?_)
 ·obtain ⟨c6,h3⟩:=ZaY h1
  obtain ⟨⟨x8,x9⟩,c7,h4⟩:=Zad h3
  obtain ⟨⟨x10,x11⟩,c8,h5⟩:=Zad h4
  exact an fol [.r [],.c true,.r [],.r [(4,q1 [.one (L.int .u64 x8),.one (L.int .u64 x9)])],.r [],.r [(3,{rs:=[.one (L.int .u64 x10),.one (L.int .u64 x11)],m:=4})],.r [],.r []] [1,2,4,6,11] [2,4] (aN c5 c6 (oD c5) (Zcn.snd c7) (Zdn.snd c8) c6 (oD c5)) (hc1 (v64 (x8+x11)) (w64 (v2+1)) (List.set a_7 (Int.toNat v2) x10) h5)
 ·obtain rfl:=Zac h2
  exact af fol hE [.r [],.c false,.r []] [] 0 [] c5
theorem Zbv.snd {a_0_0:List Int} {by_1:Int} {r:(List Int)×Bool} (h:Zbv N a_0_0 by_1=some r):SndQ Tryz.prog 111 [.agg [L.arr .u64 4 a_0_0],.one (L.int .u64 by_1)] (Zbv.rs r):=fun st=>
 sO Zbv.B Tryz.func111 fun g0 w0 R hE=>by
  unfold Zbv at h
  exact aq fol [.r [],.r [],.r []] [1,2,4,6,11] [2,4] trivial (At.loop N (At.loopN (fun y:Int×Int×(List Int)=>Zbv.p1.S by_1 y.1 y.2.1 y.2.2 st) (fun c J hc y h=>Zbv.p1_ok (c_1:=y.1) (v2:=y.2.1) (a_7:=y.2.2) h hE (fun c_1 v2 a_7=>hc (c_1,v2,a_7))) N (0,0,a_0_0) h))
noncomputable def ZaR.B:Code:=Tryz.f116.body.getD .skip
noncomputable def ZaR.rs (r:Int):List CV:=[oI r]
noncomputable def ZaR.p2 (N:Nat) (size_5 word_6:Int):Option Int:=
 some (bitsOf .or .i64 (shlOf .i64 size_5 24) word_6)
noncomputable def ZaR.p1 (N:Nat) (x1 word_4:Int):Option Int:=
 if ((bitsOf .and .i64 word_4 8388608) != 0)=true then
  ZaR.p2 N (w64 ((w64 (Int.tdiv (w64 (x1+7)) 8))+1)) (shrOf .i64 word_4 8)
 else
 ZaR.p2 N (w64 (Int.tdiv (w64 (x1+7)) 8)) word_4
noncomputable def ZaR (N:Nat) (n_0_0:List Int):Option Int:=
 optE (Zcc N n_0_0) fun x1=>
 if (decide ((w64 (Int.tdiv (w64 (x1+7)) 8))≤3))=true then
  optE (Zbu N n_0_0 (w64 (8*(w64 (3-(w64 (Int.tdiv (w64 (x1+7)) 8))))))) fun x2=>
  ZaR.p1 N x1 (w64 (List.getD x2 0 0))
 else
 optE (Zbb N n_0_0 (w64 (8*(w64 ((w64 (Int.tdiv (w64 (x1+7)) 8))-3))))) fun x3=>
 ZaR.p1 N x1 (w64 (List.getD x3 0 0))
noncomputable def ZaR.p2.S (size_5 word_6:Int) (st:LL):S:=mkS 36 [(3,sI size_5),(4,sI word_6)] [] st
noncomputable def ZaR.p1.S (x1 word_4:Int) (st:LL):S:=mkS 36 [(3,sI (w64 (Int.tdiv (w64 (x1+7)) 8))),(4,sI word_4)] [] st
theorem ZaR.p2_ok {size_5 word_6 st r} (h:ZaR.p2 N size_5 word_6=some r) (hE:En Tryz.f116 g0 w0 (ZaR.rs r) st R):At g0 w0 (ZaR.p2.S size_5 word_6 st) (XK Tryz.prog R [.c (csub ZaR.B [1,1,1,1,1])]):=by
 unfold ZaR.p2 at h
 obtain rfl:=Zac h
 exact af fol hE [.r []] [] 0 [] (leI 0 24)
theorem ZaR.p1_ok {x1 word_4 st r} (h:ZaR.p1 N x1 word_4=some r) (hE:En Tryz.f116 g0 w0 (ZaR.rs r) st R):At g0 w0 (ZaR.p1.S x1 word_4 st) (XK Tryz.prog R [.c (csub ZaR.B [1,1,1,1])]):=by
 unfold ZaR.p1 at h
 refine iteB h (fun c5 h1=>?_) (fun c5 h2=>?_)
 ·exact aq fol [.r [],.c true,.r [],.r [],.s 1] [3,4] [] (aI c5 (leI 0 8)) (ZaR.p2_ok h1 hE)
 ·exact aq fol [.r [],.c false,.s 1] [3,4] [] c5 (ZaR.p2_ok h2 hE)
theorem ZaR.snd {n_0_0:List Int} {r:Int} (h:ZaR N n_0_0=some r):SndQ Tryz.prog 116 [.agg [L.arr .u64 4 n_0_0]] (ZaR.rs r):=fun st=>
 sO ZaR.B Tryz.func116 fun g0 w0 R hE=>by
  unfold ZaR at h
  obtain ⟨x1,c1,h3⟩:=Zad h
  refine iteB h3 (fun c2 h4=>?_) (fun c2 h5=>?_)
  ·obtain ⟨x2,c3,h6⟩:=Zad h4
   exact aq fol [.r [],.r [(1,q1 [oI x1])],.r [],.r [],.c true,.r [(4,q1 [.agg [L.arr .u64 4 x2]])],.s 1] [3,4] [] (aM (Zcc.snd c1) (neI 8) c2 (Zbu.snd c3) (leI 0 0) (ltI 0 4)) (ZaR.p1_ok h6 hE)
  ·obtain ⟨x3,c4,h7⟩:=Zad h5
   exact aq fol [.r [],.r [(1,q1 [oI x1])],.r [],.r [],.c false,.r [(4,q1 [.agg [L.arr .u64 4 x3]])],.s 1] [3,4] [] (aM (Zcc.snd c1) (neI 8) c2 (Zbb.snd c4) (leI 0 0) (ltI 0 4)) (ZaR.p1_ok h7 hE)
noncomputable def Zbw.B:Code:=Tryz.f88.body.getD .skip
noncomputable def Zbw.rs (r:Int):List CV:=[oI r]
noncomputable def Zbw.p1 (N:Nat) (n_17:List Int):Option Int:=
 optE (ZaR N n_17) fun x18=>
 some x18
noncomputable def Zbw (N:Nat) (p_0:Zaf) (bits_1 from_2 to_3:Int):Option Int:=
 optE (ZaW N bits_1 p_0.Limit) fun (x1,x2)=>
 optE (ZcF N p_0) fun x3=>
 if (!x3)=true then
  some p_0.Limit
 else
 if (!x2)=true then
  some p_0.Limit
 else
 optE (Zdp N p_0 from_2 to_3) fun x4=>
 optE (ZbM N x1 (v64 (w64 (p_0.Interval*p_0.Spacing)))) fun (x5,x6)=>
 optE (Zbv N x5 (v64 (x4))) fun (x7,x8)=>
 chk ((v64 (w64 (p_0.Interval*p_0.Spacing)))≠0)<|
 optE (Zci N (v64 (Int.tdiv (v64 (x6*(v64 (x4)))) (v64 (w64 (p_0.Interval*p_0.Spacing)))))) fun x9=>
 optE (Zbn N x7 x9) fun (x10,x11)=>
 optE (ZaW N p_0.Limit p_0.Limit) fun (x12,x13)=>
 if x8=true then
  some p_0.Limit
 else
 if x11=true then
  some p_0.Limit
 else
 optE (Zct N x12 x10) fun x14=>
 if x14=true then
  some p_0.Limit
 else
 optE (Zcq N x10) fun x15=>
 if x15=true then
  optE (Zci N 1) fun x16=>
  Zbw.p1 N x16
 else
 Zbw.p1 N x10
noncomputable def Zbw.p1.S (n_17:List Int) (st:LL):S:=mkS 94 [(15,sA 15)] [(15,.cells [L.arr .u64 4 n_17])] st
theorem Zbw.p1_ok {n_17 st r} (h:Zbw.p1 N n_17=some r) (hE:En Tryz.f88 g0 w0 (Zbw.rs r) st R):At g0 w0 (Zbw.p1.S n_17 st) (XK Tryz.prog R [.c (csub Zbw.B [1,1,1,1,1,1,1,1,1,1,1])]):=by
 unfold Zbw.p1 at h
 obtain ⟨x18,c19,h1⟩:=Zad h
 obtain rfl:=Zac h1
 exact af fol hE [.r [(1,q1 [oI x18])]] [] 0 [] (ZaR.snd c19)
theorem Zbw.snd {p_0:Zaf} {bits_1 from_2 to_3:Int} {r:Int} (h:Zbw N p_0 bits_1 from_2 to_3=some r):SndQ Tryz.prog 88 [.agg p_0.ls,oI bits_1,oI from_2,oI to_3] (Zbw.rs r):=fun st=>
 sO Zbw.B Tryz.func88 fun g0 w0 R hE=>by
  unfold Zbw at h
  obtain ⟨⟨x1,x2⟩,c1,h2⟩:=Zad h
  obtain ⟨x3,c2,h3⟩:=Zad h2
  refine iteB h3 (fun c3 h4=>?_) (fun c3 h5=>?_)
  ·obtain rfl:=Zac h4
   exact af fol hE [.r [],.r [(3,q1 [.agg [L.arr .u64 4 x1],oB x2])],.r [(1,q1 [oB x3]),(4,wF),(5,wF)],.c true,.r []] [] 0 [] (aM (ZaW.snd c1) (ZcF.snd c2) (not_false (ZbG c3)) (not_false (ZbG c3)) (not_false (ZbG c3)) eT)
  ·refine iteB h5 (fun c4 h6=>?_) (fun c4 h7=>?_)
   ·obtain rfl:=Zac h6
    exact af fol hE [.r [],.r [(3,q1 [.agg [L.arr .u64 4 x1],oB x2])],.r [(1,q1 [oB x3]),(6,yF)],.c true,.r []] [] 0 [] (aM (ZaW.snd c1) (ZcF.snd c2) (not_true (ZaF c3)) (not_true (ZaF c3)) (not_true (ZaF c3)) c4)
   ·obtain ⟨x4,c5,h8⟩:=Zad h7
    obtain ⟨⟨x5,x6⟩,c6,h9⟩:=Zad h8
    obtain ⟨⟨x7,x8⟩,c7,h10⟩:=Zad h9
    obtain ⟨c8,h11⟩:=ZaY h10
    obtain ⟨x9,c9,h12⟩:=Zad h11
    obtain ⟨⟨x10,x11⟩,c10,h13⟩:=Zad h12
    obtain ⟨⟨x12,x13⟩,c11,h14⟩:=Zad h13
    refine iteB h14 (fun c12 h15=>?_) (fun c12 h16=>?_)
    ·obtain rfl:=Zac h15
     exact afd fol hE [.r [],.r [(3,q1 [.agg [L.arr .u64 4 x1],oB x2])],.r [(1,q1 [oB x3]),(6,yF)],.c false,.r [],.r [(3,q1 [oI x4])],.r [(2,q1 [.agg [L.arr .u64 4 x5],.one (L.int .u64 x6)])],.r [(2,q1 [.agg [L.arr .u64 4 x7],oB x8])],.d {ds:=[(6,q1 [.agg [L.arr .u64 4 x9]]),(7,q1 [.agg [L.arr .u64 4 x10],oB x11])],hv:=2048,Hs:=[2048]},.r [(4,q1 [.agg [L.arr .u64 4 x12],oB x13])],.r [(2,wF),(5,wF),(6,wF),(7,wF)],.c true,.r []] [] 0 [] (aO (ZaW.snd c1) (ZcF.snd c2) (not_true (ZaF c3)) (not_true (ZaF c3)) (not_true (ZaF c3)) c4 (Zdp.snd c5) (aO (ZbM.snd c6) (Zbv.snd c7) c8 (Zci.snd c9) (Zbn.snd c10) (ZaW.snd c11) c12 (aM c12 eT eT eT eT eT)))
    ·refine iteB h16 (fun c13 h17=>?_) (fun c13 h18=>?_)
     ·obtain rfl:=Zac h17
      exact afd fol hE [.r [],.r [(3,q1 [.agg [L.arr .u64 4 x1],oB x2])],.r [(1,q1 [oB x3]),(6,yF)],.c false,.r [],.r [(3,q1 [oI x4])],.r [(2,q1 [.agg [L.arr .u64 4 x5],.one (L.int .u64 x6)])],.r [(2,q1 [.agg [L.arr .u64 4 x7],oB x8])],.d {ds:=[(6,q1 [.agg [L.arr .u64 4 x9]]),(7,q1 [.agg [L.arr .u64 4 x10],oB x11])],hv:=2048,Hs:=[2048]},.r [(4,q1 [.agg [L.arr .u64 4 x12],oB x13])],.r [(3,yF),(5,wF),(6,wF),(7,wF)],.c true,.r []] [] 0 [] (aO (ZaW.snd c1) (ZcF.snd c2) (not_true (ZaF c3)) (not_true (ZaF c3)) (not_true (ZaF c3)) c4 (Zdp.snd c5) (aO (ZbM.snd c6) (Zbv.snd c7) c8 (Zci.snd c9) (Zbn.snd c10) (ZaW.snd c11) c12 (aM c12 c13 c13 c13 c13 eT)))
     ·obtain ⟨x14,c14,h19⟩:=Zad h18
      refine iteB h19 (fun c15 h20=>?_) (fun c15 h21=>?_)
      ·obtain rfl:=Zac h20
       exact afd fol hE [.r [],.r [(3,q1 [.agg [L.arr .u64 4 x1],oB x2])],.r [(1,q1 [oB x3]),(6,yF)],.c false,.r [],.r [(3,q1 [oI x4])],.r [(2,q1 [.agg [L.arr .u64 4 x5],.one (L.int .u64 x6)])],.r [(2,q1 [.agg [L.arr .u64 4 x7],oB x8])],.d {ds:=[(6,q1 [.agg [L.arr .u64 4 x9]]),(7,q1 [.agg [L.arr .u64 4 x10],oB x11])],hv:=2048,Hs:=[2048]},.r [(4,q1 [.agg [L.arr .u64 4 x12],oB x13])],.r [(3,yF),(7,q1 [oB x14]),(8,yF)],.c true,.r []] [] 0 [] (aO (ZaW.snd c1) (ZcF.snd c2) (not_true (ZaF c3)) (not_true (ZaF c3)) (not_true (ZaF c3)) c4 (Zdp.snd c5) (aO (ZbM.snd c6) (Zbv.snd c7) c8 (Zci.snd c9) (Zbn.snd c10) (ZaW.snd c11) c12 (aN c12 c13 c13 c13 (Zct.snd c14) c13 c15)))
      ·obtain ⟨x15,c16,h22⟩:=Zad h21
       refine iteB h22 (fun c17 h23=>?_) (fun c17 h24=>?_)
       ·obtain ⟨x16,c18,h25⟩:=Zad h23
        exact aqd fol [.r [],.r [(3,q1 [.agg [L.arr .u64 4 x1],oB x2])],.r [(1,q1 [oB x3]),(6,yF)],.c false,.r [],.r [(3,q1 [oI x4])],.r [(2,q1 [.agg [L.arr .u64 4 x5],.one (L.int .u64 x6)])],.r [(2,q1 [.agg [L.arr .u64 4 x7],oB x8])],.d {ds:=[(6,q1 [.agg [L.arr .u64 4 x9]]),(7,q1 [.agg [L.arr .u64 4 x10],oB x11])],hv:=2048,Hs:=[2048]},.r [(4,q1 [.agg [L.arr .u64 4 x12],oB x13])],.r [(3,yF),(7,q1 [oB x14]),(8,yF)],.c false,.r [(1,q1 [oB x15])],.c true,.r [(0,q1 [.agg [L.arr .u64 4 x16]])],.s 1] [15] [15] (aO (ZaW.snd c1) (ZcF.snd c2) (not_true (ZaF c3)) (not_true (ZaF c3)) (not_true (ZaF c3)) c4 (Zdp.snd c5) (aO (ZbM.snd c6) (Zbv.snd c7) c8 (Zci.snd c9) (Zbn.snd c10) (ZaW.snd c11) c12 (aO c12 c13 c13 c13 (Zct.snd c14) c13 c15 (aJ (Zcq.snd c16) c17 (Zci.snd c18))))) (Zbw.p1_ok h25 hE)
       ·exact aqd fol [.r [],.r [(3,q1 [.agg [L.arr .u64 4 x1],oB x2])],.r [(1,q1 [oB x3]),(6,yF)],.c false,.r [],.r [(3,q1 [oI x4])],.r [(2,q1 [.agg [L.arr .u64 4 x5],.one (L.int .u64 x6)])],.r [(2,q1 [.agg [L.arr .u64 4 x7],oB x8])],.d {ds:=[(6,q1 [.agg [L.arr .u64 4 x9]]),(7,q1 [.agg [L.arr .u64 4 x10],oB x11])],hv:=2048,Hs:=[2048]},.r [(4,q1 [.agg [L.arr .u64 4 x12],oB x13])],.r [(3,yF),(7,q1 [oB x14]),(8,yF)],.c false,.r [(1,q1 [oB x15])],.c false,.s 1] [15] [15] (aO (ZaW.snd c1) (ZcF.snd c2) (not_true (ZaF c3)) (not_true (ZaF c3)) (not_true (ZaF c3)) c4 (Zdp.snd c5) (aO (ZbM.snd c6) (Zbv.snd c7) c8 (Zci.snd c9) (Zbn.snd c10) (ZaW.snd c11) c12 (aO c12 c13 c13 c13 (Zct.snd c14) c13 c15 (aI (Zcq.snd c16) c17)))) (Zbw.p1_ok h24 hE)
noncomputable def ZcZ.B:Code:=Tryz.f54.body.getD .skip
noncomputable def ZcZ.rs (r:Int):List CV:=[oI r]
noncomputable def ZcZ (N:Nat) (p_0:Zaf) (at_1:ZcU) (time_2:Int):Option Int:=
 if (decide (at_1.Height≤0))=true then
  some p_0.Limit
 else
 optE (Zcm N p_0 at_1.Height) fun x1=>
 if x1=true then
  optE (Zbw N p_0 at_1.Bits at_1.First at_1.Time) fun x2=>
  some x2
 else
 if (!p_0.Easy)=true then
  some at_1.Bits
 else
 if (decide ((w64 (time_2-at_1.Time))>(w64 (2*p_0.Spacing))))=true then
  some p_0.Limit
 else
 some at_1.Hard
theorem ZcZ.snd {p_0:Zaf} {at_1:ZcU} {time_2:Int} {r:Int} (h:ZcZ N p_0 at_1 time_2=some r):SndQ Tryz.prog 54 [.agg p_0.ls,.agg at_1.ls,oI time_2] (ZcZ.rs r):=fun st=>
 sO ZcZ.B Tryz.func54 fun g0 w0 R hE=>by
  unfold ZcZ at h
  refine iteB h (fun c1 h1=>?_) (fun c1 h2=>?_)
  ·obtain rfl:=Zac h1
   exact af fol hE [.r [],.r [],.c true,.r []] [] 0 [] c1
  ·obtain ⟨x1,c2,h3⟩:=Zad h2
   refine iteB h3 (fun c3 h4=>?_) (fun c3 h5=>?_)
   ·obtain ⟨x2,c4,h6⟩:=Zad h4
    obtain rfl:=Zac h6
    exact af fol hE [.r [],.r [],.c false,.r [(3,q1 [oB x1])],.c true,.r [(7,q1 [oI x2])]] [] 0 [] (aK c1 (Zcm.snd c2) c3 (Zbw.snd c4))
   ·refine iteB h5 (fun c5 h7=>?_) (fun c5 h8=>?_)
    ·obtain rfl:=Zac h7
     exact af fol hE [.r [],.r [],.c false,.r [(3,q1 [oB x1])],.c false,.r [],.c true,.r []] [] 0 [] (aK c1 (Zcm.snd c2) c3 c5)
    ·refine iteB h8 (fun c6 h9=>?_) (fun c6 h10=>?_)
     ·obtain rfl:=Zac h9
      exact af fol hE [.r [],.r [],.c false,.r [(3,q1 [oB x1])],.c false,.r [],.c false,.r [],.c true,.r []] [] 0 [] (aL c1 (Zcm.snd c2) c3 c5 c6)
     ·obtain rfl:=Zac h10
      exact af fol hE [.r [],.r [],.c false,.r [(3,q1 [oB x1])],.c false,.r [],.c false,.r [],.c false,.r []] [] 0 [] (aL c1 (Zcm.snd c2) c3 c5 c6)
noncomputable def Zbq.B:Code:=Tryz.f118.body.getD .skip
noncomputable def Zbq.rs (r:(List Int)):List CV:=[.agg [L.arr .u64 4 r]]
noncomputable def Zbq.p1 (N:Nat) (h_0_0:List Int) (c1_:(Int×(List Int))→Option (List Int)):(Int×(List Int))→Option (List Int):=fun (v1,out_2)=>
 if (decide (v1<32))=true then
  chk (0≤v1)<|
  chk (0≤(w64 (Int.tdiv v1 8)))<|
  chk ((w64 (Int.tdiv v1 8))<4)<|
  chk (0≤(w64 (8*(Int.tmod v1 8))))<|
  c1_ (w64 (v1+1),List.set out_2 (Int.toNat (w64 (Int.tdiv v1 8))) (bitsOf .or .u64 (List.getD out_2 (Int.toNat (w64 (Int.tdiv v1 8))) 0) (shlOf .u64 (v64 (List.getD h_0_0 (Int.toNat v1) 0)) (w64 (8*(Int.tmod v1 8))))))
 else
 some out_2
noncomputable def Zbq (N:Nat) (h_0_0:List Int):Option (List Int):=
 loopN (Zbq.p1 N h_0_0) N (0,List.replicate 4 0)
noncomputable def Zbq.p1.S (h_0_0:List Int) (v1:Int) (out_2:List Int) (st:LL):S:=mkS 25 [(2,sA 2),(3,sA 3),(6,.agg [.l (L.arr .u8 32 h_0_0)]),(7,sI v1)] [(2,.cells [L.arr .u64 4 (List.replicate 4 0)]),(3,.cells [L.arr .u64 4 out_2])] st
theorem Zbq.p1_ok {h_0_0 v1 out_2 st r c1_ J1} (h:Zbq.p1 N h_0_0 c1_ (v1,out_2)=some r) (hE:En Tryz.f118 g0 w0 (Zbq.rs r) st R) (hc1 : ∀v1 out_2,c1_ (v1,out_2)=some r→At g0 w0 (Zbq.p1.S h_0_0 v1 out_2 st) J1):At g0 w0 (Zbq.p1.S h_0_0 v1 out_2 st) (XK Tryz.prog R (.c (csub Zbq.B [1,1,0,1,0,0]) :: .h J1 :: [.b 0,.c (csub Zbq.B [1,1,1])])):=by
 unfold Zbq.p1 at h
 refine iteB h (fun c6 h1=>?_) (fun c6 h2=>?_)
 ·obtain ⟨c7,c8,c9,c10,h3⟩:=ck4 h1
  exact and_ fol [.r [],.c true,.r [],.d {ds:=[],hv:=4096,Hs:=[4096]},.r []] [2,3,6,7] [2,3] (aO c6 c7 (oD c6) (neI 8) c8 c9 (neI 8) (aJ c10 c8 c9)) (hc1 (w64 (v1+1)) (List.set out_2 (Int.toNat (w64 (Int.tdiv v1 8))) (bitsOf .or .u64 (List.getD out_2 (Int.toNat (w64 (Int.tdiv v1 8))) 0) (shlOf .u64 (v64 (List.getD h_0_0 (Int.toNat v1) 0)) (w64 (8*(Int.tmod v1 8)))))) h3)
 ·obtain rfl:=Zac h2
  exact af fol hE [.r [],.c false,.r []] [] 0 [] c6
theorem Zbq.snd {h_0_0:List Int} {r:(List Int)} (h:Zbq N h_0_0=some r):SndQ Tryz.prog 118 [.agg [L.arr .u8 32 h_0_0]] (Zbq.rs r):=fun st=>
 sO Zbq.B Tryz.func118 fun g0 w0 R hE=>by
  unfold Zbq at h
  exact aq fol [.r [],.r [],.r []] [2,3,6,7] [2,3] trivial (At.loop N (At.loopN (fun y:Int×(List Int)=>Zbq.p1.S h_0_0 y.1 y.2 st) (fun c J hc y h=>Zbq.p1_ok (v1:=y.1) (out_2:=y.2) h hE (fun v1 out_2=>hc (v1,out_2))) N (0,List.replicate 4 0) h))
noncomputable def ZcI.B:Code:=Tryz.f90.body.getD .skip
noncomputable def ZcI.rs (r:Bool):List CV:=[oB r]
noncomputable def ZcI (N:Nat) (h_0_0 target_1_0:List Int):Option Bool:=
 optE (Zbq N h_0_0) fun x1=>
 optE (Zct N target_1_0 x1) fun x2=>
 some (!x2)
theorem ZcI.snd {h_0_0 target_1_0:List Int} {r:Bool} (h:ZcI N h_0_0 target_1_0=some r):SndQ Tryz.prog 90 [.agg [L.arr .u8 32 h_0_0],.agg [L.arr .u64 4 target_1_0]] (ZcI.rs r):=fun st=>
 sO ZcI.B Tryz.func90 fun g0 w0 R hE=>by
  unfold ZcI at h
  obtain ⟨x1,c1,h1⟩:=Zad h
  obtain ⟨x2,c2,h2⟩:=Zad h1
  obtain rfl:=Zac h2
  exact afd fol hE [.r [],.d {ds:=[(2,q1 [.agg [L.arr .u64 4 x1]]),(3,q1 [oB x2])],hv:=0,Hs:=[]}] [] 0 [] (aI (Zbq.snd c1) (Zct.snd c2))
noncomputable def ZcB.B:Code:=Tryz.f55.body.getD .skip
noncomputable def ZcB.rs (r:Int):List CV:=[oI r]
noncomputable def ZcB (N:Nat) (p_0:Zaf) (h_1:Zai):Option Int:=
 optE (Zbm N h_1) fun x1=>
 if (!x1)=true then
  some 1
 else
 optE (ZaW N h_1.Bits p_0.Limit) fun (x2,x3)=>
 if (!x3)=true then
  some 4
 else
 optE (ZcV N h_1) fun x4=>
 optE (ZcI N x4 x2) fun x5=>
 if (!x5)=true then
  some 4
 else
 some 0
theorem ZcB.snd {p_0:Zaf} {h_1:Zai} {r:Int} (h:ZcB N p_0 h_1=some r):SndQ Tryz.prog 55 [.agg p_0.ls,.agg h_1.ls] (ZcB.rs r):=fun st=>
 sO ZcB.B Tryz.func55 fun g0 w0 R hE=>by
  unfold ZcB at h
  obtain ⟨x1,c1,h1⟩:=Zad h
  refine iteB h1 (fun c2 h2=>?_) (fun c2 h3=>?_)
  ·obtain rfl:=Zac h2
   exact af fol hE [.r [],.r [(1,q1 [oB x1])],.c true,.r []] [] 0 [] (aI (Zbm.snd c1) c2)
  ·obtain ⟨⟨x2,x3⟩,c3,h4⟩:=Zad h3
   refine iteB h4 (fun c4 h5=>?_) (fun c4 h6=>?_)
   ·obtain rfl:=Zac h5
    exact afd fol hE [.r [],.r [(1,q1 [oB x1])],.c false,.r [(4,q1 [.agg [L.arr .u64 4 x2],oB x3])],.d {ds:=[(3,wF),(4,wF),(5,wF),(6,wF),(7,wF)],hv:=0,Hs:=[]},.c true,.r []] [] 0 [] (aO (Zbm.snd c1) c2 (ZaW.snd c3) (not_false (ZbG c4)) (not_false (ZbG c4)) (not_false (ZbG c4)) (not_false (ZbG c4)) (aJ (not_false (ZbG c4)) (not_false (ZbG c4)) eT))
   ·obtain ⟨x4,c5,h7⟩:=Zad h6
    obtain ⟨x5,c6,h8⟩:=Zad h7
    refine iteB h8 (fun c7 h9=>?_) (fun c7 h10=>?_)
    ·obtain rfl:=Zac h9
     exact afd fol hE [.r [],.r [(1,q1 [oB x1])],.c false,.r [(4,q1 [.agg [L.arr .u64 4 x2],oB x3])],.d {ds:=[(4,q1 [.agg [L.arr .u8 32 x4]]),(6,q1 [oB x5]),(8,yF)],hv:=0,Hs:=[]},.c true,.r []] [] 0 [] (aO (Zbm.snd c1) c2 (ZaW.snd c3) (not_true (ZaF c4)) (not_true (ZaF c4)) (ZcV.snd c5) (not_true (ZaF c4)) (aL (not_true (ZaF c4)) (ZcI.snd c6) (not_true (ZaF c4)) (not_true (ZaF c4)) c7))
    ·obtain rfl:=Zac h10
     exact afd fol hE [.r [],.r [(1,q1 [oB x1])],.c false,.r [(4,q1 [.agg [L.arr .u64 4 x2],oB x3])],.d {ds:=[(4,q1 [.agg [L.arr .u8 32 x4]]),(6,q1 [oB x5]),(8,yF)],hv:=0,Hs:=[]},.c false,.r []] [] 0 [] (aO (Zbm.snd c1) c2 (ZaW.snd c3) (not_true (ZaF c4)) (not_true (ZaF c4)) (ZcV.snd c5) (not_true (ZaF c4)) (aL (not_true (ZaF c4)) (ZcI.snd c6) (not_true (ZaF c4)) (not_true (ZaF c4)) c7))
noncomputable def ZdS.B:Code:=Tryz.f91.body.getD .skip
noncomputable def ZdS.rs (r:Int):List CV:=[oI r]
noncomputable def ZdS (N:Nat) (times_0:LL):Option Int:=
 chk (0≤(if (11:Int)<(len times_0) then 11 else (len times_0)))<|
 chk ((Int.toNat (if (11:Int)<(len times_0) then 11 else (len times_0)))≤(List.length times_0))<|
 optE (Zbt N (List.take (Int.toNat (if (11:Int)<(len times_0) then 11 else (len times_0))) (List.drop 0 times_0))) fun x1=>
 if ((len x1)==0)=true then
  some 0
 else
 chk (isI x1=true)<|
 chk (List.length x1<4611686018427387904)<|
 chk (0≤(w64 (Int.tdiv (len x1) 2)))<|
 chk ((w64 (Int.tdiv (len x1) 2))<(len x1))<|
 getE ((sortR x1)[0+(Int.toNat (w64 (Int.tdiv (len x1) 2)))]?) Zdi fun x2=>
 some x2
theorem ZdS.snd {times_0:LL} {r:Int} (h:ZdS N times_0=some r):SndQ Tryz.prog 91 [.one (L.sl 1 times_0)] (ZdS.rs r):=fun st=>
 sO ZdS.B Tryz.func91 fun g0 w0 R hE=>by
  unfold ZdS at h
  obtain ⟨c1,c2,h1⟩:=ck2 h
  obtain ⟨x1,c3,h2⟩:=Zad h1
  refine iteB h2 (fun c4 h3=>?_) (fun c4 h4=>?_)
  ·obtain rfl:=Zac h3
   exact af fol hE [.r [],.r [(5,{rs:=[.row true 1 x1],ns:=[9],m:=1})],.r [],.c true,.r []] [] 0 [] (aL c1 (Nat.zero_le (Int.toNat (if (11:Int)<(len times_0) then 11 else (len times_0)))) c2 (Zbt.snd c3) c4)
  ·obtain ⟨c5,c6,c7,c8,h5⟩:=ck4 h4
   obtain ⟨x2,c9,h6⟩:=ZcC h5
   obtain rfl:=Zac h6
   exact af fol hE [.r [],.r [(5,{rs:=[.row true 1 x1],ns:=[9],m:=1})],.r [],.c false,.r [(1,{m:=7})],.r [(5,{oe:=[L.int .i64 x2]})]] [] 0 [] (aO c1 (Nat.zero_le (Int.toNat (if (11:Int)<(len times_0) then 11 else (len times_0)))) c2 (Zbt.snd c3) c4 z0 (@rfl _ (List.length x1):(List.length x1)=(List.length x1)) (aN c5 c6 slices_Sort_int.snd (neI 2) c7 c8 c9))
noncomputable def Zcy.B:Code:=Tryz.f56.body.getD .skip
noncomputable def Zcy.rs (r:Bool):List CV:=[oB r]
noncomputable def Zcy (N:Nat) (time_0:Int) (times_1:LL):Option Bool:=
 if ((len times_1)==0)=true then
  some true
 else
 optE (ZdS N times_1) fun x1=>
 some (decide (time_0>x1))
theorem Zcy.snd {time_0:Int} {times_1:LL} {r:Bool} (h:Zcy N time_0 times_1=some r):SndQ Tryz.prog 56 [oI time_0,.one (L.sl 1 times_1)] (Zcy.rs r):=fun st=>
 sO Zcy.B Tryz.func56 fun g0 w0 R hE=>by
  unfold Zcy at h
  refine iteB h (fun c1 h1=>?_) (fun c1 h2=>?_)
  ·obtain rfl:=Zac h1
   exact af fol hE [.r [],.r [(4,wF),(5,wF),(6,wF),(7,wF)]] [] 0 [] (aL c1 c1 c1 c1 c1)
  ·obtain ⟨x1,c2,h3⟩:=Zad h2
   obtain rfl:=Zac h3
   exact af fol hE [.r [],.r [(6,q1 [oI x1]),(8,yF)]] [] 0 [] (aM c1 c1 c1 (ZdS.snd c2) c1 c1)
noncomputable def ZcQ.B:Code:=Tryz.f57.body.getD .skip
noncomputable def ZcQ.rs (r:Bool):List CV:=[oB r]
noncomputable def ZcQ (N:Nat) (time_0 now_1 future_2:Int):Option Bool:=
 if (decide (future_2≥0))=true then
  if (decide (time_0≤now_1))=true then
   some true
  else
  some (decide ((w64 (time_0-now_1))≤future_2))
 else
 some false
theorem ZcQ.snd {time_0 now_1 future_2:Int} {r:Bool} (h:ZcQ N time_0 now_1 future_2=some r):SndQ Tryz.prog 57 [oI time_0,oI now_1,oI future_2] (ZcQ.rs r):=fun st=>
 sO ZcQ.B Tryz.func57 fun g0 w0 R hE=>by
  unfold ZcQ at h
  refine iteB h (fun c1 h1=>?_) (fun c1 h2=>?_)
  ·refine iteB h1 (fun c2 h3=>?_) (fun c2 h4=>?_)
   ·obtain rfl:=Zac h3
    exact af fol hE [.r [],.r [(7,wF),(8,wF),(9,wF),(10,wF),(11,wF)]] [] 0 [] (aO c1 c1 c1 c1 c2 c2 c2 (aL c2 c2 c1 c2 c1))
   ·obtain rfl:=Zac h4
    exact af fol hE [.r [],.r [(12,yF)]] [] 0 [] (aO c1 c1 c1 c1 c2 c2 c2 (aL c2 c2 c1 c2 c1))
  ·obtain rfl:=Zac h2
   exact af fol hE [.r [],.r [(3,wF),(4,wF),(5,wF),(6,wF),(12,wF),(13,yF)]] [] 0 [] (aM c1 c1 c1 c1 c1 c1)
noncomputable def ZaX.B:Code:=Tryz.f58.body.getD .skip
noncomputable def ZaX.rs (r:Int):List CV:=[oI r]
noncomputable def ZaX.p2 (N:Nat) (c1_:(Int×Int)→Option Int) (height_0 least_4:Int) (gates_1:LL) (v2:Int):Option Int:=
 c1_ (least_4,w64 (v2+1))
noncomputable def ZaX.p1 (N:Nat) (height_0:Int) (gates_1:LL) (c1_:(Int×Int)→Option Int):(Int×Int)→Option Int:=fun (least_1,v2)=>
 if (decide (v2<(len gates_1)))=true then
  chk (0≤v2)<|
  getE (gates_1[Int.toNat v2]?) ZdH fun x3=>
  if (decide (height_0≥x3.Height))=true then
   ZaX.p2 N c1_ height_0 (if x3.Version>least_1 then x3.Version else least_1) gates_1 v2
  else
  ZaX.p2 N c1_ height_0 least_1 gates_1 v2
 else
 some least_1
noncomputable def ZaX (N:Nat) (height_0:Int) (gates_1:LL):Option Int:=
 loopN (ZaX.p1 N height_0 gates_1) N ((-2147483648),0)
noncomputable def ZaX.p2.S (height_0 least_4:Int) (gates_1:LL) (v2:Int) (st:LL):S:=mkS 24 [(0,sI height_0),(5,sI least_4),(8,sV 2 gates_1),(9,sI (len gates_1)),(10,sI v2)] [] st
noncomputable def ZaX.p1.S (height_0 least_1:Int) (gates_1:LL) (v2:Int) (st:LL):S:=mkS 24 [(0,sI height_0),(5,sI least_1),(8,sV 2 gates_1),(9,sI (len gates_1)),(10,sI v2)] [] st
theorem ZaX.p2_ok {height_0 least_4 gates_1 v2 st r c1_ J1} (h:ZaX.p2 N c1_ height_0 least_4 gates_1 v2=some r) (hE:En Tryz.f58 g0 w0 (ZaX.rs r) st R) (hc1 : ∀least_1 v2,c1_ (least_1,v2)=some r→At g0 w0 (ZaX.p1.S height_0 least_1 gates_1 v2 st) J1):At g0 w0 (ZaX.p2.S height_0 least_4 gates_1 v2 st) (XK Tryz.prog R [.c (csub ZaX.B [1,1,0,1,0,0,1,1,1]),.h J1,.b 0,.c (csub ZaX.B [1,1,1])]):=by
 unfold ZaX.p2 at h
 exact an fol [.r []] [0,5,8,9,10] [] trivial (hc1 least_4 (w64 (v2+1)) h)
theorem ZaX.p1_ok {height_0 least_1 gates_1 v2 st r c1_ J1} (h:ZaX.p1 N height_0 gates_1 c1_ (least_1,v2)=some r) (hE:En Tryz.f58 g0 w0 (ZaX.rs r) st R) (hc1 : ∀least_1 v2,c1_ (least_1,v2)=some r→At g0 w0 (ZaX.p1.S height_0 least_1 gates_1 v2 st) J1):At g0 w0 (ZaX.p1.S height_0 least_1 gates_1 v2 st) (XK Tryz.prog R (.c (csub ZaX.B [1,1,0,1,0,0]) :: .h J1 :: [.b 0,.c (csub ZaX.B [1,1,1])])):=by
 unfold ZaX.p1 at h
 refine iteB h (fun c1 h1=>?_) (fun c1 h2=>?_)
 ·obtain ⟨c2,h3⟩:=ZaY h1
  obtain ⟨x3,c3,h4⟩:=ZdK h3
  refine iteB h4 (fun c4 h5=>?_) (fun c4 h6=>?_)
  ·exact aq fol [.r [],.c true,.r [(1,{oe:=x3.ls})],.r [],.c true,.r [],.s 4] [0,5,8,9,10] [] (aL c1 c2 (oD c1) c3 c4) (ZaX.p2_ok h5 hE hc1)
  ·exact aq fol [.r [],.c true,.r [(1,{oe:=x3.ls})],.r [],.c false,.s 4] [0,5,8,9,10] [] (aL c1 c2 (oD c1) c3 c4) (ZaX.p2_ok h6 hE hc1)
 ·obtain rfl:=Zac h2
  exact af fol hE [.r [],.c false,.r []] [] 0 [] c1
theorem ZaX.snd {height_0:Int} {gates_1:LL} {r:Int} (h:ZaX N height_0 gates_1=some r):SndQ Tryz.prog 58 [oI height_0,.one (L.sl 2 gates_1)] (ZaX.rs r):=fun st=>
 sO ZaX.B Tryz.func58 fun g0 w0 R hE=>by
  unfold ZaX at h
  exact aq fol [.r [],.r [],.r []] [0,5,8,9,10] [] trivial (At.loop N (At.loopN (fun y:Int×Int=>ZaX.p1.S height_0 y.1 gates_1 y.2 st) (fun c J hc y h=>ZaX.p1_ok (least_1:=y.1) (v2:=y.2) h hE (fun least_1 v2=>hc (least_1,v2))) N ((-2147483648),0) h))
noncomputable def ZbI.B:Code:=Tryz.f59.body.getD .skip
noncomputable def ZbI.rs (r:Bool):List CV:=[oB r]
noncomputable def ZbI.p1 (N:Nat) (height_0:Int) (checks_2:LL) (id_1_0:List Int) (c1_:Int→Option Bool):Int→Option Bool:=fun v1=>
 if (decide (v1<(len checks_2)))=true then
  chk (0≤v1)<|
  getE (checks_2[Int.toNat v1]?) Zdz fun x2=>
  if (x2.Height==height_0)=true then
   if (!(x2.Id==id_1_0))=true then
    some false
   else
   c1_ (w64 (v1+1))
  else
  c1_ (w64 (v1+1))
 else
 some true
noncomputable def ZbI (N:Nat) (height_0:Int) (id_1_0:List Int) (checks_2:LL):Option Bool:=
 loopN (ZbI.p1 N height_0 checks_2 id_1_0) N 0
noncomputable def ZbI.p1.S (height_0:Int) (checks_2:LL) (v1:Int) (id_1_0:List Int) (st:LL):S:=mkS 26 [(0,sI height_0),(4,sA 4),(9,sV 33 checks_2),(10,sI (len checks_2)),(11,sI v1)] [(4,.cells [L.arr .u8 32 id_1_0])] st
theorem ZbI.p1_ok {height_0 checks_2 v1 id_1_0 st r c1_ J1} (h:ZbI.p1 N height_0 checks_2 id_1_0 c1_ v1=some r) (hE:En Tryz.f59 g0 w0 (ZbI.rs r) st R) (hc1 : ∀v1,c1_ v1=some r→At g0 w0 (ZbI.p1.S height_0 checks_2 v1 id_1_0 st) J1):At g0 w0 (ZbI.p1.S height_0 checks_2 v1 id_1_0 st) (XK Tryz.prog R (.c (csub ZbI.B [1,0,1,0,0]) :: .h J1 :: [.b 0,.c (csub ZbI.B [1,1])])):=by
 unfold ZbI.p1 at h
 refine iteB h (fun c1 h1=>?_) (fun c1 h2=>?_)
 ·obtain ⟨c2,h3⟩:=ZaY h1
  obtain ⟨x2,c3,h4⟩:=ZdE h3
  refine iteB h4 (fun c4 h5=>?_) (fun c4 h6=>?_)
  ·refine iteB h5 (fun c5 h7=>?_) (fun c5 h8=>?_)
   ·obtain rfl:=Zac h7
    exact af fol hE [.r [],.c true,.r [(1,{oe:=x2.ls})],.r [],.c true,.r []] [] 0 [] (aO c1 c2 (oD c1) c3 c4 c4 c4 (aJ c4 c4 c5))
   ·exact an fol [.r [],.c true,.r [(1,{oe:=x2.ls})],.r [],.c false,.r []] [0,4,9,10,11] [4] (aO c1 c2 (oD c1) c3 c4 c4 c4 (aJ c4 c4 c5)) (hc1 (w64 (v1+1)) h8)
  ·exact an fol [.r [],.c true,.r [(1,{oe:=x2.ls})],.r [(5,wF),(6,wF),(7,wF),(8,wF),(9,yF)],.c false,.r []] [0,4,9,10,11] [4] (aO c1 c2 (oD c1) c3 c4 c4 c4 (aJ c4 c4 eF)) (hc1 (w64 (v1+1)) h6)
 ·obtain rfl:=Zac h2
  exact af fol hE [.r [],.c false,.r []] [] 0 [] c1
theorem ZbI.snd {height_0:Int} {id_1_0:List Int} {checks_2:LL} {r:Bool} (h:ZbI N height_0 id_1_0 checks_2=some r):SndQ Tryz.prog 59 [oI height_0,.agg [L.arr .u8 32 id_1_0],.one (L.sl 33 checks_2)] (ZbI.rs r):=fun st=>
 sO ZbI.B Tryz.func59 fun g0 w0 R hE=>by
  unfold ZbI at h
  exact aq fol [.r [],.r []] [0,4,9,10,11] [4] trivial (At.loop N (At.loopN (fun y:Int=>ZbI.p1.S height_0 checks_2 y id_1_0 st) (fun c J hc y h=>ZbI.p1_ok h hE (fun v1=>hc v1)) N 0 h))
noncomputable def Zdm.B:Code:=Tryz.f16.body.getD .skip
noncomputable def Zdm.rs (r:Int):List CV:=[oI r]
noncomputable def Zdm (N:Nat) (p_0:Zaf) (at_1:ZaQ) (h_2:Zai) (now_3:Int):Option Int:=
 optE (Zbm N h_2) fun x1=>
 if (!x1)=true then
  some 1
 else
 if (!(h_2.Prev==at_1.Prev))=true then
  some 2
 else
 optE (ZcZ N p_0 at_1.Point h_2.Time) fun x2=>
 if (h_2.Bits != x2)=true then
  some 3
 else
 optE (ZcB N p_0 h_2) fun x3=>
 if (x3 != 0)=true then
  some 4
 else
 optE (Zcy N h_2.Time at_1.Times) fun x4=>
 if (!x4)=true then
  some 5
 else
 optE (ZcQ N h_2.Time now_3 p_0.Future) fun x5=>
 if (!x5)=true then
  some 6
 else
 optE (ZaX N at_1.Point.Height p_0.Gates) fun x6=>
 if (decide (h_2.Version<x6))=true then
  some 7
 else
 optE (ZcV N h_2) fun x7=>
 optE (ZbI N at_1.Point.Height x7 p_0.Checks) fun x8=>
 if (!x8)=true then
  some 8
 else
 some 0
theorem Zdm.snd {p_0:Zaf} {at_1:ZaQ} {h_2:Zai} {now_3:Int} {r:Int} (h:Zdm N p_0 at_1 h_2 now_3=some r):SndQ Tryz.prog 16 [.agg p_0.ls,.agg at_1.ls,.agg h_2.ls,oI now_3] (Zdm.rs r):=fun st=>
 sO Zdm.B Tryz.func16 fun g0 w0 R hE=>by
  unfold Zdm at h
  obtain ⟨x1,c1,h1⟩:=Zad h
  refine iteB h1 (fun c2 h2=>?_) (fun c2 h3=>?_)
  ·obtain rfl:=Zac h2
   exact af fol hE [.r [],.r [(1,q1 [oB x1])],.c true,.r []] [] 0 [] (aI (Zbm.snd c1) c2)
  ·refine iteB h3 (fun c3 h4=>?_) (fun c3 h5=>?_)
   ·obtain rfl:=Zac h4
    exact af fol hE [.r [],.r [(1,q1 [oB x1])],.c false,.r [],.c true,.r []] [] 0 [] (aJ (Zbm.snd c1) c2 c3)
   ·obtain ⟨x2,c4,h6⟩:=Zad h5
    refine iteB h6 (fun c5 h7=>?_) (fun c5 h8=>?_)
    ·obtain rfl:=Zac h7
     exact afd fol hE [.r [],.r [(1,q1 [oB x1])],.c false,.r [],.c false,.d {ds:=[(7,q1 [oI x2])],hv:=0,Hs:=[]},.c true,.r []] [] 0 [] (aL (Zbm.snd c1) c2 c3 (ZcZ.snd c4) c5)
    ·obtain ⟨x3,c6,h9⟩:=Zad h8
     refine iteB h9 (fun c7 h10=>?_) (fun c7 h11=>?_)
     ·obtain rfl:=Zac h10
      exact afd fol hE [.r [],.r [(1,q1 [oB x1])],.c false,.r [],.c false,.d {ds:=[(7,q1 [oI x2])],hv:=0,Hs:=[]},.c false,.r [(2,q1 [oI x3])],.c true,.r []] [] 0 [] (aN (Zbm.snd c1) c2 c3 (ZcZ.snd c4) c5 (ZcB.snd c6) c7)
     ·obtain ⟨x4,c8,h12⟩:=Zad h11
      refine iteB h12 (fun c9 h13=>?_) (fun c9 h14=>?_)
      ·obtain rfl:=Zac h13
       exact afd fol hE [.r [],.r [(1,q1 [oB x1])],.c false,.r [],.c false,.d {ds:=[(7,q1 [oI x2])],hv:=0,Hs:=[]},.c false,.r [(2,q1 [oI x3])],.c false,.r [(4,q1 [oB x4])],.c true,.r []] [] 0 [] (aO (Zbm.snd c1) c2 c3 (ZcZ.snd c4) c5 (ZcB.snd c6) c7 (aI (Zcy.snd c8) c9))
      ·obtain ⟨x5,c10,h15⟩:=Zad h14
       refine iteB h15 (fun c11 h16=>?_) (fun c11 h17=>?_)
       ·obtain rfl:=Zac h16
        exact afd fol hE [.r [],.r [(1,q1 [oB x1])],.c false,.r [],.c false,.d {ds:=[(7,q1 [oI x2])],hv:=0,Hs:=[]},.c false,.r [(2,q1 [oI x3])],.c false,.r [(4,q1 [oB x4])],.c false,.r [(5,q1 [oB x5])],.c true,.r []] [] 0 [] (aO (Zbm.snd c1) c2 c3 (ZcZ.snd c4) c5 (ZcB.snd c6) c7 (aK (Zcy.snd c8) c9 (ZcQ.snd c10) c11))
       ·obtain ⟨x6,c12,h18⟩:=Zad h17
        refine iteB h18 (fun c13 h19=>?_) (fun c13 h20=>?_)
        ·obtain rfl:=Zac h19
         exact afd fol hE [.r [],.r [(1,q1 [oB x1])],.c false,.r [],.c false,.d {ds:=[(7,q1 [oI x2])],hv:=0,Hs:=[]},.c false,.r [(2,q1 [oI x3])],.c false,.r [(4,q1 [oB x4])],.c false,.r [(5,q1 [oB x5])],.c false,.d {ds:=[(7,q1 [oI x6])],hv:=0,Hs:=[]},.c true,.r []] [] 0 [] (aO (Zbm.snd c1) c2 c3 (ZcZ.snd c4) c5 (ZcB.snd c6) c7 (aM (Zcy.snd c8) c9 (ZcQ.snd c10) c11 (ZaX.snd c12) c13))
        ·obtain ⟨x7,c14,h21⟩:=Zad h20
         obtain ⟨x8,c15,h22⟩:=Zad h21
         refine iteB h22 (fun c16 h23=>?_) (fun c16 h24=>?_)
         ·obtain rfl:=Zac h23
          exact afd fol hE [.r [],.r [(1,q1 [oB x1])],.c false,.r [],.c false,.d {ds:=[(7,q1 [oI x2])],hv:=0,Hs:=[]},.c false,.r [(2,q1 [oI x3])],.c false,.r [(4,q1 [oB x4])],.c false,.r [(5,q1 [oB x5])],.c false,.d {ds:=[(7,q1 [oI x6])],hv:=0,Hs:=[]},.c false,.d {ds:=[(4,q1 [.agg [L.arr .u8 32 x7]]),(7,q1 [oB x8])],hv:=0,Hs:=[]},.c true,.r []] [] 0 [] (aO (Zbm.snd c1) c2 c3 (ZcZ.snd c4) c5 (ZcB.snd c6) c7 (aO (Zcy.snd c8) c9 (ZcQ.snd c10) c11 (ZaX.snd c12) c13 (ZcV.snd c14) (aI (ZbI.snd c15) c16)))
         ·obtain rfl:=Zac h24
          exact afd fol hE [.r [],.r [(1,q1 [oB x1])],.c false,.r [],.c false,.d {ds:=[(7,q1 [oI x2])],hv:=0,Hs:=[]},.c false,.r [(2,q1 [oI x3])],.c false,.r [(4,q1 [oB x4])],.c false,.r [(5,q1 [oB x5])],.c false,.d {ds:=[(7,q1 [oI x6])],hv:=0,Hs:=[]},.c false,.d {ds:=[(4,q1 [.agg [L.arr .u8 32 x7]]),(7,q1 [oB x8])],hv:=0,Hs:=[]},.c false,.r []] [] 0 [] (aO (Zbm.snd c1) c2 c3 (ZcZ.snd c4) c5 (ZcB.snd c6) c7 (aO (Zcy.snd c8) c9 (ZcQ.snd c10) c11 (ZaX.snd c12) c13 (ZcV.snd c14) (aI (ZbI.snd c15) c16)))
noncomputable def ZaG.B:Code:=Tryz.f24.body.getD .skip
noncomputable def ZaG.rs (r:Int×Int×Int×LL):List CV:=[oI r.1,oI r.2.1,oI r.2.2.1]
noncomputable def ZaG.p2 (N:Nat) (i2:Nat) (now_2 ahead_12:Int) (is_13:Bool) (h_1:Zai) (st:LL):Option (Int×Int×Int×LL):=
 if (!is_13)=true then
  some ((-1),2,5,st)
 else
 getE (st[i2]?) ZbJ fun x14=>
 chk (0≤ahead_12)<|
 chk (ahead_12<(len x14.spots))<|
 getE (x14.spots[0+(Int.toNat ahead_12)]?) ZeE fun x15=>
 optE (Zdm N x14.rules x15 h_1 now_2) fun x16=>
 if (x16 != 0)=true then
  some ((-1),x16,8,st)
 else
 if (decide ((len x14.list)≥x14.room))=true then
  some ((-1),0,6,st)
 else
 optE (ZcY N x14.rules x15 h_1) fun x17=>
 optE (ZaU N (some i2) h_1 ahead_12 x17 st) fun (x18,st19)=>
 some (x18,0,0,st19)
noncomputable def ZaG.p1 (N:Nat) (i2:Nat) (now_2 at_7:Int) (is_8:Bool) (h_1:Zai) (st:LL):Option (Int×Int×Int×LL):=
 if is_8=true then
  some (at_7,0,0,st)
 else
 getE (st[i2]?) ZbJ fun x9=>
 optM (mfind x9.places (L.arr .u8 32 h_1.Prev)) (fun j10 e=>Zdi [e] fun x11=>
  ZaG.p2 N i2 now_2 x11 true h_1 st)
 (
  ZaG.p2 N i2 now_2 0 false h_1 st)
noncomputable def ZaG (N:Nat) (a_0:Option Nat) (h_1:Zai) (now_2:Int) (st:LL):Option (Int×Int×Int×LL):=
 if (Option.isNone a_0)=true then
  some ((-1),0,2,st)
 else
 optE (Zbm N h_1) fun x1=>
 if (!x1)=true then
  some ((-1),1,8,st)
 else
 optE a_0 fun i2=>
 getE (st[i2]?) ZbJ fun x3=>
 optE (ZcV N h_1) fun x4=>
 optM (mfind x3.places (L.arr .u8 32 x4)) (fun j5 e=>Zdi [e] fun x6=>
  ZaG.p1 N i2 now_2 x6 true h_1 st)
 (
  ZaG.p1 N i2 now_2 0 false h_1 st)
noncomputable def ZaG.p2.S (i2:Nat) (now_2 ahead_12:Int) (is_13:Bool) (h_1:Zai) (st:LL):S:=mkS 87 [(0,sP (some i2)),(2,sI now_2),(4,sA 4),(11,sI ahead_12),(12,.one (.l (L.bool is_13)))] [(4,.cells h_1.ls)] st
noncomputable def ZaG.p1.S (i2:Nat) (now_2 at_7:Int) (is_8:Bool) (h_1:Zai) (st:LL):S:=mkS 87 [(0,sP (some i2)),(2,sI now_2),(4,sA 4),(9,sI at_7),(10,.one (.l (L.bool is_8)))] [(4,.cells h_1.ls)] st
theorem ZaG.p2_ok {i2 now_2 ahead_12 is_13 h_1 st r} (h:ZaG.p2 N i2 now_2 ahead_12 is_13 h_1 st=some r) (hE:En Tryz.f24 g0 w0 (ZaG.rs r) r.2.2.2 R):At g0 w0 (ZaG.p2.S i2 now_2 ahead_12 is_13 h_1 st) (XK Tryz.prog R [.c (csub ZaG.B [1,1,1,1,1])]):=by
 unfold ZaG.p2 at h
 refine iteB h (fun c11 h1=>?_) (fun c11 h2=>?_)
 ·obtain rfl:=Zac h1
  exact af fol hE [.r [],.c true,.r []] [] 0 [] c11
 ·obtain ⟨x14,c12,h3⟩:=ZbD h2
  obtain ⟨c13,c14,h4⟩:=ck2 h3
  obtain ⟨x15,c15,h5⟩:=Zhh h4
  obtain ⟨x16,c16,h6⟩:=Zad h5
  refine iteB h6 (fun c17 h7=>?_) (fun c17 h8=>?_)
  ·obtain rfl:=Zac h7
   exact afd fol hE [.r [],.c false,.d {ds:=[(3,{oc:=x14.lo}),(7,{oc:=x14.lo}),(10,{oc:=x14.lo,oe:=x15.ls}),(13,q1 [oI x16])],hv:=0,Hs:=[]},.r [],.c true,.r []] [] 0 [] (aO c11 c12 c12 c13 c14 c15 c12 (aI (Zdm.snd c16) c17))
  ·refine iteB h8 (fun c18 h9=>?_) (fun c18 h10=>?_)
   ·obtain rfl:=Zac h9
    exact afd fol hE [.r [],.c false,.d {ds:=[(3,{oc:=x14.lo}),(7,{oc:=x14.lo}),(10,{oc:=x14.lo,oe:=x15.ls}),(13,q1 [oI x16])],hv:=0,Hs:=[]},.r [],.c false,.d {ds:=[(3,{oc:=x14.lo}),(8,{oc:=x14.lo})],hv:=0,Hs:=[]},.c true,.r []] [] 0 [] (aO c11 c12 c12 c13 c14 c15 c12 (aL (Zdm.snd c16) c17 c12 c12 c18))
   ·obtain ⟨x17,c19,h11⟩:=Zad h10
    obtain ⟨⟨x18,st19⟩,c20,h12⟩:=Zad h11
    obtain rfl:=Zac h12
    exact afd fol hE [.r [],.c false,.d {ds:=[(3,{oc:=x14.lo}),(7,{oc:=x14.lo}),(10,{oc:=x14.lo,oe:=x15.ls}),(13,q1 [oI x16])],hv:=0,Hs:=[]},.r [],.c false,.d {ds:=[(3,{oc:=x14.lo}),(8,{oc:=x14.lo})],hv:=0,Hs:=[]},.c false,.d {ds:=[(6,{oc:=x14.lo}),(10,{oc:=x14.lo}),(13,{oc:=x14.lo,oe:=x15.ls}),(15,q1 [.agg x17.ls]),(16,{rs:=[oI x18],st:=st19})],hv:=65536,Hs:=[65536]}] [] 0 [] (aO c11 c12 c12 c13 c14 c15 c12 (aO (Zdm.snd c16) c17 c12 c12 c18 c12 c12 (aM c13 c14 c15 c12 (ZcY.snd c19) (ZaU.snd c20))))
theorem ZaG.p1_ok {i2 now_2 at_7 is_8 h_1 st r} (h:ZaG.p1 N i2 now_2 at_7 is_8 h_1 st=some r) (hE:En Tryz.f24 g0 w0 (ZaG.rs r) r.2.2.2 R):At g0 w0 (ZaG.p1.S i2 now_2 at_7 is_8 h_1 st) (XK Tryz.prog R [.c (csub ZaG.B [1,1,1,0,1]),.c (csub ZaG.B [1,1,1,1])]):=by
 unfold ZaG.p1 at h
 refine iteB h (fun c8 h13=>?_) (fun c8 h14=>?_)
 ·obtain rfl:=Zac h13
  exact af fol hE [.r [],.c true,.r []] [] 0 [] c8
 ·obtain ⟨x9,c9,h15⟩:=ZbD h14
  rcases ZjC h15 with ⟨j10,h19,c10,h16⟩ | ⟨c10,h17⟩
  ·obtain ⟨x11,h20,h18⟩:=Zgp h16
   obtain rfl:=Zha h20
   exact aqd fol [.r [],.c false,.d {ds:=[(3,{oc:=x9.lo}),(6,{oc:=x9.lo,oe:=[L.int .i64 x11]})],hv:=0,Hs:=[]},.s 1] [0,2,4,11,12] [4] (aK c8 c9 (Znt c10) c9) (ZaG.p2_ok h18 hE)
  ·exact aqd fol [.r [],.c false,.d {ds:=[(3,{oc:=x9.lo}),(6,{oc:=x9.lo,yes:=false})],hv:=0,Hs:=[]},.s 1] [0,2,4,11,12] [4] (aK c8 c9 c10 c9) (ZaG.p2_ok h17 hE)
theorem ZaG.snd {a_0:Option Nat} {h_1:Zai} {now_2:Int} {st:LL} {r:Int×Int×Int×LL} (h:ZaG N a_0 h_1 now_2 st=some r):Snd Tryz.prog 24 [.one (L.ptr a_0),.agg h_1.ls,oI now_2] st (ZaG.rs r) r.2.2.2:=
 sO ZaG.B Tryz.func24 fun g0 w0 R hE=>by
  unfold ZaG at h
  refine iteB h (fun c1 h21=>?_) (fun c1 h22=>?_)
  ·obtain rfl:=Zac h21
   exact af fol hE [.r [],.r [],.c true,.r []] [] 0 [] c1
  ·obtain ⟨x1,c2,h23⟩:=Zad h22
   refine iteB h23 (fun c3 h24=>?_) (fun c3 h25=>?_)
   ·obtain rfl:=Zac h24
    exact af fol hE [.r [],.r [],.c false,.r [(1,q1 [oB x1])],.c true,.r []] [] 0 [] (aJ c1 (Zbm.snd c2) c3)
   ·obtain ⟨i2,rfl,h26⟩:=Zad h25
    obtain ⟨x3,c5,h27⟩:=ZbD h26
    obtain ⟨x4,c6,h28⟩:=Zad h27
    rcases ZjC h28 with ⟨j5,h32,c7,h29⟩ | ⟨c7,h30⟩
    ·obtain ⟨x6,h33,h31⟩:=Zgp h29
     obtain rfl:=Zha h33
     exact aqd fol [.r [],.r [],.c false,.r [(1,q1 [oB x1])],.c false,.d {ds:=[(3,{oc:=x3.lo}),(5,q1 [.agg [L.arr .u8 32 x4]]),(6,{oc:=x3.lo,oe:=[L.int .i64 x6]})],hv:=0,Hs:=[]},.s 2] [0,2,4,9,10] [4] (aN c1 (Zbm.snd c2) c3 c5 (ZcV.snd c6) (Znt c7) c5) (ZaG.p1_ok h31 hE)
    ·exact aqd fol [.r [],.r [],.c false,.r [(1,q1 [oB x1])],.c false,.d {ds:=[(3,{oc:=x3.lo}),(5,q1 [.agg [L.arr .u8 32 x4]]),(6,{oc:=x3.lo,yes:=false})],hv:=0,Hs:=[]},.s 2] [0,2,4,9,10] [4] (aN c1 (Zbm.snd c2) c3 c5 (ZcV.snd c6) c7 c5) (ZaG.p1_ok h30 hE)
noncomputable def Zdj.B:Code:=Tryz.f85.body.getD .skip
noncomputable def Zdj.rs (r:ZbL×Bool×LL):List CV:=[.agg r.1.ls,oB r.2.1]
noncomputable def Zdj (N:Nat) (t_0:Option Nat) (at_1:Int) (st:LL):Option (ZbL×Bool×LL):=
 if (Option.isNone t_0)=true then
  some (ZbL.mk (Zai.mk 0 (List.replicate 32 0) (List.replicate 32 0) 0 0 0) (List.replicate 32 0) (-1) 0 (List.replicate 4 0),false,st)
 else
 optE t_0 fun i1=>
 getE (st[i1]?) ZcG fun x2 x3=>
 optE x2 fun i4=>
 getE (st[i4]?) ZbJ fun x5=>
 optE (ZbK N x5 at_1) fun (x6,x7)=>
 some (x6,x7,st)
theorem Zdj.snd {t_0:Option Nat} {at_1:Int} {st:LL} {r:ZbL×Bool×LL} (h:Zdj N t_0 at_1 st=some r):Snd Tryz.prog 85 [.one (L.ptr t_0),oI at_1] st (Zdj.rs r) r.2.2:=
 sO Zdj.B Tryz.func85 fun g0 w0 R hE=>by
  unfold Zdj at h
  refine iteB h (fun c1 h1=>?_) (fun c1 h2=>?_)
  ·obtain rfl:=Zac h1
   exact af fol hE [.r [],.r [],.c true,.r []] [] 0 [] c1
  ·obtain ⟨i1,rfl,h3⟩:=Zad h2
   obtain ⟨x2,x3,c3,h4⟩:=Zcz h3
   obtain ⟨i4,rfl,h5⟩:=Zad h4
   obtain ⟨x5,c5,h6⟩:=ZbD h5
   obtain ⟨⟨x6,x7⟩,c6,h7⟩:=Zad h6
   obtain rfl:=Zac h7
   exact af fol hE [.r [],.r [],.c false,.r [(3,{oc:=[L.ptr (some i4),L.own true 1 x3]}),(5,{rs:=[.agg x6.ls,oB x7],m:=10,cv:=[.one (L.bx 87 x5.ls)]})]] [] 0 [] (aK c1 c3 (bO 87 c5 (Zas.bv x5)) (ZbK.snd c6))
noncomputable def Zcs.B:Code:=Tryz.f81.body.getD .skip
noncomputable def Zcs.rs (r:Int×LL):List CV:=[oI r.1]
noncomputable def Zcs (N:Nat) (t_0:Option Nat) (at_1:Int) (st:LL):Option (Int×LL):=
 optE (Zdj N t_0 at_1 st) fun (x1,x2,st3)=>
 if (!x2)=true then
  some ((-1),st3)
 else
 some (x1.Height,st3)
theorem Zcs.snd {t_0:Option Nat} {at_1:Int} {st:LL} {r:Int×LL} (h:Zcs N t_0 at_1 st=some r):Snd Tryz.prog 81 [.one (L.ptr t_0),oI at_1] st (Zcs.rs r) r.2:=
 sO Zcs.B Tryz.func81 fun g0 w0 R hE=>by
  unfold Zcs at h
  obtain ⟨⟨x1,x2,st3⟩,c1,h1⟩:=Zad h
  refine iteB h1 (fun c2 h2=>?_) (fun c2 h3=>?_)
  ·obtain rfl:=Zac h2
   exact af fol hE [.r [],.r [(2,{rs:=[.agg x1.ls,oB x2],st:=st3})],.r [],.c true,.r []] [] 0 [] (aI (Zdj.snd c1) c2)
  ·obtain rfl:=Zac h3
   exact af fol hE [.r [],.r [(2,{rs:=[.agg x1.ls,oB x2],st:=st3})],.r [],.c false,.r []] [] 0 [] (aI (Zdj.snd c1) c2)
noncomputable def ZaK.B:Code:=Tryz.f77.body.getD .skip
noncomputable def ZaK.rs (r:Int×LL):List CV:=[oI r.1]
noncomputable def ZaK.p2 (N:Nat) (c1_:((Option Nat)×Int×Int×LL)→Option (Int×LL)) (i26:Nat) (height_2 next_35 x33 x34:Int) (st25:LL):Option (Int×LL):=
 getE (st25[i26]?) ZcG fun x36 x37=>
 optE x36 fun i38=>
 getE (st25[i38]?) ZbJ fun x39=>
 optE (ZaH N (Zae.mk x39 x37) next_35) fun x40=>
 c1_ ((some i26),next_35,x40,st25)
noncomputable def ZaK.p1 (N:Nat) (height_2:Int) (c1_:((Option Nat)×Int×Int×LL)→Option (Int×LL)):((Option Nat)×Int×Int×LL)→Option (Int×LL):=fun (t_24,at_3,h_4,st25)=>
 if (decide (h_4>height_2))=true then
  optE t_24 fun i26=>
  getE (st25[i26]?) ZcG fun x27 x28=>
  optE x27 fun i29=>
  getE (st25[i29]?) ZbJ fun x30=>
  optE (ZbA N (Zae.mk x30 x28) at_3) fun (x31,x32)=>
  chk (0≤at_3)<|
  chk (at_3<(len x28))<|
  getE (x28[0+(Int.toNat at_3)]?) Zdi fun x33=>
  if (x33 != (-1))=true then
   optE (ZaH N (Zae.mk x30 x28) x33) fun x34=>
   if (decide (x34≥height_2))=true then
    ZaK.p2 N c1_ i26 height_2 x33 x33 x34 st25
   else
   ZaK.p2 N c1_ i26 height_2 x31.Ahead x33 x34 st25
  else
  optE (ZaH N (Zae.mk x30 x28) x31.Ahead) fun x41=>
  c1_ ((some i26),x31.Ahead,x41,st25)
 else
 some (at_3,st25)
noncomputable def ZaK (N:Nat) (t_0:Option Nat) (at_1 height_2:Int) (st:LL):Option (Int×LL):=
 optE (Zcs N t_0 at_1 st) fun (x1,st2)=>
 if (decide (height_2<0))=true then
  some ((-1),st2)
 else
 if (decide (height_2>x1))=true then
  some ((-1),st2)
 else
 loopN (ZaK.p1 N height_2) N (t_0,at_1,x1,st2)
noncomputable def ZaK.p2.S (i26:Nat) (height_2 next_35 x33 x34:Int) (st25:LL):S:=mkS 55 [(0,sP (some i26)),(2,sI height_2),(10,sI next_35),(43,sP (some i26)),(44,sI x33),(45,sI x34),(46,sI height_2),(47,.one (.l (L.bool (decide (x34≥height_2)))))] [] st25
noncomputable def ZaK.p1.S (t_24:Option Nat) (at_3 height_2 h_4:Int) (st25:LL):S:=mkS 55 [(0,sP t_24),(1,sI at_3),(2,sI height_2),(7,sI h_4)] [] st25
theorem ZaK.p2_ok {i26 height_2 next_35 x33 x34 st25 r c1_ J1} (h:ZaK.p2 N c1_ i26 height_2 next_35 x33 x34 st25=some r) (hE:En Tryz.f77 g0 w0 (ZaK.rs r) r.2 R) (hc1 : ∀t_24 at_3 h_4 st25,c1_ (t_24,at_3,h_4,st25)=some r→At g0 w0 (ZaK.p1.S t_24 at_3 height_2 h_4 st25) J1):At g0 w0 (ZaK.p2.S i26 height_2 next_35 x33 x34 st25) (XK Tryz.prog R [.c (csub ZaK.B [1,1,1,0,0,0,1,0,1,1,1]),.b 1,.h J1,.b 0,.c (csub ZaK.B [1,1,1,1])]):=by
 unfold ZaK.p2 at h
 obtain ⟨x36,x37,c35,h1⟩:=Zcz h
 obtain ⟨i38,rfl,h2⟩:=Zad h1
 obtain ⟨x39,c37,h3⟩:=ZbD h2
 obtain ⟨x40,c38,h4⟩:=Zad h3
 exact an fol [.r [(3,{rs:=[oI x40],m:=10,cv:=[.one (L.bx 2 (Zae.ls (Zae.mk x39 x37)))]})]] [0,1,2,7] [] (aI (bO 2 c35 ((bC 87 c37 (Zas.bv x39) (bW bN)):BVs st25 [L.ptr (some i38),L.own true 1 x37] (Zae.ls (Zae.mk x39 x37)))) (ZaH.snd c38)) (hc1 (some i26) next_35 x40 st25 h4)
theorem ZaK.p1_ok {t_24 at_3 height_2 h_4 st25 r c1_ J1} (h:ZaK.p1 N height_2 c1_ (t_24,at_3,h_4,st25)=some r) (hE:En Tryz.f77 g0 w0 (ZaK.rs r) r.2 R) (hc1 : ∀t_24 at_3 h_4 st25,c1_ (t_24,at_3,h_4,st25)=some r→At g0 w0 (ZaK.p1.S t_24 at_3 height_2 h_4 st25) J1):At g0 w0 (ZaK.p1.S t_24 at_3 height_2 h_4 st25) (XK Tryz.prog R (.c (csub ZaK.B [1,1,1,0,0,0]) :: .h J1 :: [.b 0,.c (csub ZaK.B [1,1,1,1])])):=by
 unfold ZaK.p1 at h
 refine iteB h (fun c23 h5=>?_) (fun c23 h6=>?_)
 ·obtain ⟨i26,rfl,h7⟩:=Zad h5
  obtain ⟨x27,x28,c25,h8⟩:=Zcz h7
  obtain ⟨i29,rfl,h9⟩:=Zad h8
  obtain ⟨x30,c27,h10⟩:=ZbD h9
  obtain ⟨⟨x31,x32⟩,c28,h11⟩:=Zad h10
  obtain ⟨c29,c30,h12⟩:=ck2 h11
  obtain ⟨x33,c31,h13⟩:=ZcC h12
  refine iteB h13 (fun c32 h14=>?_) (fun c32 h15=>?_)
  ·obtain ⟨x34,c33,h16⟩:=Zad h14
   refine iteB h16 (fun c34 h17=>?_) (fun c34 h18=>?_)
   ·exact aq fol [.r [],.c true,.r [(2,{rs:=[.agg x31.ls,oB x32],m:=10,cv:=[.one (L.bx 2 (Zae.ls (Zae.mk x30 x28)))]})],.r [],.r [(3,{oc:=[L.ptr (some i29),L.own true 1 x28]}),(6,{oc:=[L.ptr (some i29),L.own true 1 x28],oe:=[L.int .i64 x33]})],.r [(5,{rs:=[oI x34],m:=10,cv:=[.one (L.bx 2 (Zae.ls (Zae.mk x30 x28)))]})],.c true,.r [],.s 5] [0,2,10,43,44,45,46,47] [] (aO c23 (bO 2 c25 ((bC 87 c27 (Zas.bv x30) (bW bN)):BVs st25 [L.ptr (some i29),L.own true 1 x28] (Zae.ls (Zae.mk x30 x28)))) (ZbA.snd c28) c25 c29 c30 c31 (aO c25 c32 c32 c32 (bO 2 c25 ((bC 87 c27 (Zas.bv x30) (bW bN)):BVs st25 [L.ptr (some i29),L.own true 1 x28] (Zae.ls (Zae.mk x30 x28)))) (ZaH.snd c33) c32 (aJ c32 c32 c34))) (ZaK.p2_ok h17 hE hc1)
   ·exact aq fol [.r [],.c true,.r [(2,{rs:=[.agg x31.ls,oB x32],m:=10,cv:=[.one (L.bx 2 (Zae.ls (Zae.mk x30 x28)))]})],.r [],.r [(3,{oc:=[L.ptr (some i29),L.own true 1 x28]}),(6,{oc:=[L.ptr (some i29),L.own true 1 x28],oe:=[L.int .i64 x33]})],.r [(5,{rs:=[oI x34],m:=10,cv:=[.one (L.bx 2 (Zae.ls (Zae.mk x30 x28)))]})],.c false,.s 5] [0,2,10,43,44,45,46,47] [] (aO c23 (bO 2 c25 ((bC 87 c27 (Zas.bv x30) (bW bN)):BVs st25 [L.ptr (some i29),L.own true 1 x28] (Zae.ls (Zae.mk x30 x28)))) (ZbA.snd c28) c25 c29 c30 c31 (aO c25 c32 c32 c32 (bO 2 c25 ((bC 87 c27 (Zas.bv x30) (bW bN)):BVs st25 [L.ptr (some i29),L.own true 1 x28] (Zae.ls (Zae.mk x30 x28)))) (ZaH.snd c33) c32 (aJ c32 c32 c34))) (ZaK.p2_ok h18 hE hc1)
  ·obtain ⟨x41,c39,h19⟩:=Zad h15
   exact an fol [.r [],.c true,.r [(2,{rs:=[.agg x31.ls,oB x32],m:=10,cv:=[.one (L.bx 2 (Zae.ls (Zae.mk x30 x28)))]})],.r [],.r [(3,{oc:=[L.ptr (some i29),L.own true 1 x28]}),(6,{oc:=[L.ptr (some i29),L.own true 1 x28],oe:=[L.int .i64 x33]})],.r [(3,wF),(4,wF),(5,wF),(6,wF),(7,wF),(8,yF)],.c false,.r [(3,{rs:=[oI x41],m:=10,cv:=[.one (L.bx 2 (Zae.ls (Zae.mk x30 x28)))]})]] [0,1,2,7] [] (aO c23 (bO 2 c25 ((bC 87 c27 (Zas.bv x30) (bW bN)):BVs st25 [L.ptr (some i29),L.own true 1 x28] (Zae.ls (Zae.mk x30 x28)))) (ZbA.snd c28) c25 c29 c30 c31 (aO c25 c32 c32 c32 c32 c32 c32 (aJ eF (bO 2 c25 ((bC 87 c27 (Zas.bv x30) (bW bN)):BVs st25 [L.ptr (some i29),L.own true 1 x28] (Zae.ls (Zae.mk x30 x28)))) (ZaH.snd c39)))) (hc1 (some i26) x31.Ahead x41 st25 h19)
 ·obtain rfl:=Zac h6
  exact af fol hE [.r [],.c false,.r []] [] 0 [] c23
theorem ZaK.snd {t_0:Option Nat} {at_1 height_2:Int} {st:LL} {r:Int×LL} (h:ZaK N t_0 at_1 height_2 st=some r):Snd Tryz.prog 77 [.one (L.ptr t_0),oI at_1,oI height_2] st (ZaK.rs r) r.2:=
 sO ZaK.B Tryz.func77 fun g0 w0 R hE=>by
  unfold ZaK at h
  obtain ⟨⟨x1,st2⟩,c1,h20⟩:=Zad h
  refine iteB h20 (fun c2 h21=>?_) (fun c2 h22=>?_)
  ·obtain rfl:=Zac h21
   exact af fol hE [.r [],.r [(2,{rs:=[oI x1],st:=st2})],.r [(3,wF),(4,wF),(5,wF)],.c true,.r []] [] 0 [] (aM (Zcs.snd c1) c2 c2 c2 c2 eT)
  ·refine iteB h22 (fun c3 h23=>?_) (fun c3 h24=>?_)
   ·obtain rfl:=Zac h23
    exact af fol hE [.r [],.r [(2,{rs:=[oI x1],st:=st2})],.r [(6,yF)],.c true,.r []] [] 0 [] (aM (Zcs.snd c1) c2 c2 c2 c2 c3)
   ·exact aq fol [.r [],.r [(2,{rs:=[oI x1],st:=st2})],.r [(6,yF)],.c false] [0,1,2,7] [] (aM (Zcs.snd c1) c2 c2 c2 c2 c3) (At.loop N (At.loopN (fun y:(Option Nat)×Int×Int×LL=>ZaK.p1.S y.1 y.2.1 height_2 y.2.2.1 y.2.2.2) (fun c J hc y h=>ZaK.p1_ok (t_24:=y.1) (at_3:=y.2.1) (h_4:=y.2.2.1) (st25:=y.2.2.2) h hE (fun t_24 at_3 h_4 st25=>hc (t_24,at_3,h_4,st25))) N (t_0,at_1,x1,st2) h24))
noncomputable def Zbs.B:Code:=Tryz.f79.body.getD .skip
noncomputable def Zbs.rs (r:Int×Int×Int×LL):List CV:=[oI r.1,oI r.2.1,oI r.2.2.1]
noncomputable def Zbs.p1 (N:Nat) (x4 x5 x6:Int) (st16:LL):Option (Int×Int×Int×LL):=
 some (x4,x5,x6,st16)
noncomputable def Zbs (N:Nat) (t_0:Option Nat) (h_1:Zai) (now_2:Int) (st:LL):Option (Int×Int×Int×LL):=
 if (Option.isNone t_0)=true then
  some ((-1),0,2,st)
 else
 optE t_0 fun i1=>
 getE (st[i1]?) ZcG fun x2 x3=>
 optE (ZaG N x2 h_1 now_2 st) fun (x4,x5,x6,st7)=>
 if (x6==0)=true then
  getE (st7[i1]?) ZcG fun x8 x9=>
  if (x4==(len x9))=true then
   optE x8 fun i10=>
   getE (st7[i10]?) ZbJ fun x11=>
   optE (ZbK N x11 x4) fun (x12,x13)=>
   optE (Zcu N x12.Height) fun x14=>
   optE (Zao N (Zae.mk x11 x9) x12.Ahead x14) fun x15=>
   chk (List.length (x9 ++ [[L.int .i64 x15]])*8≤140737488355328)<|
   Zbs.p1 N x4 x5 x6 (List.set (List.set st7 i1 [L.ptr (some i10),L.gone]) i1 [L.ptr (some i10),L.own true 1 (x9 ++ [[L.int .i64 x15]])])
  else
  Zbs.p1 N x4 x5 x6 st7
 else
 some (x4,x5,x6,st7)
noncomputable def Zbs.p1.S (x4 x5 x6:Int) (st16:LL):S:=mkS 66 [(9,sI x4),(10,sI x5),(11,sI x6)] [] st16
theorem Zbs.p1_ok {x4 x5 x6 st16 r} (h:Zbs.p1 N x4 x5 x6 st16=some r) (hE:En Tryz.f79 g0 w0 (Zbs.rs r) r.2.2.2 R):At g0 w0 (Zbs.p1.S x4 x5 x6 st16) (XK Tryz.prog R [.c (csub Zbs.B [1,1,1,1])]):=by
 unfold Zbs.p1 at h
 obtain rfl:=Zac h
 exact af fol hE [.r []] [] 0 [] trivial
theorem Zbs.snd {t_0:Option Nat} {h_1:Zai} {now_2:Int} {st:LL} {r:Int×Int×Int×LL} (h:Zbs N t_0 h_1 now_2 st=some r):Snd Tryz.prog 79 [.one (L.ptr t_0),.agg h_1.ls,oI now_2] st (Zbs.rs r) r.2.2.2:=
 sO Zbs.B Tryz.func79 fun g0 w0 R hE=>by
  unfold Zbs at h
  refine iteB h (fun c1 h1=>?_) (fun c1 h2=>?_)
  ·obtain rfl:=Zac h1
   exact af fol hE [.r [],.r [],.c true,.r []] [] 0 [] c1
  ·obtain ⟨i1,rfl,h3⟩:=Zad h2
   obtain ⟨x2,x3,c3,h4⟩:=Zcz h3
   obtain ⟨⟨x4,x5,x6,st7⟩,c4,h5⟩:=Zad h4
   refine iteB h5 (fun c5 h6=>?_) (fun c5 h7=>?_)
   ·obtain ⟨x8,x9,c6,h8⟩:=Zcz h6
    refine iteB h8 (fun c7 h9=>?_) (fun c7 h10=>?_)
    ·obtain ⟨i10,rfl,h11⟩:=Zad h9
     obtain ⟨x11,c9,h12⟩:=ZbD h11
     obtain ⟨⟨x12,x13⟩,c10,h13⟩:=Zad h12
     obtain ⟨x14,c11,h14⟩:=Zad h13
     obtain ⟨x15,c12,h15⟩:=Zad h14
     obtain ⟨c13,h16⟩:=ZaY h15
     exact aqd fol [.r [],.r [],.c false,.d {ds:=[(3,{oc:=[L.ptr x2,L.own true 1 x3]}),(6,{rs:=[oI x4,oI x5,oI x6],st:=st7})],hv:=64,Hs:=[64]},.r [(7,{oc:=[L.ptr (some i10),L.own true 1 x9]})],.c true,.r [(3,{oc:=[L.ptr (some i10),L.own true 1 x9]}),(5,{rs:=[.agg x12.ls,oB x13],m:=10,cv:=[.one (L.bx 87 x11.ls)]})],.d {ds:=[(4,{oc:=[L.ptr (some i10),L.own true 1 x9]}),(10,q1 [oI x14]),(11,{rs:=[oI x15],m:=10,cv:=[.one (L.bx 2 (Zae.ls (Zae.mk x11 x9)))]}),(13,{oe:=[L.ptr (some i10),L.own true 1 x9]}),(16,{oc:=[L.ptr (some i10),L.gone],mv:=[60]})],hv:=79872,Hs:=[2048,6144,14336,79872]},.s 1] [9,10,11] [] (aO c1 c3 (ZaG.snd c4) c5 c5 c5 c5 (aO c5 c6 c5 c5 c5 c7 c6 (aO (bO 87 c9 (Zas.bv x11)) (ZbK.snd c10) c6 c6 c6 (Zcu.snd c11) (bO 2 c6 ((bC 87 c9 (Zas.bv x11) (bW bN)):BVs st7 [L.ptr (some i10),L.own true 1 x9] (Zae.ls (Zae.mk x11 x9)))) (aO (Zao.snd c12) z0 (eN (List.length x9)) c6 z0 (eN (1)) c13 (aJ (Zam c6 [L.ptr (some i10),L.gone]) z0 (eN (List.length (x9 ++ [[L.int .i64 x15]])))))))) (Zbs.p1_ok h16 hE)
    ·exact aqd fol [.r [],.r [],.c false,.d {ds:=[(3,{oc:=[L.ptr x2,L.own true 1 x3]}),(6,{rs:=[oI x4,oI x5,oI x6],st:=st7})],hv:=64,Hs:=[64]},.r [(7,{oc:=[L.ptr x8,L.own true 1 x9]})],.c false,.s 1] [9,10,11] [] (aO c1 c3 (ZaG.snd c4) c5 c5 c5 c5 (aM c5 c6 c5 c5 c5 c7)) (Zbs.p1_ok h10 hE)
   ·obtain rfl:=Zac h7
    exact afd fol hE [.r [],.r [],.c false,.d {ds:=[(3,{oc:=[L.ptr x2,L.own true 1 x3]}),(6,{rs:=[oI x4,oI x5,oI x6],st:=st7})],hv:=64,Hs:=[64]},.r [(3,wF),(4,wF),(5,wF),(6,wF),(7,wF),(8,wF),(9,wF),(10,yF)],.c false,.r []] [] 0 [] (aO c1 c3 (ZaG.snd c4) c5 c5 c5 c5 (aL c5 c5 c5 c5 eF))
noncomputable def Zbc.B:Code:=Tryz.f33.body.getD .skip
noncomputable def Zbc.rs (r:Int):List CV:=[oI r]
noncomputable def Zbc.p1 (N:Nat) (a_0:Zab) (id_1_0:List Int) (c1_:Int→Option Int):Int→Option Int:=fun v1=>
 if (decide (v1<(len a_0.Ids)))=true then
  chk (0≤v1)<|
  getE (a_0.Ids[Int.toNat v1]?) Zfg fun x2=>
  if (x2==id_1_0)=true then
   some v1
  else
  c1_ (w64 (v1+1))
 else
 some (-1)
noncomputable def Zbc (N:Nat) (a_0:Zab) (id_1_0:List Int):Option Int:=
 loopN (Zbc.p1 N a_0 id_1_0) N 0
noncomputable def Zbc.p1.S (a_0:Zab) (v1:Int) (id_1_0:List Int) (st:LL):S:=mkS 22 [(3,sA 3),(10,sV 32 a_0.Ids),(11,sI (len a_0.Ids)),(12,sI v1)] [(3,.cells [L.arr .u8 32 id_1_0])] st
theorem Zbc.p1_ok {a_0 v1 id_1_0 st r c1_ J1} (h:Zbc.p1 N a_0 id_1_0 c1_ v1=some r) (hE:En Tryz.f33 g0 w0 (Zbc.rs r) st R) (hc1 : ∀v1,c1_ v1=some r→At g0 w0 (Zbc.p1.S a_0 v1 id_1_0 st) J1):At g0 w0 (Zbc.p1.S a_0 v1 id_1_0 st) (XK Tryz.prog R (.c (csub Zbc.B [1,0,1,0,0]) :: .h J1 :: [.b 0,.c (csub Zbc.B [1,1])])):=by
 unfold Zbc.p1 at h
 refine iteB h (fun c1 h1=>?_) (fun c1 h2=>?_)
 ·obtain ⟨c2,h3⟩:=ZaY h1
  obtain ⟨x2,c3,h4⟩:=Zfs h3
  refine iteB h4 (fun c4 h5=>?_) (fun c4 h6=>?_)
  ·obtain rfl:=Zac h5
   exact af fol hE [.r [],.c true,.r [(2,{oe:=[L.arr .u8 32 x2]})],.r [],.c true,.r []] [] 0 [] (aL c1 c2 (oD c1) c3 c4)
  ·exact an fol [.r [],.c true,.r [(2,{oe:=[L.arr .u8 32 x2]})],.r [],.c false,.r []] [3,10,11,12] [3] (aL c1 c2 (oD c1) c3 c4) (hc1 (w64 (v1+1)) h6)
 ·obtain rfl:=Zac h2
  exact af fol hE [.r [],.c false,.r []] [] 0 [] c1
theorem Zbc.snd {a_0:Zab} {id_1_0:List Int} {r:Int} (h:Zbc N a_0 id_1_0=some r):SndQ Tryz.prog 33 [.one (L.bx 88 a_0.ls),.agg [L.arr .u8 32 id_1_0]] (Zbc.rs r):=fun st=>
 sO Zbc.B Tryz.func33 fun g0 w0 R hE=>by
  unfold Zbc at h
  exact aq fol [.r [],.r [(3,{oe:=a_0.ls})]] [3,10,11,12] [3] (eO a_0.ls) (At.loop N (At.loopN (fun y:Int=>Zbc.p1.S a_0 y id_1_0 st) (fun c J hc y h=>Zbc.p1_ok h hE (fun v1=>hc v1)) N 0 h))
noncomputable def ZaO.B:Code:=Tryz.f35.body.getD .skip
noncomputable def ZaO.rs (r:LL):List CV:=[.row true 68 r]
noncomputable def ZaO.p1 (N:Nat) (a_0:Zab) (c1_:(LL×Int)→Option LL):(LL×Int)→Option LL:=fun (out_4,k_1)=>
 if (decide (k_1≥0))=true then
  chk (0≤k_1)<|
  chk (k_1<(len a_0.List_))<|
  getE (a_0.List_[Int.toNat k_1]?) Zdk fun x5=>
  chk (List.length ([x5.ls]++out_4)*96≤140737488355328)<|
  chk (k_1<(len a_0.Ahead))<|
  getE (a_0.Ahead[Int.toNat k_1]?) Zdi fun x6=>
  c1_ ([x5.ls]++out_4,x6)
 else
 some out_4
noncomputable def ZaO (N:Nat) (a_0:Zab) (at_1:Int):Option LL:=
 loopN (ZaO.p1 N a_0) N ([],at_1)
noncomputable def ZaO.p1.S (a_0:Zab) (out_4:LL) (k_1:Int) (st:LL):S:=mkS 28 [(0,.one (.l (L.bx 88 a_0.ls))),(5,.one (.h (.row 5 0) 68 0 (List.length out_4))),(6,sI k_1)] [(5,.row 0 true 68 out_4)] st
theorem ZaO.p1_ok {a_0 out_4 k_1 st r c1_ J1} (h:ZaO.p1 N a_0 c1_ (out_4,k_1)=some r) (hE:En Tryz.f35 g0 w0 (ZaO.rs r) st R) (hc1 : ∀out_4 k_1,c1_ (out_4,k_1)=some r→At g0 w0 (ZaO.p1.S a_0 out_4 k_1 st) J1):At g0 w0 (ZaO.p1.S a_0 out_4 k_1 st) (XK Tryz.prog R (.c (csub ZaO.B [1,1,0,1,0,0]) :: .h J1 :: [.b 0,.c (csub ZaO.B [1,1,1])])):=by
 unfold ZaO.p1 at h
 refine iteB h (fun c8 h1=>?_) (fun c8 h2=>?_)
 ·obtain ⟨c9,c10,h3⟩:=ck2 h1
  obtain ⟨x5,c11,h4⟩:=Zdy h3
  obtain ⟨c12,c13,h5⟩:=ck2 h4
  obtain ⟨x6,c14,h6⟩:=ZcC h5
  exact an fol [.r [],.c true,.r [(3,{oe:=a_0.ls}),(6,{oe:=x5.ls}),(10,{m:=4})],.r [(3,{oe:=a_0.ls}),(6,{oe:=[L.int .i64 x6]})]] [0,5,6] [5] (aO c8 (eO a_0.ls) c9 c10 c11 z0 (eN (1)) (aN z0 (eN (List.length out_4)) c12 (eO a_0.ls) c9 c13 c14)) (hc1 ([x5.ls]++out_4) x6 h6)
 ·obtain rfl:=Zac h2
  exact af fol hE [.r [],.c false,.r []] [] 0 [0] (aJ c8 z0 (eN (List.length out_4)))
theorem ZaO.snd {a_0:Zab} {at_1:Int} {r:LL} (h:ZaO N a_0 at_1=some r):SndQ Tryz.prog 35 [.one (L.bx 88 a_0.ls),oI at_1] (ZaO.rs r):=fun st=>
 sO ZaO.B Tryz.func35 fun g0 w0 R hE=>by
  unfold ZaO at h
  exact aq fol [.r [(0,{m:=2})],.r [(0,{m:=1})],.r []] [0,5,6] [5] trivial (At.loop N (At.loopN (fun y:LL×Int=>ZaO.p1.S a_0 y.1 y.2 st) (fun c J hc y h=>ZaO.p1_ok (out_4:=y.1) (k_1:=y.2) h hE (fun out_4 k_1=>hc (out_4,k_1))) N ([],at_1) h))
noncomputable def Zau.B:Code:=Tryz.f148.body.getD .skip
noncomputable def Zau.rs (r:(List Int)×Bool):List CV:=[.agg [L.arr .u64 4 r.1],oB r.2]
noncomputable def Zau.p2 (N:Nat) (c1_:(Int×Int×(List Int))→Option ((List Int)×Bool)) (by_1 over_2 c_1 i_2 w_12:Int) (n_0_0 d_11:List Int):Option ((List Int)×Bool):=
 chk (0≤i_2)<|
 chk (i_2<10)<|
 c1_ (w64 (Int.tdiv (w64 ((w64 (w_12*by_1))+c_1)) 4294967296),w64 (i_2+1),List.set d_11 (Int.toNat i_2) (Int.tmod (w64 ((w64 (w_12*by_1))+c_1)) 4294967296))
noncomputable def Zau.p4 (N:Nat) (q_17:List Int) (c4_:(Int×(List Int))→Option ((List Int)×Bool)):(Int×(List Int))→Option ((List Int)×Bool):=fun (i_18,out_19)=>
 if (decide (i_18<8))=true then
  chk (0≤(w64 (Int.tdiv i_18 2)))<|
  chk ((w64 (Int.tdiv i_18 2))<4)<|
  chk (0≤i_18)<|
  chk (i_18<10)<|
  chk (0≤(v64 (w64 (32*(Int.tmod i_18 2)))))<|
  c4_ (w64 (i_18+1),List.set out_19 (Int.toNat (w64 (Int.tdiv i_18 2))) (v64 ((List.getD out_19 (Int.toNat (w64 (Int.tdiv i_18 2))) 0)+(shlOf .u64 (v64 (List.getD q_17 (Int.toNat i_18) 0)) (v64 (w64 (32*(Int.tmod i_18 2))))))))
 else
 if ((List.getD q_17 8 0)==0)=true then
  some (out_19,(List.getD q_17 9 0)==0)
 else
 some (out_19,false)
noncomputable def Zau.p3 (N:Nat) (over_2:Int) (d_11:List Int) (c3_:(Int×Int×(List Int))→Option ((List Int)×Bool)):(Int×Int×(List Int))→Option ((List Int)×Bool):=fun (rest_13,i_14,q_17)=>
 if (decide (i_14≥0))=true then
  chk (0≤i_14)<|
  chk (i_14<10)<|
  chk (over_2≠0)<|
  c3_ (Int.tmod (w64 ((w64 (rest_13*4294967296))+(List.getD d_11 (Int.toNat i_14) 0))) over_2,w64 (i_14-1),List.set q_17 (Int.toNat i_14) (w64 (Int.tdiv (w64 ((w64 (rest_13*4294967296))+(List.getD d_11 (Int.toNat i_14) 0))) over_2)))
 else
 loopN (Zau.p4 N q_17) N (0,List.replicate 4 0)
noncomputable def Zau.p1 (N:Nat) (by_1 over_2:Int) (n_0_0:List Int) (c1_:(Int×Int×(List Int))→Option ((List Int)×Bool)):(Int×Int×(List Int))→Option ((List Int)×Bool):=fun (c_1,i_2,d_11)=>
 if (decide (i_2<10))=true then
  if (decide (i_2<8))=true then
   chk (0≤(w64 (Int.tdiv i_2 2)))<|
   chk ((w64 (Int.tdiv i_2 2))<4)<|
   chk (0≤(v64 (w64 (32*(Int.tmod i_2 2)))))<|
   Zau.p2 N c1_ by_1 over_2 c_1 i_2 (w64 (Int.tmod (shrOf .u64 (List.getD n_0_0 (Int.toNat (w64 (Int.tdiv i_2 2))) 0) (v64 (w64 (32*(Int.tmod i_2 2))))) 4294967296)) n_0_0 d_11
  else
  Zau.p2 N c1_ by_1 over_2 c_1 i_2 0 n_0_0 d_11
 else
 loopN (Zau.p3 N over_2 d_11) N (0,9,List.replicate 10 0)
noncomputable def Zau (N:Nat) (n_0_0:List Int) (by_1 over_2:Int):Option ((List Int)×Bool):=
 loopN (Zau.p1 N by_1 over_2 n_0_0) N (0,0,List.replicate 10 0)
noncomputable def Zau.p2.S (by_1 over_2 c_1 i_2 w_12:Int) (n_0_0 d_11:List Int) (st:LL):S:=mkS 96 [(1,sI by_1),(2,sI over_2),(3,sA 3),(6,sA 6),(8,sA 8),(9,sI c_1),(10,sI i_2),(11,sI w_12)] [(3,.cells [L.arr .u64 4 n_0_0]),(6,.cells [L.arr .u64 4 (List.replicate 4 0)]),(8,.cells [L.arr .i64 10 d_11])] st
noncomputable def Zau.p4.S (i_18:Int) (q_17 out_19:List Int) (st:LL):S:=mkS 96 [(6,sA 6),(14,sA 14),(17,sA 17),(18,sI i_18)] [(6,.cells [L.arr .u64 4 (List.replicate 4 0)]),(14,.cells [L.arr .i64 10 q_17]),(17,.cells [L.arr .u64 4 out_19])] st
noncomputable def Zau.p3.S (over_2 rest_13 i_14:Int) (d_11 q_17:List Int) (st:LL):S:=mkS 96 [(2,sI over_2),(6,sA 6),(8,sA 8),(13,sI rest_13),(14,sA 14),(15,sI i_14)] [(6,.cells [L.arr .u64 4 (List.replicate 4 0)]),(8,.cells [L.arr .i64 10 d_11]),(14,.cells [L.arr .i64 10 q_17])] st
noncomputable def Zau.p1.S (by_1 over_2 c_1 i_2:Int) (n_0_0 d_11:List Int) (st:LL):S:=mkS 96 [(1,sI by_1),(2,sI over_2),(3,sA 3),(6,sA 6),(8,sA 8),(9,sI c_1),(10,sI i_2)] [(3,.cells [L.arr .u64 4 n_0_0]),(6,.cells [L.arr .u64 4 (List.replicate 4 0)]),(8,.cells [L.arr .i64 10 d_11])] st
theorem Zau.p2_ok {by_1 over_2 c_1 i_2 w_12 n_0_0 d_11 st r c1_ J1} (h:Zau.p2 N c1_ by_1 over_2 c_1 i_2 w_12 n_0_0 d_11=some r) (hE:En Tryz.f148 g0 w0 (Zau.rs r) st R) (hc1 : ∀c_1 i_2 d_11,c1_ (c_1,i_2,d_11)=some r→At g0 w0 (Zau.p1.S by_1 over_2 c_1 i_2 n_0_0 d_11 st) J1):At g0 w0 (Zau.p2.S by_1 over_2 c_1 i_2 w_12 n_0_0 d_11 st) (XK Tryz.prog R [.c (csub Zau.B [1,1,1,0,1,0,0,1,0,0,1,1]),.b 1,.c (csub Zau.B [1,1,1,0,1,0,0,1,1]),.h J1,.b 0,.c (csub Zau.B [1,1,1,1])]):=by
 unfold Zau.p2 at h
 obtain ⟨c49,c50,h1⟩:=ck2 h
 exact an fol [.r [],.r [],.r [],.r []] [1,2,3,6,8,9,10] [3,6,8] (aK (neI 4294967296) c49 c50 (neI 4294967296)) (hc1 (w64 (Int.tdiv (w64 ((w64 (w_12*by_1))+c_1)) 4294967296)) (w64 (i_2+1)) (List.set d_11 (Int.toNat i_2) (Int.tmod (w64 ((w64 (w_12*by_1))+c_1)) 4294967296)) h1)
theorem Zau.p4_ok {i_18 q_17 out_19 st r c4_ J4} (h:Zau.p4 N q_17 c4_ (i_18,out_19)=some r) (hE:En Tryz.f148 g0 w0 (Zau.rs r) st R) (hc4 : ∀i_18 out_19,c4_ (i_18,out_19)=some r→At g0 w0 (Zau.p4.S i_18 q_17 out_19 st) J4):At g0 w0 (Zau.p4.S i_18 q_17 out_19 st) (XK Tryz.prog R (.c (csub Zau.B [1,1,1,1,1,1,1,1,0,1,0,0]) :: .h J4 :: [.b 4,.c (csub Zau.B [1,1,1,1,1,1,1,1,1])])):=by
 unfold Zau.p4 at h
 refine iteB h (fun c80 h2=>?_) (fun c80 h3=>?_)
 ·obtain ⟨c81,c82,c83,c84,c85,h4⟩:=ck5 h2
  exact and_ fol [.r [],.c true,.d {ds:=[],hv:=131072,Hs:=[131072]},.r []] [6,14,17,18] [6,14,17] (aO c80 (neI 2) (neI 2) c81 c82 c83 c84 (aK (neI 2) c85 c81 c82)) (hc4 (w64 (i_18+1)) (List.set out_19 (Int.toNat (w64 (Int.tdiv i_18 2))) (v64 ((List.getD out_19 (Int.toNat (w64 (Int.tdiv i_18 2))) 0)+(shlOf .u64 (v64 (List.getD q_17 (Int.toNat i_18) 0)) (v64 (w64 (32*(Int.tmod i_18 2)))))))) h4)
 ·refine iteB h3 (fun c86 h5=>?_) (fun c86 h6=>?_)
  ·obtain rfl:=Zac h5
   exact afd fol hE [.r [],.c false,.d {ds:=[],hv:=512,Hs:=[512]}] [] 0 [] (aI c80 (ix 8 10 (aI c86 (ix 9 10 (aI c86 (ix 9 10 (aM c86 c86 c86 c86 c86 c86)))))))
  ·obtain rfl:=Zac h6
   exact afd fol hE [.r [],.c false,.d {ds:=[(5,wF),(6,wF),(7,wF),(8,yF)],hv:=512,Hs:=[512]}] [] 0 [] (aI c80 (ix 8 10 (aO c86 c86 c86 c86 c86 c86 c86 c86)))
theorem Zau.p3_ok {over_2 rest_13 i_14 d_11 q_17 st r c3_ J3} (h:Zau.p3 N over_2 d_11 c3_ (rest_13,i_14,q_17)=some r) (hE:En Tryz.f148 g0 w0 (Zau.rs r) st R) (hc3 : ∀rest_13 i_14 q_17,c3_ (rest_13,i_14,q_17)=some r→At g0 w0 (Zau.p3.S over_2 rest_13 i_14 d_11 q_17 st) J3):At g0 w0 (Zau.p3.S over_2 rest_13 i_14 d_11 q_17 st) (XK Tryz.prog R (.c (csub Zau.B [1,1,1,1,1,1,0,1,0,0]) :: .h J3 :: [.b 2,.c (csub Zau.B [1,1,1,1,1,1,1])])):=by
 unfold Zau.p3 at h
 refine iteB h (fun c69 h7=>?_) (fun c69 h8=>?_)
 ·obtain ⟨c70,c71,c72,h9⟩:=ck3 h7
  exact an fol [.r [],.c true,.r [],.r [],.r [],.r []] [2,6,8,13,14,15] [6,8,14] (aN c69 c70 c71 c72 c70 c71 c72) (hc3 (Int.tmod (w64 ((w64 (rest_13*4294967296))+(List.getD d_11 (Int.toNat i_14) 0))) over_2) (w64 (i_14-1)) (List.set q_17 (Int.toNat i_14) (w64 (Int.tdiv (w64 ((w64 (rest_13*4294967296))+(List.getD d_11 (Int.toNat i_14) 0))) over_2))) h9)
 ·exact aq fol [.r [],.c false,.r [],.r []] [6,14,17,18] [6,14,17] c69 (At.loop N (At.loopN (fun y:Int×(List Int)=>Zau.p4.S y.1 q_17 y.2 st) (fun c J hc y h=>Zau.p4_ok (i_18:=y.1) (out_19:=y.2) h hE (fun i_18 out_19=>hc (i_18,out_19))) N (0,List.replicate 4 0) h8))
theorem Zau.p1_ok {by_1 over_2 c_1 i_2 n_0_0 d_11 st r c1_ J1} (h:Zau.p1 N by_1 over_2 n_0_0 c1_ (c_1,i_2,d_11)=some r) (hE:En Tryz.f148 g0 w0 (Zau.rs r) st R) (hc1 : ∀c_1 i_2 d_11,c1_ (c_1,i_2,d_11)=some r→At g0 w0 (Zau.p1.S by_1 over_2 c_1 i_2 n_0_0 d_11 st) J1):At g0 w0 (Zau.p1.S by_1 over_2 c_1 i_2 n_0_0 d_11 st) (XK Tryz.prog R (.c (csub Zau.B [1,1,1,0,1,0,0]) :: .h J1 :: [.b 0,.c (csub Zau.B [1,1,1,1])])):=by
 unfold Zau.p1 at h
 refine iteB h (fun c44 h10=>?_) (fun c44 h11=>?_)
 ·refine iteB h10 (fun c45 h12=>?_) (fun c45 h13=>?_)
  ·obtain ⟨c46,c47,c48,h14⟩:=ck3 h12
   exact aq fol [.r [],.c true,.r [],.r [],.c true,.r [],.s 6] [1,2,3,6,8,9,10,11] [3,6,8] (aO c44 c45 (neI 2) c46 c47 (neI 2) c48 (neI 4294967296)) (Zau.p2_ok h14 hE hc1)
  ·exact aq fol [.r [],.c true,.r [],.r [],.c false,.s 6] [1,2,3,6,8,9,10,11] [3,6,8] (aI c44 c45) (Zau.p2_ok h13 hE hc1)
 ·exact aq fol [.r [],.c false,.r [],.r [],.r []] [2,6,8,13,14,15] [6,8,14] c44 (At.loop N (At.loopN (fun y:Int×Int×(List Int)=>Zau.p3.S over_2 y.1 y.2.1 d_11 y.2.2 st) (fun c J hc y h=>Zau.p3_ok (rest_13:=y.1) (i_14:=y.2.1) (q_17:=y.2.2) h hE (fun rest_13 i_14 q_17=>hc (rest_13,i_14,q_17))) N (0,9,List.replicate 10 0) h11))
theorem Zau.snd {n_0_0:List Int} {by_1 over_2:Int} {r:(List Int)×Bool} (h:Zau N n_0_0 by_1 over_2=some r):SndQ Tryz.prog 148 [.agg [L.arr .u64 4 n_0_0],oI by_1,oI over_2] (Zau.rs r):=fun st=>
 sO Zau.B Tryz.func148 fun g0 w0 R hE=>by
  unfold Zau at h
  exact aq fol [.r [],.r [],.r [],.r []] [1,2,3,6,8,9,10] [3,6,8] trivial (At.loop N (At.loopN (fun y:Int×Int×(List Int)=>Zau.p1.S by_1 over_2 y.1 y.2.1 n_0_0 y.2.2 st) (fun c J hc y h=>Zau.p1_ok (c_1:=y.1) (i_2:=y.2.1) (d_11:=y.2.2) h hE (fun c_1 i_2 d_11=>hc (c_1,i_2,d_11))) N (0,0,List.replicate 10 0) h))
noncomputable def Zaw.B:Code:=Tryz.f149.body.getD .skip
noncomputable def Zaw.rs (r:Int):List CV:=[oI r]
noncomputable def Zaw.p2 (N:Nat) (c1_:(Int×Int)→Option Int) (size_4 i_2:Int) (n_0_0:List Int):Option Int:=
 c1_ (size_4,w64 (i_2+1))
noncomputable def Zaw.p4 (N:Nat) (size_8 word_9:Int):Option Int:=
 some (w64 ((w64 (size_8*16777216))+word_9))
noncomputable def Zaw.p3 (N:Nat) (size_1 word_7:Int):Option Int:=
 if (decide (word_7≥8388608))=true then
  Zaw.p4 N (w64 (size_1+1)) (w64 (Int.tdiv word_7 256))
 else
 Zaw.p4 N size_1 word_7
noncomputable def Zaw.p1 (N:Nat) (n_0_0:List Int) (c1_:(Int×Int)→Option Int):(Int×Int)→Option Int:=fun (size_1,i_2)=>
 if (decide (i_2<32))=true then
  optE (Zak N n_0_0 (w64 ((-8)*i_2))) fun x3=>
  if (decide ((Int.tmod (List.getD x3 0 0) 256)>0))=true then
   Zaw.p2 N c1_ (w64 (i_2+1)) i_2 n_0_0
  else
  Zaw.p2 N c1_ size_1 i_2 n_0_0
 else
 optE (Zak N n_0_0 (w64 (8*(w64 (3-size_1))))) fun x5=>
 if (decide (size_1>3))=true then
  optE (Zak N n_0_0 (w64 ((-8)*(w64 (size_1-3))))) fun x6=>
  Zaw.p3 N size_1 (w64 (Int.tmod (List.getD x6 0 0) 16777216))
 else
 Zaw.p3 N size_1 (w64 (Int.tmod (List.getD x5 0 0) 16777216))
noncomputable def Zaw (N:Nat) (n_0_0:List Int):Option Int:=
 loopN (Zaw.p1 N n_0_0) N (0,0)
noncomputable def Zaw.p2.S (size_4 i_2:Int) (n_0_0:List Int) (st:LL):S:=mkS 49 [(1,sA 1),(3,sI size_4),(4,sI i_2)] [(1,.cells [L.arr .u64 4 n_0_0])] st
noncomputable def Zaw.p4.S (size_8 word_9:Int) (st:LL):S:=mkS 49 [(3,sI size_8),(6,sI word_9)] [] st
noncomputable def Zaw.p3.S (size_1 word_7:Int) (st:LL):S:=mkS 49 [(3,sI size_1),(6,sI word_7)] [] st
noncomputable def Zaw.p1.S (size_1 i_2:Int) (n_0_0:List Int) (st:LL):S:=mkS 49 [(1,sA 1),(3,sI size_1),(4,sI i_2)] [(1,.cells [L.arr .u64 4 n_0_0])] st
theorem Zaw.p2_ok {size_4 i_2 n_0_0 st r c1_ J1} (h:Zaw.p2 N c1_ size_4 i_2 n_0_0=some r) (hE:En Tryz.f149 g0 w0 (Zaw.rs r) st R) (hc1 : ∀size_1 i_2,c1_ (size_1,i_2)=some r→At g0 w0 (Zaw.p1.S size_1 i_2 n_0_0 st) J1):At g0 w0 (Zaw.p2.S size_4 i_2 n_0_0 st) (XK Tryz.prog R [.c (csub Zaw.B [1,1,0,1,0,0,1,1]),.h J1,.b 0,.c (csub Zaw.B [1,1,1])]):=by
 unfold Zaw.p2 at h
 exact an fol [.r []] [1,3,4] [1] trivial (hc1 size_4 (w64 (i_2+1)) h)
theorem Zaw.p4_ok {size_8 word_9 st r} (h:Zaw.p4 N size_8 word_9=some r) (hE:En Tryz.f149 g0 w0 (Zaw.rs r) st R):At g0 w0 (Zaw.p4.S size_8 word_9 st) (XK Tryz.prog R [.c (csub Zaw.B [1,1,1,1,1,1])]):=by
 unfold Zaw.p4 at h
 obtain rfl:=Zac h
 exact af fol hE [.r []] [] 0 [] trivial
theorem Zaw.p3_ok {size_1 word_7 st r} (h:Zaw.p3 N size_1 word_7=some r) (hE:En Tryz.f149 g0 w0 (Zaw.rs r) st R):At g0 w0 (Zaw.p3.S size_1 word_7 st) (XK Tryz.prog R [.c (csub Zaw.B [1,1,1,1,1])]):=by
 unfold Zaw.p3 at h
 refine iteB h (fun c7 h1=>?_) (fun c7 h2=>?_)
 ·exact aq fol [.r [],.c true,.r [],.r [],.s 1] [3,6] [] (aI c7 (neI 256)) (Zaw.p4_ok h1 hE)
 ·exact aq fol [.r [],.c false,.s 1] [3,6] [] c7 (Zaw.p4_ok h2 hE)
theorem Zaw.p1_ok {size_1 i_2 n_0_0 st r c1_ J1} (h:Zaw.p1 N n_0_0 c1_ (size_1,i_2)=some r) (hE:En Tryz.f149 g0 w0 (Zaw.rs r) st R) (hc1 : ∀size_1 i_2,c1_ (size_1,i_2)=some r→At g0 w0 (Zaw.p1.S size_1 i_2 n_0_0 st) J1):At g0 w0 (Zaw.p1.S size_1 i_2 n_0_0 st) (XK Tryz.prog R (.c (csub Zaw.B [1,1,0,1,0,0]) :: .h J1 :: [.b 0,.c (csub Zaw.B [1,1,1])])):=by
 unfold Zaw.p1 at h
 refine iteB h (fun c1 h3=>?_) (fun c1 h4=>?_)
 ·obtain ⟨x3,c2,h5⟩:=Zad h3
  refine iteB h5 (fun c3 h6=>?_) (fun c3 h7=>?_)
  ·exact aq fol [.r [],.c true,.r [(3,q1 [.agg [L.arr .u64 4 x3]])],.r [],.c true,.r [],.s 4] [1,3,4] [1] (aJ c1 (Zak.snd c2) (ix 0 4 (aI (neI 256) c3))) (Zaw.p2_ok h6 hE hc1)
  ·exact aq fol [.r [],.c true,.r [(3,q1 [.agg [L.arr .u64 4 x3]])],.r [],.c false,.s 4] [1,3,4] [1] (aJ c1 (Zak.snd c2) (ix 0 4 (aI (neI 256) c3))) (Zaw.p2_ok h7 hE hc1)
 ·obtain ⟨x5,c4,h8⟩:=Zad h4
  refine iteB h8 (fun c5 h9=>?_) (fun c5 h10=>?_)
  ·obtain ⟨x6,c6,h11⟩:=Zad h9
   exact aq fol [.r [],.c false,.r [(4,q1 [.agg [L.arr .u64 4 x5]])],.r [],.c true,.r [(4,q1 [.agg [L.arr .u64 4 x6]])],.s 1] [3,6] [] (aJ c1 (Zak.snd c4) (ix 0 4 (aK (neI 16777216) c5 (Zak.snd c6) (ix 0 4 (neI 16777216))))) (Zaw.p3_ok h11 hE)
  ·exact aq fol [.r [],.c false,.r [(4,q1 [.agg [L.arr .u64 4 x5]])],.r [],.c false,.s 1] [3,6] [] (aJ c1 (Zak.snd c4) (ix 0 4 (aI (neI 16777216) c5))) (Zaw.p3_ok h10 hE)
theorem Zaw.snd {n_0_0:List Int} {r:Int} (h:Zaw N n_0_0=some r):SndQ Tryz.prog 149 [.agg [L.arr .u64 4 n_0_0]] (Zaw.rs r):=fun st=>
 sO Zaw.B Tryz.func149 fun g0 w0 R hE=>by
  unfold Zaw at h
  exact aq fol [.r [],.r [],.r []] [1,3,4] [1] trivial (At.loop N (At.loopN (fun y:Int×Int=>Zaw.p1.S y.1 y.2 n_0_0 st) (fun c J hc y h=>Zaw.p1_ok (size_1:=y.1) (i_2:=y.2) h hE (fun size_1 i_2=>hc (size_1,i_2))) N (0,0) h))
noncomputable def Zay.B:Code:=Tryz.f123.body.getD .skip
noncomputable def Zay.rs (r:Int):List CV:=[oI r]
noncomputable def Zay.p3 (N:Nat) (n_11:List Int):Option Int:=
 optE (Zaw N n_11) fun x12=>
 some x12
noncomputable def Zay.p2 (N:Nat) (p_0:Zaf) (took_5:Int) (x1:List Int):Option Int:=
 optE (Zau N x1 took_5 (w64 (p_0.Interval*p_0.Spacing))) fun (x6,x7)=>
 optE (Zbi N p_0.Limit p_0.Limit) fun (x8,x9)=>
 if (!x7)=true then
  some p_0.Limit
 else
 optE (Zbe N x8 x6) fun x10=>
 if x10=true then
  some p_0.Limit
 else
 if (x6==(List.replicate 4 0))=true then
  Zay.p3 N [1,0,0,0]
 else
 Zay.p3 N x6
noncomputable def Zay.p1 (N:Nat) (p_0:Zaf) (took_4:Int) (x1:List Int):Option Int:=
 if (decide (took_4>(w64 ((w64 (p_0.Interval*p_0.Spacing))*4))))=true then
  Zay.p2 N p_0 (w64 ((w64 (p_0.Interval*p_0.Spacing))*4)) x1
 else
 Zay.p2 N p_0 took_4 x1
noncomputable def Zay (N:Nat) (p_0:Zaf) (bits_1 from_2 to_3:Int):Option Int:=
 optE (Zbi N bits_1 p_0.Limit) fun (x1,x2)=>
 optE (Zcw N p_0) fun x3=>
 if (!x3)=true then
  some p_0.Limit
 else
 if (!x2)=true then
  some p_0.Limit
 else
 if (decide ((w64 (to_3-from_2))<(w64 (Int.tdiv (w64 (p_0.Interval*p_0.Spacing)) 4))))=true then
  Zay.p1 N p_0 (w64 (Int.tdiv (w64 (p_0.Interval*p_0.Spacing)) 4)) x1
 else
 Zay.p1 N p_0 (w64 (to_3-from_2)) x1
noncomputable def Zay.p3.S (n_11:List Int) (st:LL):S:=mkS 83 [(13,sA 13)] [(13,.cells [L.arr .u64 4 n_11])] st
noncomputable def Zay.p2.S (p_0:Zaf) (took_5:Int) (x1:List Int) (st:LL):S:=mkS 83 [(4,sA 4),(9,sA 9),(11,sI (w64 (p_0.Interval*p_0.Spacing))),(12,sI took_5)] [(4,.cells p_0.ls),(9,.cells [L.arr .u64 4 x1])] st
noncomputable def Zay.p1.S (p_0:Zaf) (took_4:Int) (x1:List Int) (st:LL):S:=mkS 83 [(4,sA 4),(9,sA 9),(11,sI (w64 (p_0.Interval*p_0.Spacing))),(12,sI took_4)] [(4,.cells p_0.ls),(9,.cells [L.arr .u64 4 x1])] st
theorem Zay.p3_ok {n_11 st r} (h:Zay.p3 N n_11=some r) (hE:En Tryz.f123 g0 w0 (Zay.rs r) st R):At g0 w0 (Zay.p3.S n_11 st) (XK Tryz.prog R [.c (csub Zay.B [1,1,1,1,1,1,1,1,1,1,1])]):=by
 unfold Zay.p3 at h
 obtain ⟨x12,c13,h1⟩:=Zad h
 obtain rfl:=Zac h1
 exact af fol hE [.r [(1,q1 [oI x12])]] [] 0 [] (Zaw.snd c13)
theorem Zay.p2_ok {p_0 took_5 x1 st r} (h:Zay.p2 N p_0 took_5 x1=some r) (hE:En Tryz.f123 g0 w0 (Zay.rs r) st R):At g0 w0 (Zay.p2.S p_0 took_5 x1 st) (XK Tryz.prog R [.c (csub Zay.B [1,1,1,1,1,1,1])]):=by
 unfold Zay.p2 at h
 obtain ⟨⟨x6,x7⟩,c7,h2⟩:=Zad h
 obtain ⟨⟨x8,x9⟩,c8,h3⟩:=Zad h2
 refine iteB h3 (fun c9 h4=>?_) (fun c9 h5=>?_)
 ·obtain rfl:=Zac h4
  exact af fol hE [.r [(3,q1 [.agg [L.arr .u64 4 x6],oB x7])],.r [(4,q1 [.agg [L.arr .u64 4 x8],oB x9])],.r [(3,wF),(4,wF),(5,wF)],.c true,.r []] [] 0 [] (aN (Zau.snd c7) (Zbi.snd c8) (not_false (ZbG c9)) (not_false (ZbG c9)) (not_false (ZbG c9)) (not_false (ZbG c9)) eT)
 ·obtain ⟨x10,c10,h6⟩:=Zad h5
  refine iteB h6 (fun c11 h7=>?_) (fun c11 h8=>?_)
  ·obtain rfl:=Zac h7
   exact af fol hE [.r [(3,q1 [.agg [L.arr .u64 4 x6],oB x7])],.r [(4,q1 [.agg [L.arr .u64 4 x8],oB x9])],.r [(5,q1 [oB x10]),(6,yF)],.c true,.r []] [] 0 [] (aO (Zau.snd c7) (Zbi.snd c8) (not_true (ZaF c9)) (not_true (ZaF c9)) (not_true (ZaF c9)) (Zbe.snd c10) (not_true (ZaF c9)) c11)
  ·refine iteB h8 (fun c12 h9=>?_) (fun c12 h10=>?_)
   ·exact aq fol [.r [(3,q1 [.agg [L.arr .u64 4 x6],oB x7])],.r [(4,q1 [.agg [L.arr .u64 4 x8],oB x9])],.r [(5,q1 [oB x10]),(6,yF)],.c false,.r [],.c true,.r [(0,{m:=3})],.s 1] [13] [13] (aO (Zau.snd c7) (Zbi.snd c8) (not_true (ZaF c9)) (not_true (ZaF c9)) (not_true (ZaF c9)) (Zbe.snd c10) (not_true (ZaF c9)) (aI c11 c12)) (Zay.p3_ok h9 hE)
   ·exact aq fol [.r [(3,q1 [.agg [L.arr .u64 4 x6],oB x7])],.r [(4,q1 [.agg [L.arr .u64 4 x8],oB x9])],.r [(5,q1 [oB x10]),(6,yF)],.c false,.r [],.c false,.s 1] [13] [13] (aO (Zau.snd c7) (Zbi.snd c8) (not_true (ZaF c9)) (not_true (ZaF c9)) (not_true (ZaF c9)) (Zbe.snd c10) (not_true (ZaF c9)) (aI c11 c12)) (Zay.p3_ok h10 hE)
theorem Zay.p1_ok {p_0 took_4 x1 st r} (h:Zay.p1 N p_0 took_4 x1=some r) (hE:En Tryz.f123 g0 w0 (Zay.rs r) st R):At g0 w0 (Zay.p1.S p_0 took_4 x1 st) (XK Tryz.prog R [.c (csub Zay.B [1,1,1,1,1,1])]):=by
 unfold Zay.p1 at h
 refine iteB h (fun c6 h11=>?_) (fun c6 h12=>?_)
 ·exact aq fol [.r [],.c true,.r [],.s 1] [4,9,11,12] [4,9] c6 (Zay.p2_ok h11 hE)
 ·exact aq fol [.r [],.c false,.s 1] [4,9,11,12] [4,9] c6 (Zay.p2_ok h12 hE)
theorem Zay.snd {p_0:Zaf} {bits_1 from_2 to_3:Int} {r:Int} (h:Zay N p_0 bits_1 from_2 to_3=some r):SndQ Tryz.prog 123 [.agg p_0.ls,oI bits_1,oI from_2,oI to_3] (Zay.rs r):=fun st=>
 sO Zay.B Tryz.func123 fun g0 w0 R hE=>by
  unfold Zay at h
  obtain ⟨⟨x1,x2⟩,c1,h13⟩:=Zad h
  obtain ⟨x3,c2,h14⟩:=Zad h13
  refine iteB h14 (fun c3 h15=>?_) (fun c3 h16=>?_)
  ·obtain rfl:=Zac h15
   exact af fol hE [.r [],.r [(3,q1 [.agg [L.arr .u64 4 x1],oB x2])],.r [(1,q1 [oB x3]),(4,wF),(5,wF)],.c true,.r []] [] 0 [] (aM (Zbi.snd c1) (Zcw.snd c2) (not_false (ZbG c3)) (not_false (ZbG c3)) (not_false (ZbG c3)) eT)
  ·refine iteB h16 (fun c4 h17=>?_) (fun c4 h18=>?_)
   ·obtain rfl:=Zac h17
    exact af fol hE [.r [],.r [(3,q1 [.agg [L.arr .u64 4 x1],oB x2])],.r [(1,q1 [oB x3]),(6,yF)],.c true,.r []] [] 0 [] (aM (Zbi.snd c1) (Zcw.snd c2) (not_true (ZaF c3)) (not_true (ZaF c3)) (not_true (ZaF c3)) c4)
   ·refine iteB h18 (fun c5 h19=>?_) (fun c5 h20=>?_)
    ·exact aq fol [.r [],.r [(3,q1 [.agg [L.arr .u64 4 x1],oB x2])],.r [(1,q1 [oB x3]),(6,yF)],.c false,.r [],.r [],.r [],.c true,.r [],.s 1] [4,9,11,12] [4,9] (aO (Zbi.snd c1) (Zcw.snd c2) (not_true (ZaF c3)) (not_true (ZaF c3)) (not_true (ZaF c3)) c4 (neI 4) (aI c5 (neI 4))) (Zay.p1_ok h19 hE)
    ·exact aq fol [.r [],.r [(3,q1 [.agg [L.arr .u64 4 x1],oB x2])],.r [(1,q1 [oB x3]),(6,yF)],.c false,.r [],.r [],.r [],.c false,.s 1] [4,9,11,12] [4,9] (aO (Zbi.snd c1) (Zcw.snd c2) (not_true (ZaF c3)) (not_true (ZaF c3)) (not_true (ZaF c3)) c4 (neI 4) c5) (Zay.p1_ok h20 hE)
noncomputable def ZbX.B:Code:=Tryz.f94.body.getD .skip
noncomputable def ZbX.rs (r:Int):List CV:=[oI r]
noncomputable def ZbX.p1 (N:Nat) (bits_2 time_3 hard_5 own_6:Int) (p_0:Zaf):Option Int:=
 if (!p_0.Easy)=true then
  some bits_2
 else
 if (decide ((w64 (own_6-time_3))>(w64 (2*p_0.Spacing))))=true then
  some p_0.Limit
 else
 some hard_5
noncomputable def ZbX (N:Nat) (p_0:Zaf) (height_1 bits_2 time_3 first_4 hard_5 own_6:Int):Option Int:=
 if (decide (height_1≤0))=true then
  some p_0.Limit
 else
 if (decide (p_0.Interval>0))=true then
  chk (p_0.Interval≠0)<|
  if ((Int.tmod height_1 p_0.Interval)==0)=true then
   optE (Zay N p_0 bits_2 first_4 time_3) fun x1=>
   some x1
  else
  ZbX.p1 N bits_2 time_3 hard_5 own_6 p_0
 else
 ZbX.p1 N bits_2 time_3 hard_5 own_6 p_0
noncomputable def ZbX.p1.S (bits_2 time_3 hard_5 own_6:Int) (p_0:Zaf) (st:LL):S:=mkS 48 [(2,sI bits_2),(3,sI time_3),(5,sI hard_5),(6,sI own_6),(7,sA 7)] [(7,.cells p_0.ls)] st
theorem ZbX.p1_ok {bits_2 time_3 hard_5 own_6 p_0 st r} (h:ZbX.p1 N bits_2 time_3 hard_5 own_6 p_0=some r) (hE:En Tryz.f94 g0 w0 (ZbX.rs r) st R):At g0 w0 (ZbX.p1.S bits_2 time_3 hard_5 own_6 p_0 st) (XK Tryz.prog R [.c (csub ZbX.B [1,1,1])]):=by
 unfold ZbX.p1 at h
 refine iteB h (fun c6 h1=>?_) (fun c6 h2=>?_)
 ·obtain rfl:=Zac h1
  exact af fol hE [.r [],.c true,.r []] [] 0 [] c6
 ·refine iteB h2 (fun c7 h3=>?_) (fun c7 h4=>?_)
  ·obtain rfl:=Zac h3
   exact af fol hE [.r [],.c false,.r [],.c true,.r []] [] 0 [] (aI c6 c7)
  ·obtain rfl:=Zac h4
   exact af fol hE [.r [],.c false,.r [],.c false,.r []] [] 0 [] (aI c6 c7)
theorem ZbX.snd {p_0:Zaf} {height_1 bits_2 time_3 first_4 hard_5 own_6:Int} {r:Int} (h:ZbX N p_0 height_1 bits_2 time_3 first_4 hard_5 own_6=some r):SndQ Tryz.prog 94 [.agg p_0.ls,oI height_1,oI bits_2,oI time_3,oI first_4,oI hard_5,oI own_6] (ZbX.rs r):=fun st=>
 sO ZbX.B Tryz.func94 fun g0 w0 R hE=>by
  unfold ZbX at h
  refine iteB h (fun c1 h5=>?_) (fun c1 h6=>?_)
  ·obtain rfl:=Zac h5
   exact af fol hE [.r [],.r [],.c true,.r []] [] 0 [] c1
  ·refine iteB h6 (fun c2 h7=>?_) (fun c2 h8=>?_)
   ·obtain ⟨c3,h9⟩:=ZaY h7
    refine iteB h9 (fun c4 h10=>?_) (fun c4 h11=>?_)
    ·obtain ⟨x1,c5,h12⟩:=Zad h10
     obtain rfl:=Zac h12
     exact af fol hE [.r [],.r [],.c false,.r [],.c true,.r [(4,q1 [oI x1])]] [] 0 [] (aO c1 c2 c2 c2 c2 c3 c2 (aJ c2 c4 (Zay.snd c5)))
    ·exact aq fol [.r [],.r [],.c false,.r [],.c false,.s 1] [2,3,5,6,7] [7] (aO c1 c2 c2 c2 c2 c3 c2 (aI c2 c4)) (ZbX.p1_ok h11 hE)
   ·exact aq fol [.r [],.r [],.c false,.r [(4,wF),(5,wF),(6,wF),(7,wF),(8,wF),(9,yF)],.c false,.s 1] [2,3,5,6,7] [7] (aO c1 c2 c2 c2 c2 c2 c2 eF) (ZbX.p1_ok h8 hE)
noncomputable def ZaC.B:Code:=Tryz.f61.body.getD .skip
noncomputable def ZaC.rs (r:Int):List CV:=[oI r]
noncomputable def ZaC.p4 (N:Nat) (c1_:(Int×Int×Int)→Option Int) (time_2:Int) (chain_1:LL) (first_7 hard_8 v4:Int) (p_0:Zaf) (x1:Zai):Option Int:=
 c1_ (first_7,hard_8,w64 (v4+1))
noncomputable def ZaC.p3 (N:Nat) (c1_:(Int×Int×Int)→Option Int) (time_2:Int) (chain_1:LL) (first_7 hard_3:Int) (begins_6:Bool) (v4:Int) (p_0:Zaf) (x1 x5:Zai):Option Int:=
 if (!p_0.Easy)=true then
  ZaC.p4 N c1_ time_2 chain_1 first_7 x5.Bits v4 p_0 x1
 else
 if (x5.Bits != p_0.Limit)=true then
  ZaC.p4 N c1_ time_2 chain_1 first_7 x5.Bits v4 p_0 x1
 else
 if begins_6=true then
  ZaC.p4 N c1_ time_2 chain_1 first_7 x5.Bits v4 p_0 x1
 else
 ZaC.p4 N c1_ time_2 chain_1 first_7 hard_3 v4 p_0 x1
noncomputable def ZaC.p2 (N:Nat) (c1_:(Int×Int×Int)→Option Int) (time_2:Int) (chain_1:LL) (first_2 hard_3:Int) (begins_6:Bool) (v4:Int) (p_0:Zaf) (x1 x5:Zai):Option Int:=
 if begins_6=true then
  ZaC.p3 N c1_ time_2 chain_1 x5.Time hard_3 begins_6 v4 p_0 x1 x5
 else
 ZaC.p3 N c1_ time_2 chain_1 first_2 hard_3 begins_6 v4 p_0 x1 x5
noncomputable def ZaC.p1 (N:Nat) (time_2:Int) (chain_1:LL) (p_0:Zaf) (x1:Zai) (c1_:(Int×Int×Int)→Option Int):(Int×Int×Int)→Option Int:=fun (first_2,hard_3,v4)=>
 if (decide (v4<(len chain_1)))=true then
  chk (0≤v4)<|
  getE (chain_1[Int.toNat v4]?) Zdk fun x5=>
  if (decide (p_0.Interval>0))=true then
   chk (p_0.Interval≠0)<|
   ZaC.p2 N c1_ time_2 chain_1 first_2 hard_3 ((Int.tmod v4 p_0.Interval)==0) v4 p_0 x1 x5
  else
  ZaC.p2 N c1_ time_2 chain_1 first_2 hard_3 false v4 p_0 x1 x5
 else
 optE (ZbX N p_0 (len chain_1) x1.Bits x1.Time first_2 hard_3 time_2) fun x9=>
 some x9
noncomputable def ZaC (N:Nat) (p_0:Zaf) (chain_1:LL) (time_2:Int):Option Int:=
 if ((len chain_1)==0)=true then
  some p_0.Limit
 else
 chk (0≤(w64 ((len chain_1)-1)))<|
 chk ((w64 ((len chain_1)-1))<(len chain_1))<|
 getE (chain_1[Int.toNat (w64 ((len chain_1)-1))]?) Zdk fun x1=>
 loopN (ZaC.p1 N time_2 chain_1 p_0 x1) N (0,p_0.Limit,0)
noncomputable def ZaC.p4.S (time_2:Int) (chain_1:LL) (first_7 hard_8 v4:Int) (p_0:Zaf) (x1:Zai) (st:LL):S:=mkS 73 [(2,sI time_2),(3,sA 3),(7,sI (len chain_1)),(8,sA 8),(9,sI first_7),(10,sI hard_8),(27,sV 68 chain_1),(28,sI (len chain_1)),(29,sI v4)] [(3,.cells p_0.ls),(8,.cells x1.ls)] st
noncomputable def ZaC.p3.S (time_2:Int) (chain_1:LL) (first_7 hard_3:Int) (begins_6:Bool) (v4:Int) (p_0:Zaf) (x1 x5:Zai) (st:LL):S:=mkS 73 [(2,sI time_2),(3,sA 3),(7,sI (len chain_1)),(8,sA 8),(9,sI first_7),(10,sI hard_3),(12,sA 12),(13,.one (.l (L.bool begins_6))),(27,sV 68 chain_1),(28,sI (len chain_1)),(29,sI v4)] [(3,.cells p_0.ls),(8,.cells x1.ls),(12,.cells x5.ls)] st
noncomputable def ZaC.p2.S (time_2:Int) (chain_1:LL) (first_2 hard_3:Int) (begins_6:Bool) (v4:Int) (p_0:Zaf) (x1 x5:Zai) (st:LL):S:=mkS 73 [(2,sI time_2),(3,sA 3),(7,sI (len chain_1)),(8,sA 8),(9,sI first_2),(10,sI hard_3),(12,sA 12),(13,.one (.l (L.bool begins_6))),(27,sV 68 chain_1),(28,sI (len chain_1)),(29,sI v4)] [(3,.cells p_0.ls),(8,.cells x1.ls),(12,.cells x5.ls)] st
noncomputable def ZaC.p1.S (time_2:Int) (chain_1:LL) (first_2 hard_3 v4:Int) (p_0:Zaf) (x1:Zai) (st:LL):S:=mkS 73 [(2,sI time_2),(3,sA 3),(7,sI (len chain_1)),(8,sA 8),(9,sI first_2),(10,sI hard_3),(27,sV 68 chain_1),(28,sI (len chain_1)),(29,sI v4)] [(3,.cells p_0.ls),(8,.cells x1.ls)] st
theorem ZaC.p4_ok {time_2 chain_1 first_7 hard_8 v4 p_0 x1 st r c1_ J1} (h:ZaC.p4 N c1_ time_2 chain_1 first_7 hard_8 v4 p_0 x1=some r) (hE:En Tryz.f61 g0 w0 (ZaC.rs r) st R) (hc1 : ∀first_2 hard_3 v4,c1_ (first_2,hard_3,v4)=some r→At g0 w0 (ZaC.p1.S time_2 chain_1 first_2 hard_3 v4 p_0 x1 st) J1):At g0 w0 (ZaC.p4.S time_2 chain_1 first_7 hard_8 v4 p_0 x1 st) (XK Tryz.prog R [.c (csub ZaC.B [1,1,1,1,1,1,0,1,0,0,1,1,1]),.h J1,.b 0,.c (csub ZaC.B [1,1,1,1,1,1,1])]):=by
 unfold ZaC.p4 at h
 exact an fol [.r []] [2,3,7,8,9,10,27,28,29] [3,8] trivial (hc1 first_7 hard_8 (w64 (v4+1)) h)
theorem ZaC.p3_ok {time_2 chain_1 first_7 hard_3 begins_6 v4 p_0 x1 x5 st r c1_ J1} (h:ZaC.p3 N c1_ time_2 chain_1 first_7 hard_3 begins_6 v4 p_0 x1 x5=some r) (hE:En Tryz.f61 g0 w0 (ZaC.rs r) st R) (hc1 : ∀first_2 hard_3 v4,c1_ (first_2,hard_3,v4)=some r→At g0 w0 (ZaC.p1.S time_2 chain_1 first_2 hard_3 v4 p_0 x1 st) J1):At g0 w0 (ZaC.p3.S time_2 chain_1 first_7 hard_3 begins_6 v4 p_0 x1 x5 st) (XK Tryz.prog R [.c (csub ZaC.B [1,1,1,1,1,1,0,1,0,0,1,1,0,0,1,1,1]),.b 1,.c (csub ZaC.B [1,1,1,1,1,1,0,1,0,0,1,1,1]),.h J1,.b 0,.c (csub ZaC.B [1,1,1,1,1,1,1])]):=by
 unfold ZaC.p3 at h
 refine iteB h (fun c11 h1=>?_) (fun c11 h2=>?_)
 ·exact aq fol [.r [(4,wF),(5,wF),(6,wF),(7,wF),(8,wF),(11,wF)],.c true,.r [],.s 4] [2,3,7,8,9,10,27,28,29] [3,8] (aO (not_false (ZbG c11)) (not_false (ZbG c11)) (not_false (ZbG c11)) (not_false (ZbG c11)) (not_false (ZbG c11)) (not_false (ZbG c11)) eT (aI eT eT)) (ZaC.p4_ok h1 hE hc1)
 ·refine iteB h2 (fun c12 h3=>?_) (fun c12 h4=>?_)
  ·exact aq fol [.r [(9,yF),(11,wF)],.c true,.r [],.s 4] [2,3,7,8,9,10,27,28,29] [3,8] (aO (not_true (ZaF c11)) (not_true (ZaF c11)) (not_true (ZaF c11)) (not_true (ZaF c11)) (not_true (ZaF c11)) (not_true (ZaF c11)) c12 (aI c12 eT)) (ZaC.p4_ok h3 hE hc1)
  ·refine iteB h4 (fun c13 h5=>?_) (fun c13 h6=>?_)
   ·exact aq fol [.r [(9,yF),(12,yF)],.c true,.r [],.s 4] [2,3,7,8,9,10,27,28,29] [3,8] (aO (not_true (ZaF c11)) (not_true (ZaF c11)) (not_true (ZaF c11)) (not_true (ZaF c11)) (not_true (ZaF c11)) (not_true (ZaF c11)) c12 (aI c12 c13)) (ZaC.p4_ok h5 hE hc1)
   ·exact aq fol [.r [(9,yF),(12,yF)],.c false,.s 4] [2,3,7,8,9,10,27,28,29] [3,8] (aO (not_true (ZaF c11)) (not_true (ZaF c11)) (not_true (ZaF c11)) (not_true (ZaF c11)) (not_true (ZaF c11)) (not_true (ZaF c11)) c12 (aI c12 c13)) (ZaC.p4_ok h6 hE hc1)
theorem ZaC.p2_ok {time_2 chain_1 first_2 hard_3 begins_6 v4 p_0 x1 x5 st r c1_ J1} (h:ZaC.p2 N c1_ time_2 chain_1 first_2 hard_3 begins_6 v4 p_0 x1 x5=some r) (hE:En Tryz.f61 g0 w0 (ZaC.rs r) st R) (hc1 : ∀first_2 hard_3 v4,c1_ (first_2,hard_3,v4)=some r→At g0 w0 (ZaC.p1.S time_2 chain_1 first_2 hard_3 v4 p_0 x1 st) J1):At g0 w0 (ZaC.p2.S time_2 chain_1 first_2 hard_3 begins_6 v4 p_0 x1 x5 st) (XK Tryz.prog R [.c (csub ZaC.B [1,1,1,1,1,1,0,1,0,0,1,1,0,0,1,1]),.b 1,.c (csub ZaC.B [1,1,1,1,1,1,0,1,0,0,1,1,1]),.h J1,.b 0,.c (csub ZaC.B [1,1,1,1,1,1,1])]):=by
 unfold ZaC.p2 at h
 refine iteB h (fun c10 h7=>?_) (fun c10 h8=>?_)
 ·exact aq fol [.r [],.c true,.r [],.s 6] [2,3,7,8,9,10,12,13,27,28,29] [3,8,12] c10 (ZaC.p3_ok h7 hE hc1)
 ·exact aq fol [.r [],.c false,.s 6] [2,3,7,8,9,10,12,13,27,28,29] [3,8,12] c10 (ZaC.p3_ok h8 hE hc1)
theorem ZaC.p1_ok {time_2 chain_1 first_2 hard_3 v4 p_0 x1 st r c1_ J1} (h:ZaC.p1 N time_2 chain_1 p_0 x1 c1_ (first_2,hard_3,v4)=some r) (hE:En Tryz.f61 g0 w0 (ZaC.rs r) st R) (hc1 : ∀first_2 hard_3 v4,c1_ (first_2,hard_3,v4)=some r→At g0 w0 (ZaC.p1.S time_2 chain_1 first_2 hard_3 v4 p_0 x1 st) J1):At g0 w0 (ZaC.p1.S time_2 chain_1 first_2 hard_3 v4 p_0 x1 st) (XK Tryz.prog R (.c (csub ZaC.B [1,1,1,1,1,1,0,1,0,0]) :: .h J1 :: [.b 0,.c (csub ZaC.B [1,1,1,1,1,1,1])])):=by
 unfold ZaC.p1 at h
 refine iteB h (fun c5 h9=>?_) (fun c5 h10=>?_)
 ·obtain ⟨c6,h11⟩:=ZaY h9
  obtain ⟨x5,c7,h12⟩:=Zdy h11
  refine iteB h12 (fun c8 h13=>?_) (fun c8 h14=>?_)
  ·obtain ⟨c9,h15⟩:=ZaY h13
   exact aq fol [.r [],.c true,.r [(2,{oe:=x5.ls})],.r [],.s 6] [2,3,7,8,9,10,12,13,27,28,29] [3,8,12] (aO c5 c6 (oD c5) c7 c8 c8 c8 (aK c8 c9 c8 c8)) (ZaC.p2_ok h15 hE hc1)
  ·exact aq fol [.r [],.c true,.r [(2,{oe:=x5.ls})],.r [(4,wF),(5,wF),(6,wF),(7,wF),(8,wF),(9,yF)],.s 6] [2,3,7,8,9,10,12,13,27,28,29] [3,8,12] (aO c5 c6 (oD c5) c7 c8 c8 c8 (aJ c8 c8 c8)) (ZaC.p2_ok h14 hE hc1)
 ·obtain ⟨x9,c14,h16⟩:=Zad h10
  obtain rfl:=Zac h16
  exact af fol hE [.r [],.c false,.r [(9,q1 [oI x9])]] [] 0 [] (aI c5 (ZbX.snd c14))
theorem ZaC.snd {p_0:Zaf} {chain_1:LL} {time_2:Int} {r:Int} (h:ZaC N p_0 chain_1 time_2=some r):SndQ Tryz.prog 61 [.agg p_0.ls,.one (L.sl 68 chain_1),oI time_2] (ZaC.rs r):=fun st=>
 sO ZaC.B Tryz.func61 fun g0 w0 R hE=>by
  unfold ZaC at h
  refine iteB h (fun c1 h17=>?_) (fun c1 h18=>?_)
  ·obtain rfl:=Zac h17
   exact af fol hE [.r [],.r [],.r [],.c true,.r []] [] 0 [] c1
  ·obtain ⟨c2,c3,h19⟩:=ck2 h18
   obtain ⟨x1,c4,h20⟩:=Zdy h19
   exact aq fol [.r [],.r [],.r [],.c false,.r [(4,{oe:=x1.ls})],.r [],.r [],.r []] [2,3,7,8,9,10,27,28,29] [3,8] (aK c1 c2 c3 c4) (At.loop N (At.loopN (fun y:Int×Int×Int=>ZaC.p1.S time_2 chain_1 y.1 y.2.1 y.2.2 p_0 x1 st) (fun c J hc y h=>ZaC.p1_ok (first_2:=y.1) (hard_3:=y.2.1) (v4:=y.2.2) h hE (fun first_2 hard_3 v4=>hc (first_2,hard_3,v4))) N (0,p_0.Limit,0) h20))
noncomputable def Zbx.B:Code:=Tryz.f97.body.getD .skip
noncomputable def Zbx.rs (r:(List Int)):List CV:=[.agg [L.arr .u64 4 r]]
noncomputable def Zbx.p1 (N:Nat) (h_0_0:List Int) (c1_:(Int×(List Int))→Option (List Int)):(Int×(List Int))→Option (List Int):=fun (i_1,out_3)=>
 if (decide (i_1≥0))=true then
  optE (Zak N out_3 8) fun x4=>
  chk (0≤i_1)<|
  chk (i_1<32)<|
  c1_ (w64 (i_1-1),List.set x4 0 (v64 ((List.getD x4 0 0)+(v64 (List.getD h_0_0 (Int.toNat i_1) 0)))))
 else
 some out_3
noncomputable def Zbx (N:Nat) (h_0_0:List Int):Option (List Int):=
 loopN (Zbx.p1 N h_0_0) N (31,List.replicate 4 0)
noncomputable def Zbx.p1.S (i_1:Int) (h_0_0 out_3:List Int) (st:LL):S:=mkS 21 [(1,sA 1),(2,sA 2),(3,sA 3),(4,sI i_1)] [(1,.cells [L.arr .u8 32 h_0_0]),(2,.cells [L.arr .u64 4 (List.replicate 4 0)]),(3,.cells [L.arr .u64 4 out_3])] st
theorem Zbx.p1_ok {i_1 h_0_0 out_3 st r c1_ J1} (h:Zbx.p1 N h_0_0 c1_ (i_1,out_3)=some r) (hE:En Tryz.f97 g0 w0 (Zbx.rs r) st R) (hc1 : ∀i_1 out_3,c1_ (i_1,out_3)=some r→At g0 w0 (Zbx.p1.S i_1 h_0_0 out_3 st) J1):At g0 w0 (Zbx.p1.S i_1 h_0_0 out_3 st) (XK Tryz.prog R (.c (csub Zbx.B [1,1,0,1,0,0]) :: .h J1 :: [.b 0,.c (csub Zbx.B [1,1,1])])):=by
 unfold Zbx.p1 at h
 refine iteB h (fun c5 h1=>?_) (fun c5 h2=>?_)
 ·obtain ⟨x4,c6,h3⟩:=Zad h1
  obtain ⟨c7,c8,h4⟩:=ck2 h3
  exact and_ fol [.r [],.c true,.r [(1,q1 [.agg [L.arr .u64 4 x4]])],.d {ds:=[],hv:=256,Hs:=[256]},.r []] [1,2,3,4] [1,2,3] (aJ c5 (Zak.snd c6) (ix 0 4 (aK c7 c8 (leI 0 0) (ltI 0 4)))) (hc1 (w64 (i_1-1)) (List.set x4 0 (v64 ((List.getD x4 0 0)+(v64 (List.getD h_0_0 (Int.toNat i_1) 0))))) h4)
 ·obtain rfl:=Zac h2
  exact af fol hE [.r [],.c false,.r []] [] 0 [] c5
theorem Zbx.snd {h_0_0:List Int} {r:(List Int)} (h:Zbx N h_0_0=some r):SndQ Tryz.prog 97 [.agg [L.arr .u8 32 h_0_0]] (Zbx.rs r):=fun st=>
 sO Zbx.B Tryz.func97 fun g0 w0 R hE=>by
  unfold Zbx at h
  exact aq fol [.r [],.r [],.r []] [1,2,3,4] [1,2,3] trivial (At.loop N (At.loopN (fun y:Int×(List Int)=>Zbx.p1.S y.1 h_0_0 y.2 st) (fun c J hc y h=>Zbx.p1_ok (i_1:=y.1) (out_3:=y.2) h hE (fun i_1 out_3=>hc (i_1,out_3))) N (31,List.replicate 4 0) h))
noncomputable def Zde.B:Code:=Tryz.f62.body.getD .skip
noncomputable def Zde.rs (r:Bool):List CV:=[oB r]
noncomputable def Zde (N:Nat) (p_0:Zaf) (h_1:Zai):Option Bool:=
 optE (Zbi N h_1.Bits p_0.Limit) fun (x1,x2)=>
 if x2=true then
  optE (Zch N h_1) fun x3=>
  optE (Zbx N x3) fun x4=>
  optE (Zbe N x1 x4) fun x5=>
  some (!x5)
 else
 some false
theorem Zde.snd {p_0:Zaf} {h_1:Zai} {r:Bool} (h:Zde N p_0 h_1=some r):SndQ Tryz.prog 62 [.agg p_0.ls,.agg h_1.ls] (Zde.rs r):=fun st=>
 sO Zde.B Tryz.func62 fun g0 w0 R hE=>by
  unfold Zde at h
  obtain ⟨⟨x1,x2⟩,c1,h1⟩:=Zad h
  refine iteB h1 (fun c2 h2=>?_) (fun c2 h3=>?_)
  ·obtain ⟨x3,c3,h4⟩:=Zad h2
   obtain ⟨x4,c4,h5⟩:=Zad h4
   obtain ⟨x5,c5,h6⟩:=Zad h5
   obtain rfl:=Zac h6
   exact afd fol hE [.r [],.r [(4,q1 [.agg [L.arr .u64 4 x1],oB x2])],.d {ds:=[(4,q1 [.agg [L.arr .u8 32 x3]]),(5,q1 [.agg [L.arr .u64 4 x4]]),(6,q1 [oB x5])],hv:=0,Hs:=[]}] [] 0 [] (aO (Zbi.snd c1) c2 c2 c2 (Zch.snd c3) c2 (Zbx.snd c4) (aK c2 (Zbe.snd c5) c2 c2))
  ·obtain rfl:=Zac h3
   exact afd fol hE [.r [],.r [(4,q1 [.agg [L.arr .u64 4 x1],oB x2])],.d {ds:=[(2,wF),(3,wF),(4,wF),(5,wF),(6,wF),(7,wF),(8,yF)],hv:=0,Hs:=[]}] [] 0 [] (aO (Zbi.snd c1) c2 c2 c2 c2 c2 c2 c2)
noncomputable def ZbU.B:Code:=Tryz.f64.body.getD .skip
noncomputable def ZbU.rs (r:LL):List CV:=[.row true 1 r]
noncomputable def ZbU.p1 (N:Nat) (row_0:LL) (c1_:(LL×Int)→Option LL):(LL×Int)→Option LL:=fun (out_3,i_1)=>
 if (decide (i_1≥0))=true then
  if (decide ((len out_3)<11))=true then
   chk (0≤i_1)<|
   chk (i_1<(len row_0))<|
   getE (row_0[Int.toNat i_1]?) Zdi fun x4=>
   chk (List.length (out_3 ++ [[L.int .i64 x4]])*8≤140737488355328)<|
   c1_ (out_3 ++ [[L.int .i64 x4]],w64 (i_1-1))
  else
  some out_3
 else
 some out_3
noncomputable def ZbU (N:Nat) (row_0:LL):Option LL:=
 loopN (ZbU.p1 N row_0) N ([],w64 ((len row_0)-1))
noncomputable def ZbU.p1.S (row_0 out_3:LL) (i_1:Int) (st:LL):S:=mkS 25 [(0,sV 1 row_0),(3,.one (.h (.row 3 0) 1 0 (List.length out_3))),(4,sI i_1)] [(3,.row 0 true 1 out_3)] st
theorem ZbU.p1_ok {row_0 out_3 i_1 st r c1_ J1} (h:ZbU.p1 N row_0 c1_ (out_3,i_1)=some r) (hE:En Tryz.f64 g0 w0 (ZbU.rs r) st R) (hc1 : ∀out_3 i_1,c1_ (out_3,i_1)=some r→At g0 w0 (ZbU.p1.S row_0 out_3 i_1 st) J1):At g0 w0 (ZbU.p1.S row_0 out_3 i_1 st) (XK Tryz.prog R (.c (csub ZbU.B [1,1,0,1,0,0]) :: .h J1 :: [.b 0,.c (csub ZbU.B [1,1,1])])):=by
 unfold ZbU.p1 at h
 refine iteB h (fun c6 h1=>?_) (fun c6 h2=>?_)
 ·refine iteB h1 (fun c7 h3=>?_) (fun c7 h4=>?_)
  ·obtain ⟨c8,c9,h5⟩:=ck2 h3
   obtain ⟨x4,c10,h6⟩:=ZcC h5
   obtain ⟨c11,h7⟩:=ZaY h6
   exact an fol [.r [],.c true,.r [(4,{oe:=[L.int .i64 x4]})],.r []] [0,3,4] [3] (aO c6 c6 c6 c6 c7 c8 c9 (aM c10 z0 (eN (List.length out_3)) z0 (eN (1)) c11)) (hc1 (out_3 ++ [[L.int .i64 x4]]) (w64 (i_1-1)) h7)
  ·obtain rfl:=Zac h4
   exact af fol hE [.r [],.c false,.r []] [] 0 [0] (aN c6 c6 c6 c6 c7 z0 (eN (List.length out_3)))
 ·obtain rfl:=Zac h2
  exact af fol hE [.r [(3,wF),(4,wF),(5,wF),(6,yF)],.c false,.r []] [] 0 [0] (aN c6 c6 c6 c6 eF z0 (eN (List.length out_3)))
theorem ZbU.snd {row_0:LL} {r:LL} (h:ZbU N row_0=some r):SndQ Tryz.prog 64 [.one (L.sl 1 row_0)] (ZbU.rs r):=fun st=>
 sO ZbU.B Tryz.func64 fun g0 w0 R hE=>by
  unfold ZbU at h
  exact aq fol [.r [(0,{m:=2})],.r [(0,{m:=1})],.r []] [0,3,4] [3] trivial (At.loop N (At.loopN (fun y:LL×Int=>ZbU.p1.S row_0 y.1 y.2 st) (fun c J hc y h=>ZbU.p1_ok (out_3:=y.1) (i_1:=y.2) h hE (fun out_3 i_1=>hc (out_3,i_1))) N ([],w64 ((len row_0)-1)) h))
noncomputable def ZaJ.B:Code:=Tryz.f63.body.getD .skip
noncomputable def ZaJ.rs (r:Int):List CV:=[oI r]
noncomputable def ZaJ.p4 (N:Nat) (c2_:(Int×Int×Int)→Option Int) (c1_:Int→Option Int) (times_0:LL) (i_1 less_7 same_10 j_4:Int):Option Int:=
 c2_ (less_7,same_10,w64 (j_4+1))
noncomputable def ZaJ.p3 (N:Nat) (c2_:(Int×Int×Int)→Option Int) (c1_:Int→Option Int) (times_0:LL) (i_1 less_7 same_3 j_4:Int):Option Int:=
 chk (0≤j_4)<|
 chk (j_4<(len times_0))<|
 getE (times_0[Int.toNat j_4]?) Zdi fun x8=>
 chk (0≤i_1)<|
 chk (i_1<(len times_0))<|
 getE (times_0[Int.toNat i_1]?) Zdi fun x9=>
 if (x8==x9)=true then
  ZaJ.p4 N c2_ c1_ times_0 i_1 less_7 (w64 (same_3+1)) j_4
 else
 ZaJ.p4 N c2_ c1_ times_0 i_1 less_7 same_3 j_4
noncomputable def ZaJ.p2 (N:Nat) (c1_:Int→Option Int) (times_0:LL) (i_1:Int) (c2_:(Int×Int×Int)→Option Int):(Int×Int×Int)→Option Int:=fun (less_2,same_3,j_4)=>
 if (decide (j_4<(if (11:Int)<(len times_0) then 11 else (len times_0))))=true then
  chk (0≤j_4)<|
  chk (j_4<(len times_0))<|
  getE (times_0[Int.toNat j_4]?) Zdi fun x5=>
  chk (0≤i_1)<|
  chk (i_1<(len times_0))<|
  getE (times_0[Int.toNat i_1]?) Zdi fun x6=>
  if (decide (x5<x6))=true then
   ZaJ.p3 N c2_ c1_ times_0 i_1 (w64 (less_2+1)) same_3 j_4
  else
  ZaJ.p3 N c2_ c1_ times_0 i_1 less_2 same_3 j_4
 else
 if (decide (less_2≤(w64 (Int.tdiv (if (11:Int)<(len times_0) then 11 else (len times_0)) 2))))=true then
  if (decide ((w64 (Int.tdiv (if (11:Int)<(len times_0) then 11 else (len times_0)) 2))<(w64 (less_2+same_3))))=true then
   chk (0≤i_1)<|
   chk (i_1<(len times_0))<|
   getE (times_0[Int.toNat i_1]?) Zdi fun x11=>
   some x11
  else
  c1_ (w64 (i_1+1))
 else
 c1_ (w64 (i_1+1))
noncomputable def ZaJ.p1 (N:Nat) (times_0:LL) (c1_:Int→Option Int):Int→Option Int:=fun i_1=>
 if (decide (i_1<(if (11:Int)<(len times_0) then 11 else (len times_0))))=true then
  loopN (ZaJ.p2 N c1_ times_0 i_1) N (0,0,0)
 else
 some 0
noncomputable def ZaJ (N:Nat) (times_0:LL):Option Int:=
 loopN (ZaJ.p1 N times_0) N 0
noncomputable def ZaJ.p4.S (times_0:LL) (i_1 less_7 same_10 j_4:Int) (st:LL):S:=mkS 59 [(0,sV 1 times_0),(3,sI (if (11:Int)<(len times_0) then 11 else (len times_0))),(4,sI i_1),(5,sI less_7),(6,sI same_10),(7,sI j_4)] [] st
noncomputable def ZaJ.p3.S (times_0:LL) (i_1 less_7 same_3 j_4:Int) (st:LL):S:=mkS 59 [(0,sV 1 times_0),(3,sI (if (11:Int)<(len times_0) then 11 else (len times_0))),(4,sI i_1),(5,sI less_7),(6,sI same_3),(7,sI j_4)] [] st
noncomputable def ZaJ.p2.S (times_0:LL) (i_1 less_2 same_3 j_4:Int) (st:LL):S:=mkS 59 [(0,sV 1 times_0),(3,sI (if (11:Int)<(len times_0) then 11 else (len times_0))),(4,sI i_1),(5,sI less_2),(6,sI same_3),(7,sI j_4)] [] st
noncomputable def ZaJ.p1.S (times_0:LL) (i_1:Int) (st:LL):S:=mkS 59 [(0,sV 1 times_0),(3,sI (if (11:Int)<(len times_0) then 11 else (len times_0))),(4,sI i_1)] [] st
theorem ZaJ.p4_ok {times_0 i_1 less_7 same_10 j_4 st r c2_ c1_ J2 J1} (h:ZaJ.p4 N c2_ c1_ times_0 i_1 less_7 same_10 j_4=some r) (hE:En Tryz.f63 g0 w0 (ZaJ.rs r) st R) (hc2 : ∀less_2 same_3 j_4,c2_ (less_2,same_3,j_4)=some r→At g0 w0 (ZaJ.p2.S times_0 i_1 less_2 same_3 j_4 st) J2) (hc1 : ∀i_1,c1_ i_1=some r→At g0 w0 (ZaJ.p1.S times_0 i_1 st) J1):At g0 w0 (ZaJ.p4.S times_0 i_1 less_7 same_10 j_4 st) (XK Tryz.prog R [.c (csub ZaJ.B [1,1,0,1,0,0,1,0,0,1,1,0,1,0,0,1,1]),.h J2,.b 2,.c (csub ZaJ.B [1,1,0,1,0,0,1,0,0,1,1,1]),.b 1,.c (csub ZaJ.B [1,1,0,1,0,0,1,1]),.h J1,.b 0,.c (csub ZaJ.B [1,1,1])]):=by
 unfold ZaJ.p4 at h
 exact an fol [.r []] [0,3,4,5,6,7] [] trivial (hc2 less_7 same_10 (w64 (j_4+1)) h)
theorem ZaJ.p3_ok {times_0 i_1 less_7 same_3 j_4 st r c2_ c1_ J2 J1} (h:ZaJ.p3 N c2_ c1_ times_0 i_1 less_7 same_3 j_4=some r) (hE:En Tryz.f63 g0 w0 (ZaJ.rs r) st R) (hc2 : ∀less_2 same_3 j_4,c2_ (less_2,same_3,j_4)=some r→At g0 w0 (ZaJ.p2.S times_0 i_1 less_2 same_3 j_4 st) J2) (hc1 : ∀i_1,c1_ i_1=some r→At g0 w0 (ZaJ.p1.S times_0 i_1 st) J1):At g0 w0 (ZaJ.p3.S times_0 i_1 less_7 same_3 j_4 st) (XK Tryz.prog R [.c (csub ZaJ.B [1,1,0,1,0,0,1,0,0,1,1,0,1,0,0,1,0,0,1]),.b 3,.c (csub ZaJ.B [1,1,0,1,0,0,1,0,0,1,1,0,1,0,0,1,1]),.h J2,.b 2,.c (csub ZaJ.B [1,1,0,1,0,0,1,0,0,1,1,1]),.b 1,.c (csub ZaJ.B [1,1,0,1,0,0,1,1]),.h J1,.b 0,.c (csub ZaJ.B [1,1,1])]):=by
 unfold ZaJ.p3 at h
 obtain ⟨c10,c11,h1⟩:=ck2 h
 obtain ⟨x8,c12,h2⟩:=ZcC h1
 obtain ⟨c13,c14,h3⟩:=ck2 h2
 obtain ⟨x9,c15,h4⟩:=ZcC h3
 refine iteB h4 (fun c16 h5=>?_) (fun c16 h6=>?_)
 ·exact aqd fol [.d {ds:=[(3,{oe:=[L.int .i64 x8]}),(7,{oe:=[L.int .i64 x9]})],hv:=0,Hs:=[]},.c true,.r [],.s 9] [0,3,4,5,6,7] [] (aN c10 c11 c12 c13 c14 c15 c16) (ZaJ.p4_ok h5 hE hc2 hc1)
 ·exact aqd fol [.d {ds:=[(3,{oe:=[L.int .i64 x8]}),(7,{oe:=[L.int .i64 x9]})],hv:=0,Hs:=[]},.c false,.s 9] [0,3,4,5,6,7] [] (aN c10 c11 c12 c13 c14 c15 c16) (ZaJ.p4_ok h6 hE hc2 hc1)
theorem ZaJ.p2_ok {times_0 i_1 less_2 same_3 j_4 st r c1_ c2_ J1 J2} (h:ZaJ.p2 N c1_ times_0 i_1 c2_ (less_2,same_3,j_4)=some r) (hE:En Tryz.f63 g0 w0 (ZaJ.rs r) st R) (hc1 : ∀i_1,c1_ i_1=some r→At g0 w0 (ZaJ.p1.S times_0 i_1 st) J1) (hc2 : ∀less_2 same_3 j_4,c2_ (less_2,same_3,j_4)=some r→At g0 w0 (ZaJ.p2.S times_0 i_1 less_2 same_3 j_4 st) J2):At g0 w0 (ZaJ.p2.S times_0 i_1 less_2 same_3 j_4 st) (XK Tryz.prog R (.c (csub ZaJ.B [1,1,0,1,0,0,1,0,0,1,1,0,1,0,0]) :: .h J2 :: [.b 2,.c (csub ZaJ.B [1,1,0,1,0,0,1,0,0,1,1,1]),.b 1,.c (csub ZaJ.B [1,1,0,1,0,0,1,1]),.h J1,.b 0,.c (csub ZaJ.B [1,1,1])])):=by
 unfold ZaJ.p2 at h
 refine iteB h (fun c2 h7=>?_) (fun c2 h8=>?_)
 ·obtain ⟨c3,c4,h9⟩:=ck2 h7
  obtain ⟨x5,c5,h10⟩:=ZcC h9
  obtain ⟨c6,c7,h11⟩:=ck2 h10
  obtain ⟨x6,c8,h12⟩:=ZcC h11
  refine iteB h12 (fun c9 h13=>?_) (fun c9 h14=>?_)
  ·exact aqd fol [.r [],.c true,.d {ds:=[(3,{oe:=[L.int .i64 x5]}),(7,{oe:=[L.int .i64 x6]})],hv:=0,Hs:=[]},.c true,.r [],.s 11] [0,3,4,5,6,7] [] (aO c2 c3 c4 c5 c6 c7 c8 c9) (ZaJ.p3_ok h13 hE hc2 hc1)
  ·exact aqd fol [.r [],.c true,.d {ds:=[(3,{oe:=[L.int .i64 x5]}),(7,{oe:=[L.int .i64 x6]})],hv:=0,Hs:=[]},.c false,.s 11] [0,3,4,5,6,7] [] (aO c2 c3 c4 c5 c6 c7 c8 c9) (ZaJ.p3_ok h14 hE hc2 hc1)
 ·refine iteB h8 (fun c17 h15=>?_) (fun c17 h16=>?_)
  ·refine iteB h15 (fun c18 h17=>?_) (fun c18 h18=>?_)
   ·obtain ⟨c19,c20,h19⟩:=ck2 h17
    obtain ⟨x11,c21,h20⟩:=ZcC h19
    obtain rfl:=Zac h20
    exact af fol hE [.r [],.c false,.r [],.c true,.r [(3,{oe:=[L.int .i64 x11]})]] [] 0 [] (aO c2 (neI 2) c17 c17 (neI 2) c17 c17 (aN c17 c17 c17 c18 c19 c20 c21))
   ·exact an fol [.r [],.c false,.r [],.c false,.r []] [0,3,4] [] (aO c2 (neI 2) c17 c17 (neI 2) c17 c17 (aK c17 c17 c17 c18)) (hc1 (w64 (i_1+1)) h18)
  ·exact an fol [.r [],.c false,.r [(5,wF),(6,wF),(7,wF),(8,wF),(9,wF),(10,wF),(11,yF)],.c false,.r []] [0,3,4] [] (aO c2 (neI 2) c17 c17 c17 c17 c17 (aJ c17 c17 eF)) (hc1 (w64 (i_1+1)) h16)
theorem ZaJ.p1_ok {times_0 i_1 st r c1_ J1} (h:ZaJ.p1 N times_0 c1_ i_1=some r) (hE:En Tryz.f63 g0 w0 (ZaJ.rs r) st R) (hc1 : ∀i_1,c1_ i_1=some r→At g0 w0 (ZaJ.p1.S times_0 i_1 st) J1):At g0 w0 (ZaJ.p1.S times_0 i_1 st) (XK Tryz.prog R (.c (csub ZaJ.B [1,1,0,1,0,0]) :: .h J1 :: [.b 0,.c (csub ZaJ.B [1,1,1])])):=by
 unfold ZaJ.p1 at h
 refine iteB h (fun c1 h21=>?_) (fun c1 h22=>?_)
 ·exact aq fol [.r [],.c true,.r [],.r [],.r []] [0,3,4,5,6,7] [] c1 (At.loop N (At.loopN (fun y:Int×Int×Int=>ZaJ.p2.S times_0 i_1 y.1 y.2.1 y.2.2 st) (fun c J hc y h=>ZaJ.p2_ok (less_2:=y.1) (same_3:=y.2.1) (j_4:=y.2.2) h hE hc1 (fun less_2 same_3 j_4=>hc (less_2,same_3,j_4))) N (0,0,0) h21))
 ·obtain rfl:=Zac h22
  exact af fol hE [.r [],.c false,.r []] [] 0 [] c1
theorem ZaJ.snd {times_0:LL} {r:Int} (h:ZaJ N times_0=some r):SndQ Tryz.prog 63 [.one (L.sl 1 times_0)] (ZaJ.rs r):=fun st=>
 sO ZaJ.B Tryz.func63 fun g0 w0 R hE=>by
  unfold ZaJ at h
  exact aq fol [.r [],.r [],.r []] [0,3,4] [] trivial (At.loop N (At.loopN (fun y:Int=>ZaJ.p1.S times_0 y st) (fun c J hc y h=>ZaJ.p1_ok h hE (fun i_1=>hc i_1)) N 0 h))
noncomputable def Zaq.B:Code:=Tryz.f18.body.getD .skip
noncomputable def Zaq.rs (r:Int):List CV:=[oI r]
noncomputable def Zaq.p6 (N:Nat) (chain_1:LL) (p_0:Zaf) (h_2:Zai) (c6_:Int→Option Int):Int→Option Int:=fun v21=>
 if (decide (v21<(len p_0.Checks)))=true then
  chk (0≤v21)<|
  getE (p_0.Checks[Int.toNat v21]?) Zdz fun x22=>
  if (x22.Height==(len chain_1))=true then
   optE (Zch N h_2) fun x23=>
   if (!(x22.Id==x23))=true then
    some 8
   else
   c6_ (w64 (v21+1))
  else
  c6_ (w64 (v21+1))
 else
 some 0
noncomputable def Zaq.p5 (N:Nat) (chain_1:LL) (p_0:Zaf) (h_2:Zai) (c5_:Int→Option Int):Int→Option Int:=fun v19=>
 if (decide (v19<(len p_0.Gates)))=true then
  chk (0≤v19)<|
  getE (p_0.Gates[Int.toNat v19]?) ZdH fun x20=>
  if (decide (x20.Height≤(len chain_1)))=true then
   if (decide (h_2.Version<x20.Version))=true then
    some 7
   else
   c5_ (w64 (v19+1))
  else
  c5_ (w64 (v19+1))
 else
 loopN (Zaq.p6 N chain_1 p_0 h_2) N 0
noncomputable def Zaq.p4 (N:Nat) (chain_1:LL) (p_0:Zaf) (h_2:Zai):Option Int:=
 loopN (Zaq.p5 N chain_1 p_0 h_2) N 0
noncomputable def Zaq.p3 (N:Nat) (now_3:Int) (chain_1:LL) (p_0:Zaf) (h_2:Zai):Option Int:=
 if (decide (p_0.Future<0))=true then
  some 6
 else
 if (decide (h_2.Time>now_3))=true then
  if (decide ((w64 (h_2.Time-now_3))>p_0.Future))=true then
   some 6
  else
  Zaq.p4 N chain_1 p_0 h_2
 else
 Zaq.p4 N chain_1 p_0 h_2
noncomputable def Zaq.p2 (N:Nat) (now_3:Int) (chain_1:LL) (p_0:Zaf) (h_2:Zai) (c2_:(LL×Int)→Option Int):(LL×Int)→Option Int:=fun (times_15,v6)=>
 if (decide (v6<(len chain_1)))=true then
  chk (0≤v6)<|
  getE (chain_1[Int.toNat v6]?) Zdk fun x16=>
  chk (List.length (times_15 ++ [[L.int .i64 x16.Time]])*8≤140737488355328)<|
  c2_ (times_15 ++ [[L.int .i64 x16.Time]],w64 (v6+1))
 else
 if (decide ((len chain_1)>0))=true then
  optE (ZbU N times_15) fun x17=>
  chk (plainRow x17=true)<|
  optE (ZaJ N x17) fun x18=>
  if (decide (h_2.Time≤x18))=true then
   some 5
  else
  Zaq.p3 N now_3 chain_1 p_0 h_2
 else
 Zaq.p3 N now_3 chain_1 p_0 h_2
noncomputable def Zaq.p1 (N:Nat) (chain_1:LL) (now_3:Int) (p_0:Zaf) (h_2:Zai):Option Int:=
 optE (ZaC N p_0 chain_1 h_2.Time) fun x4=>
 if (h_2.Bits != x4)=true then
  some 3
 else
 optE (Zde N p_0 h_2) fun x5=>
 if (!x5)=true then
  some 4
 else
 loopN (Zaq.p2 N now_3 chain_1 p_0 h_2) N ([],0)
noncomputable def Zaq (N:Nat) (p_0:Zaf) (chain_1:LL) (h_2:Zai) (now_3:Int):Option Int:=
 optE (ZbQ N h_2) fun x1=>
 if (!x1)=true then
  some 1
 else
 if (decide ((len chain_1)>0))=true then
  chk (0≤(w64 ((len chain_1)-1)))<|
  chk ((w64 ((len chain_1)-1))<(len chain_1))<|
  getE (chain_1[Int.toNat (w64 ((len chain_1)-1))]?) Zdk fun x2=>
  optE (Zch N x2) fun x3=>
  if (!(h_2.Prev==x3))=true then
   some 2
  else
  Zaq.p1 N chain_1 now_3 p_0 h_2
 else
 Zaq.p1 N chain_1 now_3 p_0 h_2
noncomputable def Zaq.p6.S (chain_1:LL) (p_0:Zaf) (v21:Int) (h_2:Zai) (st:LL):S:=mkS 125 [(6,sA 6),(9,sI (len chain_1)),(107,sV 33 p_0.Checks),(108,sI (len p_0.Checks)),(109,sI v21)] [(6,.cells h_2.ls)] st
noncomputable def Zaq.p5.S (chain_1:LL) (p_0:Zaf) (v19:Int) (h_2:Zai) (st:LL):S:=mkS 125 [(4,sA 4),(6,sA 6),(9,sI (len chain_1)),(88,sV 2 p_0.Gates),(89,sI (len p_0.Gates)),(90,sI v19)] [(4,.cells p_0.ls),(6,.cells h_2.ls)] st
noncomputable def Zaq.p4.S (chain_1:LL) (p_0:Zaf) (h_2:Zai) (st:LL):S:=mkS 125 [(4,sA 4),(6,sA 6),(9,sI (len chain_1))] [(4,.cells p_0.ls),(6,.cells h_2.ls)] st
noncomputable def Zaq.p3.S (now_3:Int) (chain_1:LL) (p_0:Zaf) (h_2:Zai) (st:LL):S:=mkS 125 [(3,sI now_3),(4,sA 4),(6,sA 6),(9,sI (len chain_1))] [(4,.cells p_0.ls),(6,.cells h_2.ls)] st
noncomputable def Zaq.p2.S (now_3:Int) (chain_1 times_15:LL) (v6:Int) (p_0:Zaf) (h_2:Zai) (st:LL):S:=mkS 125 [(3,sI now_3),(4,sA 4),(6,sA 6),(9,sI (len chain_1)),(10,.one (.h (.row 10 0) 1 0 (List.length times_15))),(47,sV 68 chain_1),(48,sI (len chain_1)),(49,sI v6)] [(4,.cells p_0.ls),(6,.cells h_2.ls),(10,.row 0 true 1 times_15)] st
noncomputable def Zaq.p1.S (chain_1:LL) (now_3:Int) (p_0:Zaf) (h_2:Zai) (st:LL):S:=mkS 125 [(1,sV 68 chain_1),(3,sI now_3),(4,sA 4),(6,sA 6),(9,sI (len chain_1))] [(4,.cells p_0.ls),(6,.cells h_2.ls)] st
theorem Zaq.p6_ok {chain_1 p_0 v21 h_2 st r c6_ J6} (h:Zaq.p6 N chain_1 p_0 h_2 c6_ v21=some r) (hE:En Tryz.f18 g0 w0 (Zaq.rs r) st R) (hc6 : ∀v21,c6_ v21=some r→At g0 w0 (Zaq.p6.S chain_1 p_0 v21 h_2 st) J6):At g0 w0 (Zaq.p6.S chain_1 p_0 v21 h_2 st) (XK Tryz.prog R (.c (csub Zaq.B [1,1,1,1,1,1,1,1,1,1,1,0,1,0,0]) :: .h J6 :: [.b 4,.c (csub Zaq.B [1,1,1,1,1,1,1,1,1,1,1,1])])):=by
 unfold Zaq.p6 at h
 refine iteB h (fun c53 h1=>?_) (fun c53 h2=>?_)
 ·obtain ⟨c54,h3⟩:=ZaY h1
  obtain ⟨x22,c55,h4⟩:=ZdE h3
  refine iteB h4 (fun c56 h5=>?_) (fun c56 h6=>?_)
  ·obtain ⟨x23,c57,h7⟩:=Zad h5
   refine iteB h7 (fun c58 h8=>?_) (fun c58 h9=>?_)
   ·obtain rfl:=Zac h8
    exact afd fol hE [.r [],.c true,.r [(1,{oe:=x22.ls})],.d {ds:=[(8,q1 [.agg [L.arr .u8 32 x23]])],hv:=0,Hs:=[]},.c true,.r []] [] 0 [] (aO c53 c54 (oD c53) c55 c56 c56 c56 (aL c56 (Zch.snd c57) c56 c56 c58))
   ·exact and_ fol [.r [],.c true,.r [(1,{oe:=x22.ls})],.d {ds:=[(8,q1 [.agg [L.arr .u8 32 x23]])],hv:=0,Hs:=[]},.c false,.r []] [6,9,107,108,109] [6] (aO c53 c54 (oD c53) c55 c56 c56 c56 (aL c56 (Zch.snd c57) c56 c56 c58)) (hc6 (w64 (v21+1)) h9)
  ·exact and_ fol [.r [],.c true,.r [(1,{oe:=x22.ls})],.d {ds:=[(5,wF),(6,wF),(7,wF),(8,wF),(9,wF),(10,yF)],hv:=0,Hs:=[]},.c false,.r []] [6,9,107,108,109] [6] (aO c53 c54 (oD c53) c55 c56 c56 c56 (aK c56 c56 c56 eF)) (hc6 (w64 (v21+1)) h6)
 ·obtain rfl:=Zac h2
  exact af fol hE [.r [],.c false,.r []] [] 0 [] c53
theorem Zaq.p5_ok {chain_1 p_0 v19 h_2 st r c5_ J5} (h:Zaq.p5 N chain_1 p_0 h_2 c5_ v19=some r) (hE:En Tryz.f18 g0 w0 (Zaq.rs r) st R) (hc5 : ∀v19,c5_ v19=some r→At g0 w0 (Zaq.p5.S chain_1 p_0 v19 h_2 st) J5):At g0 w0 (Zaq.p5.S chain_1 p_0 v19 h_2 st) (XK Tryz.prog R (.c (csub Zaq.B [1,1,1,1,1,1,1,1,1,1,0,1,0,0]) :: .h J5 :: [.b 2,.c (csub Zaq.B [1,1,1,1,1,1,1,1,1,1,1])])):=by
 unfold Zaq.p5 at h
 refine iteB h (fun c48 h10=>?_) (fun c48 h11=>?_)
 ·obtain ⟨c49,h12⟩:=ZaY h10
  obtain ⟨x20,c50,h13⟩:=ZdK h12
  refine iteB h13 (fun c51 h14=>?_) (fun c51 h15=>?_)
  ·refine iteB h14 (fun c52 h16=>?_) (fun c52 h17=>?_)
   ·obtain rfl:=Zac h16
    exact af fol hE [.r [],.c true,.r [(1,{oe:=x20.ls})],.r [],.c true,.r []] [] 0 [] (aO c48 c49 (oD c48) c50 c51 c51 c51 (aK c51 c51 c51 c52))
   ·exact an fol [.r [],.c true,.r [(1,{oe:=x20.ls})],.r [],.c false,.r []] [4,6,9,88,89,90] [4,6] (aO c48 c49 (oD c48) c50 c51 c51 c51 (aK c51 c51 c51 c52)) (hc5 (w64 (v19+1)) h17)
  ·exact an fol [.r [],.c true,.r [(1,{oe:=x20.ls})],.r [(5,wF),(6,wF),(7,wF),(8,wF),(9,wF),(10,yF)],.c false,.r []] [4,6,9,88,89,90] [4,6] (aO c48 c49 (oD c48) c50 c51 c51 c51 (aK c51 c51 c51 eF)) (hc5 (w64 (v19+1)) h15)
 ·exact aq fol [.r [],.c false,.r []] [6,9,107,108,109] [6] c48 (At.loop N (At.loopN (fun y:Int=>Zaq.p6.S chain_1 p_0 y h_2 st) (fun c J hc y h=>Zaq.p6_ok h hE (fun v21=>hc v21)) N 0 h11))
theorem Zaq.p4_ok {chain_1 p_0 h_2 st r} (h:Zaq.p4 N chain_1 p_0 h_2=some r) (hE:En Tryz.f18 g0 w0 (Zaq.rs r) st R):At g0 w0 (Zaq.p4.S chain_1 p_0 h_2 st) (XK Tryz.prog R [.c (csub Zaq.B [1,1,1,1,1,1,1,1,1,1])]):=by
 unfold Zaq.p4 at h
 exact aq fol [.r []] [4,6,9,88,89,90] [4,6] trivial (At.loop N (At.loopN (fun y:Int=>Zaq.p5.S chain_1 p_0 y h_2 st) (fun c J hc y h=>Zaq.p5_ok h hE (fun v19=>hc v19)) N 0 h))
theorem Zaq.p3_ok {now_3 chain_1 p_0 h_2 st r} (h:Zaq.p3 N now_3 chain_1 p_0 h_2=some r) (hE:En Tryz.f18 g0 w0 (Zaq.rs r) st R):At g0 w0 (Zaq.p3.S now_3 chain_1 p_0 h_2 st) (XK Tryz.prog R [.c (csub Zaq.B [1,1,1,1,1,1,1,1,1])]):=by
 unfold Zaq.p3 at h
 refine iteB h (fun c45 h18=>?_) (fun c45 h19=>?_)
 ·obtain rfl:=Zac h18
  exact af fol hE [.r [(4,wF),(5,wF),(6,wF),(7,wF),(8,wF),(16,wF)],.c true,.r []] [] 0 [] (aO c45 c45 c45 c45 c45 c45 c45 eT)
 ·refine iteB h19 (fun c46 h20=>?_) (fun c46 h21=>?_)
  ·refine iteB h20 (fun c47 h22=>?_) (fun c47 h23=>?_)
   ·obtain rfl:=Zac h22
    exact af fol hE [.r [(17,yF)],.c true,.r []] [] 0 [] (aO c45 c45 c45 c45 c45 c46 c46 (aO c46 c46 c46 c46 c46 c45 c46 (aI c45 c47)))
   ·exact aq fol [.r [(17,yF)],.c false,.s 1] [4,6,9] [4,6] (aO c45 c45 c45 c45 c45 c46 c46 (aO c46 c46 c46 c46 c46 c45 c46 (aI c45 c47))) (Zaq.p4_ok h23 hE)
  ·exact aq fol [.r [(9,wF),(10,wF),(11,wF),(12,wF),(13,wF),(14,wF),(15,wF),(16,yF),(17,yF)],.c false,.s 1] [4,6,9] [4,6] (aO c45 c45 c45 c45 c45 c46 c46 (aO c46 c46 c46 c46 c46 c45 c46 (aI c45 eF))) (Zaq.p4_ok h21 hE)
theorem Zaq.p2_ok {now_3 chain_1 times_15 v6 p_0 h_2 st r c2_ J2} (h:Zaq.p2 N now_3 chain_1 p_0 h_2 c2_ (times_15,v6)=some r) (hE:En Tryz.f18 g0 w0 (Zaq.rs r) st R) (hc2 : ∀times_15 v6,c2_ (times_15,v6)=some r→At g0 w0 (Zaq.p2.S now_3 chain_1 times_15 v6 p_0 h_2 st) J2):At g0 w0 (Zaq.p2.S now_3 chain_1 times_15 v6 p_0 h_2 st) (XK Tryz.prog R (.c (csub Zaq.B [1,1,1,1,1,1,1,0,1,0,0]) :: .h J2 :: [.b 0,.c (csub Zaq.B [1,1,1,1,1,1,1,1])])):=by
 unfold Zaq.p2 at h
 refine iteB h (fun c36 h24=>?_) (fun c36 h25=>?_)
 ·obtain ⟨c37,h26⟩:=ZaY h24
  obtain ⟨x16,c38,h27⟩:=Zdy h26
  obtain ⟨c39,h28⟩:=ZaY h27
  exact an fol [.r [],.c true,.r [(1,{oe:=x16.ls})],.r [],.r []] [3,4,6,9,10,47,48,49] [4,6,10] (aO c36 c37 (oD c36) c38 z0 (eN (List.length times_15)) z0 (aI (eN (1)) c39)) (hc2 (times_15 ++ [[L.int .i64 x16.Time]]) (w64 (v6+1)) h28)
 ·refine iteB h25 (fun c40 h29=>?_) (fun c40 h30=>?_)
  ·obtain ⟨x17,c41,h31⟩:=Zad h29
   obtain ⟨c42,h32⟩:=ZaY h31
   obtain ⟨x18,c43,h33⟩:=Zad h32
   refine iteB h33 (fun c44 h34=>?_) (fun c44 h35=>?_)
   ·obtain rfl:=Zac h34
    exact afd fol hE [.r [],.c false,.d {ds:=[(6,{rs:=[.row true 1 x17],ns:=[65],m:=2}),(7,{rs:=[oI x18],m:=2})],hv:=64,Hs:=[64]},.c true,.r []] [] 0 [] (aO c36 c40 c40 c40 c40 c40 c40 (aO z0 (eN (List.length times_15)) c42 (ZbU.snd c41) c40 z0 (eN (List.length x17)) (aK (ZaJ.snd c43) c40 c40 c44)))
   ·exact aqd fol [.r [],.c false,.d {ds:=[(6,{rs:=[.row true 1 x17],ns:=[65],m:=2}),(7,{rs:=[oI x18],m:=2})],hv:=64,Hs:=[64]},.c false,.s 1] [3,4,6,9] [4,6] (aO c36 c40 c40 c40 c40 c40 c40 (aO z0 (eN (List.length times_15)) c42 (ZbU.snd c41) c40 z0 (eN (List.length x17)) (aK (ZaJ.snd c43) c40 c40 c44))) (Zaq.p3_ok h35 hE)
  ·exact aqd fol [.r [],.c false,.d {ds:=[(3,wF),(4,wF),(5,wF),(6,wF),(7,wF),(8,wF),(9,yF)],hv:=0,Hs:=[]},.c false,.s 1] [3,4,6,9] [4,6] (aO c36 c40 c40 c40 c40 c40 c40 (aI c40 eF)) (Zaq.p3_ok h30 hE)
theorem Zaq.p1_ok {chain_1 now_3 p_0 h_2 st r} (h:Zaq.p1 N chain_1 now_3 p_0 h_2=some r) (hE:En Tryz.f18 g0 w0 (Zaq.rs r) st R):At g0 w0 (Zaq.p1.S chain_1 now_3 p_0 h_2 st) (XK Tryz.prog R [.c (csub Zaq.B [1,1,1,1])]):=by
 unfold Zaq.p1 at h
 obtain ⟨x4,c9,h36⟩:=Zad h
 refine iteB h36 (fun c10 h37=>?_) (fun c10 h38=>?_)
 ·obtain rfl:=Zac h37
  exact afd fol hE [.d {ds:=[(6,q1 [oI x4])],hv:=0,Hs:=[]},.c true,.r []] [] 0 [] (aI (ZaC.snd c9) c10)
 ·obtain ⟨x5,c11,h39⟩:=Zad h38
  refine iteB h39 (fun c12 h40=>?_) (fun c12 h41=>?_)
  ·obtain rfl:=Zac h40
   exact afd fol hE [.d {ds:=[(6,q1 [oI x4])],hv:=0,Hs:=[]},.c false,.r [(2,q1 [oB x5])],.c true,.r []] [] 0 [] (aK (ZaC.snd c9) c10 (Zde.snd c11) c12)
  ·exact aqd fol [.d {ds:=[(6,q1 [oI x4])],hv:=0,Hs:=[]},.c false,.r [(2,q1 [oB x5])],.c false,.r [(0,{m:=1})],.r []] [3,4,6,9,10,47,48,49] [4,6,10] (aK (ZaC.snd c9) c10 (Zde.snd c11) c12) (At.loop N (At.loopN (fun y:LL×Int=>Zaq.p2.S now_3 chain_1 y.1 y.2 p_0 h_2 st) (fun c J hc y h=>Zaq.p2_ok (times_15:=y.1) (v6:=y.2) h hE (fun times_15 v6=>hc (times_15,v6))) N ([],0) h41))
theorem Zaq.snd {p_0:Zaf} {chain_1:LL} {h_2:Zai} {now_3:Int} {r:Int} (h:Zaq N p_0 chain_1 h_2 now_3=some r):SndQ Tryz.prog 18 [.agg p_0.ls,.one (L.sl 68 chain_1),.agg h_2.ls,oI now_3] (Zaq.rs r):=fun st=>
 sO Zaq.B Tryz.func18 fun g0 w0 R hE=>by
  unfold Zaq at h
  obtain ⟨x1,c1,h42⟩:=Zad h
  refine iteB h42 (fun c2 h43=>?_) (fun c2 h44=>?_)
  ·obtain rfl:=Zac h43
   exact af fol hE [.r [],.r [],.r [(1,q1 [oB x1])],.c true,.r []] [] 0 [] (aI (ZbQ.snd c1) c2)
  ·refine iteB h44 (fun c3 h45=>?_) (fun c3 h46=>?_)
   ·obtain ⟨c4,c5,h47⟩:=ck2 h45
    obtain ⟨x2,c6,h48⟩:=Zdy h47
    obtain ⟨x3,c7,h49⟩:=Zad h48
    refine iteB h49 (fun c8 h50=>?_) (fun c8 h51=>?_)
    ·obtain rfl:=Zac h50
     exact afd fol hE [.r [],.r [],.r [(1,q1 [oB x1])],.c false,.d {ds:=[(9,{oe:=x2.ls}),(10,q1 [.agg [L.arr .u8 32 x3]])],hv:=0,Hs:=[]},.c true,.r []] [] 0 [] (aO (ZbQ.snd c1) c2 c3 c3 c3 c3 c3 (aO c3 c4 c5 c3 c6 c3 (Zch.snd c7) (aJ c3 c3 c8)))
    ·exact aqd fol [.r [],.r [],.r [(1,q1 [oB x1])],.c false,.d {ds:=[(9,{oe:=x2.ls}),(10,q1 [.agg [L.arr .u8 32 x3]])],hv:=0,Hs:=[]},.c false,.s 1] [1,3,4,6,9] [4,6] (aO (ZbQ.snd c1) c2 c3 c3 c3 c3 c3 (aO c3 c4 c5 c3 c6 c3 (Zch.snd c7) (aJ c3 c3 c8))) (Zaq.p1_ok h51 hE)
   ·exact aqd fol [.r [],.r [],.r [(1,q1 [oB x1])],.c false,.d {ds:=[(3,wF),(4,wF),(5,wF),(6,wF),(7,wF),(8,wF),(9,wF),(10,wF),(11,wF),(12,yF)],hv:=0,Hs:=[]},.c false,.s 1] [1,3,4,6,9] [4,6] (aO (ZbQ.snd c1) c2 c3 c3 c3 c3 c3 (aM c3 c3 c3 c3 c3 eF)) (Zaq.p1_ok h46 hE)
noncomputable def ZaL.B:Code:=Tryz.f33.body.getD .skip
noncomputable def ZaL.rs (r:Int×LL):List CV:=[oI r.1]
noncomputable def ZaL.p1 (N:Nat) (i1:Nat) (x2:Zab) (id_1_0:List Int) (st:LL) (c1_:Int→Option (Int×LL)):Int→Option (Int×LL):=fun v3=>
 if (decide (v3<(len x2.Ids)))=true then
  chk (0≤v3)<|
  getE (st[i1]?) Zcg fun x4=>
  getE (x4.Ids[0+(Int.toNat v3)]?) Zfg fun x5=>
  if (x5==id_1_0)=true then
   some (v3,st)
  else
  c1_ (w64 (v3+1))
 else
 some ((-1),st)
noncomputable def ZaL (N:Nat) (a_0:Option Nat) (id_1_0:List Int) (st:LL):Option (Int×LL):=
 optE a_0 fun i1=>
 getE (st[i1]?) Zcg fun x2=>
 loopN (ZaL.p1 N i1 x2 id_1_0 st) N 0
noncomputable def ZaL.p1.S (i1:Nat) (x2:Zab) (v3:Int) (id_1_0:List Int) (st:LL):S:=mkS 22 [(3,sA 3),(10,.one (.h (.mem (.obj i1) 84 0) 32 0 (List.length x2.Ids))),(11,sI (len x2.Ids)),(12,sI v3)] [(3,.cells [L.arr .u8 32 id_1_0])] st
theorem ZaL.p1_ok {i1 x2 v3 id_1_0 st r c1_ J1} (h:ZaL.p1 N i1 x2 id_1_0 st c1_ v3=some r) (hE:En Tryz.f33 g0 w0 (ZaL.rs r) r.2 R) (hc1 : ∀v3,c1_ v3=some r→At g0 w0 (ZaL.p1.S i1 x2 v3 id_1_0 st) J1):At g0 w0 (ZaL.p1.S i1 x2 v3 id_1_0 st) (XK Tryz.prog R (.c (csub ZaL.B [1,0,1,0,0]) :: .h J1 :: [.b 0,.c (csub ZaL.B [1,1])])):=by
 unfold ZaL.p1 at h
 refine iteB h (fun c3 h1=>?_) (fun c3 h2=>?_)
 ·obtain ⟨c4,h3⟩:=ZaY h1
  obtain ⟨x4,c5,h4⟩:=ZcD h3
  obtain ⟨x5,c6,h5⟩:=Zfs h4
  refine iteB h5 (fun c7 h6=>?_) (fun c7 h7=>?_)
  ·obtain rfl:=Zac h6
   exact af fol hE [.r [],.c true,.r [(2,{oc:=x4.lo,oe:=[L.arr .u8 32 x5]})],.r [],.c true,.r []] [] 0 [] (aM c3 c4 (oD c3) c6 c5 c7)
  ·exact an fol [.r [],.c true,.r [(2,{oc:=x4.lo,oe:=[L.arr .u8 32 x5]})],.r [],.c false,.r []] [3,10,11,12] [3] (aM c3 c4 (oD c3) c6 c5 c7) (hc1 (w64 (v3+1)) h7)
 ·obtain rfl:=Zac h2
  exact af fol hE [.r [],.c false,.r []] [] 0 [] c3
theorem ZaL.snd {a_0:Option Nat} {id_1_0:List Int} {st:LL} {r:Int×LL} (h:ZaL N a_0 id_1_0 st=some r):Snd Tryz.prog 33 [.one (L.ptr a_0),.agg [L.arr .u8 32 id_1_0]] st (ZaL.rs r) r.2:=
 sO ZaL.B Tryz.func33 fun g0 w0 R hE=>by
  unfold ZaL at h
  obtain ⟨i1,rfl,h8⟩:=Zad h
  obtain ⟨x2,c2,h9⟩:=ZcD h8
  exact aq fol [.r [],.r [(3,{oc:=x2.lo})]] [3,10,11,12] [3] c2 (At.loop N (At.loopN (fun y:Int=>ZaL.p1.S i1 x2 y id_1_0 st) (fun c J hc y h=>ZaL.p1_ok h hE (fun v3=>hc v3)) N 0 h9))
noncomputable def ZdG.B:Code:=Tryz.f70.body.getD .skip
noncomputable def ZdG.rs (r:(List Int)):List CV:=[.agg [L.arr .u64 4 r]]
noncomputable def ZdG (N:Nat) (a_0_0 b_1_0:List Int):Option (List Int):=
 optE (ZaV N a_0_0 b_1_0) fun (x1,x2)=>
 if x2=true then
  optE (Zcx N ) fun x3=>
  some x3
 else
 some x1
theorem ZdG.snd {a_0_0 b_1_0:List Int} {r:(List Int)} (h:ZdG N a_0_0 b_1_0=some r):SndQ Tryz.prog 70 [.agg [L.arr .u64 4 a_0_0],.agg [L.arr .u64 4 b_1_0]] (ZdG.rs r):=fun st=>
 sO ZdG.B Tryz.func70 fun g0 w0 R hE=>by
  unfold ZdG at h
  obtain ⟨⟨x1,x2⟩,c1,h1⟩:=Zad h
  refine iteB h1 (fun c2 h2=>?_) (fun c2 h3=>?_)
  ·obtain ⟨x3,c3,h4⟩:=Zad h2
   obtain rfl:=Zac h4
   exact af fol hE [.r [],.r [(2,q1 [.agg [L.arr .u64 4 x1],oB x2])],.r [],.c true,.r [(0,q1 [.agg [L.arr .u64 4 x3]])]] [] 0 [] (aJ (ZaV.snd c1) c2 (Zcx.snd c3))
  ·obtain rfl:=Zac h3
   exact af fol hE [.r [],.r [(2,q1 [.agg [L.arr .u64 4 x1],oB x2])],.r [],.c false,.r []] [] 0 [] (aI (ZaV.snd c1) c2)
noncomputable def Zca.B:Code:=Tryz.f31.body.getD .skip
noncomputable def Zca.rs (r:Int×Int×Int×LL):List CV:=[oI r.1,oI r.2.1,oI r.2.2.1]
noncomputable def Zca (N:Nat) (a_0:Option Nat) (h_1:Zai) (now_2:Int) (st:LL):Option (Int×Int×Int×LL):=
 optE (ZbQ N h_1) fun x1=>
 if (!x1)=true then
  some ((-1),1,8,st)
 else
 optE (Zch N h_1) fun x2=>
 optE (ZaL N a_0 x2 st) fun (x3,st4)=>
 if (decide (x3≥0))=true then
  some (x3,0,0,st4)
 else
 optE (ZaL N a_0 h_1.Prev st4) fun (x5,st6)=>
 if (decide (x5<0))=true then
  some ((-1),2,5,st6)
 else
 optE a_0 fun i7=>
 getE (st6[i7]?) Zcg fun x8=>
 optE (ZaO N x8 x5) fun x9=>
 chk (plainRow x9=true)<|
 optE (Zaq N x8.Rules x9 h_1 now_2) fun x10=>
 if (decide (x10>0))=true then
  some ((-1),x10,8,st6)
 else
 if (decide ((len x8.List_)≥x8.Room))=true then
  some ((-1),0,6,st6)
 else
 chk (List.length (x8.List_ ++ [h_1.ls])*96≤140737488355328)<|
 chk (List.length (x8.Ids ++ [[L.arr .u8 32 x2]])*32≤140737488355328)<|
 chk (0≤x5)<|
 chk (x5<(len x8.Works))<|
 getE (x8.Works[0+(Int.toNat x5)]?) ZfO fun x11=>
 optE (ZbW N h_1.Bits) fun x12=>
 optE (ZdG N x11 x12) fun x13=>
 chk (List.length (x8.Works ++ [[L.arr .u64 4 x13]])*32≤140737488355328)<|
 chk (List.length (x8.Ahead ++ [[L.int .i64 x5]])*8≤140737488355328)<|
 some (w64 ((len (x8.List_ ++ [h_1.ls]))-1),0,0,List.set (List.set (List.set (List.set (List.set (List.set (List.set (List.set st6 i7 (gs x8.lo 15)) i7 (Zab.lo {x8 with List_:=x8.List_ ++ [h_1.ls]})) i7 (gs (Zab.lo {x8 with List_:=x8.List_ ++ [h_1.ls]}) 16)) i7 (Zab.lo {x8 with List_:=x8.List_ ++ [h_1.ls],Ids:=x8.Ids ++ [[L.arr .u8 32 x2]]})) i7 (gs (Zab.lo {x8 with List_:=x8.List_ ++ [h_1.ls],Ids:=x8.Ids ++ [[L.arr .u8 32 x2]]}) 18)) i7 (Zab.lo {x8 with List_:=x8.List_ ++ [h_1.ls],Ids:=x8.Ids ++ [[L.arr .u8 32 x2]],Works:=x8.Works ++ [[L.arr .u64 4 x13]]})) i7 (gs (Zab.lo {x8 with List_:=x8.List_ ++ [h_1.ls],Ids:=x8.Ids ++ [[L.arr .u8 32 x2]],Works:=x8.Works ++ [[L.arr .u64 4 x13]]}) 17)) i7 (Zab.lo (Zab.mk x8.Rules (x8.List_ ++ [h_1.ls]) (x8.Ids ++ [[L.arr .u8 32 x2]]) (x8.Ahead ++ [[L.int .i64 x5]]) (x8.Works ++ [[L.arr .u64 4 x13]]) x8.Room)))
theorem Zca.snd {a_0:Option Nat} {h_1:Zai} {now_2:Int} {st:LL} {r:Int×Int×Int×LL} (h:Zca N a_0 h_1 now_2 st=some r):Snd Tryz.prog 31 [.one (L.ptr a_0),.agg h_1.ls,oI now_2] st (Zca.rs r) r.2.2.2:=
 sO Zca.B Tryz.func31 fun g0 w0 R hE=>by
  unfold Zca at h
  obtain ⟨x1,c1,h1⟩:=Zad h
  refine iteB h1 (fun c2 h2=>?_) (fun c2 h3=>?_)
  ·obtain rfl:=Zac h2
   exact af fol hE [.r [],.r [(1,q1 [oB x1])],.c true,.r []] [] 0 [] (aI (ZbQ.snd c1) c2)
  ·obtain ⟨x2,c3,h4⟩:=Zad h3
   obtain ⟨⟨x3,st4⟩,c4,h5⟩:=Zad h4
   refine iteB h5 (fun c5 h6=>?_) (fun c5 h7=>?_)
   ·obtain rfl:=Zac h6
    exact af fol hE [.r [],.r [(1,q1 [oB x1])],.c false,.r [(2,q1 [.agg [L.arr .u8 32 x2]]),(3,{rs:=[oI x3],st:=st4})],.r [],.c true,.r []] [] 0 [] (aL (ZbQ.snd c1) c2 (Zch.snd c3) (ZaL.snd c4) c5)
   ·obtain ⟨⟨x5,st6⟩,c6,h8⟩:=Zad h7
    refine iteB h8 (fun c7 h9=>?_) (fun c7 h10=>?_)
    ·obtain rfl:=Zac h9
     exact af fol hE [.r [],.r [(1,q1 [oB x1])],.c false,.r [(2,q1 [.agg [L.arr .u8 32 x2]]),(3,{rs:=[oI x3],st:=st4})],.r [],.c false,.r [(3,{rs:=[oI x5],st:=st6})],.r [],.c true,.r []] [] 0 [] (aN (ZbQ.snd c1) c2 (Zch.snd c3) (ZaL.snd c4) c5 (ZaL.snd c6) c7)
    ·obtain ⟨i7,rfl,h11⟩:=Zad h10
     obtain ⟨x8,c9,h12⟩:=ZcD h11
     obtain ⟨x9,c10,h13⟩:=Zad h12
     obtain ⟨c11,h14⟩:=ZaY h13
     obtain ⟨x10,c12,h15⟩:=Zad h14
     refine iteB h15 (fun c13 h16=>?_) (fun c13 h17=>?_)
     ·obtain rfl:=Zac h16
      exact afd fol hE [.r [],.r [(1,q1 [oB x1])],.c false,.r [(2,q1 [.agg [L.arr .u8 32 x2]]),(3,{rs:=[oI x3],st:=st4})],.r [],.c false,.r [(3,{rs:=[oI x5],st:=st6})],.r [],.c false,.d {ds:=[(3,{oc:=x8.lo}),(6,{rs:=[.row true 68 x9],ns:=[34],m:=10,cv:=[.one (L.bx 88 x8.ls)]}),(9,{rs:=[oI x10],m:=2})],hv:=64,Hs:=[64]},.r [],.c true,.r []] [] 0 [] (aO (ZbQ.snd c1) c2 (Zch.snd c3) (ZaL.snd c4) c5 (ZaL.snd c6) c7 (aO c9 c9 (bO 88 c9 (Zab.bv x8)) c11 (ZaO.snd c10) z0 (eN (List.length x9)) (aI (Zaq.snd c12) c13)))
     ·refine iteB h17 (fun c14 h18=>?_) (fun c14 h19=>?_)
      ·obtain rfl:=Zac h18
       exact afd fol hE [.r [],.r [(1,q1 [oB x1])],.c false,.r [(2,q1 [.agg [L.arr .u8 32 x2]]),(3,{rs:=[oI x3],st:=st4})],.r [],.c false,.r [(3,{rs:=[oI x5],st:=st6})],.r [],.c false,.d {ds:=[(3,{oc:=x8.lo}),(6,{rs:=[.row true 68 x9],ns:=[34],m:=10,cv:=[.one (L.bx 88 x8.ls)]}),(9,{rs:=[oI x10],m:=2})],hv:=64,Hs:=[64]},.r [],.c false,.d {ds:=[(3,{oc:=x8.lo}),(8,{oc:=x8.lo})],hv:=0,Hs:=[]},.c true,.r []] [] 0 [] (aO (ZbQ.snd c1) c2 (Zch.snd c3) (ZaL.snd c4) c5 (ZaL.snd c6) c7 (aO c9 c9 (bO 88 c9 (Zab.bv x8)) c11 (ZaO.snd c10) z0 (eN (List.length x9)) (aL (Zaq.snd c12) c13 c9 c9 c14)))
      ·obtain ⟨c15,c16,c17,c18,h20⟩:=ck4 h19
       obtain ⟨x11,c19,h21⟩:=ZgO h20
       obtain ⟨x12,c20,h22⟩:=Zad h21
       obtain ⟨x13,c21,h23⟩:=Zad h22
       obtain ⟨c22,c23,h24⟩:=ck2 h23
       obtain rfl:=Zac h24
       exact afd fol hE [.r [],.r [(1,q1 [oB x1])],.c false,.r [(2,q1 [.agg [L.arr .u8 32 x2]]),(3,{rs:=[oI x3],st:=st4})],.r [],.c false,.r [(3,{rs:=[oI x5],st:=st6})],.r [],.c false,.d {ds:=[(3,{oc:=x8.lo}),(6,{rs:=[.row true 68 x9],ns:=[34],m:=10,cv:=[.one (L.bx 88 x8.ls)]}),(9,{rs:=[oI x10],m:=2})],hv:=64,Hs:=[64]},.r [],.c false,.d {ds:=[(3,{oc:=x8.lo}),(8,{oc:=x8.lo})],hv:=0,Hs:=[]},.c false,.d {ds:=[(4,{oc:=x8.lo}),(7,{oe:=x8.lo}),(10,{oc:=gs x8.lo 15,mv:=[58]})],hv:=1216,Hs:=[64,192,1216]},.d {ds:=[(4,{oc:=Zab.lo {x8 with List_:=x8.List_ ++ [h_1.ls]}}),(6,q1 [.agg [L.arr .u8 32 x2]]),(8,{oe:=Zab.lo {x8 with List_:=x8.List_ ++ [h_1.ls]}}),(11,{oc:=gs (Zab.lo {x8 with List_:=x8.List_ ++ [h_1.ls]}) 16,mv:=[69]})],hv:=2432,Hs:=[128,384,2432]},.d {ds:=[(4,{oc:=Zab.lo {x8 with List_:=x8.List_ ++ [h_1.ls],Ids:=x8.Ids ++ [[L.arr .u8 32 x2]]}}),(8,{oc:=Zab.lo {x8 with List_:=x8.List_ ++ [h_1.ls],Ids:=x8.Ids ++ [[L.arr .u8 32 x2]]}}),(11,{oc:=Zab.lo {x8 with List_:=x8.List_ ++ [h_1.ls],Ids:=x8.Ids ++ [[L.arr .u8 32 x2]]},oe:=[L.arr .u64 4 x11]}),(14,q1 [.agg [L.arr .u64 4 x12]]),(15,q1 [.agg [L.arr .u64 4 x13]]),(17,{oe:=Zab.lo {x8 with List_:=x8.List_ ++ [h_1.ls],Ids:=x8.Ids ++ [[L.arr .u8 32 x2]]}}),(20,{oc:=gs (Zab.lo {x8 with List_:=x8.List_ ++ [h_1.ls],Ids:=x8.Ids ++ [[L.arr .u8 32 x2]]}) 18,mv:=[89]})],hv:=1245184,Hs:=[65536,196608,1245184]},.r [(4,{oc:=Zab.lo {x8 with List_:=x8.List_ ++ [h_1.ls],Ids:=x8.Ids ++ [[L.arr .u8 32 x2]],Works:=x8.Works ++ [[L.arr .u64 4 x13]]}}),(7,{oe:=Zab.lo {x8 with List_:=x8.List_ ++ [h_1.ls],Ids:=x8.Ids ++ [[L.arr .u8 32 x2]],Works:=x8.Works ++ [[L.arr .u64 4 x13]]}}),(10,{oc:=gs (Zab.lo {x8 with List_:=x8.List_ ++ [h_1.ls],Ids:=x8.Ids ++ [[L.arr .u8 32 x2]],Works:=x8.Works ++ [[L.arr .u64 4 x13]]}) 17,mv:=[99]})],.r [(3,{oc:=Zab.lo (Zab.mk x8.Rules (x8.List_ ++ [h_1.ls]) (x8.Ids ++ [[L.arr .u8 32 x2]]) (x8.Ahead ++ [[L.int .i64 x5]]) (x8.Works ++ [[L.arr .u64 4 x13]]) x8.Room)})]] [] 0 [] (aO (ZbQ.snd c1) c2 (Zch.snd c3) (ZaL.snd c4) c5 (ZaL.snd c6) c7 (aO c9 c9 (bO 88 c9 (Zab.bv x8)) c11 (ZaO.snd c10) z0 (eN (List.length x9)) (aO (Zaq.snd c12) c13 c9 c9 c14 c9 c9 (aO z0 (eN (List.length x8.List_)) c9 z0 (eN (1)) c15 (Zam c9 (gs x8.lo 15)) (aO z0 (eN (List.length (x8.List_ ++ [h_1.ls]))) (Zam (Zam c9 (gs x8.lo 15)) (Zab.lo {x8 with List_:=x8.List_ ++ [h_1.ls]})) (Zam (Zam c9 (gs x8.lo 15)) (Zab.lo {x8 with List_:=x8.List_ ++ [h_1.ls]})) (Zch.snd c3) z0 (eN (List.length x8.Ids)) (aO (Zam (Zam c9 (gs x8.lo 15)) (Zab.lo {x8 with List_:=x8.List_ ++ [h_1.ls]})) z0 (eN (1)) c16 (Zam (Zam (Zam c9 (gs x8.lo 15)) (Zab.lo {x8 with List_:=x8.List_ ++ [h_1.ls]})) (gs (Zab.lo {x8 with List_:=x8.List_ ++ [h_1.ls]}) 16)) z0 (eN (List.length (x8.Ids ++ [[L.arr .u8 32 x2]]))) (aO (Zam (Zam (Zam (Zam c9 (gs x8.lo 15)) (Zab.lo {x8 with List_:=x8.List_ ++ [h_1.ls]})) (gs (Zab.lo {x8 with List_:=x8.List_ ++ [h_1.ls]}) 16)) (Zab.lo {x8 with List_:=x8.List_ ++ [h_1.ls],Ids:=x8.Ids ++ [[L.arr .u8 32 x2]]})) (Zam (Zam (Zam (Zam c9 (gs x8.lo 15)) (Zab.lo {x8 with List_:=x8.List_ ++ [h_1.ls]})) (gs (Zab.lo {x8 with List_:=x8.List_ ++ [h_1.ls]}) 16)) (Zab.lo {x8 with List_:=x8.List_ ++ [h_1.ls],Ids:=x8.Ids ++ [[L.arr .u8 32 x2]]})) (Zam (Zam (Zam (Zam c9 (gs x8.lo 15)) (Zab.lo {x8 with List_:=x8.List_ ++ [h_1.ls]})) (gs (Zab.lo {x8 with List_:=x8.List_ ++ [h_1.ls]}) 16)) (Zab.lo {x8 with List_:=x8.List_ ++ [h_1.ls],Ids:=x8.Ids ++ [[L.arr .u8 32 x2]]})) c17 c18 c19 (Zam (Zam (Zam (Zam c9 (gs x8.lo 15)) (Zab.lo {x8 with List_:=x8.List_ ++ [h_1.ls]})) (gs (Zab.lo {x8 with List_:=x8.List_ ++ [h_1.ls]}) 16)) (Zab.lo {x8 with List_:=x8.List_ ++ [h_1.ls],Ids:=x8.Ids ++ [[L.arr .u8 32 x2]]})) (aO (ZbW.snd c20) (ZdG.snd c21) z0 (eN (List.length x8.Works)) (Zam (Zam (Zam (Zam c9 (gs x8.lo 15)) (Zab.lo {x8 with List_:=x8.List_ ++ [h_1.ls]})) (gs (Zab.lo {x8 with List_:=x8.List_ ++ [h_1.ls]}) 16)) (Zab.lo {x8 with List_:=x8.List_ ++ [h_1.ls],Ids:=x8.Ids ++ [[L.arr .u8 32 x2]]})) z0 (eN (1)) (aO c22 (Zam (Zam (Zam (Zam (Zam c9 (gs x8.lo 15)) (Zab.lo {x8 with List_:=x8.List_ ++ [h_1.ls]})) (gs (Zab.lo {x8 with List_:=x8.List_ ++ [h_1.ls]}) 16)) (Zab.lo {x8 with List_:=x8.List_ ++ [h_1.ls],Ids:=x8.Ids ++ [[L.arr .u8 32 x2]]})) (gs (Zab.lo {x8 with List_:=x8.List_ ++ [h_1.ls],Ids:=x8.Ids ++ [[L.arr .u8 32 x2]]}) 18)) z0 (eN (List.length (x8.Works ++ [[L.arr .u64 4 x13]]))) (Zam (Zam (Zam (Zam (Zam (Zam c9 (gs x8.lo 15)) (Zab.lo {x8 with List_:=x8.List_ ++ [h_1.ls]})) (gs (Zab.lo {x8 with List_:=x8.List_ ++ [h_1.ls]}) 16)) (Zab.lo {x8 with List_:=x8.List_ ++ [h_1.ls],Ids:=x8.Ids ++ [[L.arr .u8 32 x2]]})) (gs (Zab.lo {x8 with List_:=x8.List_ ++ [h_1.ls],Ids:=x8.Ids ++ [[L.arr .u8 32 x2]]}) 18)) (Zab.lo {x8 with List_:=x8.List_ ++ [h_1.ls],Ids:=x8.Ids ++ [[L.arr .u8 32 x2]],Works:=x8.Works ++ [[L.arr .u64 4 x13]]})) z0 (eN (List.length x8.Ahead)) (aO (Zam (Zam (Zam (Zam (Zam (Zam c9 (gs x8.lo 15)) (Zab.lo {x8 with List_:=x8.List_ ++ [h_1.ls]})) (gs (Zab.lo {x8 with List_:=x8.List_ ++ [h_1.ls]}) 16)) (Zab.lo {x8 with List_:=x8.List_ ++ [h_1.ls],Ids:=x8.Ids ++ [[L.arr .u8 32 x2]]})) (gs (Zab.lo {x8 with List_:=x8.List_ ++ [h_1.ls],Ids:=x8.Ids ++ [[L.arr .u8 32 x2]]}) 18)) (Zab.lo {x8 with List_:=x8.List_ ++ [h_1.ls],Ids:=x8.Ids ++ [[L.arr .u8 32 x2]],Works:=x8.Works ++ [[L.arr .u64 4 x13]]})) z0 (eN (1)) c23 (Zam (Zam (Zam (Zam (Zam (Zam (Zam c9 (gs x8.lo 15)) (Zab.lo {x8 with List_:=x8.List_ ++ [h_1.ls]})) (gs (Zab.lo {x8 with List_:=x8.List_ ++ [h_1.ls]}) 16)) (Zab.lo {x8 with List_:=x8.List_ ++ [h_1.ls],Ids:=x8.Ids ++ [[L.arr .u8 32 x2]]})) (gs (Zab.lo {x8 with List_:=x8.List_ ++ [h_1.ls],Ids:=x8.Ids ++ [[L.arr .u8 32 x2]]}) 18)) (Zab.lo {x8 with List_:=x8.List_ ++ [h_1.ls],Ids:=x8.Ids ++ [[L.arr .u8 32 x2]],Works:=x8.Works ++ [[L.arr .u64 4 x13]]})) (gs (Zab.lo {x8 with List_:=x8.List_ ++ [h_1.ls],Ids:=x8.Ids ++ [[L.arr .u8 32 x2]],Works:=x8.Works ++ [[L.arr .u64 4 x13]]}) 17)) z0 (eN (List.length (x8.Ahead ++ [[L.int .i64 x5]]))) (Zam (Zam (Zam (Zam (Zam (Zam (Zam (Zam c9 (gs x8.lo 15)) (Zab.lo {x8 with List_:=x8.List_ ++ [h_1.ls]})) (gs (Zab.lo {x8 with List_:=x8.List_ ++ [h_1.ls]}) 16)) (Zab.lo {x8 with List_:=x8.List_ ++ [h_1.ls],Ids:=x8.Ids ++ [[L.arr .u8 32 x2]]})) (gs (Zab.lo {x8 with List_:=x8.List_ ++ [h_1.ls],Ids:=x8.Ids ++ [[L.arr .u8 32 x2]]}) 18)) (Zab.lo {x8 with List_:=x8.List_ ++ [h_1.ls],Ids:=x8.Ids ++ [[L.arr .u8 32 x2]],Works:=x8.Works ++ [[L.arr .u64 4 x13]]})) (gs (Zab.lo {x8 with List_:=x8.List_ ++ [h_1.ls],Ids:=x8.Ids ++ [[L.arr .u8 32 x2]],Works:=x8.Works ++ [[L.arr .u64 4 x13]]}) 17)) (Zab.lo (Zab.mk x8.Rules (x8.List_ ++ [h_1.ls]) (x8.Ids ++ [[L.arr .u8 32 x2]]) (x8.Ahead ++ [[L.int .i64 x5]]) (x8.Works ++ [[L.arr .u64 4 x13]]) x8.Room)))))))))))))
noncomputable def ZbE.B:Code:=Tryz.f41.body.getD .skip
noncomputable def ZbE.rs (r:(Option Nat)×(Option Nat)×Bool×LL):List CV:=[.one (L.ptr r.1),.one (L.ptr r.2.1),oB r.2.2.1]
noncomputable def ZbE.p1 (N:Nat) (x1 x4:Option Nat) (list_1:LL) (c1_:(Bool×Int×LL)→Option ((Option Nat)×(Option Nat)×Bool×LL)):(Bool×Int×LL)→Option ((Option Nat)×(Option Nat)×Bool×LL):=fun (ok_6,v7,st17)=>
 if (decide (v7<(len list_1)))=true then
  chk (0≤v7)<|
  getE (list_1[Int.toNat v7]?) ZcS fun x18=>
  optE (Zbs N x1 x18.Header x18.Now st17) fun (x19,x20,x21,st22)=>
  optE (Zca N x4 x18.Header x18.Now st22) fun (x23,x24,x25,st26)=>
  if ok_6=true then
   if (x19==x23)=true then
    if (x20==x24)=true then
     c1_ (x21==x25,w64 (v7+1),st26)
    else
    c1_ (false,w64 (v7+1),st26)
   else
   c1_ (false,w64 (v7+1),st26)
  else
  c1_ (false,w64 (v7+1),st26)
 else
 some (x1,x4,ok_6,st17)
noncomputable def ZbE (N:Nat) (p_0:Zaf) (list_1 st:LL):Option ((Option Nat)×(Option Nat)×Bool×LL):=
 optE (Zdv N p_0 100 st) fun (x1,x2,st3)=>
 optE (ZdF N p_0 100 st3) fun (x4,st5)=>
 loopN (ZbE.p1 N x1 x4 list_1) N (true,0,st5)
noncomputable def ZbE.p1.S (x1 x4:Option Nat) (ok_6:Bool) (list_1:LL) (v7:Int) (st17:LL):S:=mkS 72 [(7,sP x1),(9,sP x4),(10,.one (.l (L.bool ok_6))),(26,sV 69 list_1),(27,sI (len list_1)),(28,sI v7)] [] st17
theorem ZbE.p1_ok {x1 x4 ok_6 list_1 v7 st17 r c1_ J1} (h:ZbE.p1 N x1 x4 list_1 c1_ (ok_6,v7,st17)=some r) (hE:En Tryz.f41 g0 w0 (ZbE.rs r) r.2.2.2 R) (hc1 : ∀ok_6 v7 st17,c1_ (ok_6,v7,st17)=some r→At g0 w0 (ZbE.p1.S x1 x4 ok_6 list_1 v7 st17) J1):At g0 w0 (ZbE.p1.S x1 x4 ok_6 list_1 v7 st17) (XK Tryz.prog R (.c (csub ZbE.B [1,1,1,1,0,1,0,0]) :: .h J1 :: [.b 0,.c (csub ZbE.B [1,1,1,1,1])])):=by
 unfold ZbE.p1 at h
 refine iteB h (fun c11 h1=>?_) (fun c11 h2=>?_)
 ·obtain ⟨c12,h3⟩:=ZaY h1
  obtain ⟨x18,c13,h4⟩:=ZdT h3
  obtain ⟨⟨x19,x20,x21,st22⟩,c14,h5⟩:=Zad h4
  obtain ⟨⟨x23,x24,x25,st26⟩,c15,h6⟩:=Zad h5
  refine iteB h6 (fun c16 h7=>?_) (fun c16 h8=>?_)
  ·refine iteB h7 (fun c17 h9=>?_) (fun c17 h10=>?_)
   ·refine iteB h9 (fun c18 h11=>?_) (fun c18 h12=>?_)
    ·exact an fol [.r [],.c true,.r [(1,{oe:=x18.ls})],.r [(5,{rs:=[oI x19,oI x20,oI x21],st:=st22})],.r [(5,{rs:=[oI x23,oI x24,oI x25],st:=st26})],.r [],.r []] [7,9,10,26,27,28] [] (aO c11 c12 (oD c11) c13 (Zbs.snd c14) (Zca.snd c15) c16 (aO c16 c16 c16 c17 c17 c17 c17 (aK c18 c18 c18 c18))) (hc1 (x21==x25) (w64 (v7+1)) st26 h11)
    ·exact an fol [.r [],.c true,.r [(1,{oe:=x18.ls})],.r [(5,{rs:=[oI x19,oI x20,oI x21],st:=st22})],.r [(5,{rs:=[oI x23,oI x24,oI x25],st:=st26})],.r [(12,wF),(13,wF),(14,wF),(15,yF)],.r []] [7,9,10,26,27,28] [] (aO c11 c12 (oD c11) c13 (Zbs.snd c14) (Zca.snd c15) c16 (aO c16 c16 c16 c17 c17 c17 c17 (aK c18 c18 c18 c18))) (hc1 false (w64 (v7+1)) st26 h12)
   ·exact an fol [.r [],.c true,.r [(1,{oe:=x18.ls})],.r [(5,{rs:=[oI x19,oI x20,oI x21],st:=st22})],.r [(5,{rs:=[oI x23,oI x24,oI x25],st:=st26})],.r [(7,wF),(8,wF),(9,wF),(10,yF),(12,wF),(13,wF),(14,wF),(15,yF)],.r []] [7,9,10,26,27,28] [] (aO c11 c12 (oD c11) c13 (Zbs.snd c14) (Zca.snd c15) c16 (aO c16 c16 c16 c17 c17 c17 c17 (aK eF eF eF eF))) (hc1 false (w64 (v7+1)) st26 h10)
  ·exact an fol [.r [],.c true,.r [(1,{oe:=x18.ls})],.r [(5,{rs:=[oI x19,oI x20,oI x21],st:=st22})],.r [(5,{rs:=[oI x23,oI x24,oI x25],st:=st26})],.r [(2,wF),(3,wF),(4,wF),(5,yF),(7,wF),(8,wF),(9,wF),(10,yF),(12,wF),(13,wF),(14,wF),(15,yF)],.r []] [7,9,10,26,27,28] [] (aO c11 c12 (oD c11) c13 (Zbs.snd c14) (Zca.snd c15) c16 (aO c16 c16 c16 eF eF eF eF (aK eF eF eF eF))) (hc1 false (w64 (v7+1)) st26 h8)
 ·obtain rfl:=Zac h2
  exact af fol hE [.r [],.c false,.r []] [] 0 [] c11
theorem ZbE.snd {p_0:Zaf} {list_1:LL} {st:LL} {r:(Option Nat)×(Option Nat)×Bool×LL} (h:ZbE N p_0 list_1 st=some r):Snd Tryz.prog 41 [.agg p_0.ls,.one (L.sl 69 list_1)] st (ZbE.rs r) r.2.2.2:=
 sO ZbE.B Tryz.func41 fun g0 w0 R hE=>by
  unfold ZbE at h
  obtain ⟨⟨x1,x2,st3⟩,c1,h13⟩:=Zad h
  obtain ⟨⟨x4,st5⟩,c2,h14⟩:=Zad h13
  exact aq fol [.r [],.r [(1,{rs:=[.one (L.ptr x1),oI x2],st:=st3})],.r [(1,{rs:=[.one (L.ptr x4)],st:=st5})],.r [],.r []] [7,9,10,26,27,28] [] (aI (Zdv.snd c1) (ZdF.snd c2)) (At.loop N (At.loopN (fun y:Bool×Int×LL=>ZbE.p1.S x1 x4 y.1 list_1 y.2.1 y.2.2) (fun c J hc y h=>ZbE.p1_ok (ok_6:=y.1) (v7:=y.2.1) (st17:=y.2.2) h hE (fun ok_6 v7 st17=>hc (ok_6,v7,st17))) N (true,0,st5) h14))
noncomputable def ZaE.B:Code:=Tryz.f44.body.getD .skip
noncomputable def ZaE.rs (r:Bool):List CV:=[oB r]
noncomputable def ZaE (N:Nat) (t_0:Zae) (at_1 of_2:Int):Option Bool:=
 optE (ZaH N t_0 at_1) fun x1=>
 if (decide (x1≥0))=true then
  optE (Zao N t_0 of_2 x1) fun x2=>
  some (x2==at_1)
 else
 some false
theorem ZaE.snd {t_0:Zae} {at_1 of_2:Int} {r:Bool} (h:ZaE N t_0 at_1 of_2=some r):SndQ Tryz.prog 44 [.one (L.bx 2 t_0.ls),oI at_1,oI of_2] (ZaE.rs r):=fun st=>
 sO ZaE.B Tryz.func44 fun g0 w0 R hE=>by
  unfold ZaE at h
  obtain ⟨x1,c1,h1⟩:=Zad h
  refine iteB h1 (fun c2 h2=>?_) (fun c2 h3=>?_)
  ·obtain ⟨x2,c3,h4⟩:=Zad h2
   obtain rfl:=Zac h4
   exact af fol hE [.r [],.r [(2,q0 [oI x1])],.r [(6,q0 [oI x2])]] [] 0 [] (aO (ZaH.snd c1) c2 c2 c2 c2 (Zao.snd c3) c2 (aI c2 c2))
  ·obtain rfl:=Zac h3
   exact af fol hE [.r [],.r [(2,q0 [oI x1])],.r [(3,wF),(4,wF),(5,wF),(6,wF),(7,wF),(8,wF),(9,yF)]] [] 0 [] (aO (ZaH.snd c1) c2 c2 c2 c2 c2 c2 c2)
noncomputable def Zaz.B:Code:=Tryz.f43.body.getD .skip
noncomputable def Zaz.rs (r:Int):List CV:=[oI r]
noncomputable def Zaz.p2 (N:Nat) (c1_:(Int×Int)→Option Int) (t_0:Zae) (places_1:LL) (v3:Int) (c2_:(Int×Int×Int)→Option Int):(Int×Int×Int)→Option Int:=fun (h_9,a_10,b_11)=>
 if (a_10 != b_11)=true then
  optE (Zao N t_0 a_10 (w64 (h_9-1))) fun x12=>
  optE (Zao N t_0 b_11 (w64 (h_9-1))) fun x13=>
  c2_ (w64 (h_9-1),x12,x13)
 else
 c1_ (a_10,w64 (v3+1))
noncomputable def Zaz.p1 (N:Nat) (t_0:Zae) (places_1:LL) (c1_:(Int×Int)→Option Int):(Int×Int)→Option Int:=fun (out_2,v3)=>
 if (decide (v3<(len places_1)))=true then
  chk (0≤v3)<|
  getE (places_1[Int.toNat v3]?) Zdi fun x4=>
  optE (ZaH N t_0 out_2) fun x5=>
  optE (ZaH N t_0 x4) fun x6=>
  if (decide ((if x6<x5 then x6 else x5)<0))=true then
   some (-1)
  else
  optE (Zao N t_0 out_2 (if x6<x5 then x6 else x5)) fun x7=>
  optE (Zao N t_0 x4 (if x6<x5 then x6 else x5)) fun x8=>
  loopN (Zaz.p2 N c1_ t_0 places_1 v3) N (if x6<x5 then x6 else x5,x7,x8)
 else
 some out_2
noncomputable def Zaz (N:Nat) (t_0:Zae) (places_1:LL):Option Int:=
 if ((len places_1)==0)=true then
  some (-1)
 else
 chk (0<(len places_1))<|
 getE (places_1[0]?) Zdi fun x1=>
 loopN (Zaz.p1 N t_0 places_1) N (x1,0)
noncomputable def Zaz.p2.S (t_0:Zae) (h_9 a_10 b_11:Int) (places_1:LL) (v3:Int) (st:LL):S:=mkS 56 [(0,.one (.l (L.bx 2 t_0.ls))),(8,sI h_9),(9,sI a_10),(10,sI b_11),(17,sV 1 places_1),(18,sI (len places_1)),(19,sI v3)] [] st
noncomputable def Zaz.p1.S (t_0:Zae) (out_2:Int) (places_1:LL) (v3:Int) (st:LL):S:=mkS 56 [(0,.one (.l (L.bx 2 t_0.ls))),(5,sI out_2),(17,sV 1 places_1),(18,sI (len places_1)),(19,sI v3)] [] st
theorem Zaz.p2_ok {t_0 h_9 a_10 b_11 places_1 v3 st r c1_ c2_ J1 J2} (h:Zaz.p2 N c1_ t_0 places_1 v3 c2_ (h_9,a_10,b_11)=some r) (hE:En Tryz.f43 g0 w0 (Zaz.rs r) st R) (hc1 : ∀out_2 v3,c1_ (out_2,v3)=some r→At g0 w0 (Zaz.p1.S t_0 out_2 places_1 v3 st) J1) (hc2 : ∀h_9 a_10 b_11,c2_ (h_9,a_10,b_11)=some r→At g0 w0 (Zaz.p2.S t_0 h_9 a_10 b_11 places_1 v3 st) J2):At g0 w0 (Zaz.p2.S t_0 h_9 a_10 b_11 places_1 v3 st) (XK Tryz.prog R (.c (csub Zaz.B [1,1,1,0,1,0,0,1,1,0,0,1,1,1,1,0,0,0]) :: .h J2 :: [.b 2,.c (csub Zaz.B [1,1,1,0,1,0,0,1,1,0,0,1,1,1,1,1]),.b 1,.c (csub Zaz.B [1,1,1,0,1,0,0,1,1,1]),.h J1,.b 0,.c (csub Zaz.B [1,1,1,1])])):=by
 unfold Zaz.p2 at h
 refine iteB h (fun c12 h1=>?_) (fun c12 h2=>?_)
 ·obtain ⟨x12,c13,h3⟩:=Zad h1
  obtain ⟨x13,c14,h4⟩:=Zad h3
  exact an fol [.r [],.c true,.r [],.r [(3,q0 [oI x12]),(7,q0 [oI x13])]] [0,8,9,10,17,18,19] [] (aJ c12 (Zao.snd c13) (Zao.snd c14)) (hc2 (w64 (h_9-1)) x12 x13 h4)
 ·exact an fol [.r [],.c false,.r [],.r []] [0,5,17,18,19] [] c12 (hc1 a_10 (w64 (v3+1)) h2)
theorem Zaz.p1_ok {t_0 out_2 places_1 v3 st r c1_ J1} (h:Zaz.p1 N t_0 places_1 c1_ (out_2,v3)=some r) (hE:En Tryz.f43 g0 w0 (Zaz.rs r) st R) (hc1 : ∀out_2 v3,c1_ (out_2,v3)=some r→At g0 w0 (Zaz.p1.S t_0 out_2 places_1 v3 st) J1):At g0 w0 (Zaz.p1.S t_0 out_2 places_1 v3 st) (XK Tryz.prog R (.c (csub Zaz.B [1,1,1,0,1,0,0]) :: .h J1 :: [.b 0,.c (csub Zaz.B [1,1,1,1])])):=by
 unfold Zaz.p1 at h
 refine iteB h (fun c4 h5=>?_) (fun c4 h6=>?_)
 ·obtain ⟨c5,h7⟩:=ZaY h5
  obtain ⟨x4,c6,h8⟩:=ZcC h7
  obtain ⟨x5,c7,h9⟩:=Zad h8
  obtain ⟨x6,c8,h10⟩:=Zad h9
  refine iteB h10 (fun c9 h11=>?_) (fun c9 h12=>?_)
  ·obtain rfl:=Zac h11
   exact af fol hE [.r [],.c true,.r [(1,{oe:=[L.int .i64 x4]})],.r [(2,q0 [oI x5]),(5,q0 [oI x6])],.r [],.c true,.r []] [] 0 [] (aN c4 c5 (oD c4) c6 (ZaH.snd c7) (ZaH.snd c8) c9)
  ·obtain ⟨x7,c10,h13⟩:=Zad h12
   obtain ⟨x8,c11,h14⟩:=Zad h13
   exact aq fol [.r [],.c true,.r [(1,{oe:=[L.int .i64 x4]})],.r [(2,q0 [oI x5]),(5,q0 [oI x6])],.r [],.c false,.r [(3,q0 [oI x7]),(7,q0 [oI x8])]] [0,8,9,10,17,18,19] [] (aO c4 c5 (oD c4) c6 (ZaH.snd c7) (ZaH.snd c8) c9 (aI (Zao.snd c10) (Zao.snd c11))) (At.loop N (At.loopN (fun y:Int×Int×Int=>Zaz.p2.S t_0 y.1 y.2.1 y.2.2 places_1 v3 st) (fun c J hc y h=>Zaz.p2_ok (h_9:=y.1) (a_10:=y.2.1) (b_11:=y.2.2) h hE hc1 (fun h_9 a_10 b_11=>hc (h_9,a_10,b_11))) N (if x6<x5 then x6 else x5,x7,x8) h14))
 ·obtain rfl:=Zac h6
  exact af fol hE [.r [],.c false,.r []] [] 0 [] c4
theorem Zaz.snd {t_0:Zae} {places_1:LL} {r:Int} (h:Zaz N t_0 places_1=some r):SndQ Tryz.prog 43 [.one (L.bx 2 t_0.ls),.one (L.sl 1 places_1)] (Zaz.rs r):=fun st=>
 sO Zaz.B Tryz.func43 fun g0 w0 R hE=>by
  unfold Zaz at h
  refine iteB h (fun c1 h15=>?_) (fun c1 h16=>?_)
  ·obtain rfl:=Zac h15
   exact af fol hE [.r [],.r [],.c true,.r []] [] 0 [] c1
  ·obtain ⟨c2,h17⟩:=ZaY h16
   obtain ⟨x1,c3,h18⟩:=ZcC h17
   exact aq fol [.r [],.r [],.c false,.r [(2,{oe:=[L.int .i64 x1]})],.r []] [0,5,17,18,19] [] (aK c1 (leI 0 0) c2 c3) (At.loop N (At.loopN (fun y:Int×Int=>Zaz.p1.S t_0 y.1 places_1 y.2 st) (fun c J hc y h=>Zaz.p1_ok (out_2:=y.1) (v3:=y.2) h hE (fun out_2 v3=>hc (out_2,v3))) N (x1,0) h18))
noncomputable def Zat.B:Code:=Tryz.f10.body.getD .skip
noncomputable def Zat.rs (r:Bool×LL):List CV:=[oB r.1]
noncomputable def Zat.p3 (N:Nat) (x_2 y_3:Int) (i11:Nat) (st7:LL):Option (Bool×LL):=
 getE (st7[i11]?) ZcG fun x26 x27=>
 optE x26 fun i28=>
 getE (st7[i28]?) ZbJ fun x29=>
 optE (ZaE N (Zae.mk x29 x27) x_2 y_3) fun x30=>
 if (!x30)=true then
  some (true,st7)
 else
 optE (Zaz N (Zae.mk x29 x27) [[L.int .i64 x_2],[L.int .i64 y_3]]) fun x31=>
 some (x31==x_2,st7)
noncomputable def Zat.p2 (N:Nat) (x_2 y_3 z_4:Int) (i11:Nat) (st7:LL):Option (Bool×LL):=
 getE (st7[i11]?) ZcG fun x19 x20=>
 optE x19 fun i21=>
 getE (st7[i21]?) ZbJ fun x22=>
 optE (ZaE N (Zae.mk x22 x20) x_2 y_3) fun x23=>
 if x23=true then
  optE (ZaE N (Zae.mk x22 x20) y_3 z_4) fun x24=>
  if x24=true then
   optE (ZaE N (Zae.mk x22 x20) x_2 z_4) fun x25=>
   if (!x25)=true then
    some (false,st7)
   else
   Zat.p3 N x_2 y_3 i11 st7
  else
  Zat.p3 N x_2 y_3 i11 st7
 else
 Zat.p3 N x_2 y_3 i11 st7
noncomputable def Zat.p1 (N:Nat) (x_2 y_3 z_4:Int) (x4:Option Nat) (there_10:Bool) (st7:LL):Option (Bool×LL):=
 optE x4 fun i11=>
 getE (st7[i11]?) ZcG fun x12 x13=>
 optE x12 fun i14=>
 getE (st7[i14]?) ZbJ fun x15=>
 optE (ZaE N (Zae.mk x15 x13) x_2 x_2) fun x16=>
 if (!(x16==there_10))=true then
  some (false,st7)
 else
 optE (ZaE N (Zae.mk x15 x13) x_2 y_3) fun x17=>
 if x17=true then
  optE (ZaE N (Zae.mk x15 x13) y_3 x_2) fun x18=>
  if x18=true then
   if (x_2 != y_3)=true then
    some (false,st7)
   else
   Zat.p2 N x_2 y_3 z_4 i11 st7
  else
  Zat.p2 N x_2 y_3 z_4 i11 st7
 else
 Zat.p2 N x_2 y_3 z_4 i11 st7
noncomputable def Zat (N:Nat) (p_0:Zaf) (list_1:LL) (x_2 y_3 z_4:Int) (st:LL):Option (Bool×LL):=
 optE (ZcE N st) fun (x1,st2)=>
 if (!x1)=true then
  some (false,st2)
 else
 optE (ZbF N p_0 list_1) fun x3=>
 if x3=true then
  some (true,st2)
 else
 optE (ZbE N p_0 list_1 st2) fun (x4,x5,x6,st7)=>
 optE x5 fun i8=>
 getE (st7[i8]?) Zcg fun x9=>
 if (decide (x_2≥0))=true then
  Zat.p1 N x_2 y_3 z_4 x4 (decide (x_2<(len x9.List_))) st7
 else
 Zat.p1 N x_2 y_3 z_4 x4 false st7
noncomputable def Zat.p3.S (x_2 y_3:Int) (i11:Nat) (st7:LL):S:=mkS 94 [(2,sI x_2),(3,sI y_3),(11,sP (some i11))] [] st7
noncomputable def Zat.p2.S (x_2 y_3 z_4:Int) (i11:Nat) (st7:LL):S:=mkS 94 [(2,sI x_2),(3,sI y_3),(4,sI z_4),(11,sP (some i11))] [] st7
noncomputable def Zat.p1.S (x_2 y_3 z_4:Int) (x4:Option Nat) (there_10:Bool) (st7:LL):S:=mkS 94 [(2,sI x_2),(3,sI y_3),(4,sI z_4),(11,sP x4),(15,.one (.l (L.bool there_10)))] [] st7
theorem Zat.p3_ok {x_2 y_3 i11 st7 r} (h:Zat.p3 N x_2 y_3 i11 st7=some r) (hE:En Tryz.f10 g0 w0 (Zat.rs r) r.2 R):At g0 w0 (Zat.p3.S x_2 y_3 i11 st7) (XK Tryz.prog R [.c (csub Zat.B [1,1,1,1,1,1,1,1])]):=by
 unfold Zat.p3 at h
 obtain ⟨x26,x27,c29,h1⟩:=Zcz h
 obtain ⟨i28,rfl,h2⟩:=Zad h1
 obtain ⟨x29,c31,h3⟩:=ZbD h2
 obtain ⟨x30,c32,h4⟩:=Zad h3
 refine iteB h4 (fun c33 h5=>?_) (fun c33 h6=>?_)
 ·obtain rfl:=Zac h5
  exact af fol hE [.r [(3,{rs:=[oB x30],m:=10,cv:=[.one (L.bx 2 (Zae.ls (Zae.mk x29 x27)))]}),(6,wF),(7,wF),(8,wF),(9,wF),(10,wF),(11,wF),(12,wF)]] [] 0 [] (aO (bO 2 c29 ((bC 87 c31 (Zas.bv x29) (bW bN)):BVs st7 [L.ptr (some i28),L.own true 1 x27] (Zae.ls (Zae.mk x29 x27)))) (ZaE.snd c32) (not_false (ZbG c33)) (not_false (ZbG c33)) (not_false (ZbG c33)) (not_false (ZbG c33)) (not_false (ZbG c33)) (aJ (not_false (ZbG c33)) (not_false (ZbG c33)) (not_false (ZbG c33))))
 ·obtain ⟨x31,c34,h7⟩:=Zad h6
  obtain rfl:=Zac h7
  exact af fol hE [.r [(3,{rs:=[oB x30],m:=10,cv:=[.one (L.bx 2 (Zae.ls (Zae.mk x29 x27)))]}),(10,{rs:=[oI x31],m:=10,cv:=[.one (L.bx 2 (Zae.ls (Zae.mk x29 x27)))]}),(13,yF)]] [] 0 [] (aO (bO 2 c29 ((bC 87 c31 (Zas.bv x29) (bW bN)):BVs st7 [L.ptr (some i28),L.own true 1 x27] (Zae.ls (Zae.mk x29 x27)))) (ZaE.snd c32) (not_true (ZaF c33)) (not_true (ZaF c33)) (not_true (ZaF c33)) (not_true (ZaF c33)) (not_true (ZaF c33)) (aN (bO 2 c29 ((bC 87 c31 (Zas.bv x29) (bW bN)):BVs st7 [L.ptr (some i28),L.own true 1 x27] (Zae.ls (Zae.mk x29 x27)))) z0 (eN (2)) (Zaz.snd c34) (not_true (ZaF c33)) (not_true (ZaF c33)) (not_true (ZaF c33))))
theorem Zat.p2_ok {x_2 y_3 z_4 i11 st7 r} (h:Zat.p2 N x_2 y_3 z_4 i11 st7=some r) (hE:En Tryz.f10 g0 w0 (Zat.rs r) r.2 R):At g0 w0 (Zat.p2.S x_2 y_3 z_4 i11 st7) (XK Tryz.prog R [.c (csub Zat.B [1,1,1,1,1,1,1])]):=by
 unfold Zat.p2 at h
 obtain ⟨x19,x20,c20,h8⟩:=Zcz h
 obtain ⟨i21,rfl,h9⟩:=Zad h8
 obtain ⟨x22,c22,h10⟩:=ZbD h9
 obtain ⟨x23,c23,h11⟩:=Zad h10
 refine iteB h11 (fun c24 h12=>?_) (fun c24 h13=>?_)
 ·obtain ⟨x24,c25,h14⟩:=Zad h12
  refine iteB h14 (fun c26 h15=>?_) (fun c26 h16=>?_)
  ·obtain ⟨x25,c27,h17⟩:=Zad h15
   refine iteB h17 (fun c28 h18=>?_) (fun c28 h19=>?_)
   ·obtain rfl:=Zac h18
    exact af fol hE [.r [(3,{rs:=[oB x23],m:=10,cv:=[.one (L.bx 2 (Zae.ls (Zae.mk x22 x20)))]}),(8,{rs:=[oB x24],m:=10,cv:=[.one (L.bx 2 (Zae.ls (Zae.mk x22 x20)))]}),(14,{rs:=[oB x25],m:=10,cv:=[.one (L.bx 2 (Zae.ls (Zae.mk x22 x20)))]})],.c true,.r []] [] 0 [] (aO (bO 2 c20 ((bC 87 c22 (Zas.bv x22) (bW bN)):BVs st7 [L.ptr (some i21),L.own true 1 x20] (Zae.ls (Zae.mk x22 x20)))) (ZaE.snd c23) c24 c24 c24 c24 (bO 2 c20 ((bC 87 c22 (Zas.bv x22) (bW bN)):BVs st7 [L.ptr (some i21),L.own true 1 x20] (Zae.ls (Zae.mk x22 x20)))) (aO (ZaE.snd c25) c24 c26 c26 c26 c26 (bO 2 c20 ((bC 87 c22 (Zas.bv x22) (bW bN)):BVs st7 [L.ptr (some i21),L.own true 1 x20] (Zae.ls (Zae.mk x22 x20)))) (aK (ZaE.snd c27) c26 c26 c28)))
   ·exact aq fol [.r [(3,{rs:=[oB x23],m:=10,cv:=[.one (L.bx 2 (Zae.ls (Zae.mk x22 x20)))]}),(8,{rs:=[oB x24],m:=10,cv:=[.one (L.bx 2 (Zae.ls (Zae.mk x22 x20)))]}),(14,{rs:=[oB x25],m:=10,cv:=[.one (L.bx 2 (Zae.ls (Zae.mk x22 x20)))]})],.c false,.s 1] [2,3,11] [] (aO (bO 2 c20 ((bC 87 c22 (Zas.bv x22) (bW bN)):BVs st7 [L.ptr (some i21),L.own true 1 x20] (Zae.ls (Zae.mk x22 x20)))) (ZaE.snd c23) c24 c24 c24 c24 (bO 2 c20 ((bC 87 c22 (Zas.bv x22) (bW bN)):BVs st7 [L.ptr (some i21),L.own true 1 x20] (Zae.ls (Zae.mk x22 x20)))) (aO (ZaE.snd c25) c24 c26 c26 c26 c26 (bO 2 c20 ((bC 87 c22 (Zas.bv x22) (bW bN)):BVs st7 [L.ptr (some i21),L.own true 1 x20] (Zae.ls (Zae.mk x22 x20)))) (aK (ZaE.snd c27) c26 c26 c28))) (Zat.p3_ok h19 hE)
  ·exact aq fol [.r [(3,{rs:=[oB x23],m:=10,cv:=[.one (L.bx 2 (Zae.ls (Zae.mk x22 x20)))]}),(8,{rs:=[oB x24],m:=10,cv:=[.one (L.bx 2 (Zae.ls (Zae.mk x22 x20)))]}),(11,wF),(12,wF),(13,wF),(14,wF),(15,wF),(16,yF)],.c false,.s 1] [2,3,11] [] (aO (bO 2 c20 ((bC 87 c22 (Zas.bv x22) (bW bN)):BVs st7 [L.ptr (some i21),L.own true 1 x20] (Zae.ls (Zae.mk x22 x20)))) (ZaE.snd c23) c24 c24 c24 c24 (bO 2 c20 ((bC 87 c22 (Zas.bv x22) (bW bN)):BVs st7 [L.ptr (some i21),L.own true 1 x20] (Zae.ls (Zae.mk x22 x20)))) (aO (ZaE.snd c25) c24 c26 c26 c26 c26 c26 (aI c26 eF))) (Zat.p3_ok h16 hE)
 ·exact aq fol [.r [(3,{rs:=[oB x23],m:=10,cv:=[.one (L.bx 2 (Zae.ls (Zae.mk x22 x20)))]}),(5,wF),(6,wF),(7,wF),(8,wF),(9,yF),(11,wF),(12,wF),(13,wF),(14,wF),(15,wF),(16,yF)],.c false,.s 1] [2,3,11] [] (aO (bO 2 c20 ((bC 87 c22 (Zas.bv x22) (bW bN)):BVs st7 [L.ptr (some i21),L.own true 1 x20] (Zae.ls (Zae.mk x22 x20)))) (ZaE.snd c23) c24 c24 c24 c24 c24 (aN eF eF eF eF eF eF eF)) (Zat.p3_ok h13 hE)
theorem Zat.p1_ok {x_2 y_3 z_4 x4 there_10 st7 r} (h:Zat.p1 N x_2 y_3 z_4 x4 there_10 st7=some r) (hE:En Tryz.f10 g0 w0 (Zat.rs r) r.2 R):At g0 w0 (Zat.p1.S x_2 y_3 z_4 x4 there_10 st7) (XK Tryz.prog R [.c (csub Zat.B [1,1,1,1,1,1])]):=by
 unfold Zat.p1 at h
 obtain ⟨i11,rfl,h20⟩:=Zad h
 obtain ⟨x12,x13,c10,h21⟩:=Zcz h20
 obtain ⟨i14,rfl,h22⟩:=Zad h21
 obtain ⟨x15,c12,h23⟩:=ZbD h22
 obtain ⟨x16,c13,h24⟩:=Zad h23
 refine iteB h24 (fun c14 h25=>?_) (fun c14 h26=>?_)
 ·obtain rfl:=Zac h25
  exact af fol hE [.r [(3,{rs:=[oB x16],m:=10,cv:=[.one (L.bx 2 (Zae.ls (Zae.mk x15 x13)))]}),(7,wF),(8,wF),(9,wF),(10,wF),(11,wF),(16,wF),(17,wF),(21,wF)],.c true,.r []] [] 0 [] (aO (bO 2 c10 ((bC 87 c12 (Zas.bv x15) (bW bN)):BVs st7 [L.ptr (some i14),L.own true 1 x13] (Zae.ls (Zae.mk x15 x13)))) (ZaE.snd c13) c14 c14 c14 c14 c14 (aL c14 c14 c14 c14 eT))
 ·obtain ⟨x17,c15,h27⟩:=Zad h26
  refine iteB h27 (fun c16 h28=>?_) (fun c16 h29=>?_)
  ·obtain ⟨x18,c17,h30⟩:=Zad h28
   refine iteB h30 (fun c18 h31=>?_) (fun c18 h32=>?_)
   ·refine iteB h31 (fun c19 h33=>?_) (fun c19 h34=>?_)
    ·obtain rfl:=Zac h33
     exact af fol hE [.r [(3,{rs:=[oB x16],m:=10,cv:=[.one (L.bx 2 (Zae.ls (Zae.mk x15 x13)))]}),(10,{rs:=[oB x17],m:=10,cv:=[.one (L.bx 2 (Zae.ls (Zae.mk x15 x13)))]}),(15,{rs:=[oB x18],m:=10,cv:=[.one (L.bx 2 (Zae.ls (Zae.mk x15 x13)))]}),(22,yF)],.c true,.r []] [] 0 [] (aO (bO 2 c10 ((bC 87 c12 (Zas.bv x15) (bW bN)):BVs st7 [L.ptr (some i14),L.own true 1 x13] (Zae.ls (Zae.mk x15 x13)))) (ZaE.snd c13) c14 c14 c14 c14 (bO 2 c10 ((bC 87 c12 (Zas.bv x15) (bW bN)):BVs st7 [L.ptr (some i14),L.own true 1 x13] (Zae.ls (Zae.mk x15 x13)))) (aO (ZaE.snd c15) c14 c16 c16 c16 c16 (bO 2 c10 ((bC 87 c12 (Zas.bv x15) (bW bN)):BVs st7 [L.ptr (some i14),L.own true 1 x13] (Zae.ls (Zae.mk x15 x13)))) (aO (ZaE.snd c17) c14 c16 c14 c18 c18 c18 (aK c14 c18 c14 c19))))
    ·exact aq fol [.r [(3,{rs:=[oB x16],m:=10,cv:=[.one (L.bx 2 (Zae.ls (Zae.mk x15 x13)))]}),(10,{rs:=[oB x17],m:=10,cv:=[.one (L.bx 2 (Zae.ls (Zae.mk x15 x13)))]}),(15,{rs:=[oB x18],m:=10,cv:=[.one (L.bx 2 (Zae.ls (Zae.mk x15 x13)))]}),(22,yF)],.c false,.s 1] [2,3,4,11] [] (aO (bO 2 c10 ((bC 87 c12 (Zas.bv x15) (bW bN)):BVs st7 [L.ptr (some i14),L.own true 1 x13] (Zae.ls (Zae.mk x15 x13)))) (ZaE.snd c13) c14 c14 c14 c14 (bO 2 c10 ((bC 87 c12 (Zas.bv x15) (bW bN)):BVs st7 [L.ptr (some i14),L.own true 1 x13] (Zae.ls (Zae.mk x15 x13)))) (aO (ZaE.snd c15) c14 c16 c16 c16 c16 (bO 2 c10 ((bC 87 c12 (Zas.bv x15) (bW bN)):BVs st7 [L.ptr (some i14),L.own true 1 x13] (Zae.ls (Zae.mk x15 x13)))) (aO (ZaE.snd c17) c14 c16 c14 c18 c18 c18 (aK c14 c18 c14 c19)))) (Zat.p2_ok h34 hE)
   ·exact aq fol [.r [(3,{rs:=[oB x16],m:=10,cv:=[.one (L.bx 2 (Zae.ls (Zae.mk x15 x13)))]}),(10,{rs:=[oB x17],m:=10,cv:=[.one (L.bx 2 (Zae.ls (Zae.mk x15 x13)))]}),(15,{rs:=[oB x18],m:=10,cv:=[.one (L.bx 2 (Zae.ls (Zae.mk x15 x13)))]}),(18,wF),(19,wF),(20,wF),(21,yF),(22,yF)],.c false,.s 1] [2,3,4,11] [] (aO (bO 2 c10 ((bC 87 c12 (Zas.bv x15) (bW bN)):BVs st7 [L.ptr (some i14),L.own true 1 x13] (Zae.ls (Zae.mk x15 x13)))) (ZaE.snd c13) c14 c14 c14 c14 (bO 2 c10 ((bC 87 c12 (Zas.bv x15) (bW bN)):BVs st7 [L.ptr (some i14),L.own true 1 x13] (Zae.ls (Zae.mk x15 x13)))) (aO (ZaE.snd c15) c14 c16 c16 c16 c16 (bO 2 c10 ((bC 87 c12 (Zas.bv x15) (bW bN)):BVs st7 [L.ptr (some i14),L.own true 1 x13] (Zae.ls (Zae.mk x15 x13)))) (aO (ZaE.snd c17) c14 c16 c14 c18 c18 c18 (aK c14 c18 c14 eF)))) (Zat.p2_ok h32 hE)
  ·exact aq fol [.r [(3,{rs:=[oB x16],m:=10,cv:=[.one (L.bx 2 (Zae.ls (Zae.mk x15 x13)))]}),(10,{rs:=[oB x17],m:=10,cv:=[.one (L.bx 2 (Zae.ls (Zae.mk x15 x13)))]}),(12,wF),(13,wF),(14,wF),(15,wF),(16,yF),(18,wF),(19,wF),(20,wF),(21,yF),(22,yF)],.c false,.s 1] [2,3,4,11] [] (aO (bO 2 c10 ((bC 87 c12 (Zas.bv x15) (bW bN)):BVs st7 [L.ptr (some i14),L.own true 1 x13] (Zae.ls (Zae.mk x15 x13)))) (ZaE.snd c13) c14 c14 c14 c14 (bO 2 c10 ((bC 87 c12 (Zas.bv x15) (bW bN)):BVs st7 [L.ptr (some i14),L.own true 1 x13] (Zae.ls (Zae.mk x15 x13)))) (aO (ZaE.snd c15) c14 c16 c16 c16 c16 c14 (aO c16 c14 eF eF eF c14 eF (aI c14 eF)))) (Zat.p2_ok h29 hE)
theorem Zat.snd {p_0:Zaf} {list_1:LL} {x_2 y_3 z_4:Int} {st:LL} {r:Bool×LL} (h:Zat N p_0 list_1 x_2 y_3 z_4 st=some r):Snd Tryz.prog 10 [.agg p_0.ls,.one (L.sl 69 list_1),oI x_2,oI y_3,oI z_4] st (Zat.rs r) r.2:=
 sO Zat.B Tryz.func10 fun g0 w0 R hE=>by
  unfold Zat at h
  obtain ⟨⟨x1,st2⟩,c1,h35⟩:=Zad h
  refine iteB h35 (fun c2 h36=>?_) (fun c2 h37=>?_)
  ·obtain rfl:=Zac h36
   exact af fol hE [.r [],.r [(0,{rs:=[oB x1],st:=st2})],.c true,.r []] [] 0 [] (aI (ZcE.snd c1) c2)
  ·obtain ⟨x3,c3,h38⟩:=Zad h37
   refine iteB h38 (fun c4 h39=>?_) (fun c4 h40=>?_)
   ·obtain rfl:=Zac h39
    exact af fol hE [.r [],.r [(0,{rs:=[oB x1],st:=st2})],.c false,.r [(2,q1 [oB x3])],.c true,.r []] [] 0 [] (aK (ZcE.snd c1) c2 (ZbF.snd c3) c4)
   ·obtain ⟨⟨x4,x5,x6,st7⟩,c5,h41⟩:=Zad h40
    obtain ⟨i8,rfl,h42⟩:=Zad h41
    obtain ⟨x9,c7,h43⟩:=ZcD h42
    refine iteB h43 (fun c8 h44=>?_) (fun c8 h45=>?_)
    ·exact aq fol [.r [],.r [(0,{rs:=[oB x1],st:=st2})],.c false,.r [(2,q1 [oB x3])],.c false,.r [(2,{rs:=[.one (L.ptr x4),.one (L.ptr (some i8)),oB x6],st:=st7})],.r [(3,{oc:=x9.lo})],.r [],.s 1] [2,3,4,11,15] [] (aO (ZcE.snd c1) c2 (ZbF.snd c3) c4 (ZbE.snd c5) c7 c8 (aJ c8 c8 c8)) (Zat.p1_ok h44 hE)
    ·exact aq fol [.r [],.r [(0,{rs:=[oB x1],st:=st2})],.c false,.r [(2,q1 [oB x3])],.c false,.r [(2,{rs:=[.one (L.ptr x4),.one (L.ptr (some i8)),oB x6],st:=st7})],.r [(3,{oc:=x9.lo})],.r [(3,wF),(4,wF),(5,wF),(6,yF)],.s 1] [2,3,4,11,15] [] (aO (ZcE.snd c1) c2 (ZbF.snd c3) c4 (ZbE.snd c5) c7 c8 (aJ c8 c8 c8)) (Zat.p1_ok h45 hE)
end Go.Dn.F
