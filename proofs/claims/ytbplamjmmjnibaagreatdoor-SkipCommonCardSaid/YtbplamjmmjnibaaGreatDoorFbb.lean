/- Contracts of functions of the program, as shallow functions, and their proofs. -/
import Derived.Test.YtbplamjmmjnibaaGreatDoorFba
set_option linter.all false
set_option maxRecDepth 100000
namespace Go.Dn.F
open Go.Proofs
variable {N:Nat} {g0:G} {w0:World} {R:Exit→Act→World→Prop}
noncomputable def Zah.B:Code:=Tryz.f135.body.getD .skip
noncomputable def Zah.rs (r:Int×Int):List CV:=[.one (L.int .u64 r.1),.one (L.int .u64 r.2)]
noncomputable def Zah.p6 (N:Nat) (y_2 x1 lo_1 q1_4 hi_0 q0_7:Int):Option (Int×Int):=
 chk (0≤(v64 (x1)))<|
 some (v64 ((v64 (q1_4*4294967296))+q0_7),shrOf .u64 (v64 ((v64 ((v64 ((v64 ((v64 ((v64 ((bitsOf .or .u64 (shlOf .u64 hi_0 (v64 (x1))) (shrOf .u64 lo_1 (v64 (64-(v64 (x1))))))*4294967296))+(shrOf .u64 (shlOf .u64 lo_1 (v64 (x1))) 32)))-(v64 (q1_4*(shlOf .u64 y_2 (v64 (x1)))))))*4294967296))+(bitsOf .and .u64 (shlOf .u64 lo_1 (v64 (x1))) 4294967295)))-(v64 (q0_7*(shlOf .u64 y_2 (v64 (x1))))))) (v64 (x1)))
noncomputable def Zah.p5 (N:Nat) (c4_:(Int×Int)→Option (Int×Int)) (y_2 x1 lo_1 q1_4 rhat_5 hi_0 q0_6:Int):Option (Int×Int):=
 if (decide ((v64 (rhat_5+(shrOf .u64 (shlOf .u64 y_2 (v64 (x1))) 32)))≥4294967296))=true then
  Zah.p6 N y_2 x1 lo_1 q1_4 hi_0 (v64 (q0_6-1))
 else
 c4_ (v64 (rhat_5+(shrOf .u64 (shlOf .u64 y_2 (v64 (x1))) 32)),v64 (q0_6-1))
noncomputable def Zah.p4 (N:Nat) (y_2 x1 lo_1 q1_4 hi_0:Int) (c4_:(Int×Int)→Option (Int×Int)):(Int×Int)→Option (Int×Int):=fun (rhat_5,q0_6)=>
 if (decide (q0_6≥4294967296))=true then
  Zah.p5 N c4_ y_2 x1 lo_1 q1_4 rhat_5 hi_0 q0_6
 else
 if (decide ((v64 (q0_6*(bitsOf .and .u64 (shlOf .u64 y_2 (v64 (x1))) 4294967295)))>(v64 ((v64 (4294967296*rhat_5))+(bitsOf .and .u64 (shlOf .u64 lo_1 (v64 (x1))) 4294967295)))))=true then
  Zah.p5 N c4_ y_2 x1 lo_1 q1_4 rhat_5 hi_0 q0_6
 else
 Zah.p6 N y_2 x1 lo_1 q1_4 hi_0 q0_6
noncomputable def Zah.p3 (N:Nat) (y_2 x1 hi_0 lo_1 q1_4:Int):Option (Int×Int):=
 chk ((shrOf .u64 (shlOf .u64 y_2 (v64 (x1))) 32)≠0)<|
 loopN (Zah.p4 N y_2 x1 lo_1 q1_4 hi_0) N (v64 ((v64 ((v64 ((v64 ((bitsOf .or .u64 (shlOf .u64 hi_0 (v64 (x1))) (shrOf .u64 lo_1 (v64 (64-(v64 (x1))))))*4294967296))+(shrOf .u64 (shlOf .u64 lo_1 (v64 (x1))) 32)))-(v64 (q1_4*(shlOf .u64 y_2 (v64 (x1)))))))-(v64 ((v64 (Int.tdiv (v64 ((v64 ((v64 ((bitsOf .or .u64 (shlOf .u64 hi_0 (v64 (x1))) (shrOf .u64 lo_1 (v64 (64-(v64 (x1))))))*4294967296))+(shrOf .u64 (shlOf .u64 lo_1 (v64 (x1))) 32)))-(v64 (q1_4*(shlOf .u64 y_2 (v64 (x1))))))) (shrOf .u64 (shlOf .u64 y_2 (v64 (x1))) 32)))*(shrOf .u64 (shlOf .u64 y_2 (v64 (x1))) 32)))),v64 (Int.tdiv (v64 ((v64 ((v64 ((bitsOf .or .u64 (shlOf .u64 hi_0 (v64 (x1))) (shrOf .u64 lo_1 (v64 (64-(v64 (x1))))))*4294967296))+(shrOf .u64 (shlOf .u64 lo_1 (v64 (x1))) 32)))-(v64 (q1_4*(shlOf .u64 y_2 (v64 (x1))))))) (shrOf .u64 (shlOf .u64 y_2 (v64 (x1))) 32)))
noncomputable def Zah.p2 (N:Nat) (c1_:(Int×Int)→Option (Int×Int)) (y_2 x1 hi_0 lo_1 q1_2 rhat_3:Int):Option (Int×Int):=
 if (decide ((v64 (rhat_3+(shrOf .u64 (shlOf .u64 y_2 (v64 (x1))) 32)))≥4294967296))=true then
  Zah.p3 N y_2 x1 hi_0 lo_1 (v64 (q1_2-1))
 else
 c1_ (v64 (q1_2-1),v64 (rhat_3+(shrOf .u64 (shlOf .u64 y_2 (v64 (x1))) 32)))
noncomputable def Zah.p1 (N:Nat) (y_2 x1 hi_0 lo_1:Int) (c1_:(Int×Int)→Option (Int×Int)):(Int×Int)→Option (Int×Int):=fun (q1_2,rhat_3)=>
 if (decide (q1_2≥4294967296))=true then
  Zah.p2 N c1_ y_2 x1 hi_0 lo_1 q1_2 rhat_3
 else
 if (decide ((v64 (q1_2*(bitsOf .and .u64 (shlOf .u64 y_2 (v64 (x1))) 4294967295)))>(v64 ((v64 (4294967296*rhat_3))+(shrOf .u64 (shlOf .u64 lo_1 (v64 (x1))) 32)))))=true then
  Zah.p2 N c1_ y_2 x1 hi_0 lo_1 q1_2 rhat_3
 else
 Zah.p3 N y_2 x1 hi_0 lo_1 q1_2
noncomputable def Zah (N:Nat) (hi_0 lo_1 y_2:Int):Option (Int×Int):=
 if (y_2==0)=true then
  none
 else
 if (decide (y_2≤hi_0))=true then
  none
 else
 if (hi_0==0)=true then
  chk (y_2≠0)<|
  some (v64 (Int.tdiv lo_1 y_2),Int.tmod lo_1 y_2)
 else
 optE (ZbD N y_2) fun x1=>
 chk (0≤(v64 (x1)))<|
 chk (0≤(v64 (64-(v64 (x1)))))<|
 chk ((shrOf .u64 (shlOf .u64 y_2 (v64 (x1))) 32)≠0)<|
 loopN (Zah.p1 N y_2 x1 hi_0 lo_1) N (v64 (Int.tdiv (bitsOf .or .u64 (shlOf .u64 hi_0 (v64 (x1))) (shrOf .u64 lo_1 (v64 (64-(v64 (x1)))))) (shrOf .u64 (shlOf .u64 y_2 (v64 (x1))) 32)),v64 ((bitsOf .or .u64 (shlOf .u64 hi_0 (v64 (x1))) (shrOf .u64 lo_1 (v64 (64-(v64 (x1))))))-(v64 ((v64 (Int.tdiv (bitsOf .or .u64 (shlOf .u64 hi_0 (v64 (x1))) (shrOf .u64 lo_1 (v64 (64-(v64 (x1)))))) (shrOf .u64 (shlOf .u64 y_2 (v64 (x1))) 32)))*(shrOf .u64 (shlOf .u64 y_2 (v64 (x1))) 32)))))
noncomputable def Zah.p6.S (y_2 x1 lo_1 q1_4 hi_0 q0_7:Int) (st:LL):S:=mkS 135 [(2,.one (.l (L.int .u64 (shlOf .u64 y_2 (v64 (x1)))))),(8,.one (.l (L.int .u64 (v64 (x1))))),(14,.one (.l (L.int .u64 (bitsOf .and .u64 (shlOf .u64 lo_1 (v64 (x1))) 4294967295)))),(15,.one (.l (L.int .u64 q1_4))),(17,.one (.l (L.int .u64 (v64 ((v64 ((v64 ((bitsOf .or .u64 (shlOf .u64 hi_0 (v64 (x1))) (shrOf .u64 lo_1 (v64 (64-(v64 (x1))))))*4294967296))+(shrOf .u64 (shlOf .u64 lo_1 (v64 (x1))) 32)))-(v64 (q1_4*(shlOf .u64 y_2 (v64 (x1)))))))))),(18,.one (.l (L.int .u64 q0_7)))] [] st
noncomputable def Zah.p5.S (y_2 x1 lo_1 q1_4 rhat_5 hi_0 q0_6:Int) (st:LL):S:=mkS 135 [(2,.one (.l (L.int .u64 (shlOf .u64 y_2 (v64 (x1)))))),(8,.one (.l (L.int .u64 (v64 (x1))))),(9,.one (.l (L.int .u64 (shrOf .u64 (shlOf .u64 y_2 (v64 (x1))) 32)))),(10,.one (.l (L.int .u64 (bitsOf .and .u64 (shlOf .u64 y_2 (v64 (x1))) 4294967295)))),(14,.one (.l (L.int .u64 (bitsOf .and .u64 (shlOf .u64 lo_1 (v64 (x1))) 4294967295)))),(15,.one (.l (L.int .u64 q1_4))),(16,.one (.l (L.int .u64 rhat_5))),(17,.one (.l (L.int .u64 (v64 ((v64 ((v64 ((bitsOf .or .u64 (shlOf .u64 hi_0 (v64 (x1))) (shrOf .u64 lo_1 (v64 (64-(v64 (x1))))))*4294967296))+(shrOf .u64 (shlOf .u64 lo_1 (v64 (x1))) 32)))-(v64 (q1_4*(shlOf .u64 y_2 (v64 (x1)))))))))),(18,.one (.l (L.int .u64 q0_6)))] [] st
noncomputable def Zah.p4.S (y_2 x1 lo_1 q1_4 rhat_5 hi_0 q0_6:Int) (st:LL):S:=mkS 135 [(2,.one (.l (L.int .u64 (shlOf .u64 y_2 (v64 (x1)))))),(8,.one (.l (L.int .u64 (v64 (x1))))),(9,.one (.l (L.int .u64 (shrOf .u64 (shlOf .u64 y_2 (v64 (x1))) 32)))),(10,.one (.l (L.int .u64 (bitsOf .and .u64 (shlOf .u64 y_2 (v64 (x1))) 4294967295)))),(14,.one (.l (L.int .u64 (bitsOf .and .u64 (shlOf .u64 lo_1 (v64 (x1))) 4294967295)))),(15,.one (.l (L.int .u64 q1_4))),(16,.one (.l (L.int .u64 rhat_5))),(17,.one (.l (L.int .u64 (v64 ((v64 ((v64 ((bitsOf .or .u64 (shlOf .u64 hi_0 (v64 (x1))) (shrOf .u64 lo_1 (v64 (64-(v64 (x1))))))*4294967296))+(shrOf .u64 (shlOf .u64 lo_1 (v64 (x1))) 32)))-(v64 (q1_4*(shlOf .u64 y_2 (v64 (x1)))))))))),(18,.one (.l (L.int .u64 q0_6)))] [] st
noncomputable def Zah.p3.S (y_2 x1 hi_0 lo_1 q1_4:Int) (st:LL):S:=mkS 135 [(2,.one (.l (L.int .u64 (shlOf .u64 y_2 (v64 (x1)))))),(8,.one (.l (L.int .u64 (v64 (x1))))),(9,.one (.l (L.int .u64 (shrOf .u64 (shlOf .u64 y_2 (v64 (x1))) 32)))),(10,.one (.l (L.int .u64 (bitsOf .and .u64 (shlOf .u64 y_2 (v64 (x1))) 4294967295)))),(11,.one (.l (L.int .u64 (bitsOf .or .u64 (shlOf .u64 hi_0 (v64 (x1))) (shrOf .u64 lo_1 (v64 (64-(v64 (x1))))))))),(13,.one (.l (L.int .u64 (shrOf .u64 (shlOf .u64 lo_1 (v64 (x1))) 32)))),(14,.one (.l (L.int .u64 (bitsOf .and .u64 (shlOf .u64 lo_1 (v64 (x1))) 4294967295)))),(15,.one (.l (L.int .u64 q1_4)))] [] st
noncomputable def Zah.p2.S (y_2 x1 hi_0 lo_1 q1_2 rhat_3:Int) (st:LL):S:=mkS 135 [(2,.one (.l (L.int .u64 (shlOf .u64 y_2 (v64 (x1)))))),(8,.one (.l (L.int .u64 (v64 (x1))))),(9,.one (.l (L.int .u64 (shrOf .u64 (shlOf .u64 y_2 (v64 (x1))) 32)))),(10,.one (.l (L.int .u64 (bitsOf .and .u64 (shlOf .u64 y_2 (v64 (x1))) 4294967295)))),(11,.one (.l (L.int .u64 (bitsOf .or .u64 (shlOf .u64 hi_0 (v64 (x1))) (shrOf .u64 lo_1 (v64 (64-(v64 (x1))))))))),(13,.one (.l (L.int .u64 (shrOf .u64 (shlOf .u64 lo_1 (v64 (x1))) 32)))),(14,.one (.l (L.int .u64 (bitsOf .and .u64 (shlOf .u64 lo_1 (v64 (x1))) 4294967295)))),(15,.one (.l (L.int .u64 q1_2))),(16,.one (.l (L.int .u64 rhat_3)))] [] st
noncomputable def Zah.p1.S (y_2 x1 hi_0 lo_1 q1_2 rhat_3:Int) (st:LL):S:=mkS 135 [(2,.one (.l (L.int .u64 (shlOf .u64 y_2 (v64 (x1)))))),(8,.one (.l (L.int .u64 (v64 (x1))))),(9,.one (.l (L.int .u64 (shrOf .u64 (shlOf .u64 y_2 (v64 (x1))) 32)))),(10,.one (.l (L.int .u64 (bitsOf .and .u64 (shlOf .u64 y_2 (v64 (x1))) 4294967295)))),(11,.one (.l (L.int .u64 (bitsOf .or .u64 (shlOf .u64 hi_0 (v64 (x1))) (shrOf .u64 lo_1 (v64 (64-(v64 (x1))))))))),(13,.one (.l (L.int .u64 (shrOf .u64 (shlOf .u64 lo_1 (v64 (x1))) 32)))),(14,.one (.l (L.int .u64 (bitsOf .and .u64 (shlOf .u64 lo_1 (v64 (x1))) 4294967295)))),(15,.one (.l (L.int .u64 q1_2))),(16,.one (.l (L.int .u64 rhat_3)))] [] st
theorem Zah.p6_ok {y_2 x1 lo_1 q1_4 hi_0 q0_7 st r} (h:Zah.p6 N y_2 x1 lo_1 q1_4 hi_0 q0_7=some r) (hE:En Tryz.f135 g0 w0 (Zah.rs r) st R):At g0 w0 (Zah.p6.S y_2 x1 lo_1 q1_4 hi_0 q0_7 st) (XK Tryz.prog R [.c (csub Zah.B [1,1,1,1,1,1,1,1,1,1,1,1,1,1,1,1,1,1,1])]):=by
 unfold Zah.p6 at h
 obtain ⟨c16,h1⟩:=ZaX h
 obtain rfl:=Zac h1
 exact af fol hE [.r []] [] 0 [] c16
theorem Zah.p5_ok {y_2 x1 lo_1 q1_4 rhat_5 hi_0 q0_6 st r c4_ J4} (h:Zah.p5 N c4_ y_2 x1 lo_1 q1_4 rhat_5 hi_0 q0_6=some r) (hE:En Tryz.f135 g0 w0 (Zah.rs r) st R) (hc4 : ∀rhat_5 q0_6,c4_ (rhat_5,q0_6)=some r→At g0 w0 (Zah.p4.S y_2 x1 lo_1 q1_4 rhat_5 hi_0 q0_6 st) J4):At g0 w0 (Zah.p5.S y_2 x1 lo_1 q1_4 rhat_5 hi_0 q0_6 st) (XK Tryz.prog R [.c (csub Zah.B [1,1,1,1,1,1,1,1,1,1,1,1,1,1,1,1,1,1,0,0,0,1]),.h J4,.b 2,.c (csub Zah.B [1,1,1,1,1,1,1,1,1,1,1,1,1,1,1,1,1,1,1])]):=by
 unfold Zah.p5 at h
 refine iteB h (fun c15 h2=>?_) (fun c15 h3=>?_)
 ·exact aq fol [.r [],.r [],.r [],.c true,.s 1] [2,8,14,15,17,18] [] c15 (Zah.p6_ok h2 hE)
 ·exact an fol [.r [],.r [],.r [],.c false] [2,8,9,10,14,15,16,17,18] [] c15 (hc4 (v64 (rhat_5+(shrOf .u64 (shlOf .u64 y_2 (v64 (x1))) 32))) (v64 (q0_6-1)) h3)
theorem Zah.p4_ok {y_2 x1 lo_1 q1_4 rhat_5 hi_0 q0_6 st r c4_ J4} (h:Zah.p4 N y_2 x1 lo_1 q1_4 hi_0 c4_ (rhat_5,q0_6)=some r) (hE:En Tryz.f135 g0 w0 (Zah.rs r) st R) (hc4 : ∀rhat_5 q0_6,c4_ (rhat_5,q0_6)=some r→At g0 w0 (Zah.p4.S y_2 x1 lo_1 q1_4 rhat_5 hi_0 q0_6 st) J4):At g0 w0 (Zah.p4.S y_2 x1 lo_1 q1_4 rhat_5 hi_0 q0_6 st) (XK Tryz.prog R (.c (csub Zah.B [1,1,1,1,1,1,1,1,1,1,1,1,1,1,1,1,1,1,0,0,0]) :: .h J4 :: [.b 2,.c (csub Zah.B [1,1,1,1,1,1,1,1,1,1,1,1,1,1,1,1,1,1,1])])):=by
 unfold Zah.p4 at h
 refine iteB h (fun c13 h4=>?_) (fun c13 h5=>?_)
 ·exact aq fol [.r [(3,wF),(4,wF),(5,wF),(6,wF),(7,wF),(8,wF),(9,wF),(10,wF)],.c true,.s 4] [2,8,9,10,14,15,16,17,18] [] (aO c13 c13 c13 c13 c13 c13 c13 (aJ c13 c13 eT)) (Zah.p5_ok h4 hE hc4)
 ·refine iteB h5 (fun c14 h6=>?_) (fun c14 h7=>?_)
  ·exact aq fol [.r [(11,yF)],.c true,.s 4] [2,8,9,10,14,15,16,17,18] [] (aO c13 c13 c13 c13 c13 c13 c13 (aJ c13 c13 c14)) (Zah.p5_ok h6 hE hc4)
  ·exact aq fol [.r [(11,yF)],.c false,.s 1] [2,8,14,15,17,18] [] (aO c13 c13 c13 c13 c13 c13 c13 (aJ c13 c13 c14)) (Zah.p6_ok h7 hE)
theorem Zah.p3_ok {y_2 x1 hi_0 lo_1 q1_4 st r} (h:Zah.p3 N y_2 x1 hi_0 lo_1 q1_4=some r) (hE:En Tryz.f135 g0 w0 (Zah.rs r) st R):At g0 w0 (Zah.p3.S y_2 x1 hi_0 lo_1 q1_4 st) (XK Tryz.prog R [.c (csub Zah.B [1,1,1,1,1,1,1,1,1,1,1,1,1,1,1])]):=by
 unfold Zah.p3 at h
 obtain ⟨c12,h8⟩:=ZaX h
 exact aq fol [.r [],.r [],.r []] [2,8,9,10,14,15,16,17,18] [] c12 (At.loop N (At.loopN (fun y:Int×Int=>Zah.p4.S y_2 x1 lo_1 q1_4 y.1 hi_0 y.2 st) (fun c J hc y h=>Zah.p4_ok (rhat_5:=y.1) (q0_6:=y.2) h hE (fun rhat_5 q0_6=>hc (rhat_5,q0_6))) N (v64 ((v64 ((v64 ((v64 ((bitsOf .or .u64 (shlOf .u64 hi_0 (v64 (x1))) (shrOf .u64 lo_1 (v64 (64-(v64 (x1))))))*4294967296))+(shrOf .u64 (shlOf .u64 lo_1 (v64 (x1))) 32)))-(v64 (q1_4*(shlOf .u64 y_2 (v64 (x1)))))))-(v64 ((v64 (Int.tdiv (v64 ((v64 ((v64 ((bitsOf .or .u64 (shlOf .u64 hi_0 (v64 (x1))) (shrOf .u64 lo_1 (v64 (64-(v64 (x1))))))*4294967296))+(shrOf .u64 (shlOf .u64 lo_1 (v64 (x1))) 32)))-(v64 (q1_4*(shlOf .u64 y_2 (v64 (x1))))))) (shrOf .u64 (shlOf .u64 y_2 (v64 (x1))) 32)))*(shrOf .u64 (shlOf .u64 y_2 (v64 (x1))) 32)))),v64 (Int.tdiv (v64 ((v64 ((v64 ((bitsOf .or .u64 (shlOf .u64 hi_0 (v64 (x1))) (shrOf .u64 lo_1 (v64 (64-(v64 (x1))))))*4294967296))+(shrOf .u64 (shlOf .u64 lo_1 (v64 (x1))) 32)))-(v64 (q1_4*(shlOf .u64 y_2 (v64 (x1))))))) (shrOf .u64 (shlOf .u64 y_2 (v64 (x1))) 32))) h8))
theorem Zah.p2_ok {y_2 x1 hi_0 lo_1 q1_2 rhat_3 st r c1_ J1} (h:Zah.p2 N c1_ y_2 x1 hi_0 lo_1 q1_2 rhat_3=some r) (hE:En Tryz.f135 g0 w0 (Zah.rs r) st R) (hc1 : ∀q1_2 rhat_3,c1_ (q1_2,rhat_3)=some r→At g0 w0 (Zah.p1.S y_2 x1 hi_0 lo_1 q1_2 rhat_3 st) J1):At g0 w0 (Zah.p2.S y_2 x1 hi_0 lo_1 q1_2 rhat_3 st) (XK Tryz.prog R [.c (csub Zah.B [1,1,1,1,1,1,1,1,1,1,1,1,1,1,0,0,0,1]),.h J1,.b 0,.c (csub Zah.B [1,1,1,1,1,1,1,1,1,1,1,1,1,1,1])]):=by
 unfold Zah.p2 at h
 refine iteB h (fun c11 h9=>?_) (fun c11 h10=>?_)
 ·exact aq fol [.r [],.r [],.r [],.c true,.s 1] [2,8,9,10,11,13,14,15] [] c11 (Zah.p3_ok h9 hE)
 ·exact an fol [.r [],.r [],.r [],.c false] [2,8,9,10,11,13,14,15,16] [] c11 (hc1 (v64 (q1_2-1)) (v64 (rhat_3+(shrOf .u64 (shlOf .u64 y_2 (v64 (x1))) 32))) h10)
theorem Zah.p1_ok {y_2 x1 hi_0 lo_1 q1_2 rhat_3 st r c1_ J1} (h:Zah.p1 N y_2 x1 hi_0 lo_1 c1_ (q1_2,rhat_3)=some r) (hE:En Tryz.f135 g0 w0 (Zah.rs r) st R) (hc1 : ∀q1_2 rhat_3,c1_ (q1_2,rhat_3)=some r→At g0 w0 (Zah.p1.S y_2 x1 hi_0 lo_1 q1_2 rhat_3 st) J1):At g0 w0 (Zah.p1.S y_2 x1 hi_0 lo_1 q1_2 rhat_3 st) (XK Tryz.prog R (.c (csub Zah.B [1,1,1,1,1,1,1,1,1,1,1,1,1,1,0,0,0]) :: .h J1 :: [.b 0,.c (csub Zah.B [1,1,1,1,1,1,1,1,1,1,1,1,1,1,1])])):=by
 unfold Zah.p1 at h
 refine iteB h (fun c9 h11=>?_) (fun c9 h12=>?_)
 ·exact aq fol [.r [(3,wF),(4,wF),(5,wF),(6,wF),(7,wF),(8,wF),(9,wF),(10,wF)],.c true,.s 4] [2,8,9,10,11,13,14,15,16] [] (aO c9 c9 c9 c9 c9 c9 c9 (aJ c9 c9 eT)) (Zah.p2_ok h11 hE hc1)
 ·refine iteB h12 (fun c10 h13=>?_) (fun c10 h14=>?_)
  ·exact aq fol [.r [(11,yF)],.c true,.s 4] [2,8,9,10,11,13,14,15,16] [] (aO c9 c9 c9 c9 c9 c9 c9 (aJ c9 c9 c10)) (Zah.p2_ok h13 hE hc1)
  ·exact aq fol [.r [(11,yF)],.c false,.s 1] [2,8,9,10,11,13,14,15] [] (aO c9 c9 c9 c9 c9 c9 c9 (aJ c9 c9 c10)) (Zah.p3_ok h14 hE)
theorem Zah.snd {hi_0 lo_1 y_2:Int} {r:Int×Int} (h:Zah N hi_0 lo_1 y_2=some r):SndQ Tryz.prog 135 [.one (L.int .u64 hi_0),.one (L.int .u64 lo_1),.one (L.int .u64 y_2)] (Zah.rs r):=fun st=>
 sO Zah.B Tryz.func135 fun g0 w0 R hE=>by
  unfold Zah at h
  refine iteB h (fun c1 h15=>?_) (fun c1 h16=>?_)
  ·cases h15
  ·refine iteB h16 (fun c2 h17=>?_) (fun c2 h18=>?_)
   ·cases h17
   ·refine iteB h18 (fun c3 h19=>?_) (fun c3 h20=>?_)
    ·obtain ⟨c4,h21⟩:=ZaX h19
     obtain rfl:=Zac h21
     exact afd fol hE [.r [],.r [],.c false,.r [],.c false,.r [],.c true,.d {ds:=[],hv:=0,Hs:=[]}] [] 0 [] (aL c1 c2 c3 c4 c4)
    ·obtain ⟨x1,c5,h22⟩:=Zad h20
     obtain ⟨c6,c7,c8,h23⟩:=ck3 h22
     exact aq fol [.r [],.r [],.c false,.r [],.c false,.r [],.c false,.r [(1,q1 [oI x1])],.r [],.r [],.r [],.r [],.r [],.r [],.r [],.r [],.r []] [2,8,9,10,11,13,14,15,16] [] (aO c1 c2 c3 (ZbD.snd c5) c6 (leI 0 32) c6 (aK c7 c6 (leI 0 32) c8)) (At.loop N (At.loopN (fun y:Int×Int=>Zah.p1.S y_2 x1 hi_0 lo_1 y.1 y.2 st) (fun c J hc y h=>Zah.p1_ok (q1_2:=y.1) (rhat_3:=y.2) h hE (fun q1_2 rhat_3=>hc (q1_2,rhat_3))) N (v64 (Int.tdiv (bitsOf .or .u64 (shlOf .u64 hi_0 (v64 (x1))) (shrOf .u64 lo_1 (v64 (64-(v64 (x1)))))) (shrOf .u64 (shlOf .u64 y_2 (v64 (x1))) 32)),v64 ((bitsOf .or .u64 (shlOf .u64 hi_0 (v64 (x1))) (shrOf .u64 lo_1 (v64 (64-(v64 (x1))))))-(v64 ((v64 (Int.tdiv (bitsOf .or .u64 (shlOf .u64 hi_0 (v64 (x1))) (shrOf .u64 lo_1 (v64 (64-(v64 (x1)))))) (shrOf .u64 (shlOf .u64 y_2 (v64 (x1))) 32)))*(shrOf .u64 (shlOf .u64 y_2 (v64 (x1))) 32))))) h23))
noncomputable def ZbK.B:Code:=Tryz.f110.body.getD .skip
noncomputable def ZbK.rs (r:(List Int)×Int):List CV:=[.agg [L.arr .u64 4 r.1],.one (L.int .u64 r.2)]
noncomputable def ZbK.p1 (N:Nat) (by_1:Int) (c1_:(Int×Int×(List Int))→Option ((List Int)×Int)):(Int×Int×(List Int))→Option ((List Int)×Int):=fun (r_1,i_2,a_5)=>
 if (decide (i_2≥0))=true then
  chk (0≤i_2)<|
  chk (i_2<4)<|
  optE (Zah N r_1 (List.getD a_5 (Int.toNat i_2) 0) by_1) fun (x6,x7)=>
  c1_ (x7,w64 (i_2-1),List.set a_5 (Int.toNat i_2) x6)
 else
 some (a_5,r_1)
noncomputable def ZbK (N:Nat) (a_0_0:List Int) (by_1:Int):Option ((List Int)×Int):=
 if (by_1==0)=true then
  some (List.replicate 4 0,0)
 else
 loopN (ZbK.p1 N by_1) N (0,3,a_0_0)
noncomputable def ZbK.p1.S (by_1 r_1 i_2:Int) (a_5:List Int) (st:LL):S:=mkS 28 [(1,.one (.l (L.int .u64 by_1))),(2,sA 2),(4,sA 4),(6,.one (.l (L.int .u64 r_1))),(7,sI i_2)] [(2,.cells [L.arr .u64 4 a_5]),(4,.cells [L.arr .u64 4 (List.replicate 4 0)])] st
theorem ZbK.p1_ok {by_1 r_1 i_2 a_5 st r c1_ J1} (h:ZbK.p1 N by_1 c1_ (r_1,i_2,a_5)=some r) (hE:En Tryz.f110 g0 w0 (ZbK.rs r) st R) (hc1 : ∀r_1 i_2 a_5,c1_ (r_1,i_2,a_5)=some r→At g0 w0 (ZbK.p1.S by_1 r_1 i_2 a_5 st) J1):At g0 w0 (ZbK.p1.S by_1 r_1 i_2 a_5 st) (XK Tryz.prog R (.c (csub ZbK.B [1,1,1,0,1,0,0]) :: .h J1 :: [.b 0,.c (csub ZbK.B [1,1,1,1])])):=by
 unfold ZbK.p1 at h
 refine iteB h (fun c6 h1=>?_) (fun c6 h2=>?_)
 ·obtain ⟨c7,c8,h3⟩:=ck2 h1
  obtain ⟨⟨x6,x7⟩,c9,h4⟩:=Zad h3
  exact an fol [.r [],.c true,.r [(6,q1 [.one (L.int .u64 x6),.one (L.int .u64 x7)])],.r []] [1,2,4,6,7] [2,4] (aM c6 c7 c8 (Zah.snd c9) c7 c8) (hc1 x7 (w64 (i_2-1)) (List.set a_5 (Int.toNat i_2) x6) h4)
 ·obtain rfl:=Zac h2
  exact af fol hE [.r [],.c false,.r []] [] 0 [] c6
theorem ZbK.snd {a_0_0:List Int} {by_1:Int} {r:(List Int)×Int} (h:ZbK N a_0_0 by_1=some r):SndQ Tryz.prog 110 [.agg [L.arr .u64 4 a_0_0],.one (L.int .u64 by_1)] (ZbK.rs r):=fun st=>
 sO ZbK.B Tryz.func110 fun g0 w0 R hE=>by
  unfold ZbK at h
  refine iteB h (fun c1 h5=>?_) (fun c1 h6=>?_)
  ·obtain rfl:=Zac h5
   exact af fol hE [.r [],.r [],.c true,.r []] [] 0 [] c1
  ·exact aq fol [.r [],.r [],.c false,.r [],.r []] [1,2,4,6,7] [2,4] c1 (At.loop N (At.loopN (fun y:Int×Int×(List Int)=>ZbK.p1.S by_1 y.1 y.2.1 y.2.2 st) (fun c J hc y h=>ZbK.p1_ok (r_1:=y.1) (i_2:=y.2.1) (a_5:=y.2.2) h hE (fun r_1 i_2 a_5=>hc (r_1,i_2,a_5))) N (0,3,a_0_0) h6))
noncomputable def Zco.B:Code:=Tryz.f136.body.getD .skip
noncomputable def Zco.rs (r:Int×Int):List CV:=[.one (L.int .u64 r.1),.one (L.int .u64 r.2)]
noncomputable def Zco (N:Nat) (x_0 y_1:Int):Option (Int×Int):=
 some (v64 ((v64 ((v64 ((shrOf .u64 x_0 32)*(shrOf .u64 y_1 32)))+(shrOf .u64 (v64 ((v64 ((shrOf .u64 x_0 32)*(bitsOf .and .u64 y_1 4294967295)))+(shrOf .u64 (v64 ((bitsOf .and .u64 x_0 4294967295)*(bitsOf .and .u64 y_1 4294967295))) 32))) 32)))+(shrOf .u64 (v64 ((bitsOf .and .u64 (v64 ((v64 ((shrOf .u64 x_0 32)*(bitsOf .and .u64 y_1 4294967295)))+(shrOf .u64 (v64 ((bitsOf .and .u64 x_0 4294967295)*(bitsOf .and .u64 y_1 4294967295))) 32))) 4294967295)+(v64 ((bitsOf .and .u64 x_0 4294967295)*(shrOf .u64 y_1 32))))) 32)),v64 (x_0*y_1))
theorem Zco.snd {x_0 y_1:Int} {r:Int×Int} (h:Zco N x_0 y_1=some r):SndQ Tryz.prog 136 [.one (L.int .u64 x_0),.one (L.int .u64 y_1)] (Zco.rs r):=fun st=>
 sO Zco.B Tryz.func136 fun g0 w0 R hE=>by
  unfold Zco at h
  obtain rfl:=Zac h
  exact af fol hE [.r [],.r [],.r [],.r [],.r [],.r [],.r [],.r [],.r [],.r [],.r [],.r []] [] 0 [] (aL (leI 0 32) (leI 0 32) (leI 0 32) (leI 0 32) (leI 0 32))
noncomputable def Zbw.B:Code:=Tryz.f111.body.getD .skip
noncomputable def Zbw.rs (r:(List Int)×Bool):List CV:=[.agg [L.arr .u64 4 r.1],oB r.2]
noncomputable def Zbw.p1 (N:Nat) (by_1:Int) (c1_:(Int×Int×(List Int))→Option ((List Int)×Bool)):(Int×Int×(List Int))→Option ((List Int)×Bool):=fun (c_1,v2,a_7)=>
 if (decide (v2<4))=true then
  chk (0≤v2)<|
  optE (Zco N (List.getD a_7 (Int.toNat v2) 0) by_1) fun (x8,x9)=>
  optE (Zdp N x9 c_1 0) fun (x10,x11)=>
  c1_ (v64 (x8+x11),w64 (v2+1),List.set a_7 (Int.toNat v2) x10)
 else
 some (a_7,c_1 != 0)
noncomputable def Zbw (N:Nat) (a_0_0:List Int) (by_1:Int):Option ((List Int)×Bool):=
 loopN (Zbw.p1 N by_1) N (0,0,a_0_0)
noncomputable def Zbw.p1.S (by_1 c_1 v2:Int) (a_7:List Int) (st:LL):S:=mkS 37 [(1,.one (.l (L.int .u64 by_1))),(2,sA 2),(4,sA 4),(6,.one (.l (L.int .u64 c_1))),(11,sI v2)] [(2,.cells [L.arr .u64 4 a_7]),(4,.cells [L.arr .u64 4 (List.replicate 4 0)])] st
theorem Zbw.p1_ok {by_1 c_1 v2 a_7 st r c1_ J1} (h:Zbw.p1 N by_1 c1_ (c_1,v2,a_7)=some r) (hE:En Tryz.f111 g0 w0 (Zbw.rs r) st R) (hc1 : ∀c_1 v2 a_7,c1_ (c_1,v2,a_7)=some r→At g0 w0 (Zbw.p1.S by_1 c_1 v2 a_7 st) J1):At g0 w0 (Zbw.p1.S by_1 c_1 v2 a_7 st) (XK Tryz.prog R (.c (csub Zbw.B [1,1,0,1,0,0]) :: .h J1 :: [.b 0,.c (csub Zbw.B [1,1,1])])):=by
 unfold Zbw.p1 at h
 refine iteB h (fun c5 h1=>?_) (fun c5 h2=>?_)
 ·obtain ⟨c6,h3⟩:=ZaX h1
  obtain ⟨⟨x8,x9⟩,c7,h4⟩:=Zad h3
  obtain ⟨⟨x10,x11⟩,c8,h5⟩:=Zad h4
  exact an fol [.r [],.c true,.r [],.r [(4,q1 [.one (L.int .u64 x8),.one (L.int .u64 x9)])],.r [],.r [(3,{rs:=[.one (L.int .u64 x10),.one (L.int .u64 x11)],m:=4})],.r [],.r []] [1,2,4,6,11] [2,4] (aN c5 c6 (oD c5) (Zco.snd c7) (Zdp.snd c8) c6 (oD c5)) (hc1 (v64 (x8+x11)) (w64 (v2+1)) (List.set a_7 (Int.toNat v2) x10) h5)
 ·obtain rfl:=Zac h2
  exact af fol hE [.r [],.c false,.r []] [] 0 [] c5
theorem Zbw.snd {a_0_0:List Int} {by_1:Int} {r:(List Int)×Bool} (h:Zbw N a_0_0 by_1=some r):SndQ Tryz.prog 111 [.agg [L.arr .u64 4 a_0_0],.one (L.int .u64 by_1)] (Zbw.rs r):=fun st=>
 sO Zbw.B Tryz.func111 fun g0 w0 R hE=>by
  unfold Zbw at h
  exact aq fol [.r [],.r [],.r []] [1,2,4,6,11] [2,4] trivial (At.loop N (At.loopN (fun y:Int×Int×(List Int)=>Zbw.p1.S by_1 y.1 y.2.1 y.2.2 st) (fun c J hc y h=>Zbw.p1_ok (c_1:=y.1) (v2:=y.2.1) (a_7:=y.2.2) h hE (fun c_1 v2 a_7=>hc (c_1,v2,a_7))) N (0,0,a_0_0) h))
noncomputable def ZaR.B:Code:=Tryz.f116.body.getD .skip
noncomputable def ZaR.rs (r:Int):List CV:=[oI r]
noncomputable def ZaR.p2 (N:Nat) (size_5 word_6:Int):Option Int:=
 some (bitsOf .or .i64 (shlOf .i64 size_5 24) word_6)
noncomputable def ZaR.p1 (N:Nat) (x1 word_4:Int):Option Int:=
 if ((bitsOf .and .i64 word_4 8388608) != 0)=true then
  ZaR.p2 N (w64 ((w64 (Int.tdiv (w64 (x1+7)) 8))+1)) (shrOf .i64 word_4 8)
 else
 ZaR.p2 N (w64 (Int.tdiv (w64 (x1+7)) 8)) word_4
noncomputable def ZaR (N:Nat) (n_0_0:List Int):Option Int:=
 optE (Zcd N n_0_0) fun x1=>
 if (decide ((w64 (Int.tdiv (w64 (x1+7)) 8))≤3))=true then
  optE (Zbv N n_0_0 (w64 (8*(w64 (3-(w64 (Int.tdiv (w64 (x1+7)) 8))))))) fun x2=>
  ZaR.p1 N x1 (w64 (List.getD x2 0 0))
 else
 optE (Zbc N n_0_0 (w64 (8*(w64 ((w64 (Int.tdiv (w64 (x1+7)) 8))-3))))) fun x3=>
 ZaR.p1 N x1 (w64 (List.getD x3 0 0))
noncomputable def ZaR.p2.S (size_5 word_6:Int) (st:LL):S:=mkS 36 [(3,sI size_5),(4,sI word_6)] [] st
noncomputable def ZaR.p1.S (x1 word_4:Int) (st:LL):S:=mkS 36 [(3,sI (w64 (Int.tdiv (w64 (x1+7)) 8))),(4,sI word_4)] [] st
theorem ZaR.p2_ok {size_5 word_6 st r} (h:ZaR.p2 N size_5 word_6=some r) (hE:En Tryz.f116 g0 w0 (ZaR.rs r) st R):At g0 w0 (ZaR.p2.S size_5 word_6 st) (XK Tryz.prog R [.c (csub ZaR.B [1,1,1,1,1])]):=by
 unfold ZaR.p2 at h
 obtain rfl:=Zac h
 exact af fol hE [.r []] [] 0 [] (leI 0 24)
theorem ZaR.p1_ok {x1 word_4 st r} (h:ZaR.p1 N x1 word_4=some r) (hE:En Tryz.f116 g0 w0 (ZaR.rs r) st R):At g0 w0 (ZaR.p1.S x1 word_4 st) (XK Tryz.prog R [.c (csub ZaR.B [1,1,1,1])]):=by
 unfold ZaR.p1 at h
 refine iteB h (fun c5 h1=>?_) (fun c5 h2=>?_)
 ·exact aq fol [.r [],.c true,.r [],.r [],.s 1] [3,4] [] (aI c5 (leI 0 8)) (ZaR.p2_ok h1 hE)
 ·exact aq fol [.r [],.c false,.s 1] [3,4] [] c5 (ZaR.p2_ok h2 hE)
theorem ZaR.snd {n_0_0:List Int} {r:Int} (h:ZaR N n_0_0=some r):SndQ Tryz.prog 116 [.agg [L.arr .u64 4 n_0_0]] (ZaR.rs r):=fun st=>
 sO ZaR.B Tryz.func116 fun g0 w0 R hE=>by
  unfold ZaR at h
  obtain ⟨x1,c1,h3⟩:=Zad h
  refine iteB h3 (fun c2 h4=>?_) (fun c2 h5=>?_)
  ·obtain ⟨x2,c3,h6⟩:=Zad h4
   exact aq fol [.r [],.r [(1,q1 [oI x1])],.r [],.r [],.c true,.r [(4,q1 [.agg [L.arr .u64 4 x2]])],.s 1] [3,4] [] (aM (Zcd.snd c1) (neI 8) c2 (Zbv.snd c3) (leI 0 0) (ltI 0 4)) (ZaR.p1_ok h6 hE)
  ·obtain ⟨x3,c4,h7⟩:=Zad h5
   exact aq fol [.r [],.r [(1,q1 [oI x1])],.r [],.r [],.c false,.r [(4,q1 [.agg [L.arr .u64 4 x3]])],.s 1] [3,4] [] (aM (Zcd.snd c1) (neI 8) c2 (Zbc.snd c4) (leI 0 0) (ltI 0 4)) (ZaR.p1_ok h7 hE)
noncomputable def Zbx.B:Code:=Tryz.f88.body.getD .skip
noncomputable def Zbx.rs (r:Int):List CV:=[oI r]
noncomputable def Zbx.p1 (N:Nat) (n_17:List Int):Option Int:=
 optE (ZaR N n_17) fun x18=>
 some x18
noncomputable def Zbx (N:Nat) (p_0:Zae) (bits_1 from_2 to_3:Int):Option Int:=
 optE (ZaW N bits_1 p_0.Limit) fun (x1,x2)=>
 optE (ZcG N p_0) fun x3=>
 if (!x3)=true then
  some p_0.Limit
 else
 if (!x2)=true then
  some p_0.Limit
 else
 optE (Zdr N p_0 from_2 to_3) fun x4=>
 optE (ZbK N x1 (v64 (w64 (p_0.Interval*p_0.Spacing)))) fun (x5,x6)=>
 optE (Zbw N x5 (v64 (x4))) fun (x7,x8)=>
 chk ((v64 (w64 (p_0.Interval*p_0.Spacing)))≠0)<|
 optE (Zcj N (v64 (Int.tdiv (v64 (x6*(v64 (x4)))) (v64 (w64 (p_0.Interval*p_0.Spacing)))))) fun x9=>
 optE (Zbo N x7 x9) fun (x10,x11)=>
 optE (ZaW N p_0.Limit p_0.Limit) fun (x12,x13)=>
 if x8=true then
  some p_0.Limit
 else
 if x11=true then
  some p_0.Limit
 else
 optE (Zcu N x12 x10) fun x14=>
 if x14=true then
  some p_0.Limit
 else
 optE (Zcr N x10) fun x15=>
 if x15=true then
  optE (Zcj N 1) fun x16=>
  Zbx.p1 N x16
 else
 Zbx.p1 N x10
noncomputable def Zbx.p1.S (n_17:List Int) (st:LL):S:=mkS 94 [(15,sA 15)] [(15,.cells [L.arr .u64 4 n_17])] st
theorem Zbx.p1_ok {n_17 st r} (h:Zbx.p1 N n_17=some r) (hE:En Tryz.f88 g0 w0 (Zbx.rs r) st R):At g0 w0 (Zbx.p1.S n_17 st) (XK Tryz.prog R [.c (csub Zbx.B [1,1,1,1,1,1,1,1,1,1,1])]):=by
 unfold Zbx.p1 at h
 obtain ⟨x18,c19,h1⟩:=Zad h
 obtain rfl:=Zac h1
 exact af fol hE [.r [(1,q1 [oI x18])]] [] 0 [] (ZaR.snd c19)
theorem Zbx.snd {p_0:Zae} {bits_1 from_2 to_3:Int} {r:Int} (h:Zbx N p_0 bits_1 from_2 to_3=some r):SndQ Tryz.prog 88 [.agg p_0.ls,oI bits_1,oI from_2,oI to_3] (Zbx.rs r):=fun st=>
 sO Zbx.B Tryz.func88 fun g0 w0 R hE=>by
  unfold Zbx at h
  obtain ⟨⟨x1,x2⟩,c1,h2⟩:=Zad h
  obtain ⟨x3,c2,h3⟩:=Zad h2
  refine iteB h3 (fun c3 h4=>?_) (fun c3 h5=>?_)
  ·obtain rfl:=Zac h4
   exact af fol hE [.r [],.r [(3,q1 [.agg [L.arr .u64 4 x1],oB x2])],.r [(1,q1 [oB x3]),(4,wF),(5,wF)],.c true,.r []] [] 0 [] (aM (ZaW.snd c1) (ZcG.snd c2) (not_false (Zca c3)) (not_false (Zca c3)) (not_false (Zca c3)) eT)
  ·refine iteB h5 (fun c4 h6=>?_) (fun c4 h7=>?_)
   ·obtain rfl:=Zac h6
    exact af fol hE [.r [],.r [(3,q1 [.agg [L.arr .u64 4 x1],oB x2])],.r [(1,q1 [oB x3]),(6,yF)],.c true,.r []] [] 0 [] (aM (ZaW.snd c1) (ZcG.snd c2) (not_true (ZaG c3)) (not_true (ZaG c3)) (not_true (ZaG c3)) c4)
   ·obtain ⟨x4,c5,h8⟩:=Zad h7
    obtain ⟨⟨x5,x6⟩,c6,h9⟩:=Zad h8
    obtain ⟨⟨x7,x8⟩,c7,h10⟩:=Zad h9
    obtain ⟨c8,h11⟩:=ZaX h10
    obtain ⟨x9,c9,h12⟩:=Zad h11
    obtain ⟨⟨x10,x11⟩,c10,h13⟩:=Zad h12
    obtain ⟨⟨x12,x13⟩,c11,h14⟩:=Zad h13
    refine iteB h14 (fun c12 h15=>?_) (fun c12 h16=>?_)
    ·obtain rfl:=Zac h15
     exact afd fol hE [.r [],.r [(3,q1 [.agg [L.arr .u64 4 x1],oB x2])],.r [(1,q1 [oB x3]),(6,yF)],.c false,.r [],.r [(3,q1 [oI x4])],.r [(2,q1 [.agg [L.arr .u64 4 x5],.one (L.int .u64 x6)])],.r [(2,q1 [.agg [L.arr .u64 4 x7],oB x8])],.d {ds:=[(6,q1 [.agg [L.arr .u64 4 x9]]),(7,q1 [.agg [L.arr .u64 4 x10],oB x11])],hv:=2048,Hs:=[2048]},.r [(4,q1 [.agg [L.arr .u64 4 x12],oB x13])],.r [(2,wF),(5,wF),(6,wF),(7,wF)],.c true,.r []] [] 0 [] (aO (ZaW.snd c1) (ZcG.snd c2) (not_true (ZaG c3)) (not_true (ZaG c3)) (not_true (ZaG c3)) c4 (Zdr.snd c5) (aO (ZbK.snd c6) (Zbw.snd c7) c8 (Zcj.snd c9) (Zbo.snd c10) (ZaW.snd c11) c12 (aM c12 eT eT eT eT eT)))
    ·refine iteB h16 (fun c13 h17=>?_) (fun c13 h18=>?_)
     ·obtain rfl:=Zac h17
      exact afd fol hE [.r [],.r [(3,q1 [.agg [L.arr .u64 4 x1],oB x2])],.r [(1,q1 [oB x3]),(6,yF)],.c false,.r [],.r [(3,q1 [oI x4])],.r [(2,q1 [.agg [L.arr .u64 4 x5],.one (L.int .u64 x6)])],.r [(2,q1 [.agg [L.arr .u64 4 x7],oB x8])],.d {ds:=[(6,q1 [.agg [L.arr .u64 4 x9]]),(7,q1 [.agg [L.arr .u64 4 x10],oB x11])],hv:=2048,Hs:=[2048]},.r [(4,q1 [.agg [L.arr .u64 4 x12],oB x13])],.r [(3,yF),(5,wF),(6,wF),(7,wF)],.c true,.r []] [] 0 [] (aO (ZaW.snd c1) (ZcG.snd c2) (not_true (ZaG c3)) (not_true (ZaG c3)) (not_true (ZaG c3)) c4 (Zdr.snd c5) (aO (ZbK.snd c6) (Zbw.snd c7) c8 (Zcj.snd c9) (Zbo.snd c10) (ZaW.snd c11) c12 (aM c12 c13 c13 c13 c13 eT)))
     ·obtain ⟨x14,c14,h19⟩:=Zad h18
      refine iteB h19 (fun c15 h20=>?_) (fun c15 h21=>?_)
      ·obtain rfl:=Zac h20
       exact afd fol hE [.r [],.r [(3,q1 [.agg [L.arr .u64 4 x1],oB x2])],.r [(1,q1 [oB x3]),(6,yF)],.c false,.r [],.r [(3,q1 [oI x4])],.r [(2,q1 [.agg [L.arr .u64 4 x5],.one (L.int .u64 x6)])],.r [(2,q1 [.agg [L.arr .u64 4 x7],oB x8])],.d {ds:=[(6,q1 [.agg [L.arr .u64 4 x9]]),(7,q1 [.agg [L.arr .u64 4 x10],oB x11])],hv:=2048,Hs:=[2048]},.r [(4,q1 [.agg [L.arr .u64 4 x12],oB x13])],.r [(3,yF),(7,q1 [oB x14]),(8,yF)],.c true,.r []] [] 0 [] (aO (ZaW.snd c1) (ZcG.snd c2) (not_true (ZaG c3)) (not_true (ZaG c3)) (not_true (ZaG c3)) c4 (Zdr.snd c5) (aO (ZbK.snd c6) (Zbw.snd c7) c8 (Zcj.snd c9) (Zbo.snd c10) (ZaW.snd c11) c12 (aN c12 c13 c13 c13 (Zcu.snd c14) c13 c15)))
      ·obtain ⟨x15,c16,h22⟩:=Zad h21
       refine iteB h22 (fun c17 h23=>?_) (fun c17 h24=>?_)
       ·obtain ⟨x16,c18,h25⟩:=Zad h23
        exact aqd fol [.r [],.r [(3,q1 [.agg [L.arr .u64 4 x1],oB x2])],.r [(1,q1 [oB x3]),(6,yF)],.c false,.r [],.r [(3,q1 [oI x4])],.r [(2,q1 [.agg [L.arr .u64 4 x5],.one (L.int .u64 x6)])],.r [(2,q1 [.agg [L.arr .u64 4 x7],oB x8])],.d {ds:=[(6,q1 [.agg [L.arr .u64 4 x9]]),(7,q1 [.agg [L.arr .u64 4 x10],oB x11])],hv:=2048,Hs:=[2048]},.r [(4,q1 [.agg [L.arr .u64 4 x12],oB x13])],.r [(3,yF),(7,q1 [oB x14]),(8,yF)],.c false,.r [(1,q1 [oB x15])],.c true,.r [(0,q1 [.agg [L.arr .u64 4 x16]])],.s 1] [15] [15] (aO (ZaW.snd c1) (ZcG.snd c2) (not_true (ZaG c3)) (not_true (ZaG c3)) (not_true (ZaG c3)) c4 (Zdr.snd c5) (aO (ZbK.snd c6) (Zbw.snd c7) c8 (Zcj.snd c9) (Zbo.snd c10) (ZaW.snd c11) c12 (aO c12 c13 c13 c13 (Zcu.snd c14) c13 c15 (aJ (Zcr.snd c16) c17 (Zcj.snd c18))))) (Zbx.p1_ok h25 hE)
       ·exact aqd fol [.r [],.r [(3,q1 [.agg [L.arr .u64 4 x1],oB x2])],.r [(1,q1 [oB x3]),(6,yF)],.c false,.r [],.r [(3,q1 [oI x4])],.r [(2,q1 [.agg [L.arr .u64 4 x5],.one (L.int .u64 x6)])],.r [(2,q1 [.agg [L.arr .u64 4 x7],oB x8])],.d {ds:=[(6,q1 [.agg [L.arr .u64 4 x9]]),(7,q1 [.agg [L.arr .u64 4 x10],oB x11])],hv:=2048,Hs:=[2048]},.r [(4,q1 [.agg [L.arr .u64 4 x12],oB x13])],.r [(3,yF),(7,q1 [oB x14]),(8,yF)],.c false,.r [(1,q1 [oB x15])],.c false,.s 1] [15] [15] (aO (ZaW.snd c1) (ZcG.snd c2) (not_true (ZaG c3)) (not_true (ZaG c3)) (not_true (ZaG c3)) c4 (Zdr.snd c5) (aO (ZbK.snd c6) (Zbw.snd c7) c8 (Zcj.snd c9) (Zbo.snd c10) (ZaW.snd c11) c12 (aO c12 c13 c13 c13 (Zcu.snd c14) c13 c15 (aI (Zcr.snd c16) c17)))) (Zbx.p1_ok h24 hE)
noncomputable def Zde.B:Code:=Tryz.f54.body.getD .skip
noncomputable def Zde.rs (r:Int):List CV:=[oI r]
noncomputable def Zde (N:Nat) (p_0:Zae) (at_1:ZcX) (time_2:Int):Option Int:=
 if (decide (at_1.Height≤0))=true then
  some p_0.Limit
 else
 optE (Zcn N p_0 at_1.Height) fun x1=>
 if x1=true then
  optE (Zbx N p_0 at_1.Bits at_1.First at_1.Time) fun x2=>
  some x2
 else
 if (!p_0.Easy)=true then
  some at_1.Bits
 else
 if (decide ((w64 (time_2-at_1.Time))>(w64 (2*p_0.Spacing))))=true then
  some p_0.Limit
 else
 some at_1.Hard
theorem Zde.snd {p_0:Zae} {at_1:ZcX} {time_2:Int} {r:Int} (h:Zde N p_0 at_1 time_2=some r):SndQ Tryz.prog 54 [.agg p_0.ls,.agg at_1.ls,oI time_2] (Zde.rs r):=fun st=>
 sO Zde.B Tryz.func54 fun g0 w0 R hE=>by
  unfold Zde at h
  refine iteB h (fun c1 h1=>?_) (fun c1 h2=>?_)
  ·obtain rfl:=Zac h1
   exact af fol hE [.r [],.r [],.c true,.r []] [] 0 [] c1
  ·obtain ⟨x1,c2,h3⟩:=Zad h2
   refine iteB h3 (fun c3 h4=>?_) (fun c3 h5=>?_)
   ·obtain ⟨x2,c4,h6⟩:=Zad h4
    obtain rfl:=Zac h6
    exact af fol hE [.r [],.r [],.c false,.r [(3,q1 [oB x1])],.c true,.r [(7,q1 [oI x2])]] [] 0 [] (aK c1 (Zcn.snd c2) c3 (Zbx.snd c4))
   ·refine iteB h5 (fun c5 h7=>?_) (fun c5 h8=>?_)
    ·obtain rfl:=Zac h7
     exact af fol hE [.r [],.r [],.c false,.r [(3,q1 [oB x1])],.c false,.r [],.c true,.r []] [] 0 [] (aK c1 (Zcn.snd c2) c3 c5)
    ·refine iteB h8 (fun c6 h9=>?_) (fun c6 h10=>?_)
     ·obtain rfl:=Zac h9
      exact af fol hE [.r [],.r [],.c false,.r [(3,q1 [oB x1])],.c false,.r [],.c false,.r [],.c true,.r []] [] 0 [] (aL c1 (Zcn.snd c2) c3 c5 c6)
     ·obtain rfl:=Zac h10
      exact af fol hE [.r [],.r [],.c false,.r [(3,q1 [oB x1])],.c false,.r [],.c false,.r [],.c false,.r []] [] 0 [] (aL c1 (Zcn.snd c2) c3 c5 c6)
noncomputable def Zbr.B:Code:=Tryz.f118.body.getD .skip
noncomputable def Zbr.rs (r:(List Int)):List CV:=[.agg [L.arr .u64 4 r]]
noncomputable def Zbr.p1 (N:Nat) (h_0_0:List Int) (c1_:(Int×(List Int))→Option (List Int)):(Int×(List Int))→Option (List Int):=fun (v1,out_2)=>
 if (decide (v1<32))=true then
  chk (0≤v1)<|
  chk (0≤(w64 (Int.tdiv v1 8)))<|
  chk ((w64 (Int.tdiv v1 8))<4)<|
  chk (0≤(w64 (8*(Int.tmod v1 8))))<|
  c1_ (w64 (v1+1),List.set out_2 (Int.toNat (w64 (Int.tdiv v1 8))) (bitsOf .or .u64 (List.getD out_2 (Int.toNat (w64 (Int.tdiv v1 8))) 0) (shlOf .u64 (v64 (List.getD h_0_0 (Int.toNat v1) 0)) (w64 (8*(Int.tmod v1 8))))))
 else
 some out_2
noncomputable def Zbr (N:Nat) (h_0_0:List Int):Option (List Int):=
 loopN (Zbr.p1 N h_0_0) N (0,List.replicate 4 0)
noncomputable def Zbr.p1.S (h_0_0:List Int) (v1:Int) (out_2:List Int) (st:LL):S:=mkS 25 [(2,sA 2),(3,sA 3),(6,.agg [.l (L.arr .u8 32 h_0_0)]),(7,sI v1)] [(2,.cells [L.arr .u64 4 (List.replicate 4 0)]),(3,.cells [L.arr .u64 4 out_2])] st
theorem Zbr.p1_ok {h_0_0 v1 out_2 st r c1_ J1} (h:Zbr.p1 N h_0_0 c1_ (v1,out_2)=some r) (hE:En Tryz.f118 g0 w0 (Zbr.rs r) st R) (hc1 : ∀v1 out_2,c1_ (v1,out_2)=some r→At g0 w0 (Zbr.p1.S h_0_0 v1 out_2 st) J1):At g0 w0 (Zbr.p1.S h_0_0 v1 out_2 st) (XK Tryz.prog R (.c (csub Zbr.B [1,1,0,1,0,0]) :: .h J1 :: [.b 0,.c (csub Zbr.B [1,1,1])])):=by
 unfold Zbr.p1 at h
 refine iteB h (fun c6 h1=>?_) (fun c6 h2=>?_)
 ·obtain ⟨c7,c8,c9,c10,h3⟩:=ck4 h1
  exact and_ fol [.r [],.c true,.r [],.d {ds:=[],hv:=4096,Hs:=[4096]},.r []] [2,3,6,7] [2,3] (aO c6 c7 (oD c6) (neI 8) c8 c9 (neI 8) (aJ c10 c8 c9)) (hc1 (w64 (v1+1)) (List.set out_2 (Int.toNat (w64 (Int.tdiv v1 8))) (bitsOf .or .u64 (List.getD out_2 (Int.toNat (w64 (Int.tdiv v1 8))) 0) (shlOf .u64 (v64 (List.getD h_0_0 (Int.toNat v1) 0)) (w64 (8*(Int.tmod v1 8)))))) h3)
 ·obtain rfl:=Zac h2
  exact af fol hE [.r [],.c false,.r []] [] 0 [] c6
theorem Zbr.snd {h_0_0:List Int} {r:(List Int)} (h:Zbr N h_0_0=some r):SndQ Tryz.prog 118 [.agg [L.arr .u8 32 h_0_0]] (Zbr.rs r):=fun st=>
 sO Zbr.B Tryz.func118 fun g0 w0 R hE=>by
  unfold Zbr at h
  exact aq fol [.r [],.r [],.r []] [2,3,6,7] [2,3] trivial (At.loop N (At.loopN (fun y:Int×(List Int)=>Zbr.p1.S h_0_0 y.1 y.2 st) (fun c J hc y h=>Zbr.p1_ok (v1:=y.1) (out_2:=y.2) h hE (fun v1 out_2=>hc (v1,out_2))) N (0,List.replicate 4 0) h))
noncomputable def ZcI.B:Code:=Tryz.f90.body.getD .skip
noncomputable def ZcI.rs (r:Bool):List CV:=[oB r]
noncomputable def ZcI (N:Nat) (h_0_0 target_1_0:List Int):Option Bool:=
 optE (Zbr N h_0_0) fun x1=>
 optE (Zcu N target_1_0 x1) fun x2=>
 some (!x2)
theorem ZcI.snd {h_0_0 target_1_0:List Int} {r:Bool} (h:ZcI N h_0_0 target_1_0=some r):SndQ Tryz.prog 90 [.agg [L.arr .u8 32 h_0_0],.agg [L.arr .u64 4 target_1_0]] (ZcI.rs r):=fun st=>
 sO ZcI.B Tryz.func90 fun g0 w0 R hE=>by
  unfold ZcI at h
  obtain ⟨x1,c1,h1⟩:=Zad h
  obtain ⟨x2,c2,h2⟩:=Zad h1
  obtain rfl:=Zac h2
  exact afd fol hE [.r [],.d {ds:=[(2,q1 [.agg [L.arr .u64 4 x1]]),(3,q1 [oB x2])],hv:=0,Hs:=[]}] [] 0 [] (aI (Zbr.snd c1) (Zcu.snd c2))
noncomputable def ZcD.B:Code:=Tryz.f55.body.getD .skip
noncomputable def ZcD.rs (r:Int):List CV:=[oI r]
noncomputable def ZcD (N:Nat) (p_0:Zae) (h_1:Zai):Option Int:=
 optE (Zbn N h_1) fun x1=>
 if (!x1)=true then
  some 1
 else
 optE (ZaW N h_1.Bits p_0.Limit) fun (x2,x3)=>
 if (!x3)=true then
  some 4
 else
 optE (ZcZ N h_1) fun x4=>
 optE (ZcI N x4 x2) fun x5=>
 if (!x5)=true then
  some 4
 else
 some 0
theorem ZcD.snd {p_0:Zae} {h_1:Zai} {r:Int} (h:ZcD N p_0 h_1=some r):SndQ Tryz.prog 55 [.agg p_0.ls,.agg h_1.ls] (ZcD.rs r):=fun st=>
 sO ZcD.B Tryz.func55 fun g0 w0 R hE=>by
  unfold ZcD at h
  obtain ⟨x1,c1,h1⟩:=Zad h
  refine iteB h1 (fun c2 h2=>?_) (fun c2 h3=>?_)
  ·obtain rfl:=Zac h2
   exact af fol hE [.r [],.r [(1,q1 [oB x1])],.c true,.r []] [] 0 [] (aI (Zbn.snd c1) c2)
  ·obtain ⟨⟨x2,x3⟩,c3,h4⟩:=Zad h3
   refine iteB h4 (fun c4 h5=>?_) (fun c4 h6=>?_)
   ·obtain rfl:=Zac h5
    exact afd fol hE [.r [],.r [(1,q1 [oB x1])],.c false,.r [(4,q1 [.agg [L.arr .u64 4 x2],oB x3])],.d {ds:=[(3,wF),(4,wF),(5,wF),(6,wF),(7,wF)],hv:=0,Hs:=[]},.c true,.r []] [] 0 [] (aO (Zbn.snd c1) c2 (ZaW.snd c3) (not_false (Zca c4)) (not_false (Zca c4)) (not_false (Zca c4)) (not_false (Zca c4)) (aJ (not_false (Zca c4)) (not_false (Zca c4)) eT))
   ·obtain ⟨x4,c5,h7⟩:=Zad h6
    obtain ⟨x5,c6,h8⟩:=Zad h7
    refine iteB h8 (fun c7 h9=>?_) (fun c7 h10=>?_)
    ·obtain rfl:=Zac h9
     exact afd fol hE [.r [],.r [(1,q1 [oB x1])],.c false,.r [(4,q1 [.agg [L.arr .u64 4 x2],oB x3])],.d {ds:=[(4,q1 [.agg [L.arr .u8 32 x4]]),(6,q1 [oB x5]),(8,yF)],hv:=0,Hs:=[]},.c true,.r []] [] 0 [] (aO (Zbn.snd c1) c2 (ZaW.snd c3) (not_true (ZaG c4)) (not_true (ZaG c4)) (ZcZ.snd c5) (not_true (ZaG c4)) (aL (not_true (ZaG c4)) (ZcI.snd c6) (not_true (ZaG c4)) (not_true (ZaG c4)) c7))
    ·obtain rfl:=Zac h10
     exact afd fol hE [.r [],.r [(1,q1 [oB x1])],.c false,.r [(4,q1 [.agg [L.arr .u64 4 x2],oB x3])],.d {ds:=[(4,q1 [.agg [L.arr .u8 32 x4]]),(6,q1 [oB x5]),(8,yF)],hv:=0,Hs:=[]},.c false,.r []] [] 0 [] (aO (Zbn.snd c1) c2 (ZaW.snd c3) (not_true (ZaG c4)) (not_true (ZaG c4)) (ZcZ.snd c5) (not_true (ZaG c4)) (aL (not_true (ZaG c4)) (ZcI.snd c6) (not_true (ZaG c4)) (not_true (ZaG c4)) c7))
noncomputable def ZdT.B:Code:=Tryz.f91.body.getD .skip
noncomputable def ZdT.rs (r:Int):List CV:=[oI r]
noncomputable def ZdT (N:Nat) (times_0:LL):Option Int:=
 chk (0≤(if (11:Int)<(len times_0) then 11 else (len times_0)))<|
 chk ((Int.toNat (if (11:Int)<(len times_0) then 11 else (len times_0)))≤(List.length times_0))<|
 optE (Zbu N (List.take (Int.toNat (if (11:Int)<(len times_0) then 11 else (len times_0))) (List.drop 0 times_0))) fun x1=>
 if ((len x1)==0)=true then
  some 0
 else
 chk (isI x1=true)<|
 chk (List.length x1<4611686018427387904)<|
 chk (0≤(w64 (Int.tdiv (len x1) 2)))<|
 chk ((w64 (Int.tdiv (len x1) 2))<(len x1))<|
 getE ((sortR x1)[0+(Int.toNat (w64 (Int.tdiv (len x1) 2)))]?) ZcS fun x2=>
 some x2
theorem ZdT.snd {times_0:LL} {r:Int} (h:ZdT N times_0=some r):SndQ Tryz.prog 91 [.one (L.sl 1 times_0)] (ZdT.rs r):=fun st=>
 sO ZdT.B Tryz.func91 fun g0 w0 R hE=>by
  unfold ZdT at h
  obtain ⟨c1,c2,h1⟩:=ck2 h
  obtain ⟨x1,c3,h2⟩:=Zad h1
  refine iteB h2 (fun c4 h3=>?_) (fun c4 h4=>?_)
  ·obtain rfl:=Zac h3
   exact af fol hE [.r [],.r [(5,{rs:=[.row true 1 x1],ns:=[9],m:=1})],.r [],.c true,.r []] [] 0 [] (aL c1 (Nat.zero_le (Int.toNat (if (11:Int)<(len times_0) then 11 else (len times_0)))) c2 (Zbu.snd c3) c4)
  ·obtain ⟨c5,c6,c7,c8,h5⟩:=ck4 h4
   obtain ⟨x2,c9,h6⟩:=Zci h5
   obtain rfl:=Zac h6
   exact af fol hE [.r [],.r [(5,{rs:=[.row true 1 x1],ns:=[9],m:=1})],.r [],.c false,.r [(1,{m:=7})],.r [(5,{oe:=[L.int .i64 x2]})]] [] 0 [] (aO c1 (Nat.zero_le (Int.toNat (if (11:Int)<(len times_0) then 11 else (len times_0)))) c2 (Zbu.snd c3) c4 z0 (@rfl _ (List.length x1):(List.length x1)=(List.length x1)) (aN c5 c6 slices_Sort_int.snd (neI 2) c7 c8 c9))
noncomputable def ZcB.B:Code:=Tryz.f56.body.getD .skip
noncomputable def ZcB.rs (r:Bool):List CV:=[oB r]
noncomputable def ZcB (N:Nat) (time_0:Int) (times_1:LL):Option Bool:=
 if ((len times_1)==0)=true then
  some true
 else
 optE (ZdT N times_1) fun x1=>
 some (decide (time_0>x1))
theorem ZcB.snd {time_0:Int} {times_1:LL} {r:Bool} (h:ZcB N time_0 times_1=some r):SndQ Tryz.prog 56 [oI time_0,.one (L.sl 1 times_1)] (ZcB.rs r):=fun st=>
 sO ZcB.B Tryz.func56 fun g0 w0 R hE=>by
  unfold ZcB at h
  refine iteB h (fun c1 h1=>?_) (fun c1 h2=>?_)
  ·obtain rfl:=Zac h1
   exact af fol hE [.r [],.r [(4,wF),(5,wF),(6,wF),(7,wF)]] [] 0 [] (aL c1 c1 c1 c1 c1)
  ·obtain ⟨x1,c2,h3⟩:=Zad h2
   obtain rfl:=Zac h3
   exact af fol hE [.r [],.r [(6,q1 [oI x1]),(8,yF)]] [] 0 [] (aM c1 c1 c1 (ZdT.snd c2) c1 c1)
noncomputable def ZcO.B:Code:=Tryz.f57.body.getD .skip
noncomputable def ZcO.rs (r:Bool):List CV:=[oB r]
noncomputable def ZcO (N:Nat) (time_0 now_1 future_2:Int):Option Bool:=
 if (decide (future_2≥0))=true then
  if (decide (time_0≤now_1))=true then
   some true
  else
  some (decide ((w64 (time_0-now_1))≤future_2))
 else
 some false
theorem ZcO.snd {time_0 now_1 future_2:Int} {r:Bool} (h:ZcO N time_0 now_1 future_2=some r):SndQ Tryz.prog 57 [oI time_0,oI now_1,oI future_2] (ZcO.rs r):=fun st=>
 sO ZcO.B Tryz.func57 fun g0 w0 R hE=>by
  unfold ZcO at h
  refine iteB h (fun c1 h1=>?_) (fun c1 h2=>?_)
  ·refine iteB h1 (fun c2 h3=>?_) (fun c2 h4=>?_)
   ·obtain rfl:=Zac h3
    exact af fol hE [.r [],.r [(7,wF),(8,wF),(9,wF),(10,wF),(11,wF)]] [] 0 [] (aO c1 c1 c1 c1 c2 c2 c2 (aL c2 c2 c1 c2 c1))
   ·obtain rfl:=Zac h4
    exact af fol hE [.r [],.r [(12,yF)]] [] 0 [] (aO c1 c1 c1 c1 c2 c2 c2 (aL c2 c2 c1 c2 c1))
  ·obtain rfl:=Zac h2
   exact af fol hE [.r [],.r [(3,wF),(4,wF),(5,wF),(6,wF),(12,wF),(13,yF)]] [] 0 [] (aM c1 c1 c1 c1 c1 c1)
noncomputable def ZaY.B:Code:=Tryz.f58.body.getD .skip
noncomputable def ZaY.rs (r:Int):List CV:=[oI r]
noncomputable def ZaY.p2 (N:Nat) (c1_:(Int×Int)→Option Int) (height_0 least_4:Int) (gates_1:LL) (v2:Int):Option Int:=
 c1_ (least_4,w64 (v2+1))
noncomputable def ZaY.p1 (N:Nat) (height_0:Int) (gates_1:LL) (c1_:(Int×Int)→Option Int):(Int×Int)→Option Int:=fun (least_1,v2)=>
 if (decide (v2<(len gates_1)))=true then
  chk (0≤v2)<|
  getE (gates_1[Int.toNat v2]?) ZdI fun x3=>
  if (decide (height_0≥x3.Height))=true then
   ZaY.p2 N c1_ height_0 (if x3.Version>least_1 then x3.Version else least_1) gates_1 v2
  else
  ZaY.p2 N c1_ height_0 least_1 gates_1 v2
 else
 some least_1
noncomputable def ZaY (N:Nat) (height_0:Int) (gates_1:LL):Option Int:=
 loopN (ZaY.p1 N height_0 gates_1) N ((-2147483648),0)
noncomputable def ZaY.p2.S (height_0 least_4:Int) (gates_1:LL) (v2:Int) (st:LL):S:=mkS 24 [(0,sI height_0),(5,sI least_4),(8,sV 2 gates_1),(9,sI (len gates_1)),(10,sI v2)] [] st
noncomputable def ZaY.p1.S (height_0 least_1:Int) (gates_1:LL) (v2:Int) (st:LL):S:=mkS 24 [(0,sI height_0),(5,sI least_1),(8,sV 2 gates_1),(9,sI (len gates_1)),(10,sI v2)] [] st
theorem ZaY.p2_ok {height_0 least_4 gates_1 v2 st r c1_ J1} (h:ZaY.p2 N c1_ height_0 least_4 gates_1 v2=some r) (hE:En Tryz.f58 g0 w0 (ZaY.rs r) st R) (hc1 : ∀least_1 v2,c1_ (least_1,v2)=some r→At g0 w0 (ZaY.p1.S height_0 least_1 gates_1 v2 st) J1):At g0 w0 (ZaY.p2.S height_0 least_4 gates_1 v2 st) (XK Tryz.prog R [.c (csub ZaY.B [1,1,0,1,0,0,1,1,1]),.h J1,.b 0,.c (csub ZaY.B [1,1,1])]):=by
 unfold ZaY.p2 at h
 exact an fol [.r []] [0,5,8,9,10] [] trivial (hc1 least_4 (w64 (v2+1)) h)
theorem ZaY.p1_ok {height_0 least_1 gates_1 v2 st r c1_ J1} (h:ZaY.p1 N height_0 gates_1 c1_ (least_1,v2)=some r) (hE:En Tryz.f58 g0 w0 (ZaY.rs r) st R) (hc1 : ∀least_1 v2,c1_ (least_1,v2)=some r→At g0 w0 (ZaY.p1.S height_0 least_1 gates_1 v2 st) J1):At g0 w0 (ZaY.p1.S height_0 least_1 gates_1 v2 st) (XK Tryz.prog R (.c (csub ZaY.B [1,1,0,1,0,0]) :: .h J1 :: [.b 0,.c (csub ZaY.B [1,1,1])])):=by
 unfold ZaY.p1 at h
 refine iteB h (fun c1 h1=>?_) (fun c1 h2=>?_)
 ·obtain ⟨c2,h3⟩:=ZaX h1
  obtain ⟨x3,c3,h4⟩:=ZdL h3
  refine iteB h4 (fun c4 h5=>?_) (fun c4 h6=>?_)
  ·exact aq fol [.r [],.c true,.r [(1,{oe:=x3.ls})],.r [],.c true,.r [],.s 4] [0,5,8,9,10] [] (aL c1 c2 (oD c1) c3 c4) (ZaY.p2_ok h5 hE hc1)
  ·exact aq fol [.r [],.c true,.r [(1,{oe:=x3.ls})],.r [],.c false,.s 4] [0,5,8,9,10] [] (aL c1 c2 (oD c1) c3 c4) (ZaY.p2_ok h6 hE hc1)
 ·obtain rfl:=Zac h2
  exact af fol hE [.r [],.c false,.r []] [] 0 [] c1
theorem ZaY.snd {height_0:Int} {gates_1:LL} {r:Int} (h:ZaY N height_0 gates_1=some r):SndQ Tryz.prog 58 [oI height_0,.one (L.sl 2 gates_1)] (ZaY.rs r):=fun st=>
 sO ZaY.B Tryz.func58 fun g0 w0 R hE=>by
  unfold ZaY at h
  exact aq fol [.r [],.r [],.r []] [0,5,8,9,10] [] trivial (At.loop N (At.loopN (fun y:Int×Int=>ZaY.p1.S height_0 y.1 gates_1 y.2 st) (fun c J hc y h=>ZaY.p1_ok (least_1:=y.1) (v2:=y.2) h hE (fun least_1 v2=>hc (least_1,v2))) N ((-2147483648),0) h))
noncomputable def ZbF.B:Code:=Tryz.f59.body.getD .skip
noncomputable def ZbF.rs (r:Bool):List CV:=[oB r]
noncomputable def ZbF.p1 (N:Nat) (height_0:Int) (checks_2:LL) (id_1_0:List Int) (c1_:Int→Option Bool):Int→Option Bool:=fun v1=>
 if (decide (v1<(len checks_2)))=true then
  chk (0≤v1)<|
  getE (checks_2[Int.toNat v1]?) ZdA fun x2=>
  if (x2.Height==height_0)=true then
   if (!(x2.Id==id_1_0))=true then
    some false
   else
   c1_ (w64 (v1+1))
  else
  c1_ (w64 (v1+1))
 else
 some true
noncomputable def ZbF (N:Nat) (height_0:Int) (id_1_0:List Int) (checks_2:LL):Option Bool:=
 loopN (ZbF.p1 N height_0 checks_2 id_1_0) N 0
noncomputable def ZbF.p1.S (height_0:Int) (checks_2:LL) (v1:Int) (id_1_0:List Int) (st:LL):S:=mkS 26 [(0,sI height_0),(4,sA 4),(9,sV 33 checks_2),(10,sI (len checks_2)),(11,sI v1)] [(4,.cells [L.arr .u8 32 id_1_0])] st
theorem ZbF.p1_ok {height_0 checks_2 v1 id_1_0 st r c1_ J1} (h:ZbF.p1 N height_0 checks_2 id_1_0 c1_ v1=some r) (hE:En Tryz.f59 g0 w0 (ZbF.rs r) st R) (hc1 : ∀v1,c1_ v1=some r→At g0 w0 (ZbF.p1.S height_0 checks_2 v1 id_1_0 st) J1):At g0 w0 (ZbF.p1.S height_0 checks_2 v1 id_1_0 st) (XK Tryz.prog R (.c (csub ZbF.B [1,0,1,0,0]) :: .h J1 :: [.b 0,.c (csub ZbF.B [1,1])])):=by
 unfold ZbF.p1 at h
 refine iteB h (fun c1 h1=>?_) (fun c1 h2=>?_)
 ·obtain ⟨c2,h3⟩:=ZaX h1
  obtain ⟨x2,c3,h4⟩:=ZdF h3
  refine iteB h4 (fun c4 h5=>?_) (fun c4 h6=>?_)
  ·refine iteB h5 (fun c5 h7=>?_) (fun c5 h8=>?_)
   ·obtain rfl:=Zac h7
    exact af fol hE [.r [],.c true,.r [(1,{oe:=x2.ls})],.r [],.c true,.r []] [] 0 [] (aO c1 c2 (oD c1) c3 c4 c4 c4 (aJ c4 c4 c5))
   ·exact an fol [.r [],.c true,.r [(1,{oe:=x2.ls})],.r [],.c false,.r []] [0,4,9,10,11] [4] (aO c1 c2 (oD c1) c3 c4 c4 c4 (aJ c4 c4 c5)) (hc1 (w64 (v1+1)) h8)
  ·exact an fol [.r [],.c true,.r [(1,{oe:=x2.ls})],.r [(5,wF),(6,wF),(7,wF),(8,wF),(9,yF)],.c false,.r []] [0,4,9,10,11] [4] (aO c1 c2 (oD c1) c3 c4 c4 c4 (aJ c4 c4 eF)) (hc1 (w64 (v1+1)) h6)
 ·obtain rfl:=Zac h2
  exact af fol hE [.r [],.c false,.r []] [] 0 [] c1
theorem ZbF.snd {height_0:Int} {id_1_0:List Int} {checks_2:LL} {r:Bool} (h:ZbF N height_0 id_1_0 checks_2=some r):SndQ Tryz.prog 59 [oI height_0,.agg [L.arr .u8 32 id_1_0],.one (L.sl 33 checks_2)] (ZbF.rs r):=fun st=>
 sO ZbF.B Tryz.func59 fun g0 w0 R hE=>by
  unfold ZbF at h
  exact aq fol [.r [],.r []] [0,4,9,10,11] [4] trivial (At.loop N (At.loopN (fun y:Int=>ZbF.p1.S height_0 checks_2 y id_1_0 st) (fun c J hc y h=>ZbF.p1_ok h hE (fun v1=>hc v1)) N 0 h))
noncomputable def Zdo.B:Code:=Tryz.f16.body.getD .skip
noncomputable def Zdo.rs (r:Int):List CV:=[oI r]
noncomputable def Zdo (N:Nat) (p_0:Zae) (at_1:ZaQ) (h_2:Zai) (now_3:Int):Option Int:=
 optE (Zbn N h_2) fun x1=>
 if (!x1)=true then
  some 1
 else
 if (!(h_2.Prev==at_1.Prev))=true then
  some 2
 else
 optE (Zde N p_0 at_1.Point h_2.Time) fun x2=>
 if (h_2.Bits != x2)=true then
  some 3
 else
 optE (ZcD N p_0 h_2) fun x3=>
 if (x3 != 0)=true then
  some 4
 else
 optE (ZcB N h_2.Time at_1.Times) fun x4=>
 if (!x4)=true then
  some 5
 else
 optE (ZcO N h_2.Time now_3 p_0.Future) fun x5=>
 if (!x5)=true then
  some 6
 else
 optE (ZaY N at_1.Point.Height p_0.Gates) fun x6=>
 if (decide (h_2.Version<x6))=true then
  some 7
 else
 optE (ZcZ N h_2) fun x7=>
 optE (ZbF N at_1.Point.Height x7 p_0.Checks) fun x8=>
 if (!x8)=true then
  some 8
 else
 some 0
theorem Zdo.snd {p_0:Zae} {at_1:ZaQ} {h_2:Zai} {now_3:Int} {r:Int} (h:Zdo N p_0 at_1 h_2 now_3=some r):SndQ Tryz.prog 16 [.agg p_0.ls,.agg at_1.ls,.agg h_2.ls,oI now_3] (Zdo.rs r):=fun st=>
 sO Zdo.B Tryz.func16 fun g0 w0 R hE=>by
  unfold Zdo at h
  obtain ⟨x1,c1,h1⟩:=Zad h
  refine iteB h1 (fun c2 h2=>?_) (fun c2 h3=>?_)
  ·obtain rfl:=Zac h2
   exact af fol hE [.r [],.r [(1,q1 [oB x1])],.c true,.r []] [] 0 [] (aI (Zbn.snd c1) c2)
  ·refine iteB h3 (fun c3 h4=>?_) (fun c3 h5=>?_)
   ·obtain rfl:=Zac h4
    exact af fol hE [.r [],.r [(1,q1 [oB x1])],.c false,.r [],.c true,.r []] [] 0 [] (aJ (Zbn.snd c1) c2 c3)
   ·obtain ⟨x2,c4,h6⟩:=Zad h5
    refine iteB h6 (fun c5 h7=>?_) (fun c5 h8=>?_)
    ·obtain rfl:=Zac h7
     exact afd fol hE [.r [],.r [(1,q1 [oB x1])],.c false,.r [],.c false,.d {ds:=[(7,q1 [oI x2])],hv:=0,Hs:=[]},.c true,.r []] [] 0 [] (aL (Zbn.snd c1) c2 c3 (Zde.snd c4) c5)
    ·obtain ⟨x3,c6,h9⟩:=Zad h8
     refine iteB h9 (fun c7 h10=>?_) (fun c7 h11=>?_)
     ·obtain rfl:=Zac h10
      exact afd fol hE [.r [],.r [(1,q1 [oB x1])],.c false,.r [],.c false,.d {ds:=[(7,q1 [oI x2])],hv:=0,Hs:=[]},.c false,.r [(2,q1 [oI x3])],.c true,.r []] [] 0 [] (aN (Zbn.snd c1) c2 c3 (Zde.snd c4) c5 (ZcD.snd c6) c7)
     ·obtain ⟨x4,c8,h12⟩:=Zad h11
      refine iteB h12 (fun c9 h13=>?_) (fun c9 h14=>?_)
      ·obtain rfl:=Zac h13
       exact afd fol hE [.r [],.r [(1,q1 [oB x1])],.c false,.r [],.c false,.d {ds:=[(7,q1 [oI x2])],hv:=0,Hs:=[]},.c false,.r [(2,q1 [oI x3])],.c false,.r [(4,q1 [oB x4])],.c true,.r []] [] 0 [] (aO (Zbn.snd c1) c2 c3 (Zde.snd c4) c5 (ZcD.snd c6) c7 (aI (ZcB.snd c8) c9))
      ·obtain ⟨x5,c10,h15⟩:=Zad h14
       refine iteB h15 (fun c11 h16=>?_) (fun c11 h17=>?_)
       ·obtain rfl:=Zac h16
        exact afd fol hE [.r [],.r [(1,q1 [oB x1])],.c false,.r [],.c false,.d {ds:=[(7,q1 [oI x2])],hv:=0,Hs:=[]},.c false,.r [(2,q1 [oI x3])],.c false,.r [(4,q1 [oB x4])],.c false,.r [(5,q1 [oB x5])],.c true,.r []] [] 0 [] (aO (Zbn.snd c1) c2 c3 (Zde.snd c4) c5 (ZcD.snd c6) c7 (aK (ZcB.snd c8) c9 (ZcO.snd c10) c11))
       ·obtain ⟨x6,c12,h18⟩:=Zad h17
        refine iteB h18 (fun c13 h19=>?_) (fun c13 h20=>?_)
        ·obtain rfl:=Zac h19
         exact afd fol hE [.r [],.r [(1,q1 [oB x1])],.c false,.r [],.c false,.d {ds:=[(7,q1 [oI x2])],hv:=0,Hs:=[]},.c false,.r [(2,q1 [oI x3])],.c false,.r [(4,q1 [oB x4])],.c false,.r [(5,q1 [oB x5])],.c false,.d {ds:=[(7,q1 [oI x6])],hv:=0,Hs:=[]},.c true,.r []] [] 0 [] (aO (Zbn.snd c1) c2 c3 (Zde.snd c4) c5 (ZcD.snd c6) c7 (aM (ZcB.snd c8) c9 (ZcO.snd c10) c11 (ZaY.snd c12) c13))
        ·obtain ⟨x7,c14,h21⟩:=Zad h20
         obtain ⟨x8,c15,h22⟩:=Zad h21
         refine iteB h22 (fun c16 h23=>?_) (fun c16 h24=>?_)
         ·obtain rfl:=Zac h23
          exact afd fol hE [.r [],.r [(1,q1 [oB x1])],.c false,.r [],.c false,.d {ds:=[(7,q1 [oI x2])],hv:=0,Hs:=[]},.c false,.r [(2,q1 [oI x3])],.c false,.r [(4,q1 [oB x4])],.c false,.r [(5,q1 [oB x5])],.c false,.d {ds:=[(7,q1 [oI x6])],hv:=0,Hs:=[]},.c false,.d {ds:=[(4,q1 [.agg [L.arr .u8 32 x7]]),(7,q1 [oB x8])],hv:=0,Hs:=[]},.c true,.r []] [] 0 [] (aO (Zbn.snd c1) c2 c3 (Zde.snd c4) c5 (ZcD.snd c6) c7 (aO (ZcB.snd c8) c9 (ZcO.snd c10) c11 (ZaY.snd c12) c13 (ZcZ.snd c14) (aI (ZbF.snd c15) c16)))
         ·obtain rfl:=Zac h24
          exact afd fol hE [.r [],.r [(1,q1 [oB x1])],.c false,.r [],.c false,.d {ds:=[(7,q1 [oI x2])],hv:=0,Hs:=[]},.c false,.r [(2,q1 [oI x3])],.c false,.r [(4,q1 [oB x4])],.c false,.r [(5,q1 [oB x5])],.c false,.d {ds:=[(7,q1 [oI x6])],hv:=0,Hs:=[]},.c false,.d {ds:=[(4,q1 [.agg [L.arr .u8 32 x7]]),(7,q1 [oB x8])],hv:=0,Hs:=[]},.c false,.r []] [] 0 [] (aO (Zbn.snd c1) c2 c3 (Zde.snd c4) c5 (ZcD.snd c6) c7 (aO (ZcB.snd c8) c9 (ZcO.snd c10) c11 (ZaY.snd c12) c13 (ZcZ.snd c14) (aI (ZbF.snd c15) c16)))
noncomputable def ZaE.B:Code:=Tryz.f24.body.getD .skip
noncomputable def ZaE.rs (r:Int×Int×Int×LL):List CV:=[oI r.1,oI r.2.1,oI r.2.2.1]
noncomputable def ZaE.p2 (N:Nat) (i2:Nat) (now_2 ahead_12:Int) (is_13:Bool) (h_1:Zai) (st:LL):Option (Int×Int×Int×LL):=
 if (!is_13)=true then
  some ((-1),2,5,st)
 else
 getE (st[i2]?) ZbV fun x14=>
 chk (0≤ahead_12)<|
 chk (ahead_12<(len x14.spots))<|
 getE (x14.spots[0+(Int.toNat ahead_12)]?) ZeH fun x15=>
 optE (Zdo N x14.rules x15 h_1 now_2) fun x16=>
 if (x16 != 0)=true then
  some ((-1),x16,8,st)
 else
 if (decide ((len x14.list)≥x14.room))=true then
  some ((-1),0,6,st)
 else
 optE (Zdd N x14.rules x15 h_1) fun x17=>
 optE (ZaU N (some i2) h_1 ahead_12 x17 st) fun (x18,st19)=>
 some (x18,0,0,st19)
noncomputable def ZaE.p1 (N:Nat) (i2:Nat) (now_2 at_7:Int) (is_8:Bool) (h_1:Zai) (st:LL):Option (Int×Int×Int×LL):=
 if is_8=true then
  some (at_7,0,0,st)
 else
 getE (st[i2]?) ZbV fun x9=>
 optM (mfind x9.places (L.arr .u8 32 h_1.Prev)) (fun j10 e=>ZcS [e] fun x11=>
  ZaE.p2 N i2 now_2 x11 true h_1 st)
 (
  ZaE.p2 N i2 now_2 0 false h_1 st)
noncomputable def ZaE (N:Nat) (a_0:Option Nat) (h_1:Zai) (now_2:Int) (st:LL):Option (Int×Int×Int×LL):=
 if (Option.isNone a_0)=true then
  some ((-1),0,2,st)
 else
 optE (Zbn N h_1) fun x1=>
 if (!x1)=true then
  some ((-1),1,8,st)
 else
 optE a_0 fun i2=>
 getE (st[i2]?) ZbV fun x3=>
 optE (ZcZ N h_1) fun x4=>
 optM (mfind x3.places (L.arr .u8 32 x4)) (fun j5 e=>ZcS [e] fun x6=>
  ZaE.p1 N i2 now_2 x6 true h_1 st)
 (
  ZaE.p1 N i2 now_2 0 false h_1 st)
noncomputable def ZaE.p2.S (i2:Nat) (now_2 ahead_12:Int) (is_13:Bool) (h_1:Zai) (st:LL):S:=mkS 87 [(0,sP (some i2)),(2,sI now_2),(4,sA 4),(11,sI ahead_12),(12,.one (.l (L.bool is_13)))] [(4,.cells h_1.ls)] st
noncomputable def ZaE.p1.S (i2:Nat) (now_2 at_7:Int) (is_8:Bool) (h_1:Zai) (st:LL):S:=mkS 87 [(0,sP (some i2)),(2,sI now_2),(4,sA 4),(9,sI at_7),(10,.one (.l (L.bool is_8)))] [(4,.cells h_1.ls)] st
theorem ZaE.p2_ok {i2 now_2 ahead_12 is_13 h_1 st r} (h:ZaE.p2 N i2 now_2 ahead_12 is_13 h_1 st=some r) (hE:En Tryz.f24 g0 w0 (ZaE.rs r) r.2.2.2 R):At g0 w0 (ZaE.p2.S i2 now_2 ahead_12 is_13 h_1 st) (XK Tryz.prog R [.c (csub ZaE.B [1,1,1,1,1])]):=by
 unfold ZaE.p2 at h
 refine iteB h (fun c11 h1=>?_) (fun c11 h2=>?_)
 ·obtain rfl:=Zac h1
  exact af fol hE [.r [],.c true,.r []] [] 0 [] c11
 ·obtain ⟨x14,c12,h3⟩:=ZbT h2
  obtain ⟨c13,c14,h4⟩:=ck2 h3
  obtain ⟨x15,c15,h5⟩:=Zhj h4
  obtain ⟨x16,c16,h6⟩:=Zad h5
  refine iteB h6 (fun c17 h7=>?_) (fun c17 h8=>?_)
  ·obtain rfl:=Zac h7
   exact afd fol hE [.r [],.c false,.d {ds:=[(3,{oc:=x14.lo}),(7,{oc:=x14.lo}),(10,{oc:=x14.lo,oe:=x15.ls}),(13,q1 [oI x16])],hv:=0,Hs:=[]},.r [],.c true,.r []] [] 0 [] (aO c11 c12 c12 c13 c14 c15 c12 (aI (Zdo.snd c16) c17))
  ·refine iteB h8 (fun c18 h9=>?_) (fun c18 h10=>?_)
   ·obtain rfl:=Zac h9
    exact afd fol hE [.r [],.c false,.d {ds:=[(3,{oc:=x14.lo}),(7,{oc:=x14.lo}),(10,{oc:=x14.lo,oe:=x15.ls}),(13,q1 [oI x16])],hv:=0,Hs:=[]},.r [],.c false,.d {ds:=[(3,{oc:=x14.lo}),(8,{oc:=x14.lo})],hv:=0,Hs:=[]},.c true,.r []] [] 0 [] (aO c11 c12 c12 c13 c14 c15 c12 (aL (Zdo.snd c16) c17 c12 c12 c18))
   ·obtain ⟨x17,c19,h11⟩:=Zad h10
    obtain ⟨⟨x18,st19⟩,c20,h12⟩:=Zad h11
    obtain rfl:=Zac h12
    exact afd fol hE [.r [],.c false,.d {ds:=[(3,{oc:=x14.lo}),(7,{oc:=x14.lo}),(10,{oc:=x14.lo,oe:=x15.ls}),(13,q1 [oI x16])],hv:=0,Hs:=[]},.r [],.c false,.d {ds:=[(3,{oc:=x14.lo}),(8,{oc:=x14.lo})],hv:=0,Hs:=[]},.c false,.d {ds:=[(6,{oc:=x14.lo}),(10,{oc:=x14.lo}),(13,{oc:=x14.lo,oe:=x15.ls}),(15,q1 [.agg x17.ls]),(16,{rs:=[oI x18],st:=st19})],hv:=65536,Hs:=[65536]}] [] 0 [] (aO c11 c12 c12 c13 c14 c15 c12 (aO (Zdo.snd c16) c17 c12 c12 c18 c12 c12 (aM c13 c14 c15 c12 (Zdd.snd c19) (ZaU.snd c20))))
theorem ZaE.p1_ok {i2 now_2 at_7 is_8 h_1 st r} (h:ZaE.p1 N i2 now_2 at_7 is_8 h_1 st=some r) (hE:En Tryz.f24 g0 w0 (ZaE.rs r) r.2.2.2 R):At g0 w0 (ZaE.p1.S i2 now_2 at_7 is_8 h_1 st) (XK Tryz.prog R [.c (csub ZaE.B [1,1,1,0,1]),.c (csub ZaE.B [1,1,1,1])]):=by
 unfold ZaE.p1 at h
 refine iteB h (fun c8 h13=>?_) (fun c8 h14=>?_)
 ·obtain rfl:=Zac h13
  exact af fol hE [.r [],.c true,.r []] [] 0 [] c8
 ·obtain ⟨x9,c9,h15⟩:=ZbT h14
  rcases ZjH h15 with ⟨j10,h19,c10,h16⟩ | ⟨c10,h17⟩
  ·obtain ⟨x11,h20,h18⟩:=Zgq h16
   obtain rfl:=Zhb h20
   exact aqd fol [.r [],.c false,.d {ds:=[(3,{oc:=x9.lo}),(6,{oc:=x9.lo,oe:=[L.int .i64 x11]})],hv:=0,Hs:=[]},.s 1] [0,2,4,11,12] [4] (aK c8 c9 (Zny c10) c9) (ZaE.p2_ok h18 hE)
  ·exact aqd fol [.r [],.c false,.d {ds:=[(3,{oc:=x9.lo}),(6,{oc:=x9.lo,yes:=false})],hv:=0,Hs:=[]},.s 1] [0,2,4,11,12] [4] (aK c8 c9 c10 c9) (ZaE.p2_ok h17 hE)
theorem ZaE.snd {a_0:Option Nat} {h_1:Zai} {now_2:Int} {st:LL} {r:Int×Int×Int×LL} (h:ZaE N a_0 h_1 now_2 st=some r):Snd Tryz.prog 24 [.one (L.ptr a_0),.agg h_1.ls,oI now_2] st (ZaE.rs r) r.2.2.2:=
 sO ZaE.B Tryz.func24 fun g0 w0 R hE=>by
  unfold ZaE at h
  refine iteB h (fun c1 h21=>?_) (fun c1 h22=>?_)
  ·obtain rfl:=Zac h21
   exact af fol hE [.r [],.r [],.c true,.r []] [] 0 [] c1
  ·obtain ⟨x1,c2,h23⟩:=Zad h22
   refine iteB h23 (fun c3 h24=>?_) (fun c3 h25=>?_)
   ·obtain rfl:=Zac h24
    exact af fol hE [.r [],.r [],.c false,.r [(1,q1 [oB x1])],.c true,.r []] [] 0 [] (aJ c1 (Zbn.snd c2) c3)
   ·obtain ⟨i2,rfl,h26⟩:=Zad h25
    obtain ⟨x3,c5,h27⟩:=ZbT h26
    obtain ⟨x4,c6,h28⟩:=Zad h27
    rcases ZjH h28 with ⟨j5,h32,c7,h29⟩ | ⟨c7,h30⟩
    ·obtain ⟨x6,h33,h31⟩:=Zgq h29
     obtain rfl:=Zhb h33
     exact aqd fol [.r [],.r [],.c false,.r [(1,q1 [oB x1])],.c false,.d {ds:=[(3,{oc:=x3.lo}),(5,q1 [.agg [L.arr .u8 32 x4]]),(6,{oc:=x3.lo,oe:=[L.int .i64 x6]})],hv:=0,Hs:=[]},.s 2] [0,2,4,9,10] [4] (aN c1 (Zbn.snd c2) c3 c5 (ZcZ.snd c6) (Zny c7) c5) (ZaE.p1_ok h31 hE)
    ·exact aqd fol [.r [],.r [],.c false,.r [(1,q1 [oB x1])],.c false,.d {ds:=[(3,{oc:=x3.lo}),(5,q1 [.agg [L.arr .u8 32 x4]]),(6,{oc:=x3.lo,yes:=false})],hv:=0,Hs:=[]},.s 2] [0,2,4,9,10] [4] (aN c1 (Zbn.snd c2) c3 c5 (ZcZ.snd c6) c7 c5) (ZaE.p1_ok h30 hE)
noncomputable def Zdl.B:Code:=Tryz.f85.body.getD .skip
noncomputable def Zdl.rs (r:ZbJ×Bool×LL):List CV:=[.agg r.1.ls,oB r.2.1]
noncomputable def Zdl (N:Nat) (t_0:Option Nat) (at_1:Int) (st:LL):Option (ZbJ×Bool×LL):=
 if (Option.isNone t_0)=true then
  some (ZbJ.mk (Zai.mk 0 (List.replicate 32 0) (List.replicate 32 0) 0 0 0) (List.replicate 32 0) (-1) 0 (List.replicate 4 0),false,st)
 else
 optE t_0 fun i1=>
 getE (st[i1]?) Zdb fun x2 x3=>
 optE x2 fun i4=>
 getE (st[i4]?) ZbV fun x5=>
 optE (ZbI N x5 at_1) fun (x6,x7)=>
 some (x6,x7,st)
theorem Zdl.snd {t_0:Option Nat} {at_1:Int} {st:LL} {r:ZbJ×Bool×LL} (h:Zdl N t_0 at_1 st=some r):Snd Tryz.prog 85 [.one (L.ptr t_0),oI at_1] st (Zdl.rs r) r.2.2:=
 sO Zdl.B Tryz.func85 fun g0 w0 R hE=>by
  unfold Zdl at h
  refine iteB h (fun c1 h1=>?_) (fun c1 h2=>?_)
  ·obtain rfl:=Zac h1
   exact af fol hE [.r [],.r [],.c true,.r []] [] 0 [] c1
  ·obtain ⟨i1,rfl,h3⟩:=Zad h2
   obtain ⟨x2,x3,c3,h4⟩:=ZcY h3
   obtain ⟨i4,rfl,h5⟩:=Zad h4
   obtain ⟨x5,c5,h6⟩:=ZbT h5
   obtain ⟨⟨x6,x7⟩,c6,h7⟩:=Zad h6
   obtain rfl:=Zac h7
   exact af fol hE [.r [],.r [],.c false,.r [(3,{oc:=[L.ptr (some i4),L.own true 1 x3]}),(5,{rs:=[.agg x6.ls,oB x7],m:=10,cv:=[.one (L.bx 87 x5.ls)]})]] [] 0 [] (aK c1 c3 (bO 87 c5 (Zay.bv x5)) (ZbI.snd c6))
noncomputable def Zct.B:Code:=Tryz.f81.body.getD .skip
noncomputable def Zct.rs (r:Int×LL):List CV:=[oI r.1]
noncomputable def Zct (N:Nat) (t_0:Option Nat) (at_1:Int) (st:LL):Option (Int×LL):=
 optE (Zdl N t_0 at_1 st) fun (x1,x2,st3)=>
 if (!x2)=true then
  some ((-1),st3)
 else
 some (x1.Height,st3)
theorem Zct.snd {t_0:Option Nat} {at_1:Int} {st:LL} {r:Int×LL} (h:Zct N t_0 at_1 st=some r):Snd Tryz.prog 81 [.one (L.ptr t_0),oI at_1] st (Zct.rs r) r.2:=
 sO Zct.B Tryz.func81 fun g0 w0 R hE=>by
  unfold Zct at h
  obtain ⟨⟨x1,x2,st3⟩,c1,h1⟩:=Zad h
  refine iteB h1 (fun c2 h2=>?_) (fun c2 h3=>?_)
  ·obtain rfl:=Zac h2
   exact af fol hE [.r [],.r [(2,{rs:=[.agg x1.ls,oB x2],st:=st3})],.r [],.c true,.r []] [] 0 [] (aI (Zdl.snd c1) c2)
  ·obtain rfl:=Zac h3
   exact af fol hE [.r [],.r [(2,{rs:=[.agg x1.ls,oB x2],st:=st3})],.r [],.c false,.r []] [] 0 [] (aI (Zdl.snd c1) c2)
noncomputable def ZaI.B:Code:=Tryz.f77.body.getD .skip
noncomputable def ZaI.rs (r:Int×LL):List CV:=[oI r.1]
noncomputable def ZaI.p2 (N:Nat) (c1_:((Option Nat)×Int×Int×LL)→Option (Int×LL)) (i26:Nat) (height_2 next_35 x33 x34:Int) (st25:LL):Option (Int×LL):=
 getE (st25[i26]?) Zdb fun x36 x37=>
 optE x36 fun i38=>
 getE (st25[i38]?) ZbV fun x39=>
 optE (ZaK N (Zat.mk x39 x37) next_35) fun x40=>
 c1_ ((some i26),next_35,x40,st25)
noncomputable def ZaI.p1 (N:Nat) (height_2:Int) (c1_:((Option Nat)×Int×Int×LL)→Option (Int×LL)):((Option Nat)×Int×Int×LL)→Option (Int×LL):=fun (t_24,at_3,h_4,st25)=>
 if (decide (h_4>height_2))=true then
  optE t_24 fun i26=>
  getE (st25[i26]?) Zdb fun x27 x28=>
  optE x27 fun i29=>
  getE (st25[i29]?) ZbV fun x30=>
  optE (ZbB N (Zat.mk x30 x28) at_3) fun (x31,x32)=>
  chk (0≤at_3)<|
  chk (at_3<(len x28))<|
  getE (x28[0+(Int.toNat at_3)]?) ZcS fun x33=>
  if (x33 != (-1))=true then
   optE (ZaK N (Zat.mk x30 x28) x33) fun x34=>
   if (decide (x34≥height_2))=true then
    ZaI.p2 N c1_ i26 height_2 x33 x33 x34 st25
   else
   ZaI.p2 N c1_ i26 height_2 x31.Ahead x33 x34 st25
  else
  optE (ZaK N (Zat.mk x30 x28) x31.Ahead) fun x41=>
  c1_ ((some i26),x31.Ahead,x41,st25)
 else
 some (at_3,st25)
noncomputable def ZaI (N:Nat) (t_0:Option Nat) (at_1 height_2:Int) (st:LL):Option (Int×LL):=
 optE (Zct N t_0 at_1 st) fun (x1,st2)=>
 if (decide (height_2<0))=true then
  some ((-1),st2)
 else
 if (decide (height_2>x1))=true then
  some ((-1),st2)
 else
 loopN (ZaI.p1 N height_2) N (t_0,at_1,x1,st2)
noncomputable def ZaI.p2.S (i26:Nat) (height_2 next_35 x33 x34:Int) (st25:LL):S:=mkS 55 [(0,sP (some i26)),(2,sI height_2),(10,sI next_35),(43,sP (some i26)),(44,sI x33),(45,sI x34),(46,sI height_2),(47,.one (.l (L.bool (decide (x34≥height_2)))))] [] st25
noncomputable def ZaI.p1.S (t_24:Option Nat) (at_3 height_2 h_4:Int) (st25:LL):S:=mkS 55 [(0,sP t_24),(1,sI at_3),(2,sI height_2),(7,sI h_4)] [] st25
theorem ZaI.p2_ok {i26 height_2 next_35 x33 x34 st25 r c1_ J1} (h:ZaI.p2 N c1_ i26 height_2 next_35 x33 x34 st25=some r) (hE:En Tryz.f77 g0 w0 (ZaI.rs r) r.2 R) (hc1 : ∀t_24 at_3 h_4 st25,c1_ (t_24,at_3,h_4,st25)=some r→At g0 w0 (ZaI.p1.S t_24 at_3 height_2 h_4 st25) J1):At g0 w0 (ZaI.p2.S i26 height_2 next_35 x33 x34 st25) (XK Tryz.prog R [.c (csub ZaI.B [1,1,1,0,0,0,1,0,1,1,1]),.b 1,.h J1,.b 0,.c (csub ZaI.B [1,1,1,1])]):=by
 unfold ZaI.p2 at h
 obtain ⟨x36,x37,c35,h1⟩:=ZcY h
 obtain ⟨i38,rfl,h2⟩:=Zad h1
 obtain ⟨x39,c37,h3⟩:=ZbT h2
 obtain ⟨x40,c38,h4⟩:=Zad h3
 exact an fol [.r [(3,{rs:=[oI x40],m:=10,cv:=[.one (L.bx 2 (Zat.ls (Zat.mk x39 x37)))]})]] [0,1,2,7] [] (aI (bO 2 c35 ((bC 87 c37 (Zay.bv x39) (bW bN)):BVs st25 [L.ptr (some i38),L.own true 1 x37] (Zat.ls (Zat.mk x39 x37)))) (ZaK.snd c38)) (hc1 (some i26) next_35 x40 st25 h4)
theorem ZaI.p1_ok {t_24 at_3 height_2 h_4 st25 r c1_ J1} (h:ZaI.p1 N height_2 c1_ (t_24,at_3,h_4,st25)=some r) (hE:En Tryz.f77 g0 w0 (ZaI.rs r) r.2 R) (hc1 : ∀t_24 at_3 h_4 st25,c1_ (t_24,at_3,h_4,st25)=some r→At g0 w0 (ZaI.p1.S t_24 at_3 height_2 h_4 st25) J1):At g0 w0 (ZaI.p1.S t_24 at_3 height_2 h_4 st25) (XK Tryz.prog R (.c (csub ZaI.B [1,1,1,0,0,0]) :: .h J1 :: [.b 0,.c (csub ZaI.B [1,1,1,1])])):=by
 unfold ZaI.p1 at h
 refine iteB h (fun c23 h5=>?_) (fun c23 h6=>?_)
 ·obtain ⟨i26,rfl,h7⟩:=Zad h5
  obtain ⟨x27,x28,c25,h8⟩:=ZcY h7
  obtain ⟨i29,rfl,h9⟩:=Zad h8
  obtain ⟨x30,c27,h10⟩:=ZbT h9
  obtain ⟨⟨x31,x32⟩,c28,h11⟩:=Zad h10
  obtain ⟨c29,c30,h12⟩:=ck2 h11
  obtain ⟨x33,c31,h13⟩:=Zci h12
  refine iteB h13 (fun c32 h14=>?_) (fun c32 h15=>?_)
  ·obtain ⟨x34,c33,h16⟩:=Zad h14
   refine iteB h16 (fun c34 h17=>?_) (fun c34 h18=>?_)
   ·exact aq fol [.r [],.c true,.r [(2,{rs:=[.agg x31.ls,oB x32],m:=10,cv:=[.one (L.bx 2 (Zat.ls (Zat.mk x30 x28)))]})],.r [],.r [(3,{oc:=[L.ptr (some i29),L.own true 1 x28]}),(6,{oc:=[L.ptr (some i29),L.own true 1 x28],oe:=[L.int .i64 x33]})],.r [(5,{rs:=[oI x34],m:=10,cv:=[.one (L.bx 2 (Zat.ls (Zat.mk x30 x28)))]})],.c true,.r [],.s 5] [0,2,10,43,44,45,46,47] [] (aO c23 (bO 2 c25 ((bC 87 c27 (Zay.bv x30) (bW bN)):BVs st25 [L.ptr (some i29),L.own true 1 x28] (Zat.ls (Zat.mk x30 x28)))) (ZbB.snd c28) c25 c29 c30 c31 (aO c25 c32 c32 c32 (bO 2 c25 ((bC 87 c27 (Zay.bv x30) (bW bN)):BVs st25 [L.ptr (some i29),L.own true 1 x28] (Zat.ls (Zat.mk x30 x28)))) (ZaK.snd c33) c32 (aJ c32 c32 c34))) (ZaI.p2_ok h17 hE hc1)
   ·exact aq fol [.r [],.c true,.r [(2,{rs:=[.agg x31.ls,oB x32],m:=10,cv:=[.one (L.bx 2 (Zat.ls (Zat.mk x30 x28)))]})],.r [],.r [(3,{oc:=[L.ptr (some i29),L.own true 1 x28]}),(6,{oc:=[L.ptr (some i29),L.own true 1 x28],oe:=[L.int .i64 x33]})],.r [(5,{rs:=[oI x34],m:=10,cv:=[.one (L.bx 2 (Zat.ls (Zat.mk x30 x28)))]})],.c false,.s 5] [0,2,10,43,44,45,46,47] [] (aO c23 (bO 2 c25 ((bC 87 c27 (Zay.bv x30) (bW bN)):BVs st25 [L.ptr (some i29),L.own true 1 x28] (Zat.ls (Zat.mk x30 x28)))) (ZbB.snd c28) c25 c29 c30 c31 (aO c25 c32 c32 c32 (bO 2 c25 ((bC 87 c27 (Zay.bv x30) (bW bN)):BVs st25 [L.ptr (some i29),L.own true 1 x28] (Zat.ls (Zat.mk x30 x28)))) (ZaK.snd c33) c32 (aJ c32 c32 c34))) (ZaI.p2_ok h18 hE hc1)
  ·obtain ⟨x41,c39,h19⟩:=Zad h15
   exact an fol [.r [],.c true,.r [(2,{rs:=[.agg x31.ls,oB x32],m:=10,cv:=[.one (L.bx 2 (Zat.ls (Zat.mk x30 x28)))]})],.r [],.r [(3,{oc:=[L.ptr (some i29),L.own true 1 x28]}),(6,{oc:=[L.ptr (some i29),L.own true 1 x28],oe:=[L.int .i64 x33]})],.r [(3,wF),(4,wF),(5,wF),(6,wF),(7,wF),(8,yF)],.c false,.r [(3,{rs:=[oI x41],m:=10,cv:=[.one (L.bx 2 (Zat.ls (Zat.mk x30 x28)))]})]] [0,1,2,7] [] (aO c23 (bO 2 c25 ((bC 87 c27 (Zay.bv x30) (bW bN)):BVs st25 [L.ptr (some i29),L.own true 1 x28] (Zat.ls (Zat.mk x30 x28)))) (ZbB.snd c28) c25 c29 c30 c31 (aO c25 c32 c32 c32 c32 c32 c32 (aJ eF (bO 2 c25 ((bC 87 c27 (Zay.bv x30) (bW bN)):BVs st25 [L.ptr (some i29),L.own true 1 x28] (Zat.ls (Zat.mk x30 x28)))) (ZaK.snd c39)))) (hc1 (some i26) x31.Ahead x41 st25 h19)
 ·obtain rfl:=Zac h6
  exact af fol hE [.r [],.c false,.r []] [] 0 [] c23
theorem ZaI.snd {t_0:Option Nat} {at_1 height_2:Int} {st:LL} {r:Int×LL} (h:ZaI N t_0 at_1 height_2 st=some r):Snd Tryz.prog 77 [.one (L.ptr t_0),oI at_1,oI height_2] st (ZaI.rs r) r.2:=
 sO ZaI.B Tryz.func77 fun g0 w0 R hE=>by
  unfold ZaI at h
  obtain ⟨⟨x1,st2⟩,c1,h20⟩:=Zad h
  refine iteB h20 (fun c2 h21=>?_) (fun c2 h22=>?_)
  ·obtain rfl:=Zac h21
   exact af fol hE [.r [],.r [(2,{rs:=[oI x1],st:=st2})],.r [(3,wF),(4,wF),(5,wF)],.c true,.r []] [] 0 [] (aM (Zct.snd c1) c2 c2 c2 c2 eT)
  ·refine iteB h22 (fun c3 h23=>?_) (fun c3 h24=>?_)
   ·obtain rfl:=Zac h23
    exact af fol hE [.r [],.r [(2,{rs:=[oI x1],st:=st2})],.r [(6,yF)],.c true,.r []] [] 0 [] (aM (Zct.snd c1) c2 c2 c2 c2 c3)
   ·exact aq fol [.r [],.r [(2,{rs:=[oI x1],st:=st2})],.r [(6,yF)],.c false] [0,1,2,7] [] (aM (Zct.snd c1) c2 c2 c2 c2 c3) (At.loop N (At.loopN (fun y:(Option Nat)×Int×Int×LL=>ZaI.p1.S y.1 y.2.1 height_2 y.2.2.1 y.2.2.2) (fun c J hc y h=>ZaI.p1_ok (t_24:=y.1) (at_3:=y.2.1) (h_4:=y.2.2.1) (st25:=y.2.2.2) h hE (fun t_24 at_3 h_4 st25=>hc (t_24,at_3,h_4,st25))) N (t_0,at_1,x1,st2) h24))
noncomputable def Zbs.B:Code:=Tryz.f79.body.getD .skip
noncomputable def Zbs.rs (r:Int×Int×Int×LL):List CV:=[oI r.1,oI r.2.1,oI r.2.2.1]
noncomputable def Zbs.p1 (N:Nat) (x4 x5 x6:Int) (st16:LL):Option (Int×Int×Int×LL):=
 some (x4,x5,x6,st16)
noncomputable def Zbs (N:Nat) (t_0:Option Nat) (h_1:Zai) (now_2:Int) (st:LL):Option (Int×Int×Int×LL):=
 if (Option.isNone t_0)=true then
  some ((-1),0,2,st)
 else
 optE t_0 fun i1=>
 getE (st[i1]?) Zdb fun x2 x3=>
 optE (ZaE N x2 h_1 now_2 st) fun (x4,x5,x6,st7)=>
 if (x6==0)=true then
  getE (st7[i1]?) Zdb fun x8 x9=>
  if (x4==(len x9))=true then
   optE x8 fun i10=>
   getE (st7[i10]?) ZbV fun x11=>
   optE (ZbI N x11 x4) fun (x12,x13)=>
   optE (Zcw N x12.Height) fun x14=>
   optE (Zao N (Zat.mk x11 x9) x12.Ahead x14) fun x15=>
   chk (List.length (x9 ++ [[L.int .i64 x15]])*8≤140737488355328)<|
   Zbs.p1 N x4 x5 x6 (List.set (List.set st7 i1 [L.ptr (some i10),L.gone]) i1 [L.ptr (some i10),L.own true 1 (x9 ++ [[L.int .i64 x15]])])
  else
  Zbs.p1 N x4 x5 x6 st7
 else
 some (x4,x5,x6,st7)
noncomputable def Zbs.p1.S (x4 x5 x6:Int) (st16:LL):S:=mkS 66 [(9,sI x4),(10,sI x5),(11,sI x6)] [] st16
theorem Zbs.p1_ok {x4 x5 x6 st16 r} (h:Zbs.p1 N x4 x5 x6 st16=some r) (hE:En Tryz.f79 g0 w0 (Zbs.rs r) r.2.2.2 R):At g0 w0 (Zbs.p1.S x4 x5 x6 st16) (XK Tryz.prog R [.c (csub Zbs.B [1,1,1,1])]):=by
 unfold Zbs.p1 at h
 obtain rfl:=Zac h
 exact af fol hE [.r []] [] 0 [] trivial
theorem Zbs.snd {t_0:Option Nat} {h_1:Zai} {now_2:Int} {st:LL} {r:Int×Int×Int×LL} (h:Zbs N t_0 h_1 now_2 st=some r):Snd Tryz.prog 79 [.one (L.ptr t_0),.agg h_1.ls,oI now_2] st (Zbs.rs r) r.2.2.2:=
 sO Zbs.B Tryz.func79 fun g0 w0 R hE=>by
  unfold Zbs at h
  refine iteB h (fun c1 h1=>?_) (fun c1 h2=>?_)
  ·obtain rfl:=Zac h1
   exact af fol hE [.r [],.r [],.c true,.r []] [] 0 [] c1
  ·obtain ⟨i1,rfl,h3⟩:=Zad h2
   obtain ⟨x2,x3,c3,h4⟩:=ZcY h3
   obtain ⟨⟨x4,x5,x6,st7⟩,c4,h5⟩:=Zad h4
   refine iteB h5 (fun c5 h6=>?_) (fun c5 h7=>?_)
   ·obtain ⟨x8,x9,c6,h8⟩:=ZcY h6
    refine iteB h8 (fun c7 h9=>?_) (fun c7 h10=>?_)
    ·obtain ⟨i10,rfl,h11⟩:=Zad h9
     obtain ⟨x11,c9,h12⟩:=ZbT h11
     obtain ⟨⟨x12,x13⟩,c10,h13⟩:=Zad h12
     obtain ⟨x14,c11,h14⟩:=Zad h13
     obtain ⟨x15,c12,h15⟩:=Zad h14
     obtain ⟨c13,h16⟩:=ZaX h15
     exact aqd fol [.r [],.r [],.c false,.d {ds:=[(3,{oc:=[L.ptr x2,L.own true 1 x3]}),(6,{rs:=[oI x4,oI x5,oI x6],st:=st7})],hv:=64,Hs:=[64]},.r [(7,{oc:=[L.ptr (some i10),L.own true 1 x9]})],.c true,.r [(3,{oc:=[L.ptr (some i10),L.own true 1 x9]}),(5,{rs:=[.agg x12.ls,oB x13],m:=10,cv:=[.one (L.bx 87 x11.ls)]})],.d {ds:=[(4,{oc:=[L.ptr (some i10),L.own true 1 x9]}),(10,q1 [oI x14]),(11,{rs:=[oI x15],m:=10,cv:=[.one (L.bx 2 (Zat.ls (Zat.mk x11 x9)))]}),(13,{oe:=[L.ptr (some i10),L.own true 1 x9]}),(16,{oc:=[L.ptr (some i10),L.gone],mv:=[60]})],hv:=79872,Hs:=[2048,6144,14336,79872]},.s 1] [9,10,11] [] (aO c1 c3 (ZaE.snd c4) c5 c5 c5 c5 (aO c5 c6 c5 c5 c5 c7 c6 (aO (bO 87 c9 (Zay.bv x11)) (ZbI.snd c10) c6 c6 c6 (Zcw.snd c11) (bO 2 c6 ((bC 87 c9 (Zay.bv x11) (bW bN)):BVs st7 [L.ptr (some i10),L.own true 1 x9] (Zat.ls (Zat.mk x11 x9)))) (aO (Zao.snd c12) z0 (eN (List.length x9)) c6 z0 (eN (1)) c13 (aJ (Zam c6 [L.ptr (some i10),L.gone]) z0 (eN (List.length (x9 ++ [[L.int .i64 x15]])))))))) (Zbs.p1_ok h16 hE)
    ·exact aqd fol [.r [],.r [],.c false,.d {ds:=[(3,{oc:=[L.ptr x2,L.own true 1 x3]}),(6,{rs:=[oI x4,oI x5,oI x6],st:=st7})],hv:=64,Hs:=[64]},.r [(7,{oc:=[L.ptr x8,L.own true 1 x9]})],.c false,.s 1] [9,10,11] [] (aO c1 c3 (ZaE.snd c4) c5 c5 c5 c5 (aM c5 c6 c5 c5 c5 c7)) (Zbs.p1_ok h10 hE)
   ·obtain rfl:=Zac h7
    exact afd fol hE [.r [],.r [],.c false,.d {ds:=[(3,{oc:=[L.ptr x2,L.own true 1 x3]}),(6,{rs:=[oI x4,oI x5,oI x6],st:=st7})],hv:=64,Hs:=[64]},.r [(3,wF),(4,wF),(5,wF),(6,wF),(7,wF),(8,wF),(9,wF),(10,yF)],.c false,.r []] [] 0 [] (aO c1 c3 (ZaE.snd c4) c5 c5 c5 c5 (aL c5 c5 c5 c5 eF))
noncomputable def Zbd.B:Code:=Tryz.f33.body.getD .skip
noncomputable def Zbd.rs (r:Int):List CV:=[oI r]
noncomputable def Zbd.p1 (N:Nat) (a_0:Zaa) (id_1_0:List Int) (c1_:Int→Option Int):Int→Option Int:=fun v1=>
 if (decide (v1<(len a_0.Ids)))=true then
  chk (0≤v1)<|
  getE (a_0.Ids[Int.toNat v1]?) Zfk fun x2=>
  if (x2==id_1_0)=true then
   some v1
  else
  c1_ (w64 (v1+1))
 else
 some (-1)
noncomputable def Zbd (N:Nat) (a_0:Zaa) (id_1_0:List Int):Option Int:=
 loopN (Zbd.p1 N a_0 id_1_0) N 0
noncomputable def Zbd.p1.S (a_0:Zaa) (v1:Int) (id_1_0:List Int) (st:LL):S:=mkS 22 [(3,sA 3),(10,sV 32 a_0.Ids),(11,sI (len a_0.Ids)),(12,sI v1)] [(3,.cells [L.arr .u8 32 id_1_0])] st
theorem Zbd.p1_ok {a_0 v1 id_1_0 st r c1_ J1} (h:Zbd.p1 N a_0 id_1_0 c1_ v1=some r) (hE:En Tryz.f33 g0 w0 (Zbd.rs r) st R) (hc1 : ∀v1,c1_ v1=some r→At g0 w0 (Zbd.p1.S a_0 v1 id_1_0 st) J1):At g0 w0 (Zbd.p1.S a_0 v1 id_1_0 st) (XK Tryz.prog R (.c (csub Zbd.B [1,0,1,0,0]) :: .h J1 :: [.b 0,.c (csub Zbd.B [1,1])])):=by
 unfold Zbd.p1 at h
 refine iteB h (fun c1 h1=>?_) (fun c1 h2=>?_)
 ·obtain ⟨c2,h3⟩:=ZaX h1
  obtain ⟨x2,c3,h4⟩:=Zfv h3
  refine iteB h4 (fun c4 h5=>?_) (fun c4 h6=>?_)
  ·obtain rfl:=Zac h5
   exact af fol hE [.r [],.c true,.r [(2,{oe:=[L.arr .u8 32 x2]})],.r [],.c true,.r []] [] 0 [] (aL c1 c2 (oD c1) c3 c4)
  ·exact an fol [.r [],.c true,.r [(2,{oe:=[L.arr .u8 32 x2]})],.r [],.c false,.r []] [3,10,11,12] [3] (aL c1 c2 (oD c1) c3 c4) (hc1 (w64 (v1+1)) h6)
 ·obtain rfl:=Zac h2
  exact af fol hE [.r [],.c false,.r []] [] 0 [] c1
theorem Zbd.snd {a_0:Zaa} {id_1_0:List Int} {r:Int} (h:Zbd N a_0 id_1_0=some r):SndQ Tryz.prog 33 [.one (L.bx 88 a_0.ls),.agg [L.arr .u8 32 id_1_0]] (Zbd.rs r):=fun st=>
 sO Zbd.B Tryz.func33 fun g0 w0 R hE=>by
  unfold Zbd at h
  exact aq fol [.r [],.r [(3,{oe:=a_0.ls})]] [3,10,11,12] [3] (eO a_0.ls) (At.loop N (At.loopN (fun y:Int=>Zbd.p1.S a_0 y id_1_0 st) (fun c J hc y h=>Zbd.p1_ok h hE (fun v1=>hc v1)) N 0 h))
noncomputable def ZaO.B:Code:=Tryz.f35.body.getD .skip
noncomputable def ZaO.rs (r:LL):List CV:=[.row true 68 r]
noncomputable def ZaO.p1 (N:Nat) (a_0:Zaa) (c1_:(LL×Int)→Option LL):(LL×Int)→Option LL:=fun (out_4,k_1)=>
 if (decide (k_1≥0))=true then
  chk (0≤k_1)<|
  chk (k_1<(len a_0.List_))<|
  getE (a_0.List_[Int.toNat k_1]?) Zdm fun x5=>
  chk (List.length ([x5.ls]++out_4)*96≤140737488355328)<|
  chk (k_1<(len a_0.Ahead))<|
  getE (a_0.Ahead[Int.toNat k_1]?) ZcS fun x6=>
  c1_ ([x5.ls]++out_4,x6)
 else
 some out_4
noncomputable def ZaO (N:Nat) (a_0:Zaa) (at_1:Int):Option LL:=
 loopN (ZaO.p1 N a_0) N ([],at_1)
noncomputable def ZaO.p1.S (a_0:Zaa) (out_4:LL) (k_1:Int) (st:LL):S:=mkS 28 [(0,.one (.l (L.bx 88 a_0.ls))),(5,.one (.h (.row 5 0) 68 0 (List.length out_4))),(6,sI k_1)] [(5,.row 0 true 68 out_4)] st
theorem ZaO.p1_ok {a_0 out_4 k_1 st r c1_ J1} (h:ZaO.p1 N a_0 c1_ (out_4,k_1)=some r) (hE:En Tryz.f35 g0 w0 (ZaO.rs r) st R) (hc1 : ∀out_4 k_1,c1_ (out_4,k_1)=some r→At g0 w0 (ZaO.p1.S a_0 out_4 k_1 st) J1):At g0 w0 (ZaO.p1.S a_0 out_4 k_1 st) (XK Tryz.prog R (.c (csub ZaO.B [1,1,0,1,0,0]) :: .h J1 :: [.b 0,.c (csub ZaO.B [1,1,1])])):=by
 unfold ZaO.p1 at h
 refine iteB h (fun c8 h1=>?_) (fun c8 h2=>?_)
 ·obtain ⟨c9,c10,h3⟩:=ck2 h1
  obtain ⟨x5,c11,h4⟩:=Zdz h3
  obtain ⟨c12,c13,h5⟩:=ck2 h4
  obtain ⟨x6,c14,h6⟩:=Zci h5
  exact an fol [.r [],.c true,.r [(3,{oe:=a_0.ls}),(6,{oe:=x5.ls}),(10,{m:=4})],.r [(3,{oe:=a_0.ls}),(6,{oe:=[L.int .i64 x6]})]] [0,5,6] [5] (aO c8 (eO a_0.ls) c9 c10 c11 z0 (eN (1)) (aN z0 (eN (List.length out_4)) c12 (eO a_0.ls) c9 c13 c14)) (hc1 ([x5.ls]++out_4) x6 h6)
 ·obtain rfl:=Zac h2
  exact af fol hE [.r [],.c false,.r []] [] 0 [0] (aJ c8 z0 (eN (List.length out_4)))
theorem ZaO.snd {a_0:Zaa} {at_1:Int} {r:LL} (h:ZaO N a_0 at_1=some r):SndQ Tryz.prog 35 [.one (L.bx 88 a_0.ls),oI at_1] (ZaO.rs r):=fun st=>
 sO ZaO.B Tryz.func35 fun g0 w0 R hE=>by
  unfold ZaO at h
  exact aq fol [.r [(0,{m:=2})],.r [(0,{m:=1})],.r []] [0,5,6] [5] trivial (At.loop N (At.loopN (fun y:LL×Int=>ZaO.p1.S a_0 y.1 y.2 st) (fun c J hc y h=>ZaO.p1_ok (out_4:=y.1) (k_1:=y.2) h hE (fun out_4 k_1=>hc (out_4,k_1))) N ([],at_1) h))
noncomputable def Zas.B:Code:=Tryz.f148.body.getD .skip
noncomputable def Zas.rs (r:(List Int)×Bool):List CV:=[.agg [L.arr .u64 4 r.1],oB r.2]
noncomputable def Zas.p2 (N:Nat) (c1_:(Int×Int×(List Int))→Option ((List Int)×Bool)) (by_1 over_2 c_1 i_2 w_12:Int) (n_0_0 d_11:List Int):Option ((List Int)×Bool):=
 chk (0≤i_2)<|
 chk (i_2<10)<|
 c1_ (w64 (Int.tdiv (w64 ((w64 (w_12*by_1))+c_1)) 4294967296),w64 (i_2+1),List.set d_11 (Int.toNat i_2) (Int.tmod (w64 ((w64 (w_12*by_1))+c_1)) 4294967296))
noncomputable def Zas.p4 (N:Nat) (q_17:List Int) (c4_:(Int×(List Int))→Option ((List Int)×Bool)):(Int×(List Int))→Option ((List Int)×Bool):=fun (i_18,out_19)=>
 if (decide (i_18<8))=true then
  chk (0≤(w64 (Int.tdiv i_18 2)))<|
  chk ((w64 (Int.tdiv i_18 2))<4)<|
  chk (0≤i_18)<|
  chk (i_18<10)<|
  chk (0≤(v64 (w64 (32*(Int.tmod i_18 2)))))<|
  c4_ (w64 (i_18+1),List.set out_19 (Int.toNat (w64 (Int.tdiv i_18 2))) (v64 ((List.getD out_19 (Int.toNat (w64 (Int.tdiv i_18 2))) 0)+(shlOf .u64 (v64 (List.getD q_17 (Int.toNat i_18) 0)) (v64 (w64 (32*(Int.tmod i_18 2))))))))
 else
 if ((List.getD q_17 8 0)==0)=true then
  some (out_19,(List.getD q_17 9 0)==0)
 else
 some (out_19,false)
noncomputable def Zas.p3 (N:Nat) (over_2:Int) (d_11:List Int) (c3_:(Int×Int×(List Int))→Option ((List Int)×Bool)):(Int×Int×(List Int))→Option ((List Int)×Bool):=fun (rest_13,i_14,q_17)=>
 if (decide (i_14≥0))=true then
  chk (0≤i_14)<|
  chk (i_14<10)<|
  chk (over_2≠0)<|
  c3_ (Int.tmod (w64 ((w64 (rest_13*4294967296))+(List.getD d_11 (Int.toNat i_14) 0))) over_2,w64 (i_14-1),List.set q_17 (Int.toNat i_14) (w64 (Int.tdiv (w64 ((w64 (rest_13*4294967296))+(List.getD d_11 (Int.toNat i_14) 0))) over_2)))
 else
 loopN (Zas.p4 N q_17) N (0,List.replicate 4 0)
noncomputable def Zas.p1 (N:Nat) (by_1 over_2:Int) (n_0_0:List Int) (c1_:(Int×Int×(List Int))→Option ((List Int)×Bool)):(Int×Int×(List Int))→Option ((List Int)×Bool):=fun (c_1,i_2,d_11)=>
 if (decide (i_2<10))=true then
  if (decide (i_2<8))=true then
   chk (0≤(w64 (Int.tdiv i_2 2)))<|
   chk ((w64 (Int.tdiv i_2 2))<4)<|
   chk (0≤(v64 (w64 (32*(Int.tmod i_2 2)))))<|
   Zas.p2 N c1_ by_1 over_2 c_1 i_2 (w64 (Int.tmod (shrOf .u64 (List.getD n_0_0 (Int.toNat (w64 (Int.tdiv i_2 2))) 0) (v64 (w64 (32*(Int.tmod i_2 2))))) 4294967296)) n_0_0 d_11
  else
  Zas.p2 N c1_ by_1 over_2 c_1 i_2 0 n_0_0 d_11
 else
 loopN (Zas.p3 N over_2 d_11) N (0,9,List.replicate 10 0)
noncomputable def Zas (N:Nat) (n_0_0:List Int) (by_1 over_2:Int):Option ((List Int)×Bool):=
 loopN (Zas.p1 N by_1 over_2 n_0_0) N (0,0,List.replicate 10 0)
noncomputable def Zas.p2.S (by_1 over_2 c_1 i_2 w_12:Int) (n_0_0 d_11:List Int) (st:LL):S:=mkS 96 [(1,sI by_1),(2,sI over_2),(3,sA 3),(6,sA 6),(8,sA 8),(9,sI c_1),(10,sI i_2),(11,sI w_12)] [(3,.cells [L.arr .u64 4 n_0_0]),(6,.cells [L.arr .u64 4 (List.replicate 4 0)]),(8,.cells [L.arr .i64 10 d_11])] st
noncomputable def Zas.p4.S (i_18:Int) (q_17 out_19:List Int) (st:LL):S:=mkS 96 [(6,sA 6),(14,sA 14),(17,sA 17),(18,sI i_18)] [(6,.cells [L.arr .u64 4 (List.replicate 4 0)]),(14,.cells [L.arr .i64 10 q_17]),(17,.cells [L.arr .u64 4 out_19])] st
noncomputable def Zas.p3.S (over_2 rest_13 i_14:Int) (d_11 q_17:List Int) (st:LL):S:=mkS 96 [(2,sI over_2),(6,sA 6),(8,sA 8),(13,sI rest_13),(14,sA 14),(15,sI i_14)] [(6,.cells [L.arr .u64 4 (List.replicate 4 0)]),(8,.cells [L.arr .i64 10 d_11]),(14,.cells [L.arr .i64 10 q_17])] st
noncomputable def Zas.p1.S (by_1 over_2 c_1 i_2:Int) (n_0_0 d_11:List Int) (st:LL):S:=mkS 96 [(1,sI by_1),(2,sI over_2),(3,sA 3),(6,sA 6),(8,sA 8),(9,sI c_1),(10,sI i_2)] [(3,.cells [L.arr .u64 4 n_0_0]),(6,.cells [L.arr .u64 4 (List.replicate 4 0)]),(8,.cells [L.arr .i64 10 d_11])] st
theorem Zas.p2_ok {by_1 over_2 c_1 i_2 w_12 n_0_0 d_11 st r c1_ J1} (h:Zas.p2 N c1_ by_1 over_2 c_1 i_2 w_12 n_0_0 d_11=some r) (hE:En Tryz.f148 g0 w0 (Zas.rs r) st R) (hc1 : ∀c_1 i_2 d_11,c1_ (c_1,i_2,d_11)=some r→At g0 w0 (Zas.p1.S by_1 over_2 c_1 i_2 n_0_0 d_11 st) J1):At g0 w0 (Zas.p2.S by_1 over_2 c_1 i_2 w_12 n_0_0 d_11 st) (XK Tryz.prog R [.c (csub Zas.B [1,1,1,0,1,0,0,1,0,0,1,1]),.b 1,.c (csub Zas.B [1,1,1,0,1,0,0,1,1]),.h J1,.b 0,.c (csub Zas.B [1,1,1,1])]):=by
 unfold Zas.p2 at h
 obtain ⟨c49,c50,h1⟩:=ck2 h
 exact an fol [.r [],.r [],.r [],.r []] [1,2,3,6,8,9,10] [3,6,8] (aK (neI 4294967296) c49 c50 (neI 4294967296)) (hc1 (w64 (Int.tdiv (w64 ((w64 (w_12*by_1))+c_1)) 4294967296)) (w64 (i_2+1)) (List.set d_11 (Int.toNat i_2) (Int.tmod (w64 ((w64 (w_12*by_1))+c_1)) 4294967296)) h1)
theorem Zas.p4_ok {i_18 q_17 out_19 st r c4_ J4} (h:Zas.p4 N q_17 c4_ (i_18,out_19)=some r) (hE:En Tryz.f148 g0 w0 (Zas.rs r) st R) (hc4 : ∀i_18 out_19,c4_ (i_18,out_19)=some r→At g0 w0 (Zas.p4.S i_18 q_17 out_19 st) J4):At g0 w0 (Zas.p4.S i_18 q_17 out_19 st) (XK Tryz.prog R (.c (csub Zas.B [1,1,1,1,1,1,1,1,0,1,0,0]) :: .h J4 :: [.b 4,.c (csub Zas.B [1,1,1,1,1,1,1,1,1])])):=by
 unfold Zas.p4 at h
 refine iteB h (fun c80 h2=>?_) (fun c80 h3=>?_)
 ·obtain ⟨c81,c82,c83,c84,c85,h4⟩:=ck5 h2
  exact and_ fol [.r [],.c true,.d {ds:=[],hv:=131072,Hs:=[131072]},.r []] [6,14,17,18] [6,14,17] (aO c80 (neI 2) (neI 2) c81 c82 c83 c84 (aK (neI 2) c85 c81 c82)) (hc4 (w64 (i_18+1)) (List.set out_19 (Int.toNat (w64 (Int.tdiv i_18 2))) (v64 ((List.getD out_19 (Int.toNat (w64 (Int.tdiv i_18 2))) 0)+(shlOf .u64 (v64 (List.getD q_17 (Int.toNat i_18) 0)) (v64 (w64 (32*(Int.tmod i_18 2)))))))) h4)
 ·refine iteB h3 (fun c86 h5=>?_) (fun c86 h6=>?_)
  ·obtain rfl:=Zac h5
   exact afd fol hE [.r [],.c false,.d {ds:=[],hv:=512,Hs:=[512]}] [] 0 [] (aI c80 (ix 8 10 (aI c86 (ix 9 10 (aI c86 (ix 9 10 (aM c86 c86 c86 c86 c86 c86)))))))
  ·obtain rfl:=Zac h6
   exact afd fol hE [.r [],.c false,.d {ds:=[(5,wF),(6,wF),(7,wF),(8,yF)],hv:=512,Hs:=[512]}] [] 0 [] (aI c80 (ix 8 10 (aO c86 c86 c86 c86 c86 c86 c86 c86)))
theorem Zas.p3_ok {over_2 rest_13 i_14 d_11 q_17 st r c3_ J3} (h:Zas.p3 N over_2 d_11 c3_ (rest_13,i_14,q_17)=some r) (hE:En Tryz.f148 g0 w0 (Zas.rs r) st R) (hc3 : ∀rest_13 i_14 q_17,c3_ (rest_13,i_14,q_17)=some r→At g0 w0 (Zas.p3.S over_2 rest_13 i_14 d_11 q_17 st) J3):At g0 w0 (Zas.p3.S over_2 rest_13 i_14 d_11 q_17 st) (XK Tryz.prog R (.c (csub Zas.B [1,1,1,1,1,1,0,1,0,0]) :: .h J3 :: [.b 2,.c (csub Zas.B [1,1,1,1,1,1,1])])):=by
 unfold Zas.p3 at h
 refine iteB h (fun c69 h7=>?_) (fun c69 h8=>?_)
 ·obtain ⟨c70,c71,c72,h9⟩:=ck3 h7
  exact an fol [.r [],.c true,.r [],.r [],.r [],.r []] [2,6,8,13,14,15] [6,8,14] (aN c69 c70 c71 c72 c70 c71 c72) (hc3 (Int.tmod (w64 ((w64 (rest_13*4294967296))+(List.getD d_11 (Int.toNat i_14) 0))) over_2) (w64 (i_14-1)) (List.set q_17 (Int.toNat i_14) (w64 (Int.tdiv (w64 ((w64 (rest_13*4294967296))+(List.getD d_11 (Int.toNat i_14) 0))) over_2))) h9)
 ·exact aq fol [.r [],.c false,.r [],.r []] [6,14,17,18] [6,14,17] c69 (At.loop N (At.loopN (fun y:Int×(List Int)=>Zas.p4.S y.1 q_17 y.2 st) (fun c J hc y h=>Zas.p4_ok (i_18:=y.1) (out_19:=y.2) h hE (fun i_18 out_19=>hc (i_18,out_19))) N (0,List.replicate 4 0) h8))
theorem Zas.p1_ok {by_1 over_2 c_1 i_2 n_0_0 d_11 st r c1_ J1} (h:Zas.p1 N by_1 over_2 n_0_0 c1_ (c_1,i_2,d_11)=some r) (hE:En Tryz.f148 g0 w0 (Zas.rs r) st R) (hc1 : ∀c_1 i_2 d_11,c1_ (c_1,i_2,d_11)=some r→At g0 w0 (Zas.p1.S by_1 over_2 c_1 i_2 n_0_0 d_11 st) J1):At g0 w0 (Zas.p1.S by_1 over_2 c_1 i_2 n_0_0 d_11 st) (XK Tryz.prog R (.c (csub Zas.B [1,1,1,0,1,0,0]) :: .h J1 :: [.b 0,.c (csub Zas.B [1,1,1,1])])):=by
 unfold Zas.p1 at h
 refine iteB h (fun c44 h10=>?_) (fun c44 h11=>?_)
 ·refine iteB h10 (fun c45 h12=>?_) (fun c45 h13=>?_)
  ·obtain ⟨c46,c47,c48,h14⟩:=ck3 h12
   exact aq fol [.r [],.c true,.r [],.r [],.c true,.r [],.s 6] [1,2,3,6,8,9,10,11] [3,6,8] (aO c44 c45 (neI 2) c46 c47 (neI 2) c48 (neI 4294967296)) (Zas.p2_ok h14 hE hc1)
  ·exact aq fol [.r [],.c true,.r [],.r [],.c false,.s 6] [1,2,3,6,8,9,10,11] [3,6,8] (aI c44 c45) (Zas.p2_ok h13 hE hc1)
 ·exact aq fol [.r [],.c false,.r [],.r [],.r []] [2,6,8,13,14,15] [6,8,14] c44 (At.loop N (At.loopN (fun y:Int×Int×(List Int)=>Zas.p3.S over_2 y.1 y.2.1 d_11 y.2.2 st) (fun c J hc y h=>Zas.p3_ok (rest_13:=y.1) (i_14:=y.2.1) (q_17:=y.2.2) h hE (fun rest_13 i_14 q_17=>hc (rest_13,i_14,q_17))) N (0,9,List.replicate 10 0) h11))
theorem Zas.snd {n_0_0:List Int} {by_1 over_2:Int} {r:(List Int)×Bool} (h:Zas N n_0_0 by_1 over_2=some r):SndQ Tryz.prog 148 [.agg [L.arr .u64 4 n_0_0],oI by_1,oI over_2] (Zas.rs r):=fun st=>
 sO Zas.B Tryz.func148 fun g0 w0 R hE=>by
  unfold Zas at h
  exact aq fol [.r [],.r [],.r [],.r []] [1,2,3,6,8,9,10] [3,6,8] trivial (At.loop N (At.loopN (fun y:Int×Int×(List Int)=>Zas.p1.S by_1 over_2 y.1 y.2.1 n_0_0 y.2.2 st) (fun c J hc y h=>Zas.p1_ok (c_1:=y.1) (i_2:=y.2.1) (d_11:=y.2.2) h hE (fun c_1 i_2 d_11=>hc (c_1,i_2,d_11))) N (0,0,List.replicate 10 0) h))
noncomputable def Zaw.B:Code:=Tryz.f149.body.getD .skip
noncomputable def Zaw.rs (r:Int):List CV:=[oI r]
noncomputable def Zaw.p2 (N:Nat) (c1_:(Int×Int)→Option Int) (size_4 i_2:Int) (n_0_0:List Int):Option Int:=
 c1_ (size_4,w64 (i_2+1))
noncomputable def Zaw.p4 (N:Nat) (size_8 word_9:Int):Option Int:=
 some (w64 ((w64 (size_8*16777216))+word_9))
noncomputable def Zaw.p3 (N:Nat) (size_1 word_7:Int):Option Int:=
 if (decide (word_7≥8388608))=true then
  Zaw.p4 N (w64 (size_1+1)) (w64 (Int.tdiv word_7 256))
 else
 Zaw.p4 N size_1 word_7
noncomputable def Zaw.p1 (N:Nat) (n_0_0:List Int) (c1_:(Int×Int)→Option Int):(Int×Int)→Option Int:=fun (size_1,i_2)=>
 if (decide (i_2<32))=true then
  optE (Zak N n_0_0 (w64 ((-8)*i_2))) fun x3=>
  if (decide ((Int.tmod (List.getD x3 0 0) 256)>0))=true then
   Zaw.p2 N c1_ (w64 (i_2+1)) i_2 n_0_0
  else
  Zaw.p2 N c1_ size_1 i_2 n_0_0
 else
 optE (Zak N n_0_0 (w64 (8*(w64 (3-size_1))))) fun x5=>
 if (decide (size_1>3))=true then
  optE (Zak N n_0_0 (w64 ((-8)*(w64 (size_1-3))))) fun x6=>
  Zaw.p3 N size_1 (w64 (Int.tmod (List.getD x6 0 0) 16777216))
 else
 Zaw.p3 N size_1 (w64 (Int.tmod (List.getD x5 0 0) 16777216))
noncomputable def Zaw (N:Nat) (n_0_0:List Int):Option Int:=
 loopN (Zaw.p1 N n_0_0) N (0,0)
noncomputable def Zaw.p2.S (size_4 i_2:Int) (n_0_0:List Int) (st:LL):S:=mkS 49 [(1,sA 1),(3,sI size_4),(4,sI i_2)] [(1,.cells [L.arr .u64 4 n_0_0])] st
noncomputable def Zaw.p4.S (size_8 word_9:Int) (st:LL):S:=mkS 49 [(3,sI size_8),(6,sI word_9)] [] st
noncomputable def Zaw.p3.S (size_1 word_7:Int) (st:LL):S:=mkS 49 [(3,sI size_1),(6,sI word_7)] [] st
noncomputable def Zaw.p1.S (size_1 i_2:Int) (n_0_0:List Int) (st:LL):S:=mkS 49 [(1,sA 1),(3,sI size_1),(4,sI i_2)] [(1,.cells [L.arr .u64 4 n_0_0])] st
theorem Zaw.p2_ok {size_4 i_2 n_0_0 st r c1_ J1} (h:Zaw.p2 N c1_ size_4 i_2 n_0_0=some r) (hE:En Tryz.f149 g0 w0 (Zaw.rs r) st R) (hc1 : ∀size_1 i_2,c1_ (size_1,i_2)=some r→At g0 w0 (Zaw.p1.S size_1 i_2 n_0_0 st) J1):At g0 w0 (Zaw.p2.S size_4 i_2 n_0_0 st) (XK Tryz.prog R [.c (csub Zaw.B [1,1,0,1,0,0,1,1]),.h J1,.b 0,.c (csub Zaw.B [1,1,1])]):=by
 unfold Zaw.p2 at h
 exact an fol [.r []] [1,3,4] [1] trivial (hc1 size_4 (w64 (i_2+1)) h)
theorem Zaw.p4_ok {size_8 word_9 st r} (h:Zaw.p4 N size_8 word_9=some r) (hE:En Tryz.f149 g0 w0 (Zaw.rs r) st R):At g0 w0 (Zaw.p4.S size_8 word_9 st) (XK Tryz.prog R [.c (csub Zaw.B [1,1,1,1,1,1])]):=by
 unfold Zaw.p4 at h
 obtain rfl:=Zac h
 exact af fol hE [.r []] [] 0 [] trivial
theorem Zaw.p3_ok {size_1 word_7 st r} (h:Zaw.p3 N size_1 word_7=some r) (hE:En Tryz.f149 g0 w0 (Zaw.rs r) st R):At g0 w0 (Zaw.p3.S size_1 word_7 st) (XK Tryz.prog R [.c (csub Zaw.B [1,1,1,1,1])]):=by
 unfold Zaw.p3 at h
 refine iteB h (fun c7 h1=>?_) (fun c7 h2=>?_)
 ·exact aq fol [.r [],.c true,.r [],.r [],.s 1] [3,6] [] (aI c7 (neI 256)) (Zaw.p4_ok h1 hE)
 ·exact aq fol [.r [],.c false,.s 1] [3,6] [] c7 (Zaw.p4_ok h2 hE)
theorem Zaw.p1_ok {size_1 i_2 n_0_0 st r c1_ J1} (h:Zaw.p1 N n_0_0 c1_ (size_1,i_2)=some r) (hE:En Tryz.f149 g0 w0 (Zaw.rs r) st R) (hc1 : ∀size_1 i_2,c1_ (size_1,i_2)=some r→At g0 w0 (Zaw.p1.S size_1 i_2 n_0_0 st) J1):At g0 w0 (Zaw.p1.S size_1 i_2 n_0_0 st) (XK Tryz.prog R (.c (csub Zaw.B [1,1,0,1,0,0]) :: .h J1 :: [.b 0,.c (csub Zaw.B [1,1,1])])):=by
 unfold Zaw.p1 at h
 refine iteB h (fun c1 h3=>?_) (fun c1 h4=>?_)
 ·obtain ⟨x3,c2,h5⟩:=Zad h3
  refine iteB h5 (fun c3 h6=>?_) (fun c3 h7=>?_)
  ·exact aq fol [.r [],.c true,.r [(3,q1 [.agg [L.arr .u64 4 x3]])],.r [],.c true,.r [],.s 4] [1,3,4] [1] (aJ c1 (Zak.snd c2) (ix 0 4 (aI (neI 256) c3))) (Zaw.p2_ok h6 hE hc1)
  ·exact aq fol [.r [],.c true,.r [(3,q1 [.agg [L.arr .u64 4 x3]])],.r [],.c false,.s 4] [1,3,4] [1] (aJ c1 (Zak.snd c2) (ix 0 4 (aI (neI 256) c3))) (Zaw.p2_ok h7 hE hc1)
 ·obtain ⟨x5,c4,h8⟩:=Zad h4
  refine iteB h8 (fun c5 h9=>?_) (fun c5 h10=>?_)
  ·obtain ⟨x6,c6,h11⟩:=Zad h9
   exact aq fol [.r [],.c false,.r [(4,q1 [.agg [L.arr .u64 4 x5]])],.r [],.c true,.r [(4,q1 [.agg [L.arr .u64 4 x6]])],.s 1] [3,6] [] (aJ c1 (Zak.snd c4) (ix 0 4 (aK (neI 16777216) c5 (Zak.snd c6) (ix 0 4 (neI 16777216))))) (Zaw.p3_ok h11 hE)
  ·exact aq fol [.r [],.c false,.r [(4,q1 [.agg [L.arr .u64 4 x5]])],.r [],.c false,.s 1] [3,6] [] (aJ c1 (Zak.snd c4) (ix 0 4 (aI (neI 16777216) c5))) (Zaw.p3_ok h10 hE)
theorem Zaw.snd {n_0_0:List Int} {r:Int} (h:Zaw N n_0_0=some r):SndQ Tryz.prog 149 [.agg [L.arr .u64 4 n_0_0]] (Zaw.rs r):=fun st=>
 sO Zaw.B Tryz.func149 fun g0 w0 R hE=>by
  unfold Zaw at h
  exact aq fol [.r [],.r [],.r []] [1,3,4] [1] trivial (At.loop N (At.loopN (fun y:Int×Int=>Zaw.p1.S y.1 y.2 n_0_0 st) (fun c J hc y h=>Zaw.p1_ok (size_1:=y.1) (i_2:=y.2) h hE (fun size_1 i_2=>hc (size_1,i_2))) N (0,0) h))
noncomputable def Zaz.B:Code:=Tryz.f123.body.getD .skip
noncomputable def Zaz.rs (r:Int):List CV:=[oI r]
noncomputable def Zaz.p3 (N:Nat) (n_11:List Int):Option Int:=
 optE (Zaw N n_11) fun x12=>
 some x12
noncomputable def Zaz.p2 (N:Nat) (p_0:Zae) (took_5:Int) (x1:List Int):Option Int:=
 optE (Zas N x1 took_5 (w64 (p_0.Interval*p_0.Spacing))) fun (x6,x7)=>
 optE (Zbj N p_0.Limit p_0.Limit) fun (x8,x9)=>
 if (!x7)=true then
  some p_0.Limit
 else
 optE (Zbf N x8 x6) fun x10=>
 if x10=true then
  some p_0.Limit
 else
 if (x6==(List.replicate 4 0))=true then
  Zaz.p3 N [1,0,0,0]
 else
 Zaz.p3 N x6
noncomputable def Zaz.p1 (N:Nat) (p_0:Zae) (took_4:Int) (x1:List Int):Option Int:=
 if (decide (took_4>(w64 ((w64 (p_0.Interval*p_0.Spacing))*4))))=true then
  Zaz.p2 N p_0 (w64 ((w64 (p_0.Interval*p_0.Spacing))*4)) x1
 else
 Zaz.p2 N p_0 took_4 x1
noncomputable def Zaz (N:Nat) (p_0:Zae) (bits_1 from_2 to_3:Int):Option Int:=
 optE (Zbj N bits_1 p_0.Limit) fun (x1,x2)=>
 optE (Zcy N p_0) fun x3=>
 if (!x3)=true then
  some p_0.Limit
 else
 if (!x2)=true then
  some p_0.Limit
 else
 if (decide ((w64 (to_3-from_2))<(w64 (Int.tdiv (w64 (p_0.Interval*p_0.Spacing)) 4))))=true then
  Zaz.p1 N p_0 (w64 (Int.tdiv (w64 (p_0.Interval*p_0.Spacing)) 4)) x1
 else
 Zaz.p1 N p_0 (w64 (to_3-from_2)) x1
noncomputable def Zaz.p3.S (n_11:List Int) (st:LL):S:=mkS 83 [(13,sA 13)] [(13,.cells [L.arr .u64 4 n_11])] st
noncomputable def Zaz.p2.S (p_0:Zae) (took_5:Int) (x1:List Int) (st:LL):S:=mkS 83 [(4,sA 4),(9,sA 9),(11,sI (w64 (p_0.Interval*p_0.Spacing))),(12,sI took_5)] [(4,.cells p_0.ls),(9,.cells [L.arr .u64 4 x1])] st
noncomputable def Zaz.p1.S (p_0:Zae) (took_4:Int) (x1:List Int) (st:LL):S:=mkS 83 [(4,sA 4),(9,sA 9),(11,sI (w64 (p_0.Interval*p_0.Spacing))),(12,sI took_4)] [(4,.cells p_0.ls),(9,.cells [L.arr .u64 4 x1])] st
theorem Zaz.p3_ok {n_11 st r} (h:Zaz.p3 N n_11=some r) (hE:En Tryz.f123 g0 w0 (Zaz.rs r) st R):At g0 w0 (Zaz.p3.S n_11 st) (XK Tryz.prog R [.c (csub Zaz.B [1,1,1,1,1,1,1,1,1,1,1])]):=by
 unfold Zaz.p3 at h
 obtain ⟨x12,c13,h1⟩:=Zad h
 obtain rfl:=Zac h1
 exact af fol hE [.r [(1,q1 [oI x12])]] [] 0 [] (Zaw.snd c13)
theorem Zaz.p2_ok {p_0 took_5 x1 st r} (h:Zaz.p2 N p_0 took_5 x1=some r) (hE:En Tryz.f123 g0 w0 (Zaz.rs r) st R):At g0 w0 (Zaz.p2.S p_0 took_5 x1 st) (XK Tryz.prog R [.c (csub Zaz.B [1,1,1,1,1,1,1])]):=by
 unfold Zaz.p2 at h
 obtain ⟨⟨x6,x7⟩,c7,h2⟩:=Zad h
 obtain ⟨⟨x8,x9⟩,c8,h3⟩:=Zad h2
 refine iteB h3 (fun c9 h4=>?_) (fun c9 h5=>?_)
 ·obtain rfl:=Zac h4
  exact af fol hE [.r [(3,q1 [.agg [L.arr .u64 4 x6],oB x7])],.r [(4,q1 [.agg [L.arr .u64 4 x8],oB x9])],.r [(3,wF),(4,wF),(5,wF)],.c true,.r []] [] 0 [] (aN (Zas.snd c7) (Zbj.snd c8) (not_false (Zca c9)) (not_false (Zca c9)) (not_false (Zca c9)) (not_false (Zca c9)) eT)
 ·obtain ⟨x10,c10,h6⟩:=Zad h5
  refine iteB h6 (fun c11 h7=>?_) (fun c11 h8=>?_)
  ·obtain rfl:=Zac h7
   exact af fol hE [.r [(3,q1 [.agg [L.arr .u64 4 x6],oB x7])],.r [(4,q1 [.agg [L.arr .u64 4 x8],oB x9])],.r [(5,q1 [oB x10]),(6,yF)],.c true,.r []] [] 0 [] (aO (Zas.snd c7) (Zbj.snd c8) (not_true (ZaG c9)) (not_true (ZaG c9)) (not_true (ZaG c9)) (Zbf.snd c10) (not_true (ZaG c9)) c11)
  ·refine iteB h8 (fun c12 h9=>?_) (fun c12 h10=>?_)
   ·exact aq fol [.r [(3,q1 [.agg [L.arr .u64 4 x6],oB x7])],.r [(4,q1 [.agg [L.arr .u64 4 x8],oB x9])],.r [(5,q1 [oB x10]),(6,yF)],.c false,.r [],.c true,.r [(0,{m:=3})],.s 1] [13] [13] (aO (Zas.snd c7) (Zbj.snd c8) (not_true (ZaG c9)) (not_true (ZaG c9)) (not_true (ZaG c9)) (Zbf.snd c10) (not_true (ZaG c9)) (aI c11 c12)) (Zaz.p3_ok h9 hE)
   ·exact aq fol [.r [(3,q1 [.agg [L.arr .u64 4 x6],oB x7])],.r [(4,q1 [.agg [L.arr .u64 4 x8],oB x9])],.r [(5,q1 [oB x10]),(6,yF)],.c false,.r [],.c false,.s 1] [13] [13] (aO (Zas.snd c7) (Zbj.snd c8) (not_true (ZaG c9)) (not_true (ZaG c9)) (not_true (ZaG c9)) (Zbf.snd c10) (not_true (ZaG c9)) (aI c11 c12)) (Zaz.p3_ok h10 hE)
theorem Zaz.p1_ok {p_0 took_4 x1 st r} (h:Zaz.p1 N p_0 took_4 x1=some r) (hE:En Tryz.f123 g0 w0 (Zaz.rs r) st R):At g0 w0 (Zaz.p1.S p_0 took_4 x1 st) (XK Tryz.prog R [.c (csub Zaz.B [1,1,1,1,1,1])]):=by
 unfold Zaz.p1 at h
 refine iteB h (fun c6 h11=>?_) (fun c6 h12=>?_)
 ·exact aq fol [.r [],.c true,.r [],.s 1] [4,9,11,12] [4,9] c6 (Zaz.p2_ok h11 hE)
 ·exact aq fol [.r [],.c false,.s 1] [4,9,11,12] [4,9] c6 (Zaz.p2_ok h12 hE)
theorem Zaz.snd {p_0:Zae} {bits_1 from_2 to_3:Int} {r:Int} (h:Zaz N p_0 bits_1 from_2 to_3=some r):SndQ Tryz.prog 123 [.agg p_0.ls,oI bits_1,oI from_2,oI to_3] (Zaz.rs r):=fun st=>
 sO Zaz.B Tryz.func123 fun g0 w0 R hE=>by
  unfold Zaz at h
  obtain ⟨⟨x1,x2⟩,c1,h13⟩:=Zad h
  obtain ⟨x3,c2,h14⟩:=Zad h13
  refine iteB h14 (fun c3 h15=>?_) (fun c3 h16=>?_)
  ·obtain rfl:=Zac h15
   exact af fol hE [.r [],.r [(3,q1 [.agg [L.arr .u64 4 x1],oB x2])],.r [(1,q1 [oB x3]),(4,wF),(5,wF)],.c true,.r []] [] 0 [] (aM (Zbj.snd c1) (Zcy.snd c2) (not_false (Zca c3)) (not_false (Zca c3)) (not_false (Zca c3)) eT)
  ·refine iteB h16 (fun c4 h17=>?_) (fun c4 h18=>?_)
   ·obtain rfl:=Zac h17
    exact af fol hE [.r [],.r [(3,q1 [.agg [L.arr .u64 4 x1],oB x2])],.r [(1,q1 [oB x3]),(6,yF)],.c true,.r []] [] 0 [] (aM (Zbj.snd c1) (Zcy.snd c2) (not_true (ZaG c3)) (not_true (ZaG c3)) (not_true (ZaG c3)) c4)
   ·refine iteB h18 (fun c5 h19=>?_) (fun c5 h20=>?_)
    ·exact aq fol [.r [],.r [(3,q1 [.agg [L.arr .u64 4 x1],oB x2])],.r [(1,q1 [oB x3]),(6,yF)],.c false,.r [],.r [],.r [],.c true,.r [],.s 1] [4,9,11,12] [4,9] (aO (Zbj.snd c1) (Zcy.snd c2) (not_true (ZaG c3)) (not_true (ZaG c3)) (not_true (ZaG c3)) c4 (neI 4) (aI c5 (neI 4))) (Zaz.p1_ok h19 hE)
    ·exact aq fol [.r [],.r [(3,q1 [.agg [L.arr .u64 4 x1],oB x2])],.r [(1,q1 [oB x3]),(6,yF)],.c false,.r [],.r [],.r [],.c false,.s 1] [4,9,11,12] [4,9] (aO (Zbj.snd c1) (Zcy.snd c2) (not_true (ZaG c3)) (not_true (ZaG c3)) (not_true (ZaG c3)) c4 (neI 4) c5) (Zaz.p1_ok h20 hE)
noncomputable def ZbX.B:Code:=Tryz.f94.body.getD .skip
noncomputable def ZbX.rs (r:Int):List CV:=[oI r]
noncomputable def ZbX.p1 (N:Nat) (bits_2 time_3 hard_5 own_6:Int) (p_0:Zae):Option Int:=
 if (!p_0.Easy)=true then
  some bits_2
 else
 if (decide ((w64 (own_6-time_3))>(w64 (2*p_0.Spacing))))=true then
  some p_0.Limit
 else
 some hard_5
noncomputable def ZbX (N:Nat) (p_0:Zae) (height_1 bits_2 time_3 first_4 hard_5 own_6:Int):Option Int:=
 if (decide (height_1≤0))=true then
  some p_0.Limit
 else
 if (decide (p_0.Interval>0))=true then
  chk (p_0.Interval≠0)<|
  if ((Int.tmod height_1 p_0.Interval)==0)=true then
   optE (Zaz N p_0 bits_2 first_4 time_3) fun x1=>
   some x1
  else
  ZbX.p1 N bits_2 time_3 hard_5 own_6 p_0
 else
 ZbX.p1 N bits_2 time_3 hard_5 own_6 p_0
noncomputable def ZbX.p1.S (bits_2 time_3 hard_5 own_6:Int) (p_0:Zae) (st:LL):S:=mkS 48 [(2,sI bits_2),(3,sI time_3),(5,sI hard_5),(6,sI own_6),(7,sA 7)] [(7,.cells p_0.ls)] st
theorem ZbX.p1_ok {bits_2 time_3 hard_5 own_6 p_0 st r} (h:ZbX.p1 N bits_2 time_3 hard_5 own_6 p_0=some r) (hE:En Tryz.f94 g0 w0 (ZbX.rs r) st R):At g0 w0 (ZbX.p1.S bits_2 time_3 hard_5 own_6 p_0 st) (XK Tryz.prog R [.c (csub ZbX.B [1,1,1])]):=by
 unfold ZbX.p1 at h
 refine iteB h (fun c6 h1=>?_) (fun c6 h2=>?_)
 ·obtain rfl:=Zac h1
  exact af fol hE [.r [],.c true,.r []] [] 0 [] c6
 ·refine iteB h2 (fun c7 h3=>?_) (fun c7 h4=>?_)
  ·obtain rfl:=Zac h3
   exact af fol hE [.r [],.c false,.r [],.c true,.r []] [] 0 [] (aI c6 c7)
  ·obtain rfl:=Zac h4
   exact af fol hE [.r [],.c false,.r [],.c false,.r []] [] 0 [] (aI c6 c7)
theorem ZbX.snd {p_0:Zae} {height_1 bits_2 time_3 first_4 hard_5 own_6:Int} {r:Int} (h:ZbX N p_0 height_1 bits_2 time_3 first_4 hard_5 own_6=some r):SndQ Tryz.prog 94 [.agg p_0.ls,oI height_1,oI bits_2,oI time_3,oI first_4,oI hard_5,oI own_6] (ZbX.rs r):=fun st=>
 sO ZbX.B Tryz.func94 fun g0 w0 R hE=>by
  unfold ZbX at h
  refine iteB h (fun c1 h5=>?_) (fun c1 h6=>?_)
  ·obtain rfl:=Zac h5
   exact af fol hE [.r [],.r [],.c true,.r []] [] 0 [] c1
  ·refine iteB h6 (fun c2 h7=>?_) (fun c2 h8=>?_)
   ·obtain ⟨c3,h9⟩:=ZaX h7
    refine iteB h9 (fun c4 h10=>?_) (fun c4 h11=>?_)
    ·obtain ⟨x1,c5,h12⟩:=Zad h10
     obtain rfl:=Zac h12
     exact af fol hE [.r [],.r [],.c false,.r [],.c true,.r [(4,q1 [oI x1])]] [] 0 [] (aO c1 c2 c2 c2 c2 c3 c2 (aJ c2 c4 (Zaz.snd c5)))
    ·exact aq fol [.r [],.r [],.c false,.r [],.c false,.s 1] [2,3,5,6,7] [7] (aO c1 c2 c2 c2 c2 c3 c2 (aI c2 c4)) (ZbX.p1_ok h11 hE)
   ·exact aq fol [.r [],.r [],.c false,.r [(4,wF),(5,wF),(6,wF),(7,wF),(8,wF),(9,yF)],.c false,.s 1] [2,3,5,6,7] [7] (aO c1 c2 c2 c2 c2 c2 c2 eF) (ZbX.p1_ok h8 hE)
noncomputable def ZaC.B:Code:=Tryz.f61.body.getD .skip
noncomputable def ZaC.rs (r:Int):List CV:=[oI r]
noncomputable def ZaC.p4 (N:Nat) (c1_:(Int×Int×Int)→Option Int) (time_2:Int) (chain_1:LL) (first_7 hard_8 v4:Int) (p_0:Zae) (x1:Zai):Option Int:=
 c1_ (first_7,hard_8,w64 (v4+1))
noncomputable def ZaC.p3 (N:Nat) (c1_:(Int×Int×Int)→Option Int) (time_2:Int) (chain_1:LL) (first_7 hard_3:Int) (begins_6:Bool) (v4:Int) (p_0:Zae) (x1 x5:Zai):Option Int:=
 if (!p_0.Easy)=true then
  ZaC.p4 N c1_ time_2 chain_1 first_7 x5.Bits v4 p_0 x1
 else
 if (x5.Bits != p_0.Limit)=true then
  ZaC.p4 N c1_ time_2 chain_1 first_7 x5.Bits v4 p_0 x1
 else
 if begins_6=true then
  ZaC.p4 N c1_ time_2 chain_1 first_7 x5.Bits v4 p_0 x1
 else
 ZaC.p4 N c1_ time_2 chain_1 first_7 hard_3 v4 p_0 x1
noncomputable def ZaC.p2 (N:Nat) (c1_:(Int×Int×Int)→Option Int) (time_2:Int) (chain_1:LL) (first_2 hard_3:Int) (begins_6:Bool) (v4:Int) (p_0:Zae) (x1 x5:Zai):Option Int:=
 if begins_6=true then
  ZaC.p3 N c1_ time_2 chain_1 x5.Time hard_3 begins_6 v4 p_0 x1 x5
 else
 ZaC.p3 N c1_ time_2 chain_1 first_2 hard_3 begins_6 v4 p_0 x1 x5
noncomputable def ZaC.p1 (N:Nat) (time_2:Int) (chain_1:LL) (p_0:Zae) (x1:Zai) (c1_:(Int×Int×Int)→Option Int):(Int×Int×Int)→Option Int:=fun (first_2,hard_3,v4)=>
 if (decide (v4<(len chain_1)))=true then
  chk (0≤v4)<|
  getE (chain_1[Int.toNat v4]?) Zdm fun x5=>
  if (decide (p_0.Interval>0))=true then
   chk (p_0.Interval≠0)<|
   ZaC.p2 N c1_ time_2 chain_1 first_2 hard_3 ((Int.tmod v4 p_0.Interval)==0) v4 p_0 x1 x5
  else
  ZaC.p2 N c1_ time_2 chain_1 first_2 hard_3 false v4 p_0 x1 x5
 else
 optE (ZbX N p_0 (len chain_1) x1.Bits x1.Time first_2 hard_3 time_2) fun x9=>
 some x9
noncomputable def ZaC (N:Nat) (p_0:Zae) (chain_1:LL) (time_2:Int):Option Int:=
 if ((len chain_1)==0)=true then
  some p_0.Limit
 else
 chk (0≤(w64 ((len chain_1)-1)))<|
 chk ((w64 ((len chain_1)-1))<(len chain_1))<|
 getE (chain_1[Int.toNat (w64 ((len chain_1)-1))]?) Zdm fun x1=>
 loopN (ZaC.p1 N time_2 chain_1 p_0 x1) N (0,p_0.Limit,0)
noncomputable def ZaC.p4.S (time_2:Int) (chain_1:LL) (first_7 hard_8 v4:Int) (p_0:Zae) (x1:Zai) (st:LL):S:=mkS 73 [(2,sI time_2),(3,sA 3),(7,sI (len chain_1)),(8,sA 8),(9,sI first_7),(10,sI hard_8),(27,sV 68 chain_1),(28,sI (len chain_1)),(29,sI v4)] [(3,.cells p_0.ls),(8,.cells x1.ls)] st
noncomputable def ZaC.p3.S (time_2:Int) (chain_1:LL) (first_7 hard_3:Int) (begins_6:Bool) (v4:Int) (p_0:Zae) (x1 x5:Zai) (st:LL):S:=mkS 73 [(2,sI time_2),(3,sA 3),(7,sI (len chain_1)),(8,sA 8),(9,sI first_7),(10,sI hard_3),(12,sA 12),(13,.one (.l (L.bool begins_6))),(27,sV 68 chain_1),(28,sI (len chain_1)),(29,sI v4)] [(3,.cells p_0.ls),(8,.cells x1.ls),(12,.cells x5.ls)] st
noncomputable def ZaC.p2.S (time_2:Int) (chain_1:LL) (first_2 hard_3:Int) (begins_6:Bool) (v4:Int) (p_0:Zae) (x1 x5:Zai) (st:LL):S:=mkS 73 [(2,sI time_2),(3,sA 3),(7,sI (len chain_1)),(8,sA 8),(9,sI first_2),(10,sI hard_3),(12,sA 12),(13,.one (.l (L.bool begins_6))),(27,sV 68 chain_1),(28,sI (len chain_1)),(29,sI v4)] [(3,.cells p_0.ls),(8,.cells x1.ls),(12,.cells x5.ls)] st
noncomputable def ZaC.p1.S (time_2:Int) (chain_1:LL) (first_2 hard_3 v4:Int) (p_0:Zae) (x1:Zai) (st:LL):S:=mkS 73 [(2,sI time_2),(3,sA 3),(7,sI (len chain_1)),(8,sA 8),(9,sI first_2),(10,sI hard_3),(27,sV 68 chain_1),(28,sI (len chain_1)),(29,sI v4)] [(3,.cells p_0.ls),(8,.cells x1.ls)] st
theorem ZaC.p4_ok {time_2 chain_1 first_7 hard_8 v4 p_0 x1 st r c1_ J1} (h:ZaC.p4 N c1_ time_2 chain_1 first_7 hard_8 v4 p_0 x1=some r) (hE:En Tryz.f61 g0 w0 (ZaC.rs r) st R) (hc1 : ∀first_2 hard_3 v4,c1_ (first_2,hard_3,v4)=some r→At g0 w0 (ZaC.p1.S time_2 chain_1 first_2 hard_3 v4 p_0 x1 st) J1):At g0 w0 (ZaC.p4.S time_2 chain_1 first_7 hard_8 v4 p_0 x1 st) (XK Tryz.prog R [.c (csub ZaC.B [1,1,1,1,1,1,0,1,0,0,1,1,1]),.h J1,.b 0,.c (csub ZaC.B [1,1,1,1,1,1,1])]):=by
 unfold ZaC.p4 at h
 exact an fol [.r []] [2,3,7,8,9,10,27,28,29] [3,8] trivial (hc1 first_7 hard_8 (w64 (v4+1)) h)
theorem ZaC.p3_ok {time_2 chain_1 first_7 hard_3 begins_6 v4 p_0 x1 x5 st r c1_ J1} (h:ZaC.p3 N c1_ time_2 chain_1 first_7 hard_3 begins_6 v4 p_0 x1 x5=some r) (hE:En Tryz.f61 g0 w0 (ZaC.rs r) st R) (hc1 : ∀first_2 hard_3 v4,c1_ (first_2,hard_3,v4)=some r→At g0 w0 (ZaC.p1.S time_2 chain_1 first_2 hard_3 v4 p_0 x1 st) J1):At g0 w0 (ZaC.p3.S time_2 chain_1 first_7 hard_3 begins_6 v4 p_0 x1 x5 st) (XK Tryz.prog R [.c (csub ZaC.B [1,1,1,1,1,1,0,1,0,0,1,1,0,0,1,1,1]),.b 1,.c (csub ZaC.B [1,1,1,1,1,1,0,1,0,0,1,1,1]),.h J1,.b 0,.c (csub ZaC.B [1,1,1,1,1,1,1])]):=by
 unfold ZaC.p3 at h
 refine iteB h (fun c11 h1=>?_) (fun c11 h2=>?_)
 ·exact aq fol [.r [(4,wF),(5,wF),(6,wF),(7,wF),(8,wF),(11,wF)],.c true,.r [],.s 4] [2,3,7,8,9,10,27,28,29] [3,8] (aO (not_false (Zca c11)) (not_false (Zca c11)) (not_false (Zca c11)) (not_false (Zca c11)) (not_false (Zca c11)) (not_false (Zca c11)) eT (aI eT eT)) (ZaC.p4_ok h1 hE hc1)
 ·refine iteB h2 (fun c12 h3=>?_) (fun c12 h4=>?_)
  ·exact aq fol [.r [(9,yF),(11,wF)],.c true,.r [],.s 4] [2,3,7,8,9,10,27,28,29] [3,8] (aO (not_true (ZaG c11)) (not_true (ZaG c11)) (not_true (ZaG c11)) (not_true (ZaG c11)) (not_true (ZaG c11)) (not_true (ZaG c11)) c12 (aI c12 eT)) (ZaC.p4_ok h3 hE hc1)
  ·refine iteB h4 (fun c13 h5=>?_) (fun c13 h6=>?_)
   ·exact aq fol [.r [(9,yF),(12,yF)],.c true,.r [],.s 4] [2,3,7,8,9,10,27,28,29] [3,8] (aO (not_true (ZaG c11)) (not_true (ZaG c11)) (not_true (ZaG c11)) (not_true (ZaG c11)) (not_true (ZaG c11)) (not_true (ZaG c11)) c12 (aI c12 c13)) (ZaC.p4_ok h5 hE hc1)
   ·exact aq fol [.r [(9,yF),(12,yF)],.c false,.s 4] [2,3,7,8,9,10,27,28,29] [3,8] (aO (not_true (ZaG c11)) (not_true (ZaG c11)) (not_true (ZaG c11)) (not_true (ZaG c11)) (not_true (ZaG c11)) (not_true (ZaG c11)) c12 (aI c12 c13)) (ZaC.p4_ok h6 hE hc1)
theorem ZaC.p2_ok {time_2 chain_1 first_2 hard_3 begins_6 v4 p_0 x1 x5 st r c1_ J1} (h:ZaC.p2 N c1_ time_2 chain_1 first_2 hard_3 begins_6 v4 p_0 x1 x5=some r) (hE:En Tryz.f61 g0 w0 (ZaC.rs r) st R) (hc1 : ∀first_2 hard_3 v4,c1_ (first_2,hard_3,v4)=some r→At g0 w0 (ZaC.p1.S time_2 chain_1 first_2 hard_3 v4 p_0 x1 st) J1):At g0 w0 (ZaC.p2.S time_2 chain_1 first_2 hard_3 begins_6 v4 p_0 x1 x5 st) (XK Tryz.prog R [.c (csub ZaC.B [1,1,1,1,1,1,0,1,0,0,1,1,0,0,1,1]),.b 1,.c (csub ZaC.B [1,1,1,1,1,1,0,1,0,0,1,1,1]),.h J1,.b 0,.c (csub ZaC.B [1,1,1,1,1,1,1])]):=by
 unfold ZaC.p2 at h
 refine iteB h (fun c10 h7=>?_) (fun c10 h8=>?_)
 ·exact aq fol [.r [],.c true,.r [],.s 6] [2,3,7,8,9,10,12,13,27,28,29] [3,8,12] c10 (ZaC.p3_ok h7 hE hc1)
 ·exact aq fol [.r [],.c false,.s 6] [2,3,7,8,9,10,12,13,27,28,29] [3,8,12] c10 (ZaC.p3_ok h8 hE hc1)
theorem ZaC.p1_ok {time_2 chain_1 first_2 hard_3 v4 p_0 x1 st r c1_ J1} (h:ZaC.p1 N time_2 chain_1 p_0 x1 c1_ (first_2,hard_3,v4)=some r) (hE:En Tryz.f61 g0 w0 (ZaC.rs r) st R) (hc1 : ∀first_2 hard_3 v4,c1_ (first_2,hard_3,v4)=some r→At g0 w0 (ZaC.p1.S time_2 chain_1 first_2 hard_3 v4 p_0 x1 st) J1):At g0 w0 (ZaC.p1.S time_2 chain_1 first_2 hard_3 v4 p_0 x1 st) (XK Tryz.prog R (.c (csub ZaC.B [1,1,1,1,1,1,0,1,0,0]) :: .h J1 :: [.b 0,.c (csub ZaC.B [1,1,1,1,1,1,1])])):=by
 unfold ZaC.p1 at h
 refine iteB h (fun c5 h9=>?_) (fun c5 h10=>?_)
 ·obtain ⟨c6,h11⟩:=ZaX h9
  obtain ⟨x5,c7,h12⟩:=Zdz h11
  refine iteB h12 (fun c8 h13=>?_) (fun c8 h14=>?_)
  ·obtain ⟨c9,h15⟩:=ZaX h13
   exact aq fol [.r [],.c true,.r [(2,{oe:=x5.ls})],.r [],.s 6] [2,3,7,8,9,10,12,13,27,28,29] [3,8,12] (aO c5 c6 (oD c5) c7 c8 c8 c8 (aK c8 c9 c8 c8)) (ZaC.p2_ok h15 hE hc1)
  ·exact aq fol [.r [],.c true,.r [(2,{oe:=x5.ls})],.r [(4,wF),(5,wF),(6,wF),(7,wF),(8,wF),(9,yF)],.s 6] [2,3,7,8,9,10,12,13,27,28,29] [3,8,12] (aO c5 c6 (oD c5) c7 c8 c8 c8 (aJ c8 c8 c8)) (ZaC.p2_ok h14 hE hc1)
 ·obtain ⟨x9,c14,h16⟩:=Zad h10
  obtain rfl:=Zac h16
  exact af fol hE [.r [],.c false,.r [(9,q1 [oI x9])]] [] 0 [] (aI c5 (ZbX.snd c14))
theorem ZaC.snd {p_0:Zae} {chain_1:LL} {time_2:Int} {r:Int} (h:ZaC N p_0 chain_1 time_2=some r):SndQ Tryz.prog 61 [.agg p_0.ls,.one (L.sl 68 chain_1),oI time_2] (ZaC.rs r):=fun st=>
 sO ZaC.B Tryz.func61 fun g0 w0 R hE=>by
  unfold ZaC at h
  refine iteB h (fun c1 h17=>?_) (fun c1 h18=>?_)
  ·obtain rfl:=Zac h17
   exact af fol hE [.r [],.r [],.r [],.c true,.r []] [] 0 [] c1
  ·obtain ⟨c2,c3,h19⟩:=ck2 h18
   obtain ⟨x1,c4,h20⟩:=Zdz h19
   exact aq fol [.r [],.r [],.r [],.c false,.r [(4,{oe:=x1.ls})],.r [],.r [],.r []] [2,3,7,8,9,10,27,28,29] [3,8] (aK c1 c2 c3 c4) (At.loop N (At.loopN (fun y:Int×Int×Int=>ZaC.p1.S time_2 chain_1 y.1 y.2.1 y.2.2 p_0 x1 st) (fun c J hc y h=>ZaC.p1_ok (first_2:=y.1) (hard_3:=y.2.1) (v4:=y.2.2) h hE (fun first_2 hard_3 v4=>hc (first_2,hard_3,v4))) N (0,p_0.Limit,0) h20))
noncomputable def Zby.B:Code:=Tryz.f97.body.getD .skip
noncomputable def Zby.rs (r:(List Int)):List CV:=[.agg [L.arr .u64 4 r]]
noncomputable def Zby.p1 (N:Nat) (h_0_0:List Int) (c1_:(Int×(List Int))→Option (List Int)):(Int×(List Int))→Option (List Int):=fun (i_1,out_3)=>
 if (decide (i_1≥0))=true then
  optE (Zak N out_3 8) fun x4=>
  chk (0≤i_1)<|
  chk (i_1<32)<|
  c1_ (w64 (i_1-1),List.set x4 0 (v64 ((List.getD x4 0 0)+(v64 (List.getD h_0_0 (Int.toNat i_1) 0)))))
 else
 some out_3
noncomputable def Zby (N:Nat) (h_0_0:List Int):Option (List Int):=
 loopN (Zby.p1 N h_0_0) N (31,List.replicate 4 0)
noncomputable def Zby.p1.S (i_1:Int) (h_0_0 out_3:List Int) (st:LL):S:=mkS 21 [(1,sA 1),(2,sA 2),(3,sA 3),(4,sI i_1)] [(1,.cells [L.arr .u8 32 h_0_0]),(2,.cells [L.arr .u64 4 (List.replicate 4 0)]),(3,.cells [L.arr .u64 4 out_3])] st
theorem Zby.p1_ok {i_1 h_0_0 out_3 st r c1_ J1} (h:Zby.p1 N h_0_0 c1_ (i_1,out_3)=some r) (hE:En Tryz.f97 g0 w0 (Zby.rs r) st R) (hc1 : ∀i_1 out_3,c1_ (i_1,out_3)=some r→At g0 w0 (Zby.p1.S i_1 h_0_0 out_3 st) J1):At g0 w0 (Zby.p1.S i_1 h_0_0 out_3 st) (XK Tryz.prog R (.c (csub Zby.B [1,1,0,1,0,0]) :: .h J1 :: [.b 0,.c (csub Zby.B [1,1,1])])):=by
 unfold Zby.p1 at h
 refine iteB h (fun c5 h1=>?_) (fun c5 h2=>?_)
 ·obtain ⟨x4,c6,h3⟩:=Zad h1
  obtain ⟨c7,c8,h4⟩:=ck2 h3
  exact and_ fol [.r [],.c true,.r [(1,q1 [.agg [L.arr .u64 4 x4]])],.d {ds:=[],hv:=256,Hs:=[256]},.r []] [1,2,3,4] [1,2,3] (aJ c5 (Zak.snd c6) (ix 0 4 (aK c7 c8 (leI 0 0) (ltI 0 4)))) (hc1 (w64 (i_1-1)) (List.set x4 0 (v64 ((List.getD x4 0 0)+(v64 (List.getD h_0_0 (Int.toNat i_1) 0))))) h4)
 ·obtain rfl:=Zac h2
  exact af fol hE [.r [],.c false,.r []] [] 0 [] c5
theorem Zby.snd {h_0_0:List Int} {r:(List Int)} (h:Zby N h_0_0=some r):SndQ Tryz.prog 97 [.agg [L.arr .u8 32 h_0_0]] (Zby.rs r):=fun st=>
 sO Zby.B Tryz.func97 fun g0 w0 R hE=>by
  unfold Zby at h
  exact aq fol [.r [],.r [],.r []] [1,2,3,4] [1,2,3] trivial (At.loop N (At.loopN (fun y:Int×(List Int)=>Zby.p1.S y.1 h_0_0 y.2 st) (fun c J hc y h=>Zby.p1_ok (i_1:=y.1) (out_3:=y.2) h hE (fun i_1 out_3=>hc (i_1,out_3))) N (31,List.replicate 4 0) h))
noncomputable def Zdh.B:Code:=Tryz.f62.body.getD .skip
noncomputable def Zdh.rs (r:Bool):List CV:=[oB r]
noncomputable def Zdh (N:Nat) (p_0:Zae) (h_1:Zai):Option Bool:=
 optE (Zbj N h_1.Bits p_0.Limit) fun (x1,x2)=>
 if x2=true then
  optE (Zch N h_1) fun x3=>
  optE (Zby N x3) fun x4=>
  optE (Zbf N x1 x4) fun x5=>
  some (!x5)
 else
 some false
theorem Zdh.snd {p_0:Zae} {h_1:Zai} {r:Bool} (h:Zdh N p_0 h_1=some r):SndQ Tryz.prog 62 [.agg p_0.ls,.agg h_1.ls] (Zdh.rs r):=fun st=>
 sO Zdh.B Tryz.func62 fun g0 w0 R hE=>by
  unfold Zdh at h
  obtain ⟨⟨x1,x2⟩,c1,h1⟩:=Zad h
  refine iteB h1 (fun c2 h2=>?_) (fun c2 h3=>?_)
  ·obtain ⟨x3,c3,h4⟩:=Zad h2
   obtain ⟨x4,c4,h5⟩:=Zad h4
   obtain ⟨x5,c5,h6⟩:=Zad h5
   obtain rfl:=Zac h6
   exact afd fol hE [.r [],.r [(4,q1 [.agg [L.arr .u64 4 x1],oB x2])],.d {ds:=[(4,q1 [.agg [L.arr .u8 32 x3]]),(5,q1 [.agg [L.arr .u64 4 x4]]),(6,q1 [oB x5])],hv:=0,Hs:=[]}] [] 0 [] (aO (Zbj.snd c1) c2 c2 c2 (Zch.snd c3) c2 (Zby.snd c4) (aK c2 (Zbf.snd c5) c2 c2))
  ·obtain rfl:=Zac h3
   exact afd fol hE [.r [],.r [(4,q1 [.agg [L.arr .u64 4 x1],oB x2])],.d {ds:=[(2,wF),(3,wF),(4,wF),(5,wF),(6,wF),(7,wF),(8,yF)],hv:=0,Hs:=[]}] [] 0 [] (aO (Zbj.snd c1) c2 c2 c2 c2 c2 c2 c2)
noncomputable def ZbU.B:Code:=Tryz.f64.body.getD .skip
noncomputable def ZbU.rs (r:LL):List CV:=[.row true 1 r]
noncomputable def ZbU.p1 (N:Nat) (row_0:LL) (c1_:(LL×Int)→Option LL):(LL×Int)→Option LL:=fun (out_3,i_1)=>
 if (decide (i_1≥0))=true then
  if (decide ((len out_3)<11))=true then
   chk (0≤i_1)<|
   chk (i_1<(len row_0))<|
   getE (row_0[Int.toNat i_1]?) ZcS fun x4=>
   chk (List.length (out_3 ++ [[L.int .i64 x4]])*8≤140737488355328)<|
   c1_ (out_3 ++ [[L.int .i64 x4]],w64 (i_1-1))
  else
  some out_3
 else
 some out_3
noncomputable def ZbU (N:Nat) (row_0:LL):Option LL:=
 loopN (ZbU.p1 N row_0) N ([],w64 ((len row_0)-1))
noncomputable def ZbU.p1.S (row_0 out_3:LL) (i_1:Int) (st:LL):S:=mkS 25 [(0,sV 1 row_0),(3,.one (.h (.row 3 0) 1 0 (List.length out_3))),(4,sI i_1)] [(3,.row 0 true 1 out_3)] st
theorem ZbU.p1_ok {row_0 out_3 i_1 st r c1_ J1} (h:ZbU.p1 N row_0 c1_ (out_3,i_1)=some r) (hE:En Tryz.f64 g0 w0 (ZbU.rs r) st R) (hc1 : ∀out_3 i_1,c1_ (out_3,i_1)=some r→At g0 w0 (ZbU.p1.S row_0 out_3 i_1 st) J1):At g0 w0 (ZbU.p1.S row_0 out_3 i_1 st) (XK Tryz.prog R (.c (csub ZbU.B [1,1,0,1,0,0]) :: .h J1 :: [.b 0,.c (csub ZbU.B [1,1,1])])):=by
 unfold ZbU.p1 at h
 refine iteB h (fun c6 h1=>?_) (fun c6 h2=>?_)
 ·refine iteB h1 (fun c7 h3=>?_) (fun c7 h4=>?_)
  ·obtain ⟨c8,c9,h5⟩:=ck2 h3
   obtain ⟨x4,c10,h6⟩:=Zci h5
   obtain ⟨c11,h7⟩:=ZaX h6
   exact an fol [.r [],.c true,.r [(4,{oe:=[L.int .i64 x4]})],.r []] [0,3,4] [3] (aO c6 c6 c6 c6 c7 c8 c9 (aM c10 z0 (eN (List.length out_3)) z0 (eN (1)) c11)) (hc1 (out_3 ++ [[L.int .i64 x4]]) (w64 (i_1-1)) h7)
  ·obtain rfl:=Zac h4
   exact af fol hE [.r [],.c false,.r []] [] 0 [0] (aN c6 c6 c6 c6 c7 z0 (eN (List.length out_3)))
 ·obtain rfl:=Zac h2
  exact af fol hE [.r [(3,wF),(4,wF),(5,wF),(6,yF)],.c false,.r []] [] 0 [0] (aN c6 c6 c6 c6 eF z0 (eN (List.length out_3)))
theorem ZbU.snd {row_0:LL} {r:LL} (h:ZbU N row_0=some r):SndQ Tryz.prog 64 [.one (L.sl 1 row_0)] (ZbU.rs r):=fun st=>
 sO ZbU.B Tryz.func64 fun g0 w0 R hE=>by
  unfold ZbU at h
  exact aq fol [.r [(0,{m:=2})],.r [(0,{m:=1})],.r []] [0,3,4] [3] trivial (At.loop N (At.loopN (fun y:LL×Int=>ZbU.p1.S row_0 y.1 y.2 st) (fun c J hc y h=>ZbU.p1_ok (out_3:=y.1) (i_1:=y.2) h hE (fun out_3 i_1=>hc (out_3,i_1))) N ([],w64 ((len row_0)-1)) h))
noncomputable def ZaH.B:Code:=Tryz.f63.body.getD .skip
noncomputable def ZaH.rs (r:Int):List CV:=[oI r]
noncomputable def ZaH.p4 (N:Nat) (c2_:(Int×Int×Int)→Option Int) (c1_:Int→Option Int) (times_0:LL) (i_1 less_7 same_10 j_4:Int):Option Int:=
 c2_ (less_7,same_10,w64 (j_4+1))
noncomputable def ZaH.p3 (N:Nat) (c2_:(Int×Int×Int)→Option Int) (c1_:Int→Option Int) (times_0:LL) (i_1 less_7 same_3 j_4:Int):Option Int:=
 chk (0≤j_4)<|
 chk (j_4<(len times_0))<|
 getE (times_0[Int.toNat j_4]?) ZcS fun x8=>
 chk (0≤i_1)<|
 chk (i_1<(len times_0))<|
 getE (times_0[Int.toNat i_1]?) ZcS fun x9=>
 if (x8==x9)=true then
  ZaH.p4 N c2_ c1_ times_0 i_1 less_7 (w64 (same_3+1)) j_4
 else
 ZaH.p4 N c2_ c1_ times_0 i_1 less_7 same_3 j_4
noncomputable def ZaH.p2 (N:Nat) (c1_:Int→Option Int) (times_0:LL) (i_1:Int) (c2_:(Int×Int×Int)→Option Int):(Int×Int×Int)→Option Int:=fun (less_2,same_3,j_4)=>
 if (decide (j_4<(if (11:Int)<(len times_0) then 11 else (len times_0))))=true then
  chk (0≤j_4)<|
  chk (j_4<(len times_0))<|
  getE (times_0[Int.toNat j_4]?) ZcS fun x5=>
  chk (0≤i_1)<|
  chk (i_1<(len times_0))<|
  getE (times_0[Int.toNat i_1]?) ZcS fun x6=>
  if (decide (x5<x6))=true then
   ZaH.p3 N c2_ c1_ times_0 i_1 (w64 (less_2+1)) same_3 j_4
  else
  ZaH.p3 N c2_ c1_ times_0 i_1 less_2 same_3 j_4
 else
 if (decide (less_2≤(w64 (Int.tdiv (if (11:Int)<(len times_0) then 11 else (len times_0)) 2))))=true then
  if (decide ((w64 (Int.tdiv (if (11:Int)<(len times_0) then 11 else (len times_0)) 2))<(w64 (less_2+same_3))))=true then
   chk (0≤i_1)<|
   chk (i_1<(len times_0))<|
   getE (times_0[Int.toNat i_1]?) ZcS fun x11=>
   some x11
  else
  c1_ (w64 (i_1+1))
 else
 c1_ (w64 (i_1+1))
noncomputable def ZaH.p1 (N:Nat) (times_0:LL) (c1_:Int→Option Int):Int→Option Int:=fun i_1=>
 if (decide (i_1<(if (11:Int)<(len times_0) then 11 else (len times_0))))=true then
  loopN (ZaH.p2 N c1_ times_0 i_1) N (0,0,0)
 else
 some 0
noncomputable def ZaH (N:Nat) (times_0:LL):Option Int:=
 loopN (ZaH.p1 N times_0) N 0
noncomputable def ZaH.p4.S (times_0:LL) (i_1 less_7 same_10 j_4:Int) (st:LL):S:=mkS 59 [(0,sV 1 times_0),(3,sI (if (11:Int)<(len times_0) then 11 else (len times_0))),(4,sI i_1),(5,sI less_7),(6,sI same_10),(7,sI j_4)] [] st
noncomputable def ZaH.p3.S (times_0:LL) (i_1 less_7 same_3 j_4:Int) (st:LL):S:=mkS 59 [(0,sV 1 times_0),(3,sI (if (11:Int)<(len times_0) then 11 else (len times_0))),(4,sI i_1),(5,sI less_7),(6,sI same_3),(7,sI j_4)] [] st
noncomputable def ZaH.p2.S (times_0:LL) (i_1 less_2 same_3 j_4:Int) (st:LL):S:=mkS 59 [(0,sV 1 times_0),(3,sI (if (11:Int)<(len times_0) then 11 else (len times_0))),(4,sI i_1),(5,sI less_2),(6,sI same_3),(7,sI j_4)] [] st
noncomputable def ZaH.p1.S (times_0:LL) (i_1:Int) (st:LL):S:=mkS 59 [(0,sV 1 times_0),(3,sI (if (11:Int)<(len times_0) then 11 else (len times_0))),(4,sI i_1)] [] st
theorem ZaH.p4_ok {times_0 i_1 less_7 same_10 j_4 st r c2_ c1_ J2 J1} (h:ZaH.p4 N c2_ c1_ times_0 i_1 less_7 same_10 j_4=some r) (hE:En Tryz.f63 g0 w0 (ZaH.rs r) st R) (hc2 : ∀less_2 same_3 j_4,c2_ (less_2,same_3,j_4)=some r→At g0 w0 (ZaH.p2.S times_0 i_1 less_2 same_3 j_4 st) J2) (hc1 : ∀i_1,c1_ i_1=some r→At g0 w0 (ZaH.p1.S times_0 i_1 st) J1):At g0 w0 (ZaH.p4.S times_0 i_1 less_7 same_10 j_4 st) (XK Tryz.prog R [.c (csub ZaH.B [1,1,0,1,0,0,1,0,0,1,1,0,1,0,0,1,1]),.h J2,.b 2,.c (csub ZaH.B [1,1,0,1,0,0,1,0,0,1,1,1]),.b 1,.c (csub ZaH.B [1,1,0,1,0,0,1,1]),.h J1,.b 0,.c (csub ZaH.B [1,1,1])]):=by
 unfold ZaH.p4 at h
 exact an fol [.r []] [0,3,4,5,6,7] [] trivial (hc2 less_7 same_10 (w64 (j_4+1)) h)
theorem ZaH.p3_ok {times_0 i_1 less_7 same_3 j_4 st r c2_ c1_ J2 J1} (h:ZaH.p3 N c2_ c1_ times_0 i_1 less_7 same_3 j_4=some r) (hE:En Tryz.f63 g0 w0 (ZaH.rs r) st R) (hc2 : ∀less_2 same_3 j_4,c2_ (less_2,same_3,j_4)=some r→At g0 w0 (ZaH.p2.S times_0 i_1 less_2 same_3 j_4 st) J2) (hc1 : ∀i_1,c1_ i_1=some r→At g0 w0 (ZaH.p1.S times_0 i_1 st) J1):At g0 w0 (ZaH.p3.S times_0 i_1 less_7 same_3 j_4 st) (XK Tryz.prog R [.c (csub ZaH.B [1,1,0,1,0,0,1,0,0,1,1,0,1,0,0,1,0,0,1]),.b 3,.c (csub ZaH.B [1,1,0,1,0,0,1,0,0,1,1,0,1,0,0,1,1]),.h J2,.b 2,.c (csub ZaH.B [1,1,0,1,0,0,1,0,0,1,1,1]),.b 1,.c (csub ZaH.B [1,1,0,1,0,0,1,1]),.h J1,.b 0,.c (csub ZaH.B [1,1,1])]):=by
 unfold ZaH.p3 at h
 obtain ⟨c10,c11,h1⟩:=ck2 h
 obtain ⟨x8,c12,h2⟩:=Zci h1
 obtain ⟨c13,c14,h3⟩:=ck2 h2
 obtain ⟨x9,c15,h4⟩:=Zci h3
 refine iteB h4 (fun c16 h5=>?_) (fun c16 h6=>?_)
 ·exact aqd fol [.d {ds:=[(3,{oe:=[L.int .i64 x8]}),(7,{oe:=[L.int .i64 x9]})],hv:=0,Hs:=[]},.c true,.r [],.s 9] [0,3,4,5,6,7] [] (aN c10 c11 c12 c13 c14 c15 c16) (ZaH.p4_ok h5 hE hc2 hc1)
 ·exact aqd fol [.d {ds:=[(3,{oe:=[L.int .i64 x8]}),(7,{oe:=[L.int .i64 x9]})],hv:=0,Hs:=[]},.c false,.s 9] [0,3,4,5,6,7] [] (aN c10 c11 c12 c13 c14 c15 c16) (ZaH.p4_ok h6 hE hc2 hc1)
theorem ZaH.p2_ok {times_0 i_1 less_2 same_3 j_4 st r c1_ c2_ J1 J2} (h:ZaH.p2 N c1_ times_0 i_1 c2_ (less_2,same_3,j_4)=some r) (hE:En Tryz.f63 g0 w0 (ZaH.rs r) st R) (hc1 : ∀i_1,c1_ i_1=some r→At g0 w0 (ZaH.p1.S times_0 i_1 st) J1) (hc2 : ∀less_2 same_3 j_4,c2_ (less_2,same_3,j_4)=some r→At g0 w0 (ZaH.p2.S times_0 i_1 less_2 same_3 j_4 st) J2):At g0 w0 (ZaH.p2.S times_0 i_1 less_2 same_3 j_4 st) (XK Tryz.prog R (.c (csub ZaH.B [1,1,0,1,0,0,1,0,0,1,1,0,1,0,0]) :: .h J2 :: [.b 2,.c (csub ZaH.B [1,1,0,1,0,0,1,0,0,1,1,1]),.b 1,.c (csub ZaH.B [1,1,0,1,0,0,1,1]),.h J1,.b 0,.c (csub ZaH.B [1,1,1])])):=by
 unfold ZaH.p2 at h
 refine iteB h (fun c2 h7=>?_) (fun c2 h8=>?_)
 ·obtain ⟨c3,c4,h9⟩:=ck2 h7
  obtain ⟨x5,c5,h10⟩:=Zci h9
  obtain ⟨c6,c7,h11⟩:=ck2 h10
  obtain ⟨x6,c8,h12⟩:=Zci h11
  refine iteB h12 (fun c9 h13=>?_) (fun c9 h14=>?_)
  ·exact aqd fol [.r [],.c true,.d {ds:=[(3,{oe:=[L.int .i64 x5]}),(7,{oe:=[L.int .i64 x6]})],hv:=0,Hs:=[]},.c true,.r [],.s 11] [0,3,4,5,6,7] [] (aO c2 c3 c4 c5 c6 c7 c8 c9) (ZaH.p3_ok h13 hE hc2 hc1)
  ·exact aqd fol [.r [],.c true,.d {ds:=[(3,{oe:=[L.int .i64 x5]}),(7,{oe:=[L.int .i64 x6]})],hv:=0,Hs:=[]},.c false,.s 11] [0,3,4,5,6,7] [] (aO c2 c3 c4 c5 c6 c7 c8 c9) (ZaH.p3_ok h14 hE hc2 hc1)
 ·refine iteB h8 (fun c17 h15=>?_) (fun c17 h16=>?_)
  ·refine iteB h15 (fun c18 h17=>?_) (fun c18 h18=>?_)
   ·obtain ⟨c19,c20,h19⟩:=ck2 h17
    obtain ⟨x11,c21,h20⟩:=Zci h19
    obtain rfl:=Zac h20
    exact af fol hE [.r [],.c false,.r [],.c true,.r [(3,{oe:=[L.int .i64 x11]})]] [] 0 [] (aO c2 (neI 2) c17 c17 (neI 2) c17 c17 (aN c17 c17 c17 c18 c19 c20 c21))
   ·exact an fol [.r [],.c false,.r [],.c false,.r []] [0,3,4] [] (aO c2 (neI 2) c17 c17 (neI 2) c17 c17 (aK c17 c17 c17 c18)) (hc1 (w64 (i_1+1)) h18)
  ·exact an fol [.r [],.c false,.r [(5,wF),(6,wF),(7,wF),(8,wF),(9,wF),(10,wF),(11,yF)],.c false,.r []] [0,3,4] [] (aO c2 (neI 2) c17 c17 c17 c17 c17 (aJ c17 c17 eF)) (hc1 (w64 (i_1+1)) h16)
theorem ZaH.p1_ok {times_0 i_1 st r c1_ J1} (h:ZaH.p1 N times_0 c1_ i_1=some r) (hE:En Tryz.f63 g0 w0 (ZaH.rs r) st R) (hc1 : ∀i_1,c1_ i_1=some r→At g0 w0 (ZaH.p1.S times_0 i_1 st) J1):At g0 w0 (ZaH.p1.S times_0 i_1 st) (XK Tryz.prog R (.c (csub ZaH.B [1,1,0,1,0,0]) :: .h J1 :: [.b 0,.c (csub ZaH.B [1,1,1])])):=by
 unfold ZaH.p1 at h
 refine iteB h (fun c1 h21=>?_) (fun c1 h22=>?_)
 ·exact aq fol [.r [],.c true,.r [],.r [],.r []] [0,3,4,5,6,7] [] c1 (At.loop N (At.loopN (fun y:Int×Int×Int=>ZaH.p2.S times_0 i_1 y.1 y.2.1 y.2.2 st) (fun c J hc y h=>ZaH.p2_ok (less_2:=y.1) (same_3:=y.2.1) (j_4:=y.2.2) h hE hc1 (fun less_2 same_3 j_4=>hc (less_2,same_3,j_4))) N (0,0,0) h21))
 ·obtain rfl:=Zac h22
  exact af fol hE [.r [],.c false,.r []] [] 0 [] c1
theorem ZaH.snd {times_0:LL} {r:Int} (h:ZaH N times_0=some r):SndQ Tryz.prog 63 [.one (L.sl 1 times_0)] (ZaH.rs r):=fun st=>
 sO ZaH.B Tryz.func63 fun g0 w0 R hE=>by
  unfold ZaH at h
  exact aq fol [.r [],.r [],.r []] [0,3,4] [] trivial (At.loop N (At.loopN (fun y:Int=>ZaH.p1.S times_0 y st) (fun c J hc y h=>ZaH.p1_ok h hE (fun i_1=>hc i_1)) N 0 h))
noncomputable def Zaq.B:Code:=Tryz.f18.body.getD .skip
noncomputable def Zaq.rs (r:Int):List CV:=[oI r]
noncomputable def Zaq.p6 (N:Nat) (chain_1:LL) (p_0:Zae) (h_2:Zai) (c6_:Int→Option Int):Int→Option Int:=fun v21=>
 if (decide (v21<(len p_0.Checks)))=true then
  chk (0≤v21)<|
  getE (p_0.Checks[Int.toNat v21]?) ZdA fun x22=>
  if (x22.Height==(len chain_1))=true then
   optE (Zch N h_2) fun x23=>
   if (!(x22.Id==x23))=true then
    some 8
   else
   c6_ (w64 (v21+1))
  else
  c6_ (w64 (v21+1))
 else
 some 0
noncomputable def Zaq.p5 (N:Nat) (chain_1:LL) (p_0:Zae) (h_2:Zai) (c5_:Int→Option Int):Int→Option Int:=fun v19=>
 if (decide (v19<(len p_0.Gates)))=true then
  chk (0≤v19)<|
  getE (p_0.Gates[Int.toNat v19]?) ZdI fun x20=>
  if (decide (x20.Height≤(len chain_1)))=true then
   if (decide (h_2.Version<x20.Version))=true then
    some 7
   else
   c5_ (w64 (v19+1))
  else
  c5_ (w64 (v19+1))
 else
 loopN (Zaq.p6 N chain_1 p_0 h_2) N 0
noncomputable def Zaq.p4 (N:Nat) (chain_1:LL) (p_0:Zae) (h_2:Zai):Option Int:=
 loopN (Zaq.p5 N chain_1 p_0 h_2) N 0
noncomputable def Zaq.p3 (N:Nat) (now_3:Int) (chain_1:LL) (p_0:Zae) (h_2:Zai):Option Int:=
 if (decide (p_0.Future<0))=true then
  some 6
 else
 if (decide (h_2.Time>now_3))=true then
  if (decide ((w64 (h_2.Time-now_3))>p_0.Future))=true then
   some 6
  else
  Zaq.p4 N chain_1 p_0 h_2
 else
 Zaq.p4 N chain_1 p_0 h_2
noncomputable def Zaq.p2 (N:Nat) (now_3:Int) (chain_1:LL) (p_0:Zae) (h_2:Zai) (c2_:(LL×Int)→Option Int):(LL×Int)→Option Int:=fun (times_15,v6)=>
 if (decide (v6<(len chain_1)))=true then
  chk (0≤v6)<|
  getE (chain_1[Int.toNat v6]?) Zdm fun x16=>
  chk (List.length (times_15 ++ [[L.int .i64 x16.Time]])*8≤140737488355328)<|
  c2_ (times_15 ++ [[L.int .i64 x16.Time]],w64 (v6+1))
 else
 if (decide ((len chain_1)>0))=true then
  optE (ZbU N times_15) fun x17=>
  chk (plainRow x17=true)<|
  optE (ZaH N x17) fun x18=>
  if (decide (h_2.Time≤x18))=true then
   some 5
  else
  Zaq.p3 N now_3 chain_1 p_0 h_2
 else
 Zaq.p3 N now_3 chain_1 p_0 h_2
noncomputable def Zaq.p1 (N:Nat) (chain_1:LL) (now_3:Int) (p_0:Zae) (h_2:Zai):Option Int:=
 optE (ZaC N p_0 chain_1 h_2.Time) fun x4=>
 if (h_2.Bits != x4)=true then
  some 3
 else
 optE (Zdh N p_0 h_2) fun x5=>
 if (!x5)=true then
  some 4
 else
 loopN (Zaq.p2 N now_3 chain_1 p_0 h_2) N ([],0)
noncomputable def Zaq (N:Nat) (p_0:Zae) (chain_1:LL) (h_2:Zai) (now_3:Int):Option Int:=
 optE (ZbP N h_2) fun x1=>
 if (!x1)=true then
  some 1
 else
 if (decide ((len chain_1)>0))=true then
  chk (0≤(w64 ((len chain_1)-1)))<|
  chk ((w64 ((len chain_1)-1))<(len chain_1))<|
  getE (chain_1[Int.toNat (w64 ((len chain_1)-1))]?) Zdm fun x2=>
  optE (Zch N x2) fun x3=>
  if (!(h_2.Prev==x3))=true then
   some 2
  else
  Zaq.p1 N chain_1 now_3 p_0 h_2
 else
 Zaq.p1 N chain_1 now_3 p_0 h_2
noncomputable def Zaq.p6.S (chain_1:LL) (p_0:Zae) (v21:Int) (h_2:Zai) (st:LL):S:=mkS 125 [(6,sA 6),(9,sI (len chain_1)),(107,sV 33 p_0.Checks),(108,sI (len p_0.Checks)),(109,sI v21)] [(6,.cells h_2.ls)] st
noncomputable def Zaq.p5.S (chain_1:LL) (p_0:Zae) (v19:Int) (h_2:Zai) (st:LL):S:=mkS 125 [(4,sA 4),(6,sA 6),(9,sI (len chain_1)),(88,sV 2 p_0.Gates),(89,sI (len p_0.Gates)),(90,sI v19)] [(4,.cells p_0.ls),(6,.cells h_2.ls)] st
noncomputable def Zaq.p4.S (chain_1:LL) (p_0:Zae) (h_2:Zai) (st:LL):S:=mkS 125 [(4,sA 4),(6,sA 6),(9,sI (len chain_1))] [(4,.cells p_0.ls),(6,.cells h_2.ls)] st
noncomputable def Zaq.p3.S (now_3:Int) (chain_1:LL) (p_0:Zae) (h_2:Zai) (st:LL):S:=mkS 125 [(3,sI now_3),(4,sA 4),(6,sA 6),(9,sI (len chain_1))] [(4,.cells p_0.ls),(6,.cells h_2.ls)] st
noncomputable def Zaq.p2.S (now_3:Int) (chain_1 times_15:LL) (v6:Int) (p_0:Zae) (h_2:Zai) (st:LL):S:=mkS 125 [(3,sI now_3),(4,sA 4),(6,sA 6),(9,sI (len chain_1)),(10,.one (.h (.row 10 0) 1 0 (List.length times_15))),(47,sV 68 chain_1),(48,sI (len chain_1)),(49,sI v6)] [(4,.cells p_0.ls),(6,.cells h_2.ls),(10,.row 0 true 1 times_15)] st
noncomputable def Zaq.p1.S (chain_1:LL) (now_3:Int) (p_0:Zae) (h_2:Zai) (st:LL):S:=mkS 125 [(1,sV 68 chain_1),(3,sI now_3),(4,sA 4),(6,sA 6),(9,sI (len chain_1))] [(4,.cells p_0.ls),(6,.cells h_2.ls)] st
theorem Zaq.p6_ok {chain_1 p_0 v21 h_2 st r c6_ J6} (h:Zaq.p6 N chain_1 p_0 h_2 c6_ v21=some r) (hE:En Tryz.f18 g0 w0 (Zaq.rs r) st R) (hc6 : ∀v21,c6_ v21=some r→At g0 w0 (Zaq.p6.S chain_1 p_0 v21 h_2 st) J6):At g0 w0 (Zaq.p6.S chain_1 p_0 v21 h_2 st) (XK Tryz.prog R (.c (csub Zaq.B [1,1,1,1,1,1,1,1,1,1,1,0,1,0,0]) :: .h J6 :: [.b 4,.c (csub Zaq.B [1,1,1,1,1,1,1,1,1,1,1,1])])):=by
 unfold Zaq.p6 at h
 refine iteB h (fun c53 h1=>?_) (fun c53 h2=>?_)
 ·obtain ⟨c54,h3⟩:=ZaX h1
  obtain ⟨x22,c55,h4⟩:=ZdF h3
  refine iteB h4 (fun c56 h5=>?_) (fun c56 h6=>?_)
  ·obtain ⟨x23,c57,h7⟩:=Zad h5
   refine iteB h7 (fun c58 h8=>?_) (fun c58 h9=>?_)
   ·obtain rfl:=Zac h8
    exact afd fol hE [.r [],.c true,.r [(1,{oe:=x22.ls})],.d {ds:=[(8,q1 [.agg [L.arr .u8 32 x23]])],hv:=0,Hs:=[]},.c true,.r []] [] 0 [] (aO c53 c54 (oD c53) c55 c56 c56 c56 (aL c56 (Zch.snd c57) c56 c56 c58))
   ·exact and_ fol [.r [],.c true,.r [(1,{oe:=x22.ls})],.d {ds:=[(8,q1 [.agg [L.arr .u8 32 x23]])],hv:=0,Hs:=[]},.c false,.r []] [6,9,107,108,109] [6] (aO c53 c54 (oD c53) c55 c56 c56 c56 (aL c56 (Zch.snd c57) c56 c56 c58)) (hc6 (w64 (v21+1)) h9)
  ·exact and_ fol [.r [],.c true,.r [(1,{oe:=x22.ls})],.d {ds:=[(5,wF),(6,wF),(7,wF),(8,wF),(9,wF),(10,yF)],hv:=0,Hs:=[]},.c false,.r []] [6,9,107,108,109] [6] (aO c53 c54 (oD c53) c55 c56 c56 c56 (aK c56 c56 c56 eF)) (hc6 (w64 (v21+1)) h6)
 ·obtain rfl:=Zac h2
  exact af fol hE [.r [],.c false,.r []] [] 0 [] c53
theorem Zaq.p5_ok {chain_1 p_0 v19 h_2 st r c5_ J5} (h:Zaq.p5 N chain_1 p_0 h_2 c5_ v19=some r) (hE:En Tryz.f18 g0 w0 (Zaq.rs r) st R) (hc5 : ∀v19,c5_ v19=some r→At g0 w0 (Zaq.p5.S chain_1 p_0 v19 h_2 st) J5):At g0 w0 (Zaq.p5.S chain_1 p_0 v19 h_2 st) (XK Tryz.prog R (.c (csub Zaq.B [1,1,1,1,1,1,1,1,1,1,0,1,0,0]) :: .h J5 :: [.b 2,.c (csub Zaq.B [1,1,1,1,1,1,1,1,1,1,1])])):=by
 unfold Zaq.p5 at h
 refine iteB h (fun c48 h10=>?_) (fun c48 h11=>?_)
 ·obtain ⟨c49,h12⟩:=ZaX h10
  obtain ⟨x20,c50,h13⟩:=ZdL h12
  refine iteB h13 (fun c51 h14=>?_) (fun c51 h15=>?_)
  ·refine iteB h14 (fun c52 h16=>?_) (fun c52 h17=>?_)
   ·obtain rfl:=Zac h16
    exact af fol hE [.r [],.c true,.r [(1,{oe:=x20.ls})],.r [],.c true,.r []] [] 0 [] (aO c48 c49 (oD c48) c50 c51 c51 c51 (aK c51 c51 c51 c52))
   ·exact an fol [.r [],.c true,.r [(1,{oe:=x20.ls})],.r [],.c false,.r []] [4,6,9,88,89,90] [4,6] (aO c48 c49 (oD c48) c50 c51 c51 c51 (aK c51 c51 c51 c52)) (hc5 (w64 (v19+1)) h17)
  ·exact an fol [.r [],.c true,.r [(1,{oe:=x20.ls})],.r [(5,wF),(6,wF),(7,wF),(8,wF),(9,wF),(10,yF)],.c false,.r []] [4,6,9,88,89,90] [4,6] (aO c48 c49 (oD c48) c50 c51 c51 c51 (aK c51 c51 c51 eF)) (hc5 (w64 (v19+1)) h15)
 ·exact aq fol [.r [],.c false,.r []] [6,9,107,108,109] [6] c48 (At.loop N (At.loopN (fun y:Int=>Zaq.p6.S chain_1 p_0 y h_2 st) (fun c J hc y h=>Zaq.p6_ok h hE (fun v21=>hc v21)) N 0 h11))
theorem Zaq.p4_ok {chain_1 p_0 h_2 st r} (h:Zaq.p4 N chain_1 p_0 h_2=some r) (hE:En Tryz.f18 g0 w0 (Zaq.rs r) st R):At g0 w0 (Zaq.p4.S chain_1 p_0 h_2 st) (XK Tryz.prog R [.c (csub Zaq.B [1,1,1,1,1,1,1,1,1,1])]):=by
 unfold Zaq.p4 at h
 exact aq fol [.r []] [4,6,9,88,89,90] [4,6] trivial (At.loop N (At.loopN (fun y:Int=>Zaq.p5.S chain_1 p_0 y h_2 st) (fun c J hc y h=>Zaq.p5_ok h hE (fun v19=>hc v19)) N 0 h))
theorem Zaq.p3_ok {now_3 chain_1 p_0 h_2 st r} (h:Zaq.p3 N now_3 chain_1 p_0 h_2=some r) (hE:En Tryz.f18 g0 w0 (Zaq.rs r) st R):At g0 w0 (Zaq.p3.S now_3 chain_1 p_0 h_2 st) (XK Tryz.prog R [.c (csub Zaq.B [1,1,1,1,1,1,1,1,1])]):=by
 unfold Zaq.p3 at h
 refine iteB h (fun c45 h18=>?_) (fun c45 h19=>?_)
 ·obtain rfl:=Zac h18
  exact af fol hE [.r [(4,wF),(5,wF),(6,wF),(7,wF),(8,wF),(16,wF)],.c true,.r []] [] 0 [] (aO c45 c45 c45 c45 c45 c45 c45 eT)
 ·refine iteB h19 (fun c46 h20=>?_) (fun c46 h21=>?_)
  ·refine iteB h20 (fun c47 h22=>?_) (fun c47 h23=>?_)
   ·obtain rfl:=Zac h22
    exact af fol hE [.r [(17,yF)],.c true,.r []] [] 0 [] (aO c45 c45 c45 c45 c45 c46 c46 (aO c46 c46 c46 c46 c46 c45 c46 (aI c45 c47)))
   ·exact aq fol [.r [(17,yF)],.c false,.s 1] [4,6,9] [4,6] (aO c45 c45 c45 c45 c45 c46 c46 (aO c46 c46 c46 c46 c46 c45 c46 (aI c45 c47))) (Zaq.p4_ok h23 hE)
  ·exact aq fol [.r [(9,wF),(10,wF),(11,wF),(12,wF),(13,wF),(14,wF),(15,wF),(16,yF),(17,yF)],.c false,.s 1] [4,6,9] [4,6] (aO c45 c45 c45 c45 c45 c46 c46 (aO c46 c46 c46 c46 c46 c45 c46 (aI c45 eF))) (Zaq.p4_ok h21 hE)
theorem Zaq.p2_ok {now_3 chain_1 times_15 v6 p_0 h_2 st r c2_ J2} (h:Zaq.p2 N now_3 chain_1 p_0 h_2 c2_ (times_15,v6)=some r) (hE:En Tryz.f18 g0 w0 (Zaq.rs r) st R) (hc2 : ∀times_15 v6,c2_ (times_15,v6)=some r→At g0 w0 (Zaq.p2.S now_3 chain_1 times_15 v6 p_0 h_2 st) J2):At g0 w0 (Zaq.p2.S now_3 chain_1 times_15 v6 p_0 h_2 st) (XK Tryz.prog R (.c (csub Zaq.B [1,1,1,1,1,1,1,0,1,0,0]) :: .h J2 :: [.b 0,.c (csub Zaq.B [1,1,1,1,1,1,1,1])])):=by
 unfold Zaq.p2 at h
 refine iteB h (fun c36 h24=>?_) (fun c36 h25=>?_)
 ·obtain ⟨c37,h26⟩:=ZaX h24
  obtain ⟨x16,c38,h27⟩:=Zdz h26
  obtain ⟨c39,h28⟩:=ZaX h27
  exact an fol [.r [],.c true,.r [(1,{oe:=x16.ls})],.r [],.r []] [3,4,6,9,10,47,48,49] [4,6,10] (aO c36 c37 (oD c36) c38 z0 (eN (List.length times_15)) z0 (aI (eN (1)) c39)) (hc2 (times_15 ++ [[L.int .i64 x16.Time]]) (w64 (v6+1)) h28)
 ·refine iteB h25 (fun c40 h29=>?_) (fun c40 h30=>?_)
  ·obtain ⟨x17,c41,h31⟩:=Zad h29
   obtain ⟨c42,h32⟩:=ZaX h31
   obtain ⟨x18,c43,h33⟩:=Zad h32
   refine iteB h33 (fun c44 h34=>?_) (fun c44 h35=>?_)
   ·obtain rfl:=Zac h34
    exact afd fol hE [.r [],.c false,.d {ds:=[(6,{rs:=[.row true 1 x17],ns:=[65],m:=2}),(7,{rs:=[oI x18],m:=2})],hv:=64,Hs:=[64]},.c true,.r []] [] 0 [] (aO c36 c40 c40 c40 c40 c40 c40 (aO z0 (eN (List.length times_15)) c42 (ZbU.snd c41) c40 z0 (eN (List.length x17)) (aK (ZaH.snd c43) c40 c40 c44)))
   ·exact aqd fol [.r [],.c false,.d {ds:=[(6,{rs:=[.row true 1 x17],ns:=[65],m:=2}),(7,{rs:=[oI x18],m:=2})],hv:=64,Hs:=[64]},.c false,.s 1] [3,4,6,9] [4,6] (aO c36 c40 c40 c40 c40 c40 c40 (aO z0 (eN (List.length times_15)) c42 (ZbU.snd c41) c40 z0 (eN (List.length x17)) (aK (ZaH.snd c43) c40 c40 c44))) (Zaq.p3_ok h35 hE)
  ·exact aqd fol [.r [],.c false,.d {ds:=[(3,wF),(4,wF),(5,wF),(6,wF),(7,wF),(8,wF),(9,yF)],hv:=0,Hs:=[]},.c false,.s 1] [3,4,6,9] [4,6] (aO c36 c40 c40 c40 c40 c40 c40 (aI c40 eF)) (Zaq.p3_ok h30 hE)
theorem Zaq.p1_ok {chain_1 now_3 p_0 h_2 st r} (h:Zaq.p1 N chain_1 now_3 p_0 h_2=some r) (hE:En Tryz.f18 g0 w0 (Zaq.rs r) st R):At g0 w0 (Zaq.p1.S chain_1 now_3 p_0 h_2 st) (XK Tryz.prog R [.c (csub Zaq.B [1,1,1,1])]):=by
 unfold Zaq.p1 at h
 obtain ⟨x4,c9,h36⟩:=Zad h
 refine iteB h36 (fun c10 h37=>?_) (fun c10 h38=>?_)
 ·obtain rfl:=Zac h37
  exact afd fol hE [.d {ds:=[(6,q1 [oI x4])],hv:=0,Hs:=[]},.c true,.r []] [] 0 [] (aI (ZaC.snd c9) c10)
 ·obtain ⟨x5,c11,h39⟩:=Zad h38
  refine iteB h39 (fun c12 h40=>?_) (fun c12 h41=>?_)
  ·obtain rfl:=Zac h40
   exact afd fol hE [.d {ds:=[(6,q1 [oI x4])],hv:=0,Hs:=[]},.c false,.r [(2,q1 [oB x5])],.c true,.r []] [] 0 [] (aK (ZaC.snd c9) c10 (Zdh.snd c11) c12)
  ·exact aqd fol [.d {ds:=[(6,q1 [oI x4])],hv:=0,Hs:=[]},.c false,.r [(2,q1 [oB x5])],.c false,.r [(0,{m:=1})],.r []] [3,4,6,9,10,47,48,49] [4,6,10] (aK (ZaC.snd c9) c10 (Zdh.snd c11) c12) (At.loop N (At.loopN (fun y:LL×Int=>Zaq.p2.S now_3 chain_1 y.1 y.2 p_0 h_2 st) (fun c J hc y h=>Zaq.p2_ok (times_15:=y.1) (v6:=y.2) h hE (fun times_15 v6=>hc (times_15,v6))) N ([],0) h41))
theorem Zaq.snd {p_0:Zae} {chain_1:LL} {h_2:Zai} {now_3:Int} {r:Int} (h:Zaq N p_0 chain_1 h_2 now_3=some r):SndQ Tryz.prog 18 [.agg p_0.ls,.one (L.sl 68 chain_1),.agg h_2.ls,oI now_3] (Zaq.rs r):=fun st=>
 sO Zaq.B Tryz.func18 fun g0 w0 R hE=>by
  unfold Zaq at h
  obtain ⟨x1,c1,h42⟩:=Zad h
  refine iteB h42 (fun c2 h43=>?_) (fun c2 h44=>?_)
  ·obtain rfl:=Zac h43
   exact af fol hE [.r [],.r [],.r [(1,q1 [oB x1])],.c true,.r []] [] 0 [] (aI (ZbP.snd c1) c2)
  ·refine iteB h44 (fun c3 h45=>?_) (fun c3 h46=>?_)
   ·obtain ⟨c4,c5,h47⟩:=ck2 h45
    obtain ⟨x2,c6,h48⟩:=Zdz h47
    obtain ⟨x3,c7,h49⟩:=Zad h48
    refine iteB h49 (fun c8 h50=>?_) (fun c8 h51=>?_)
    ·obtain rfl:=Zac h50
     exact afd fol hE [.r [],.r [],.r [(1,q1 [oB x1])],.c false,.d {ds:=[(9,{oe:=x2.ls}),(10,q1 [.agg [L.arr .u8 32 x3]])],hv:=0,Hs:=[]},.c true,.r []] [] 0 [] (aO (ZbP.snd c1) c2 c3 c3 c3 c3 c3 (aO c3 c4 c5 c3 c6 c3 (Zch.snd c7) (aJ c3 c3 c8)))
    ·exact aqd fol [.r [],.r [],.r [(1,q1 [oB x1])],.c false,.d {ds:=[(9,{oe:=x2.ls}),(10,q1 [.agg [L.arr .u8 32 x3]])],hv:=0,Hs:=[]},.c false,.s 1] [1,3,4,6,9] [4,6] (aO (ZbP.snd c1) c2 c3 c3 c3 c3 c3 (aO c3 c4 c5 c3 c6 c3 (Zch.snd c7) (aJ c3 c3 c8))) (Zaq.p1_ok h51 hE)
   ·exact aqd fol [.r [],.r [],.r [(1,q1 [oB x1])],.c false,.d {ds:=[(3,wF),(4,wF),(5,wF),(6,wF),(7,wF),(8,wF),(9,wF),(10,wF),(11,wF),(12,yF)],hv:=0,Hs:=[]},.c false,.s 1] [1,3,4,6,9] [4,6] (aO (ZbP.snd c1) c2 c3 c3 c3 c3 c3 (aM c3 c3 c3 c3 c3 eF)) (Zaq.p1_ok h46 hE)
noncomputable def ZaL.B:Code:=Tryz.f33.body.getD .skip
noncomputable def ZaL.rs (r:Int×LL):List CV:=[oI r.1]
noncomputable def ZaL.p1 (N:Nat) (i1:Nat) (x2:Zaa) (id_1_0:List Int) (st:LL) (c1_:Int→Option (Int×LL)):Int→Option (Int×LL):=fun v3=>
 if (decide (v3<(len x2.Ids)))=true then
  chk (0≤v3)<|
  getE (st[i1]?) Zcg fun x4=>
  getE (x4.Ids[0+(Int.toNat v3)]?) Zfk fun x5=>
  if (x5==id_1_0)=true then
   some (v3,st)
  else
  c1_ (w64 (v3+1))
 else
 some ((-1),st)
noncomputable def ZaL (N:Nat) (a_0:Option Nat) (id_1_0:List Int) (st:LL):Option (Int×LL):=
 optE a_0 fun i1=>
 getE (st[i1]?) Zcg fun x2=>
 loopN (ZaL.p1 N i1 x2 id_1_0 st) N 0
noncomputable def ZaL.p1.S (i1:Nat) (x2:Zaa) (v3:Int) (id_1_0:List Int) (st:LL):S:=mkS 22 [(3,sA 3),(10,.one (.h (.mem (.obj i1) 84 0) 32 0 (List.length x2.Ids))),(11,sI (len x2.Ids)),(12,sI v3)] [(3,.cells [L.arr .u8 32 id_1_0])] st
theorem ZaL.p1_ok {i1 x2 v3 id_1_0 st r c1_ J1} (h:ZaL.p1 N i1 x2 id_1_0 st c1_ v3=some r) (hE:En Tryz.f33 g0 w0 (ZaL.rs r) r.2 R) (hc1 : ∀v3,c1_ v3=some r→At g0 w0 (ZaL.p1.S i1 x2 v3 id_1_0 st) J1):At g0 w0 (ZaL.p1.S i1 x2 v3 id_1_0 st) (XK Tryz.prog R (.c (csub ZaL.B [1,0,1,0,0]) :: .h J1 :: [.b 0,.c (csub ZaL.B [1,1])])):=by
 unfold ZaL.p1 at h
 refine iteB h (fun c3 h1=>?_) (fun c3 h2=>?_)
 ·obtain ⟨c4,h3⟩:=ZaX h1
  obtain ⟨x4,c5,h4⟩:=ZcE h3
  obtain ⟨x5,c6,h5⟩:=Zfv h4
  refine iteB h5 (fun c7 h6=>?_) (fun c7 h7=>?_)
  ·obtain rfl:=Zac h6
   exact af fol hE [.r [],.c true,.r [(2,{oc:=x4.lo,oe:=[L.arr .u8 32 x5]})],.r [],.c true,.r []] [] 0 [] (aM c3 c4 (oD c3) c6 c5 c7)
  ·exact an fol [.r [],.c true,.r [(2,{oc:=x4.lo,oe:=[L.arr .u8 32 x5]})],.r [],.c false,.r []] [3,10,11,12] [3] (aM c3 c4 (oD c3) c6 c5 c7) (hc1 (w64 (v3+1)) h7)
 ·obtain rfl:=Zac h2
  exact af fol hE [.r [],.c false,.r []] [] 0 [] c3
theorem ZaL.snd {a_0:Option Nat} {id_1_0:List Int} {st:LL} {r:Int×LL} (h:ZaL N a_0 id_1_0 st=some r):Snd Tryz.prog 33 [.one (L.ptr a_0),.agg [L.arr .u8 32 id_1_0]] st (ZaL.rs r) r.2:=
 sO ZaL.B Tryz.func33 fun g0 w0 R hE=>by
  unfold ZaL at h
  obtain ⟨i1,rfl,h8⟩:=Zad h
  obtain ⟨x2,c2,h9⟩:=ZcE h8
  exact aq fol [.r [],.r [(3,{oc:=x2.lo})]] [3,10,11,12] [3] c2 (At.loop N (At.loopN (fun y:Int=>ZaL.p1.S i1 x2 y id_1_0 st) (fun c J hc y h=>ZaL.p1_ok h hE (fun v3=>hc v3)) N 0 h9))
noncomputable def ZdH.B:Code:=Tryz.f70.body.getD .skip
noncomputable def ZdH.rs (r:(List Int)):List CV:=[.agg [L.arr .u64 4 r]]
noncomputable def ZdH (N:Nat) (a_0_0 b_1_0:List Int):Option (List Int):=
 optE (ZaV N a_0_0 b_1_0) fun (x1,x2)=>
 if x2=true then
  optE (Zcz N ) fun x3=>
  some x3
 else
 some x1
theorem ZdH.snd {a_0_0 b_1_0:List Int} {r:(List Int)} (h:ZdH N a_0_0 b_1_0=some r):SndQ Tryz.prog 70 [.agg [L.arr .u64 4 a_0_0],.agg [L.arr .u64 4 b_1_0]] (ZdH.rs r):=fun st=>
 sO ZdH.B Tryz.func70 fun g0 w0 R hE=>by
  unfold ZdH at h
  obtain ⟨⟨x1,x2⟩,c1,h1⟩:=Zad h
  refine iteB h1 (fun c2 h2=>?_) (fun c2 h3=>?_)
  ·obtain ⟨x3,c3,h4⟩:=Zad h2
   obtain rfl:=Zac h4
   exact af fol hE [.r [],.r [(2,q1 [.agg [L.arr .u64 4 x1],oB x2])],.r [],.c true,.r [(0,q1 [.agg [L.arr .u64 4 x3]])]] [] 0 [] (aJ (ZaV.snd c1) c2 (Zcz.snd c3))
  ·obtain rfl:=Zac h3
   exact af fol hE [.r [],.r [(2,q1 [.agg [L.arr .u64 4 x1],oB x2])],.r [],.c false,.r []] [] 0 [] (aI (ZaV.snd c1) c2)
noncomputable def Zcb.B:Code:=Tryz.f31.body.getD .skip
noncomputable def Zcb.rs (r:Int×Int×Int×LL):List CV:=[oI r.1,oI r.2.1,oI r.2.2.1]
noncomputable def Zcb (N:Nat) (a_0:Option Nat) (h_1:Zai) (now_2:Int) (st:LL):Option (Int×Int×Int×LL):=
 optE (ZbP N h_1) fun x1=>
 if (!x1)=true then
  some ((-1),1,8,st)
 else
 optE (Zch N h_1) fun x2=>
 optE (ZaL N a_0 x2 st) fun (x3,st4)=>
 if (decide (x3≥0))=true then
  some (x3,0,0,st4)
 else
 optE (ZaL N a_0 h_1.Prev st4) fun (x5,st6)=>
 if (decide (x5<0))=true then
  some ((-1),2,5,st6)
 else
 optE a_0 fun i7=>
 getE (st6[i7]?) Zcg fun x8=>
 optE (ZaO N x8 x5) fun x9=>
 chk (plainRow x9=true)<|
 optE (Zaq N x8.Rules x9 h_1 now_2) fun x10=>
 if (decide (x10>0))=true then
  some ((-1),x10,8,st6)
 else
 if (decide ((len x8.List_)≥x8.Room))=true then
  some ((-1),0,6,st6)
 else
 chk (List.length (x8.List_ ++ [h_1.ls])*96≤140737488355328)<|
 chk (List.length (x8.Ids ++ [[L.arr .u8 32 x2]])*32≤140737488355328)<|
 chk (0≤x5)<|
 chk (x5<(len x8.Works))<|
 getE (x8.Works[0+(Int.toNat x5)]?) ZfR fun x11=>
 optE (ZbW N h_1.Bits) fun x12=>
 optE (ZdH N x11 x12) fun x13=>
 chk (List.length (x8.Works ++ [[L.arr .u64 4 x13]])*32≤140737488355328)<|
 chk (List.length (x8.Ahead ++ [[L.int .i64 x5]])*8≤140737488355328)<|
 some (w64 ((len (x8.List_ ++ [h_1.ls]))-1),0,0,List.set (List.set (List.set (List.set (List.set (List.set (List.set (List.set st6 i7 (gs x8.lo 15)) i7 (Zaa.lo {x8 with List_:=x8.List_ ++ [h_1.ls]})) i7 (gs (Zaa.lo {x8 with List_:=x8.List_ ++ [h_1.ls]}) 16)) i7 (Zaa.lo {x8 with List_:=x8.List_ ++ [h_1.ls],Ids:=x8.Ids ++ [[L.arr .u8 32 x2]]})) i7 (gs (Zaa.lo {x8 with List_:=x8.List_ ++ [h_1.ls],Ids:=x8.Ids ++ [[L.arr .u8 32 x2]]}) 18)) i7 (Zaa.lo {x8 with List_:=x8.List_ ++ [h_1.ls],Ids:=x8.Ids ++ [[L.arr .u8 32 x2]],Works:=x8.Works ++ [[L.arr .u64 4 x13]]})) i7 (gs (Zaa.lo {x8 with List_:=x8.List_ ++ [h_1.ls],Ids:=x8.Ids ++ [[L.arr .u8 32 x2]],Works:=x8.Works ++ [[L.arr .u64 4 x13]]}) 17)) i7 (Zaa.lo (Zaa.mk x8.Rules (x8.List_ ++ [h_1.ls]) (x8.Ids ++ [[L.arr .u8 32 x2]]) (x8.Ahead ++ [[L.int .i64 x5]]) (x8.Works ++ [[L.arr .u64 4 x13]]) x8.Room)))
theorem Zcb.snd {a_0:Option Nat} {h_1:Zai} {now_2:Int} {st:LL} {r:Int×Int×Int×LL} (h:Zcb N a_0 h_1 now_2 st=some r):Snd Tryz.prog 31 [.one (L.ptr a_0),.agg h_1.ls,oI now_2] st (Zcb.rs r) r.2.2.2:=
 sO Zcb.B Tryz.func31 fun g0 w0 R hE=>by
  unfold Zcb at h
  obtain ⟨x1,c1,h1⟩:=Zad h
  refine iteB h1 (fun c2 h2=>?_) (fun c2 h3=>?_)
  ·obtain rfl:=Zac h2
   exact af fol hE [.r [],.r [(1,q1 [oB x1])],.c true,.r []] [] 0 [] (aI (ZbP.snd c1) c2)
  ·obtain ⟨x2,c3,h4⟩:=Zad h3
   obtain ⟨⟨x3,st4⟩,c4,h5⟩:=Zad h4
   refine iteB h5 (fun c5 h6=>?_) (fun c5 h7=>?_)
   ·obtain rfl:=Zac h6
    exact af fol hE [.r [],.r [(1,q1 [oB x1])],.c false,.r [(2,q1 [.agg [L.arr .u8 32 x2]]),(3,{rs:=[oI x3],st:=st4})],.r [],.c true,.r []] [] 0 [] (aL (ZbP.snd c1) c2 (Zch.snd c3) (ZaL.snd c4) c5)
   ·obtain ⟨⟨x5,st6⟩,c6,h8⟩:=Zad h7
    refine iteB h8 (fun c7 h9=>?_) (fun c7 h10=>?_)
    ·obtain rfl:=Zac h9
     exact af fol hE [.r [],.r [(1,q1 [oB x1])],.c false,.r [(2,q1 [.agg [L.arr .u8 32 x2]]),(3,{rs:=[oI x3],st:=st4})],.r [],.c false,.r [(3,{rs:=[oI x5],st:=st6})],.r [],.c true,.r []] [] 0 [] (aN (ZbP.snd c1) c2 (Zch.snd c3) (ZaL.snd c4) c5 (ZaL.snd c6) c7)
    ·obtain ⟨i7,rfl,h11⟩:=Zad h10
     obtain ⟨x8,c9,h12⟩:=ZcE h11
     obtain ⟨x9,c10,h13⟩:=Zad h12
     obtain ⟨c11,h14⟩:=ZaX h13
     obtain ⟨x10,c12,h15⟩:=Zad h14
     refine iteB h15 (fun c13 h16=>?_) (fun c13 h17=>?_)
     ·obtain rfl:=Zac h16
      exact afd fol hE [.r [],.r [(1,q1 [oB x1])],.c false,.r [(2,q1 [.agg [L.arr .u8 32 x2]]),(3,{rs:=[oI x3],st:=st4})],.r [],.c false,.r [(3,{rs:=[oI x5],st:=st6})],.r [],.c false,.d {ds:=[(3,{oc:=x8.lo}),(6,{rs:=[.row true 68 x9],ns:=[34],m:=10,cv:=[.one (L.bx 88 x8.ls)]}),(9,{rs:=[oI x10],m:=2})],hv:=64,Hs:=[64]},.r [],.c true,.r []] [] 0 [] (aO (ZbP.snd c1) c2 (Zch.snd c3) (ZaL.snd c4) c5 (ZaL.snd c6) c7 (aO c9 c9 (bO 88 c9 (Zaa.bv x8)) c11 (ZaO.snd c10) z0 (eN (List.length x9)) (aI (Zaq.snd c12) c13)))
     ·refine iteB h17 (fun c14 h18=>?_) (fun c14 h19=>?_)
      ·obtain rfl:=Zac h18
       exact afd fol hE [.r [],.r [(1,q1 [oB x1])],.c false,.r [(2,q1 [.agg [L.arr .u8 32 x2]]),(3,{rs:=[oI x3],st:=st4})],.r [],.c false,.r [(3,{rs:=[oI x5],st:=st6})],.r [],.c false,.d {ds:=[(3,{oc:=x8.lo}),(6,{rs:=[.row true 68 x9],ns:=[34],m:=10,cv:=[.one (L.bx 88 x8.ls)]}),(9,{rs:=[oI x10],m:=2})],hv:=64,Hs:=[64]},.r [],.c false,.d {ds:=[(3,{oc:=x8.lo}),(8,{oc:=x8.lo})],hv:=0,Hs:=[]},.c true,.r []] [] 0 [] (aO (ZbP.snd c1) c2 (Zch.snd c3) (ZaL.snd c4) c5 (ZaL.snd c6) c7 (aO c9 c9 (bO 88 c9 (Zaa.bv x8)) c11 (ZaO.snd c10) z0 (eN (List.length x9)) (aL (Zaq.snd c12) c13 c9 c9 c14)))
      ·obtain ⟨c15,c16,c17,c18,h20⟩:=ck4 h19
       obtain ⟨x11,c19,h21⟩:=ZgP h20
       obtain ⟨x12,c20,h22⟩:=Zad h21
       obtain ⟨x13,c21,h23⟩:=Zad h22
       obtain ⟨c22,c23,h24⟩:=ck2 h23
       obtain rfl:=Zac h24
       exact afd fol hE [.r [],.r [(1,q1 [oB x1])],.c false,.r [(2,q1 [.agg [L.arr .u8 32 x2]]),(3,{rs:=[oI x3],st:=st4})],.r [],.c false,.r [(3,{rs:=[oI x5],st:=st6})],.r [],.c false,.d {ds:=[(3,{oc:=x8.lo}),(6,{rs:=[.row true 68 x9],ns:=[34],m:=10,cv:=[.one (L.bx 88 x8.ls)]}),(9,{rs:=[oI x10],m:=2})],hv:=64,Hs:=[64]},.r [],.c false,.d {ds:=[(3,{oc:=x8.lo}),(8,{oc:=x8.lo})],hv:=0,Hs:=[]},.c false,.d {ds:=[(4,{oc:=x8.lo}),(7,{oe:=x8.lo}),(10,{oc:=gs x8.lo 15,mv:=[58]})],hv:=1216,Hs:=[64,192,1216]},.d {ds:=[(4,{oc:=Zaa.lo {x8 with List_:=x8.List_ ++ [h_1.ls]}}),(6,q1 [.agg [L.arr .u8 32 x2]]),(8,{oe:=Zaa.lo {x8 with List_:=x8.List_ ++ [h_1.ls]}}),(11,{oc:=gs (Zaa.lo {x8 with List_:=x8.List_ ++ [h_1.ls]}) 16,mv:=[69]})],hv:=2432,Hs:=[128,384,2432]},.d {ds:=[(4,{oc:=Zaa.lo {x8 with List_:=x8.List_ ++ [h_1.ls],Ids:=x8.Ids ++ [[L.arr .u8 32 x2]]}}),(8,{oc:=Zaa.lo {x8 with List_:=x8.List_ ++ [h_1.ls],Ids:=x8.Ids ++ [[L.arr .u8 32 x2]]}}),(11,{oc:=Zaa.lo {x8 with List_:=x8.List_ ++ [h_1.ls],Ids:=x8.Ids ++ [[L.arr .u8 32 x2]]},oe:=[L.arr .u64 4 x11]}),(14,q1 [.agg [L.arr .u64 4 x12]]),(15,q1 [.agg [L.arr .u64 4 x13]]),(17,{oe:=Zaa.lo {x8 with List_:=x8.List_ ++ [h_1.ls],Ids:=x8.Ids ++ [[L.arr .u8 32 x2]]}}),(20,{oc:=gs (Zaa.lo {x8 with List_:=x8.List_ ++ [h_1.ls],Ids:=x8.Ids ++ [[L.arr .u8 32 x2]]}) 18,mv:=[89]})],hv:=1245184,Hs:=[65536,196608,1245184]},.r [(4,{oc:=Zaa.lo {x8 with List_:=x8.List_ ++ [h_1.ls],Ids:=x8.Ids ++ [[L.arr .u8 32 x2]],Works:=x8.Works ++ [[L.arr .u64 4 x13]]}}),(7,{oe:=Zaa.lo {x8 with List_:=x8.List_ ++ [h_1.ls],Ids:=x8.Ids ++ [[L.arr .u8 32 x2]],Works:=x8.Works ++ [[L.arr .u64 4 x13]]}}),(10,{oc:=gs (Zaa.lo {x8 with List_:=x8.List_ ++ [h_1.ls],Ids:=x8.Ids ++ [[L.arr .u8 32 x2]],Works:=x8.Works ++ [[L.arr .u64 4 x13]]}) 17,mv:=[99]})],.r [(3,{oc:=Zaa.lo (Zaa.mk x8.Rules (x8.List_ ++ [h_1.ls]) (x8.Ids ++ [[L.arr .u8 32 x2]]) (x8.Ahead ++ [[L.int .i64 x5]]) (x8.Works ++ [[L.arr .u64 4 x13]]) x8.Room)})]] [] 0 [] (aO (ZbP.snd c1) c2 (Zch.snd c3) (ZaL.snd c4) c5 (ZaL.snd c6) c7 (aO c9 c9 (bO 88 c9 (Zaa.bv x8)) c11 (ZaO.snd c10) z0 (eN (List.length x9)) (aO (Zaq.snd c12) c13 c9 c9 c14 c9 c9 (aO z0 (eN (List.length x8.List_)) c9 z0 (eN (1)) c15 (Zam c9 (gs x8.lo 15)) (aO z0 (eN (List.length (x8.List_ ++ [h_1.ls]))) (Zam (Zam c9 (gs x8.lo 15)) (Zaa.lo {x8 with List_:=x8.List_ ++ [h_1.ls]})) (Zam (Zam c9 (gs x8.lo 15)) (Zaa.lo {x8 with List_:=x8.List_ ++ [h_1.ls]})) (Zch.snd c3) z0 (eN (List.length x8.Ids)) (aO (Zam (Zam c9 (gs x8.lo 15)) (Zaa.lo {x8 with List_:=x8.List_ ++ [h_1.ls]})) z0 (eN (1)) c16 (Zam (Zam (Zam c9 (gs x8.lo 15)) (Zaa.lo {x8 with List_:=x8.List_ ++ [h_1.ls]})) (gs (Zaa.lo {x8 with List_:=x8.List_ ++ [h_1.ls]}) 16)) z0 (eN (List.length (x8.Ids ++ [[L.arr .u8 32 x2]]))) (aO (Zam (Zam (Zam (Zam c9 (gs x8.lo 15)) (Zaa.lo {x8 with List_:=x8.List_ ++ [h_1.ls]})) (gs (Zaa.lo {x8 with List_:=x8.List_ ++ [h_1.ls]}) 16)) (Zaa.lo {x8 with List_:=x8.List_ ++ [h_1.ls],Ids:=x8.Ids ++ [[L.arr .u8 32 x2]]})) (Zam (Zam (Zam (Zam c9 (gs x8.lo 15)) (Zaa.lo {x8 with List_:=x8.List_ ++ [h_1.ls]})) (gs (Zaa.lo {x8 with List_:=x8.List_ ++ [h_1.ls]}) 16)) (Zaa.lo {x8 with List_:=x8.List_ ++ [h_1.ls],Ids:=x8.Ids ++ [[L.arr .u8 32 x2]]})) (Zam (Zam (Zam (Zam c9 (gs x8.lo 15)) (Zaa.lo {x8 with List_:=x8.List_ ++ [h_1.ls]})) (gs (Zaa.lo {x8 with List_:=x8.List_ ++ [h_1.ls]}) 16)) (Zaa.lo {x8 with List_:=x8.List_ ++ [h_1.ls],Ids:=x8.Ids ++ [[L.arr .u8 32 x2]]})) c17 c18 c19 (Zam (Zam (Zam (Zam c9 (gs x8.lo 15)) (Zaa.lo {x8 with List_:=x8.List_ ++ [h_1.ls]})) (gs (Zaa.lo {x8 with List_:=x8.List_ ++ [h_1.ls]}) 16)) (Zaa.lo {x8 with List_:=x8.List_ ++ [h_1.ls],Ids:=x8.Ids ++ [[L.arr .u8 32 x2]]})) (aO (ZbW.snd c20) (ZdH.snd c21) z0 (eN (List.length x8.Works)) (Zam (Zam (Zam (Zam c9 (gs x8.lo 15)) (Zaa.lo {x8 with List_:=x8.List_ ++ [h_1.ls]})) (gs (Zaa.lo {x8 with List_:=x8.List_ ++ [h_1.ls]}) 16)) (Zaa.lo {x8 with List_:=x8.List_ ++ [h_1.ls],Ids:=x8.Ids ++ [[L.arr .u8 32 x2]]})) z0 (eN (1)) (aO c22 (Zam (Zam (Zam (Zam (Zam c9 (gs x8.lo 15)) (Zaa.lo {x8 with List_:=x8.List_ ++ [h_1.ls]})) (gs (Zaa.lo {x8 with List_:=x8.List_ ++ [h_1.ls]}) 16)) (Zaa.lo {x8 with List_:=x8.List_ ++ [h_1.ls],Ids:=x8.Ids ++ [[L.arr .u8 32 x2]]})) (gs (Zaa.lo {x8 with List_:=x8.List_ ++ [h_1.ls],Ids:=x8.Ids ++ [[L.arr .u8 32 x2]]}) 18)) z0 (eN (List.length (x8.Works ++ [[L.arr .u64 4 x13]]))) (Zam (Zam (Zam (Zam (Zam (Zam c9 (gs x8.lo 15)) (Zaa.lo {x8 with List_:=x8.List_ ++ [h_1.ls]})) (gs (Zaa.lo {x8 with List_:=x8.List_ ++ [h_1.ls]}) 16)) (Zaa.lo {x8 with List_:=x8.List_ ++ [h_1.ls],Ids:=x8.Ids ++ [[L.arr .u8 32 x2]]})) (gs (Zaa.lo {x8 with List_:=x8.List_ ++ [h_1.ls],Ids:=x8.Ids ++ [[L.arr .u8 32 x2]]}) 18)) (Zaa.lo {x8 with List_:=x8.List_ ++ [h_1.ls],Ids:=x8.Ids ++ [[L.arr .u8 32 x2]],Works:=x8.Works ++ [[L.arr .u64 4 x13]]})) z0 (eN (List.length x8.Ahead)) (aO (Zam (Zam (Zam (Zam (Zam (Zam c9 (gs x8.lo 15)) (Zaa.lo {x8 with List_:=x8.List_ ++ [h_1.ls]})) (gs (Zaa.lo {x8 with List_:=x8.List_ ++ [h_1.ls]}) 16)) (Zaa.lo {x8 with List_:=x8.List_ ++ [h_1.ls],Ids:=x8.Ids ++ [[L.arr .u8 32 x2]]})) (gs (Zaa.lo {x8 with List_:=x8.List_ ++ [h_1.ls],Ids:=x8.Ids ++ [[L.arr .u8 32 x2]]}) 18)) (Zaa.lo {x8 with List_:=x8.List_ ++ [h_1.ls],Ids:=x8.Ids ++ [[L.arr .u8 32 x2]],Works:=x8.Works ++ [[L.arr .u64 4 x13]]})) z0 (eN (1)) c23 (Zam (Zam (Zam (Zam (Zam (Zam (Zam c9 (gs x8.lo 15)) (Zaa.lo {x8 with List_:=x8.List_ ++ [h_1.ls]})) (gs (Zaa.lo {x8 with List_:=x8.List_ ++ [h_1.ls]}) 16)) (Zaa.lo {x8 with List_:=x8.List_ ++ [h_1.ls],Ids:=x8.Ids ++ [[L.arr .u8 32 x2]]})) (gs (Zaa.lo {x8 with List_:=x8.List_ ++ [h_1.ls],Ids:=x8.Ids ++ [[L.arr .u8 32 x2]]}) 18)) (Zaa.lo {x8 with List_:=x8.List_ ++ [h_1.ls],Ids:=x8.Ids ++ [[L.arr .u8 32 x2]],Works:=x8.Works ++ [[L.arr .u64 4 x13]]})) (gs (Zaa.lo {x8 with List_:=x8.List_ ++ [h_1.ls],Ids:=x8.Ids ++ [[L.arr .u8 32 x2]],Works:=x8.Works ++ [[L.arr .u64 4 x13]]}) 17)) z0 (eN (List.length (x8.Ahead ++ [[L.int .i64 x5]]))) (Zam (Zam (Zam (Zam (Zam (Zam (Zam (Zam c9 (gs x8.lo 15)) (Zaa.lo {x8 with List_:=x8.List_ ++ [h_1.ls]})) (gs (Zaa.lo {x8 with List_:=x8.List_ ++ [h_1.ls]}) 16)) (Zaa.lo {x8 with List_:=x8.List_ ++ [h_1.ls],Ids:=x8.Ids ++ [[L.arr .u8 32 x2]]})) (gs (Zaa.lo {x8 with List_:=x8.List_ ++ [h_1.ls],Ids:=x8.Ids ++ [[L.arr .u8 32 x2]]}) 18)) (Zaa.lo {x8 with List_:=x8.List_ ++ [h_1.ls],Ids:=x8.Ids ++ [[L.arr .u8 32 x2]],Works:=x8.Works ++ [[L.arr .u64 4 x13]]})) (gs (Zaa.lo {x8 with List_:=x8.List_ ++ [h_1.ls],Ids:=x8.Ids ++ [[L.arr .u8 32 x2]],Works:=x8.Works ++ [[L.arr .u64 4 x13]]}) 17)) (Zaa.lo (Zaa.mk x8.Rules (x8.List_ ++ [h_1.ls]) (x8.Ids ++ [[L.arr .u8 32 x2]]) (x8.Ahead ++ [[L.int .i64 x5]]) (x8.Works ++ [[L.arr .u64 4 x13]]) x8.Room)))))))))))))
noncomputable def ZbG.B:Code:=Tryz.f41.body.getD .skip
noncomputable def ZbG.rs (r:(Option Nat)×(Option Nat)×Bool×LL):List CV:=[.one (L.ptr r.1),.one (L.ptr r.2.1),oB r.2.2.1]
noncomputable def ZbG.p1 (N:Nat) (x1 x4:Option Nat) (list_1:LL) (c1_:(Bool×Int×LL)→Option ((Option Nat)×(Option Nat)×Bool×LL)):(Bool×Int×LL)→Option ((Option Nat)×(Option Nat)×Bool×LL):=fun (ok_6,v7,st17)=>
 if (decide (v7<(len list_1)))=true then
  chk (0≤v7)<|
  getE (list_1[Int.toNat v7]?) ZcR fun x18=>
  optE (Zbs N x1 x18.Header x18.Now st17) fun (x19,x20,x21,st22)=>
  optE (Zcb N x4 x18.Header x18.Now st22) fun (x23,x24,x25,st26)=>
  if ok_6=true then
   if (x19==x23)=true then
    if (x20==x24)=true then
     c1_ (x21==x25,w64 (v7+1),st26)
    else
    c1_ (false,w64 (v7+1),st26)
   else
   c1_ (false,w64 (v7+1),st26)
  else
  c1_ (false,w64 (v7+1),st26)
 else
 some (x1,x4,ok_6,st17)
noncomputable def ZbG (N:Nat) (p_0:Zae) (list_1 st:LL):Option ((Option Nat)×(Option Nat)×Bool×LL):=
 optE (Zdx N p_0 100 st) fun (x1,x2,st3)=>
 optE (ZdG N p_0 100 st3) fun (x4,st5)=>
 loopN (ZbG.p1 N x1 x4 list_1) N (true,0,st5)
noncomputable def ZbG.p1.S (x1 x4:Option Nat) (ok_6:Bool) (list_1:LL) (v7:Int) (st17:LL):S:=mkS 72 [(7,sP x1),(9,sP x4),(10,.one (.l (L.bool ok_6))),(26,sV 69 list_1),(27,sI (len list_1)),(28,sI v7)] [] st17
theorem ZbG.p1_ok {x1 x4 ok_6 list_1 v7 st17 r c1_ J1} (h:ZbG.p1 N x1 x4 list_1 c1_ (ok_6,v7,st17)=some r) (hE:En Tryz.f41 g0 w0 (ZbG.rs r) r.2.2.2 R) (hc1 : ∀ok_6 v7 st17,c1_ (ok_6,v7,st17)=some r→At g0 w0 (ZbG.p1.S x1 x4 ok_6 list_1 v7 st17) J1):At g0 w0 (ZbG.p1.S x1 x4 ok_6 list_1 v7 st17) (XK Tryz.prog R (.c (csub ZbG.B [1,1,1,1,0,1,0,0]) :: .h J1 :: [.b 0,.c (csub ZbG.B [1,1,1,1,1])])):=by
 unfold ZbG.p1 at h
 refine iteB h (fun c11 h1=>?_) (fun c11 h2=>?_)
 ·obtain ⟨c12,h3⟩:=ZaX h1
  obtain ⟨x18,c13,h4⟩:=ZdU h3
  obtain ⟨⟨x19,x20,x21,st22⟩,c14,h5⟩:=Zad h4
  obtain ⟨⟨x23,x24,x25,st26⟩,c15,h6⟩:=Zad h5
  refine iteB h6 (fun c16 h7=>?_) (fun c16 h8=>?_)
  ·refine iteB h7 (fun c17 h9=>?_) (fun c17 h10=>?_)
   ·refine iteB h9 (fun c18 h11=>?_) (fun c18 h12=>?_)
    ·exact an fol [.r [],.c true,.r [(1,{oe:=x18.ls})],.r [(5,{rs:=[oI x19,oI x20,oI x21],st:=st22})],.r [(5,{rs:=[oI x23,oI x24,oI x25],st:=st26})],.r [],.r []] [7,9,10,26,27,28] [] (aO c11 c12 (oD c11) c13 (Zbs.snd c14) (Zcb.snd c15) c16 (aO c16 c16 c16 c17 c17 c17 c17 (aK c18 c18 c18 c18))) (hc1 (x21==x25) (w64 (v7+1)) st26 h11)
    ·exact an fol [.r [],.c true,.r [(1,{oe:=x18.ls})],.r [(5,{rs:=[oI x19,oI x20,oI x21],st:=st22})],.r [(5,{rs:=[oI x23,oI x24,oI x25],st:=st26})],.r [(12,wF),(13,wF),(14,wF),(15,yF)],.r []] [7,9,10,26,27,28] [] (aO c11 c12 (oD c11) c13 (Zbs.snd c14) (Zcb.snd c15) c16 (aO c16 c16 c16 c17 c17 c17 c17 (aK c18 c18 c18 c18))) (hc1 false (w64 (v7+1)) st26 h12)
   ·exact an fol [.r [],.c true,.r [(1,{oe:=x18.ls})],.r [(5,{rs:=[oI x19,oI x20,oI x21],st:=st22})],.r [(5,{rs:=[oI x23,oI x24,oI x25],st:=st26})],.r [(7,wF),(8,wF),(9,wF),(10,yF),(12,wF),(13,wF),(14,wF),(15,yF)],.r []] [7,9,10,26,27,28] [] (aO c11 c12 (oD c11) c13 (Zbs.snd c14) (Zcb.snd c15) c16 (aO c16 c16 c16 c17 c17 c17 c17 (aK eF eF eF eF))) (hc1 false (w64 (v7+1)) st26 h10)
  ·exact an fol [.r [],.c true,.r [(1,{oe:=x18.ls})],.r [(5,{rs:=[oI x19,oI x20,oI x21],st:=st22})],.r [(5,{rs:=[oI x23,oI x24,oI x25],st:=st26})],.r [(2,wF),(3,wF),(4,wF),(5,yF),(7,wF),(8,wF),(9,wF),(10,yF),(12,wF),(13,wF),(14,wF),(15,yF)],.r []] [7,9,10,26,27,28] [] (aO c11 c12 (oD c11) c13 (Zbs.snd c14) (Zcb.snd c15) c16 (aO c16 c16 c16 eF eF eF eF (aK eF eF eF eF))) (hc1 false (w64 (v7+1)) st26 h8)
 ·obtain rfl:=Zac h2
  exact af fol hE [.r [],.c false,.r []] [] 0 [] c11
theorem ZbG.snd {p_0:Zae} {list_1:LL} {st:LL} {r:(Option Nat)×(Option Nat)×Bool×LL} (h:ZbG N p_0 list_1 st=some r):Snd Tryz.prog 41 [.agg p_0.ls,.one (L.sl 69 list_1)] st (ZbG.rs r) r.2.2.2:=
 sO ZbG.B Tryz.func41 fun g0 w0 R hE=>by
  unfold ZbG at h
  obtain ⟨⟨x1,x2,st3⟩,c1,h13⟩:=Zad h
  obtain ⟨⟨x4,st5⟩,c2,h14⟩:=Zad h13
  exact aq fol [.r [],.r [(1,{rs:=[.one (L.ptr x1),oI x2],st:=st3})],.r [(1,{rs:=[.one (L.ptr x4)],st:=st5})],.r [],.r []] [7,9,10,26,27,28] [] (aI (Zdx.snd c1) (ZdG.snd c2)) (At.loop N (At.loopN (fun y:Bool×Int×LL=>ZbG.p1.S x1 x4 y.1 list_1 y.2.1 y.2.2) (fun c J hc y h=>ZbG.p1_ok (ok_6:=y.1) (v7:=y.2.1) (st17:=y.2.2) h hE (fun ok_6 v7 st17=>hc (ok_6,v7,st17))) N (true,0,st5) h14))
noncomputable def Zda.B:Code:=Tryz.f80.body.getD .skip
noncomputable def Zda.rs (r:Bool):List CV:=[oB r]
noncomputable def Zda (N:Nat) (a_0:Zaa) (at_1:Int):Option Bool:=
 if (decide (at_1≥0))=true then
  some (decide (at_1<(len a_0.List_)))
 else
 some false
theorem Zda.snd {a_0:Zaa} {at_1:Int} {r:Bool} (h:Zda N a_0 at_1=some r):SndQ Tryz.prog 80 [.one (L.bx 88 a_0.ls),oI at_1] (Zda.rs r):=fun st=>
 sO Zda.B Tryz.func80 fun g0 w0 R hE=>by
  unfold Zda at h
  refine iteB h (fun c1 h1=>?_) (fun c1 h2=>?_)
  ·obtain rfl:=Zac h1
   exact af fol hE [.r [],.r [(7,{oe:=a_0.ls})]] [] 0 [] (aO c1 c1 c1 c1 c1 (eO a_0.ls) c1 (aI c1 c1))
  ·obtain rfl:=Zac h2
   exact af fol hE [.r [],.r [(3,wF),(4,wF),(5,wF),(6,wF),(7,wF),(8,wF),(9,wF),(10,yF)]] [] 0 [] (aO c1 c1 c1 c1 c1 c1 c1 c1)
noncomputable def ZaJ.B:Code:=Tryz.f71.body.getD .skip
noncomputable def ZaJ.rs (r:LL):List CV:=[.row true 1 r]
noncomputable def ZaJ.p1 (N:Nat) (a_0:Zaa) (c1_:(LL×Int)→Option LL):(LL×Int)→Option LL:=fun (out_3,k_1)=>
 if (decide (k_1≥0))=true then
  chk (List.length ([[L.int .i64 k_1]]++out_3)*8≤140737488355328)<|
  chk (0≤k_1)<|
  chk (k_1<(len a_0.Ahead))<|
  getE (a_0.Ahead[Int.toNat k_1]?) ZcS fun x4=>
  c1_ ([[L.int .i64 k_1]]++out_3,x4)
 else
 some out_3
noncomputable def ZaJ (N:Nat) (a_0:Zaa) (at_1:Int):Option LL:=
 loopN (ZaJ.p1 N a_0) N ([],at_1)
noncomputable def ZaJ.p1.S (a_0:Zaa) (out_3:LL) (k_1:Int) (st:LL):S:=mkS 22 [(0,.one (.l (L.bx 88 a_0.ls))),(5,.one (.h (.row 5 0) 1 0 (List.length out_3))),(6,sI k_1)] [(5,.row 0 true 1 out_3)] st
theorem ZaJ.p1_ok {a_0 out_3 k_1 st r c1_ J1} (h:ZaJ.p1 N a_0 c1_ (out_3,k_1)=some r) (hE:En Tryz.f71 g0 w0 (ZaJ.rs r) st R) (hc1 : ∀out_3 k_1,c1_ (out_3,k_1)=some r→At g0 w0 (ZaJ.p1.S a_0 out_3 k_1 st) J1):At g0 w0 (ZaJ.p1.S a_0 out_3 k_1 st) (XK Tryz.prog R (.c (csub ZaJ.B [1,1,0,1,0,0]) :: .h J1 :: [.b 0,.c (csub ZaJ.B [1,1,1])])):=by
 unfold ZaJ.p1 at h
 refine iteB h (fun c6 h1=>?_) (fun c6 h2=>?_)
 ·obtain ⟨c7,c8,c9,h3⟩:=ck3 h1
  obtain ⟨x4,c10,h4⟩:=Zci h3
  exact an fol [.r [],.c true,.r [(4,{m:=4})],.r [(3,{oe:=a_0.ls}),(6,{oe:=[L.int .i64 x4]})]] [0,5,6] [5] (aO c6 z0 (eN (1)) z0 (eN (List.length out_3)) c7 (eO a_0.ls) (aJ c8 c9 c10)) (hc1 ([[L.int .i64 k_1]]++out_3) x4 h4)
 ·obtain rfl:=Zac h2
  exact af fol hE [.r [],.c false,.r []] [] 0 [0] (aJ c6 z0 (eN (List.length out_3)))
theorem ZaJ.snd {a_0:Zaa} {at_1:Int} {r:LL} (h:ZaJ N a_0 at_1=some r):SndQ Tryz.prog 71 [.one (L.bx 88 a_0.ls),oI at_1] (ZaJ.rs r):=fun st=>
 sO ZaJ.B Tryz.func71 fun g0 w0 R hE=>by
  unfold ZaJ at h
  exact aq fol [.r [(0,{m:=2})],.r [(0,{m:=1})],.r []] [0,5,6] [5] trivial (At.loop N (At.loopN (fun y:LL×Int=>ZaJ.p1.S a_0 y.1 y.2 st) (fun c J hc y h=>ZaJ.p1_ok (out_3:=y.1) (k_1:=y.2) h hE (fun out_3 k_1=>hc (out_3,k_1))) N ([],at_1) h))
noncomputable def Zag.B:Code:=Tryz.f42.body.getD .skip
noncomputable def Zag.rs (r:Int):List CV:=[oI r]
noncomputable def Zag.p5 (N:Nat) (c1_:(Int×Int)→Option Int) (a_0:Zaa) (out_14:Int) (places_1:LL) (v2:Int):Option Int:=
 c1_ (out_14,w64 (v2+1))
noncomputable def Zag.p4 (N:Nat) (c3_:(Int×Int)→Option Int) (c2_:(Int×Int)→Option Int) (c1_:(Int×Int)→Option Int) (a_0:Zaa) (out_1 best_13 x8:Int) (places_1:LL) (v2:Int) (x5:LL) (v7:Int) (x9:LL) (v11:Int):Option Int:=
 c3_ (best_13,w64 (v11+1))
noncomputable def Zag.p3 (N:Nat) (c2_:(Int×Int)→Option Int) (c1_:(Int×Int)→Option Int) (a_0:Zaa) (out_1 x8:Int) (places_1:LL) (v2:Int) (x5:LL) (v7:Int) (x9:LL) (c3_:(Int×Int)→Option Int):(Int×Int)→Option Int:=fun (best_10,v11)=>
 if (decide (v11<(len x9)))=true then
  chk (0≤v11)<|
  getE (x9[0+(Int.toNat v11)]?) ZcS fun x12=>
  if (x8==x12)=true then
   Zag.p4 N c3_ c2_ c1_ a_0 out_1 x8 x8 places_1 v2 x5 v7 x9 v11
  else
  Zag.p4 N c3_ c2_ c1_ a_0 out_1 best_10 x8 places_1 v2 x5 v7 x9 v11
 else
 c2_ (best_10,w64 (v7+1))
noncomputable def Zag.p2 (N:Nat) (c1_:(Int×Int)→Option Int) (a_0:Zaa) (out_1:Int) (places_1:LL) (v2:Int) (x5:LL) (c2_:(Int×Int)→Option Int):(Int×Int)→Option Int:=fun (best_6,v7)=>
 if (decide (v7<(len x5)))=true then
  chk (0≤v7)<|
  getE (x5[0+(Int.toNat v7)]?) ZcS fun x8=>
  optE (ZaJ N a_0 out_1) fun x9=>
  chk (plainRow x9=true)<|
  loopN (Zag.p3 N c2_ c1_ a_0 out_1 x8 places_1 v2 x5 v7 x9) N (best_6,0)
 else
 Zag.p5 N c1_ a_0 best_6 places_1 v2
noncomputable def Zag.p1 (N:Nat) (a_0:Zaa) (places_1:LL) (c1_:(Int×Int)→Option Int):(Int×Int)→Option Int:=fun (out_1,v2)=>
 if (decide (v2<(len places_1)))=true then
  chk (0≤v2)<|
  getE (places_1[Int.toNat v2]?) ZcS fun x3=>
  optE (Zda N a_0 x3) fun x4=>
  if (!x4)=true then
   some (-1)
  else
  if (v2==0)=true then
   Zag.p5 N c1_ a_0 x3 places_1 v2
  else
  optE (ZaJ N a_0 x3) fun x5=>
  chk (plainRow x5=true)<|
  loopN (Zag.p2 N c1_ a_0 out_1 places_1 v2 x5) N (0,0)
 else
 some out_1
noncomputable def Zag (N:Nat) (a_0:Zaa) (places_1:LL):Option Int:=
 loopN (Zag.p1 N a_0 places_1) N ((-1),0)
noncomputable def Zag.p5.S (a_0:Zaa) (out_14:Int) (places_1:LL) (v2:Int) (st:LL):S:=mkS 52 [(0,.one (.l (L.bx 88 a_0.ls))),(5,sI out_14),(13,sV 1 places_1),(14,sI (len places_1)),(15,sI v2)] [] st
noncomputable def Zag.p4.S (a_0:Zaa) (out_1 best_13 x8:Int) (places_1:LL) (v2:Int) (x5:LL) (v7:Int) (x9:LL) (v11:Int) (st:LL):S:=mkS 52 [(0,.one (.l (L.bx 88 a_0.ls))),(5,sI out_1),(8,sI best_13),(10,sI x8),(13,sV 1 places_1),(14,sI (len places_1)),(15,sI v2),(29,.one (.h (.row 29 0) 1 0 (List.length x5))),(30,sI (len x5)),(31,sI v7),(37,.one (.h (.row 37 0) 1 0 (List.length x9))),(38,sI (len x9)),(39,sI v11)] [(29,.row 0 true 1 x5),(37,.row 0 true 1 x9)] st
noncomputable def Zag.p3.S (a_0:Zaa) (out_1 best_10 x8:Int) (places_1:LL) (v2:Int) (x5:LL) (v7:Int) (x9:LL) (v11:Int) (st:LL):S:=mkS 52 [(0,.one (.l (L.bx 88 a_0.ls))),(5,sI out_1),(8,sI best_10),(10,sI x8),(13,sV 1 places_1),(14,sI (len places_1)),(15,sI v2),(29,.one (.h (.row 29 0) 1 0 (List.length x5))),(30,sI (len x5)),(31,sI v7),(37,.one (.h (.row 37 0) 1 0 (List.length x9))),(38,sI (len x9)),(39,sI v11)] [(29,.row 0 true 1 x5),(37,.row 0 true 1 x9)] st
noncomputable def Zag.p2.S (a_0:Zaa) (out_1 best_6:Int) (places_1:LL) (v2:Int) (x5:LL) (v7:Int) (st:LL):S:=mkS 52 [(0,.one (.l (L.bx 88 a_0.ls))),(5,sI out_1),(8,sI best_6),(13,sV 1 places_1),(14,sI (len places_1)),(15,sI v2),(29,.one (.h (.row 29 0) 1 0 (List.length x5))),(30,sI (len x5)),(31,sI v7)] [(29,.row 0 true 1 x5)] st
noncomputable def Zag.p1.S (a_0:Zaa) (out_1:Int) (places_1:LL) (v2:Int) (st:LL):S:=mkS 52 [(0,.one (.l (L.bx 88 a_0.ls))),(5,sI out_1),(13,sV 1 places_1),(14,sI (len places_1)),(15,sI v2)] [] st
theorem Zag.p5_ok {a_0 out_14 places_1 v2 st r c1_ J1} (h:Zag.p5 N c1_ a_0 out_14 places_1 v2=some r) (hE:En Tryz.f42 g0 w0 (Zag.rs r) st R) (hc1 : ∀out_1 v2,c1_ (out_1,v2)=some r→At g0 w0 (Zag.p1.S a_0 out_1 places_1 v2 st) J1):At g0 w0 (Zag.p5.S a_0 out_14 places_1 v2 st) (XK Tryz.prog R [.c (csub Zag.B [1,1,0,1,0,0,1,1,1]),.h J1,.b 0,.c (csub Zag.B [1,1,1])]):=by
 unfold Zag.p5 at h
 exact an fol [.r []] [0,5,13,14,15] [] trivial (hc1 out_14 (w64 (v2+1)) h)
theorem Zag.p4_ok {a_0 out_1 best_13 x8 places_1 v2 x5 v7 x9 v11 st r c3_ c2_ c1_ J3 J2 J1} (h:Zag.p4 N c3_ c2_ c1_ a_0 out_1 best_13 x8 places_1 v2 x5 v7 x9 v11=some r) (hE:En Tryz.f42 g0 w0 (Zag.rs r) st R) (hc3 : ∀best_10 v11,c3_ (best_10,v11)=some r→At g0 w0 (Zag.p3.S a_0 out_1 best_10 x8 places_1 v2 x5 v7 x9 v11 st) J3) (hc2 : ∀best_6 v7,c2_ (best_6,v7)=some r→At g0 w0 (Zag.p2.S a_0 out_1 best_6 places_1 v2 x5 v7 st) J2) (hc1 : ∀out_1 v2,c1_ (out_1,v2)=some r→At g0 w0 (Zag.p1.S a_0 out_1 places_1 v2 st) J1):At g0 w0 (Zag.p4.S a_0 out_1 best_13 x8 places_1 v2 x5 v7 x9 v11 st) (XK Tryz.prog R [.c (csub Zag.B [1,1,0,1,0,0,1,1,0,0,1,1,1,1,0,1,0,0,1,1,0,0,1,1,0,0,1,1,1]),.h J3,.b 4,.b 3,.c (csub Zag.B [1,1,0,1,0,0,1,1,0,0,1,1,1,1,0,1,0,0,1,1,1]),.h J2,.b 2,.c (csub Zag.B [1,1,0,1,0,0,1,1,0,0,1,1,1,1,1]),.b 1,.c (csub Zag.B [1,1,0,1,0,0,1,1,1]),.h J1,.b 0,.c (csub Zag.B [1,1,1])]):=by
 unfold Zag.p4 at h
 exact an fol [.r []] [0,5,8,10,13,14,15,29,30,31,37,38,39] [29,37] trivial (hc3 best_13 (w64 (v11+1)) h)
theorem Zag.p3_ok {a_0 out_1 best_10 x8 places_1 v2 x5 v7 x9 v11 st r c2_ c1_ c3_ J2 J1 J3} (h:Zag.p3 N c2_ c1_ a_0 out_1 x8 places_1 v2 x5 v7 x9 c3_ (best_10,v11)=some r) (hE:En Tryz.f42 g0 w0 (Zag.rs r) st R) (hc2 : ∀best_6 v7,c2_ (best_6,v7)=some r→At g0 w0 (Zag.p2.S a_0 out_1 best_6 places_1 v2 x5 v7 st) J2) (hc1 : ∀out_1 v2,c1_ (out_1,v2)=some r→At g0 w0 (Zag.p1.S a_0 out_1 places_1 v2 st) J1) (hc3 : ∀best_10 v11,c3_ (best_10,v11)=some r→At g0 w0 (Zag.p3.S a_0 out_1 best_10 x8 places_1 v2 x5 v7 x9 v11 st) J3):At g0 w0 (Zag.p3.S a_0 out_1 best_10 x8 places_1 v2 x5 v7 x9 v11 st) (XK Tryz.prog R (.c (csub Zag.B [1,1,0,1,0,0,1,1,0,0,1,1,1,1,0,1,0,0,1,1,0,0,1,1,0,0]) :: .h J3 :: [.b 4,.b 3,.c (csub Zag.B [1,1,0,1,0,0,1,1,0,0,1,1,1,1,0,1,0,0,1,1,1]),.h J2,.b 2,.c (csub Zag.B [1,1,0,1,0,0,1,1,0,0,1,1,1,1,1]),.b 1,.c (csub Zag.B [1,1,0,1,0,0,1,1,1]),.h J1,.b 0,.c (csub Zag.B [1,1,1])])):=by
 unfold Zag.p3 at h
 refine iteB h (fun c14 h1=>?_) (fun c14 h2=>?_)
 ·obtain ⟨c15,h3⟩:=ZaX h1
  obtain ⟨x12,c16,h4⟩:=Zci h3
  refine iteB h4 (fun c17 h5=>?_) (fun c17 h6=>?_)
  ·exact aq fol [.r [],.c true,.r [(1,{oe:=[L.int .i64 x12]})],.r [],.c true,.r [],.s 13] [0,5,8,10,13,14,15,29,30,31,37,38,39] [29,37] (aL c14 c15 (oD c14) c16 c17) (Zag.p4_ok h5 hE hc3 hc2 hc1)
  ·exact aq fol [.r [],.c true,.r [(1,{oe:=[L.int .i64 x12]})],.r [],.c false,.s 13] [0,5,8,10,13,14,15,29,30,31,37,38,39] [29,37] (aL c14 c15 (oD c14) c16 c17) (Zag.p4_ok h6 hE hc3 hc2 hc1)
 ·exact an fol [.r [],.c false,.r []] [0,5,8,13,14,15,29,30,31] [29] c14 (hc2 best_10 (w64 (v7+1)) h2)
theorem Zag.p2_ok {a_0 out_1 best_6 places_1 v2 x5 v7 st r c1_ c2_ J1 J2} (h:Zag.p2 N c1_ a_0 out_1 places_1 v2 x5 c2_ (best_6,v7)=some r) (hE:En Tryz.f42 g0 w0 (Zag.rs r) st R) (hc1 : ∀out_1 v2,c1_ (out_1,v2)=some r→At g0 w0 (Zag.p1.S a_0 out_1 places_1 v2 st) J1) (hc2 : ∀best_6 v7,c2_ (best_6,v7)=some r→At g0 w0 (Zag.p2.S a_0 out_1 best_6 places_1 v2 x5 v7 st) J2):At g0 w0 (Zag.p2.S a_0 out_1 best_6 places_1 v2 x5 v7 st) (XK Tryz.prog R (.c (csub Zag.B [1,1,0,1,0,0,1,1,0,0,1,1,1,1,0,1,0,0]) :: .h J2 :: [.b 2,.c (csub Zag.B [1,1,0,1,0,0,1,1,0,0,1,1,1,1,1]),.b 1,.c (csub Zag.B [1,1,0,1,0,0,1,1,1]),.h J1,.b 0,.c (csub Zag.B [1,1,1])])):=by
 unfold Zag.p2 at h
 refine iteB h (fun c9 h7=>?_) (fun c9 h8=>?_)
 ·obtain ⟨c10,h9⟩:=ZaX h7
  obtain ⟨x8,c11,h10⟩:=Zci h9
  obtain ⟨x9,c12,h11⟩:=Zad h10
  obtain ⟨c13,h12⟩:=ZaX h11
  exact aq fol [.r [],.c true,.r [(1,{oe:=[L.int .i64 x8]})],.r [(2,{rs:=[.row true 1 x9],ns:=[37],m:=10})]] [0,5,8,10,13,14,15,29,30,31,37,38,39] [29,37] (aM c9 c10 (oD c9) c11 c13 (ZaJ.snd c12)) (At.loop N (At.loopN (fun y:Int×Int=>Zag.p3.S a_0 out_1 y.1 x8 places_1 v2 x5 v7 x9 y.2 st) (fun c J hc y h=>Zag.p3_ok (best_10:=y.1) (v11:=y.2) h hE hc2 hc1 (fun best_10 v11=>hc (best_10,v11))) N (best_6,0) h12))
 ·exact aq fol [.r [],.c false,.r [],.s 4] [0,5,13,14,15] [] c9 (Zag.p5_ok h8 hE hc1)
theorem Zag.p1_ok {a_0 out_1 places_1 v2 st r c1_ J1} (h:Zag.p1 N a_0 places_1 c1_ (out_1,v2)=some r) (hE:En Tryz.f42 g0 w0 (Zag.rs r) st R) (hc1 : ∀out_1 v2,c1_ (out_1,v2)=some r→At g0 w0 (Zag.p1.S a_0 out_1 places_1 v2 st) J1):At g0 w0 (Zag.p1.S a_0 out_1 places_1 v2 st) (XK Tryz.prog R (.c (csub Zag.B [1,1,0,1,0,0]) :: .h J1 :: [.b 0,.c (csub Zag.B [1,1,1])])):=by
 unfold Zag.p1 at h
 refine iteB h (fun c1 h13=>?_) (fun c1 h14=>?_)
 ·obtain ⟨c2,h15⟩:=ZaX h13
  obtain ⟨x3,c3,h16⟩:=Zci h15
  obtain ⟨x4,c4,h17⟩:=Zad h16
  refine iteB h17 (fun c5 h18=>?_) (fun c5 h19=>?_)
  ·obtain rfl:=Zac h18
   exact af fol hE [.r [],.c true,.r [(2,{oe:=[L.int .i64 x3]})],.r [(2,q0 [oB x4])],.c true,.r []] [] 0 [] (aM c1 c2 (oD c1) c3 (Zda.snd c4) c5)
  ·refine iteB h19 (fun c6 h20=>?_) (fun c6 h21=>?_)
   ·exact aq fol [.r [],.c true,.r [(2,{oe:=[L.int .i64 x3]})],.r [(2,q0 [oB x4])],.c false,.r [],.c true,.r [],.s 4] [0,5,13,14,15] [] (aN c1 c2 (oD c1) c3 (Zda.snd c4) c5 c6) (Zag.p5_ok h20 hE hc1)
   ·obtain ⟨x5,c7,h22⟩:=Zad h21
    obtain ⟨c8,h23⟩:=ZaX h22
    exact aq fol [.r [],.c true,.r [(2,{oe:=[L.int .i64 x3]})],.r [(2,q0 [oB x4])],.c false,.r [],.c false,.r [],.r [(2,{rs:=[.row true 1 x5],ns:=[29],m:=10})]] [0,5,8,13,14,15,29,30,31] [29] (aO c1 c2 (oD c1) c3 (Zda.snd c4) c5 c6 (aI c8 (ZaJ.snd c7))) (At.loop N (At.loopN (fun y:Int×Int=>Zag.p2.S a_0 out_1 y.1 places_1 v2 x5 y.2 st) (fun c J hc y h=>Zag.p2_ok (best_6:=y.1) (v7:=y.2) h hE hc1 (fun best_6 v7=>hc (best_6,v7))) N (0,0) h23))
 ·obtain rfl:=Zac h14
  exact af fol hE [.r [],.c false,.r []] [] 0 [] c1
theorem Zag.snd {a_0:Zaa} {places_1:LL} {r:Int} (h:Zag N a_0 places_1=some r):SndQ Tryz.prog 42 [.one (L.bx 88 a_0.ls),.one (L.sl 1 places_1)] (Zag.rs r):=fun st=>
 sO Zag.B Tryz.func42 fun g0 w0 R hE=>by
  unfold Zag at h
  exact aq fol [.r [],.r [],.r []] [0,5,13,14,15] [] trivial (At.loop N (At.loopN (fun y:Int×Int=>Zag.p1.S a_0 y.1 places_1 y.2 st) (fun c J hc y h=>Zag.p1_ok (out_1:=y.1) (v2:=y.2) h hE (fun out_1 v2=>hc (out_1,v2))) N ((-1),0) h))
noncomputable def Zav.B:Code:=Tryz.f43.body.getD .skip
noncomputable def Zav.rs (r:Int):List CV:=[oI r]
noncomputable def Zav.p2 (N:Nat) (c1_:(Int×Int)→Option Int) (t_0:Zat) (places_1:LL) (v3:Int) (c2_:(Int×Int×Int)→Option Int):(Int×Int×Int)→Option Int:=fun (h_9,a_10,b_11)=>
 if (a_10 != b_11)=true then
  optE (Zao N t_0 a_10 (w64 (h_9-1))) fun x12=>
  optE (Zao N t_0 b_11 (w64 (h_9-1))) fun x13=>
  c2_ (w64 (h_9-1),x12,x13)
 else
 c1_ (a_10,w64 (v3+1))
noncomputable def Zav.p1 (N:Nat) (t_0:Zat) (places_1:LL) (c1_:(Int×Int)→Option Int):(Int×Int)→Option Int:=fun (out_2,v3)=>
 if (decide (v3<(len places_1)))=true then
  chk (0≤v3)<|
  getE (places_1[Int.toNat v3]?) ZcS fun x4=>
  optE (ZaK N t_0 out_2) fun x5=>
  optE (ZaK N t_0 x4) fun x6=>
  if (decide ((if x6<x5 then x6 else x5)<0))=true then
   some (-1)
  else
  optE (Zao N t_0 out_2 (if x6<x5 then x6 else x5)) fun x7=>
  optE (Zao N t_0 x4 (if x6<x5 then x6 else x5)) fun x8=>
  loopN (Zav.p2 N c1_ t_0 places_1 v3) N (if x6<x5 then x6 else x5,x7,x8)
 else
 some out_2
noncomputable def Zav (N:Nat) (t_0:Zat) (places_1:LL):Option Int:=
 if ((len places_1)==0)=true then
  some (-1)
 else
 chk (0<(len places_1))<|
 getE (places_1[0]?) ZcS fun x1=>
 loopN (Zav.p1 N t_0 places_1) N (x1,0)
noncomputable def Zav.p2.S (t_0:Zat) (h_9 a_10 b_11:Int) (places_1:LL) (v3:Int) (st:LL):S:=mkS 56 [(0,.one (.l (L.bx 2 t_0.ls))),(8,sI h_9),(9,sI a_10),(10,sI b_11),(17,sV 1 places_1),(18,sI (len places_1)),(19,sI v3)] [] st
noncomputable def Zav.p1.S (t_0:Zat) (out_2:Int) (places_1:LL) (v3:Int) (st:LL):S:=mkS 56 [(0,.one (.l (L.bx 2 t_0.ls))),(5,sI out_2),(17,sV 1 places_1),(18,sI (len places_1)),(19,sI v3)] [] st
theorem Zav.p2_ok {t_0 h_9 a_10 b_11 places_1 v3 st r c1_ c2_ J1 J2} (h:Zav.p2 N c1_ t_0 places_1 v3 c2_ (h_9,a_10,b_11)=some r) (hE:En Tryz.f43 g0 w0 (Zav.rs r) st R) (hc1 : ∀out_2 v3,c1_ (out_2,v3)=some r→At g0 w0 (Zav.p1.S t_0 out_2 places_1 v3 st) J1) (hc2 : ∀h_9 a_10 b_11,c2_ (h_9,a_10,b_11)=some r→At g0 w0 (Zav.p2.S t_0 h_9 a_10 b_11 places_1 v3 st) J2):At g0 w0 (Zav.p2.S t_0 h_9 a_10 b_11 places_1 v3 st) (XK Tryz.prog R (.c (csub Zav.B [1,1,1,0,1,0,0,1,1,0,0,1,1,1,1,0,0,0]) :: .h J2 :: [.b 2,.c (csub Zav.B [1,1,1,0,1,0,0,1,1,0,0,1,1,1,1,1]),.b 1,.c (csub Zav.B [1,1,1,0,1,0,0,1,1,1]),.h J1,.b 0,.c (csub Zav.B [1,1,1,1])])):=by
 unfold Zav.p2 at h
 refine iteB h (fun c12 h1=>?_) (fun c12 h2=>?_)
 ·obtain ⟨x12,c13,h3⟩:=Zad h1
  obtain ⟨x13,c14,h4⟩:=Zad h3
  exact an fol [.r [],.c true,.r [],.r [(3,q0 [oI x12]),(7,q0 [oI x13])]] [0,8,9,10,17,18,19] [] (aJ c12 (Zao.snd c13) (Zao.snd c14)) (hc2 (w64 (h_9-1)) x12 x13 h4)
 ·exact an fol [.r [],.c false,.r [],.r []] [0,5,17,18,19] [] c12 (hc1 a_10 (w64 (v3+1)) h2)
theorem Zav.p1_ok {t_0 out_2 places_1 v3 st r c1_ J1} (h:Zav.p1 N t_0 places_1 c1_ (out_2,v3)=some r) (hE:En Tryz.f43 g0 w0 (Zav.rs r) st R) (hc1 : ∀out_2 v3,c1_ (out_2,v3)=some r→At g0 w0 (Zav.p1.S t_0 out_2 places_1 v3 st) J1):At g0 w0 (Zav.p1.S t_0 out_2 places_1 v3 st) (XK Tryz.prog R (.c (csub Zav.B [1,1,1,0,1,0,0]) :: .h J1 :: [.b 0,.c (csub Zav.B [1,1,1,1])])):=by
 unfold Zav.p1 at h
 refine iteB h (fun c4 h5=>?_) (fun c4 h6=>?_)
 ·obtain ⟨c5,h7⟩:=ZaX h5
  obtain ⟨x4,c6,h8⟩:=Zci h7
  obtain ⟨x5,c7,h9⟩:=Zad h8
  obtain ⟨x6,c8,h10⟩:=Zad h9
  refine iteB h10 (fun c9 h11=>?_) (fun c9 h12=>?_)
  ·obtain rfl:=Zac h11
   exact af fol hE [.r [],.c true,.r [(1,{oe:=[L.int .i64 x4]})],.r [(2,q0 [oI x5]),(5,q0 [oI x6])],.r [],.c true,.r []] [] 0 [] (aN c4 c5 (oD c4) c6 (ZaK.snd c7) (ZaK.snd c8) c9)
  ·obtain ⟨x7,c10,h13⟩:=Zad h12
   obtain ⟨x8,c11,h14⟩:=Zad h13
   exact aq fol [.r [],.c true,.r [(1,{oe:=[L.int .i64 x4]})],.r [(2,q0 [oI x5]),(5,q0 [oI x6])],.r [],.c false,.r [(3,q0 [oI x7]),(7,q0 [oI x8])]] [0,8,9,10,17,18,19] [] (aO c4 c5 (oD c4) c6 (ZaK.snd c7) (ZaK.snd c8) c9 (aI (Zao.snd c10) (Zao.snd c11))) (At.loop N (At.loopN (fun y:Int×Int×Int=>Zav.p2.S t_0 y.1 y.2.1 y.2.2 places_1 v3 st) (fun c J hc y h=>Zav.p2_ok (h_9:=y.1) (a_10:=y.2.1) (b_11:=y.2.2) h hE hc1 (fun h_9 a_10 b_11=>hc (h_9,a_10,b_11))) N (if x6<x5 then x6 else x5,x7,x8) h14))
 ·obtain rfl:=Zac h6
  exact af fol hE [.r [],.c false,.r []] [] 0 [] c4
theorem Zav.snd {t_0:Zat} {places_1:LL} {r:Int} (h:Zav N t_0 places_1=some r):SndQ Tryz.prog 43 [.one (L.bx 2 t_0.ls),.one (L.sl 1 places_1)] (Zav.rs r):=fun st=>
 sO Zav.B Tryz.func43 fun g0 w0 R hE=>by
  unfold Zav at h
  refine iteB h (fun c1 h15=>?_) (fun c1 h16=>?_)
  ·obtain rfl:=Zac h15
   exact af fol hE [.r [],.r [],.c true,.r []] [] 0 [] c1
  ·obtain ⟨c2,h17⟩:=ZaX h16
   obtain ⟨x1,c3,h18⟩:=Zci h17
   exact aq fol [.r [],.r [],.c false,.r [(2,{oe:=[L.int .i64 x1]})],.r []] [0,5,17,18,19] [] (aK c1 (leI 0 0) c2 c3) (At.loop N (At.loopN (fun y:Int×Int=>Zav.p1.S t_0 y.1 places_1 y.2 st) (fun c J hc y h=>Zav.p1_ok (out_2:=y.1) (v3:=y.2) h hE (fun out_2 v3=>hc (out_2,v3))) N (x1,0) h18))
noncomputable def Zbb.B:Code:=Tryz.f9.body.getD .skip
noncomputable def Zbb.rs (r:Bool×LL):List CV:=[oB r.1]
noncomputable def Zbb.p1 (N:Nat) (places_2:LL) (x4 x5:Option Nat) (st7:LL) (c1_:(LL×Int)→Option (Bool×LL)):(LL×Int)→Option (Bool×LL):=fun (back_20,v8)=>
 if (decide (v8<(len places_2)))=true then
  chk (0≤(w64 ((w64 ((len places_2)-1))-v8)))<|
  chk ((w64 ((w64 ((len places_2)-1))-v8))<(len places_2))<|
  getE (places_2[Int.toNat (w64 ((w64 ((len places_2)-1))-v8))]?) ZcS fun x21=>
  chk (List.length (back_20 ++ [[L.int .i64 x21]])*8≤140737488355328)<|
  c1_ (back_20 ++ [[L.int .i64 x21]],w64 (v8+1))
 else
 optE x5 fun i22=>
 getE (st7[i22]?) Zcg fun x23=>
 optE (Zag N x23 places_2) fun x24=>
 optE x4 fun i25=>
 getE (st7[i25]?) Zdb fun x26 x27=>
 optE x26 fun i28=>
 getE (st7[i28]?) ZbV fun x29=>
 optE (Zav N (Zat.mk x29 x27) places_2) fun x30=>
 if (x30==x24)=true then
  optE (Zav N (Zat.mk x29 x27) back_20) fun x31=>
  some (x31==x24,st7)
 else
 some (false,st7)
noncomputable def Zbb (N:Nat) (p_0:Zae) (list_1 places_2 st:LL):Option (Bool×LL):=
 optE (ZcF N st) fun (x1,st2)=>
 if (!x1)=true then
  some (false,st2)
 else
 optE (ZbE N p_0 list_1) fun x3=>
 if x3=true then
  some (true,st2)
 else
 if (decide ((len places_2)>10))=true then
  some (true,st2)
 else
 optE (ZbG N p_0 list_1 st2) fun (x4,x5,x6,st7)=>
 loopN (Zbb.p1 N places_2 x4 x5 st7) N ([],0)
noncomputable def Zbb.p1.S (places_2:LL) (x4 x5:Option Nat) (back_20:LL) (v8:Int) (st7:LL):S:=mkS 62 [(2,sV 1 places_2),(7,sP x4),(8,sP x5),(10,.one (.h (.row 10 0) 1 0 (List.length back_20))),(31,sI (len places_2)),(32,sI v8)] [(10,.row 0 true 1 back_20)] st7
theorem Zbb.p1_ok {places_2 x4 x5 back_20 v8 st7 r c1_ J1} (h:Zbb.p1 N places_2 x4 x5 st7 c1_ (back_20,v8)=some r) (hE:En Tryz.f9 g0 w0 (Zbb.rs r) r.2 R) (hc1 : ∀back_20 v8,c1_ (back_20,v8)=some r→At g0 w0 (Zbb.p1.S places_2 x4 x5 back_20 v8 st7) J1):At g0 w0 (Zbb.p1.S places_2 x4 x5 back_20 v8 st7) (XK Tryz.prog R (.c (csub Zbb.B [1,1,1,1,1,0,1,0,0]) :: .h J1 :: [.b 0,.c (csub Zbb.B [1,1,1,1,1,1])])):=by
 unfold Zbb.p1 at h
 refine iteB h (fun c22 h1=>?_) (fun c22 h2=>?_)
 ·obtain ⟨c23,c24,h3⟩:=ck2 h1
  obtain ⟨x21,c25,h4⟩:=Zci h3
  obtain ⟨c26,h5⟩:=ZaX h4
  exact an fol [.r [],.c true,.r [],.r [(8,{oe:=[L.int .i64 x21]})],.r []] [2,7,8,10,31,32] [10] (aO c22 c23 c24 c25 z0 (eN (List.length back_20)) z0 (aI (eN (1)) c26)) (hc1 (back_20 ++ [[L.int .i64 x21]]) (w64 (v8+1)) h5)
 ·obtain ⟨i22,rfl,h6⟩:=Zad h2
  obtain ⟨x23,c28,h7⟩:=ZcE h6
  obtain ⟨x24,c29,h8⟩:=Zad h7
  obtain ⟨i25,rfl,h9⟩:=Zad h8
  obtain ⟨x26,x27,c31,h10⟩:=ZcY h9
  obtain ⟨i28,rfl,h11⟩:=Zad h10
  obtain ⟨x29,c33,h12⟩:=ZbT h11
  obtain ⟨x30,c34,h13⟩:=Zad h12
  refine iteB h13 (fun c35 h14=>?_) (fun c35 h15=>?_)
  ·obtain ⟨x31,c36,h16⟩:=Zad h14
   obtain rfl:=Zac h16
   exact af fol hE [.r [],.c false,.r [(2,{rs:=[oI x24],m:=10,cv:=[.one (L.bx 88 x23.ls)]})],.r [(2,{rs:=[oI x30],m:=10,cv:=[.one (L.bx 2 (Zat.ls (Zat.mk x29 x27)))]}),(8,{rs:=[oI x31],m:=10,cv:=[.one (L.bx 2 (Zat.ls (Zat.mk x29 x27)))]})]] [] 0 [] (aO c22 (bO 88 c28 (Zaa.bv x23)) (Zag.snd c29) (bO 2 c31 ((bC 87 c33 (Zay.bv x29) (bW bN)):BVs st7 [L.ptr (some i28),L.own true 1 x27] (Zat.ls (Zat.mk x29 x27)))) (Zav.snd c34) c35 c35 (aO c35 (bO 2 c31 ((bC 87 c33 (Zay.bv x29) (bW bN)):BVs st7 [L.ptr (some i28),L.own true 1 x27] (Zat.ls (Zat.mk x29 x27)))) z0 (eN (List.length back_20)) (Zav.snd c36) c35 c35 c35))
  ·obtain rfl:=Zac h15
   exact af fol hE [.r [],.c false,.r [(2,{rs:=[oI x24],m:=10,cv:=[.one (L.bx 88 x23.ls)]})],.r [(2,{rs:=[oI x30],m:=10,cv:=[.one (L.bx 2 (Zat.ls (Zat.mk x29 x27)))]}),(6,wF),(7,wF),(8,wF),(9,wF),(10,wF),(11,yF)]] [] 0 [] (aO c22 (bO 88 c28 (Zaa.bv x23)) (Zag.snd c29) (bO 2 c31 ((bC 87 c33 (Zay.bv x29) (bW bN)):BVs st7 [L.ptr (some i28),L.own true 1 x27] (Zat.ls (Zat.mk x29 x27)))) (Zav.snd c34) c35 c35 (aK c35 c35 c35 c35))
theorem Zbb.snd {p_0:Zae} {list_1 places_2:LL} {st:LL} {r:Bool×LL} (h:Zbb N p_0 list_1 places_2 st=some r):Snd Tryz.prog 9 [.agg p_0.ls,.one (L.sl 69 list_1),.one (L.sl 1 places_2)] st (Zbb.rs r) r.2:=
 sO Zbb.B Tryz.func9 fun g0 w0 R hE=>by
  unfold Zbb at h
  obtain ⟨⟨x1,st2⟩,c1,h17⟩:=Zad h
  refine iteB h17 (fun c2 h18=>?_) (fun c2 h19=>?_)
  ·obtain rfl:=Zac h18
   exact af fol hE [.r [],.r [(0,{rs:=[oB x1],st:=st2})],.c true,.r []] [] 0 [] (aI (ZcF.snd c1) c2)
  ·obtain ⟨x3,c3,h20⟩:=Zad h19
   refine iteB h20 (fun c4 h21=>?_) (fun c4 h22=>?_)
   ·obtain rfl:=Zac h21
    exact af fol hE [.r [],.r [(0,{rs:=[oB x1],st:=st2})],.c false,.r [(2,q1 [oB x3]),(4,wF),(5,wF),(6,wF)],.c true,.r []] [] 0 [] (aO (ZcF.snd c1) c2 (ZbE.snd c3) c4 c4 c4 c4 eT)
   ·refine iteB h22 (fun c5 h23=>?_) (fun c5 h24=>?_)
    ·obtain rfl:=Zac h23
     exact af fol hE [.r [],.r [(0,{rs:=[oB x1],st:=st2})],.c false,.r [(2,q1 [oB x3]),(7,yF)],.c true,.r []] [] 0 [] (aO (ZcF.snd c1) c2 (ZbE.snd c3) c4 c4 c4 c4 c5)
    ·obtain ⟨⟨x4,x5,x6,st7⟩,c6,h25⟩:=Zad h24
     exact aq fol [.r [],.r [(0,{rs:=[oB x1],st:=st2})],.c false,.r [(2,q1 [oB x3]),(7,yF)],.c false,.r [(2,{rs:=[.one (L.ptr x4),.one (L.ptr x5),oB x6],st:=st7})],.r [(0,{m:=1})],.r []] [2,7,8,10,31,32] [10] (aO (ZcF.snd c1) c2 (ZbE.snd c3) c4 c4 c4 c4 (aI c5 (ZbG.snd c6))) (At.loop N (At.loopN (fun y:LL×Int=>Zbb.p1.S places_2 x4 x5 y.1 y.2 st7) (fun c J hc y h=>Zbb.p1_ok (back_20:=y.1) (v8:=y.2) h hE (fun back_20 v8=>hc (back_20,v8))) N ([],0) h25))
end Go.Dn.F
