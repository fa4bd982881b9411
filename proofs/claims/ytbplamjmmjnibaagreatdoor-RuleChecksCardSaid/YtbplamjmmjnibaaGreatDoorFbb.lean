/- Contracts of functions of the program, as shallow functions, and their proofs. -/
import Derived.Test.YtbplamjmmjnibaaGreatDoorFba
set_option linter.all false
set_option maxRecDepth 100000
namespace Go.Dn.F
open Go.Proofs
variable {N : Nat} {g0 : G} {w0 : World} {R : Exit → Act → World → Prop}
noncomputable def Zbn.B : Code := Tryz.f94.body.getD .skip
noncomputable def Zbn.rs (r : Int) : List CV := [.one (L.int .i64 r)]
noncomputable def Zbn.p1 (N : Nat) (bits_2 time_3 hard_5 own_6 : Int) (p_0 : Zac) : Option Int :=
 if (!p_0.Easy) = true then
  some bits_2
 else
 if (decide ((w64 (own_6 - time_3)) > (w64 (2 * p_0.Spacing)))) = true then
  some p_0.Limit
 else
 some hard_5
noncomputable def Zbn (N : Nat) (p_0 : Zac) (height_1 bits_2 time_3 first_4 hard_5 own_6 : Int) : Option Int :=
 if (decide (height_1 ≤ 0)) = true then
  some p_0.Limit
 else
 if (decide (p_0.Interval > 0)) = true then
  chk (p_0.Interval ≠ 0) <|
  if ((Int.tmod height_1 p_0.Interval) == 0) = true then
   optE (Zar N p_0 bits_2 first_4 time_3) fun x1 =>
   some x1
  else
  Zbn.p1 N bits_2 time_3 hard_5 own_6 p_0
 else
 Zbn.p1 N bits_2 time_3 hard_5 own_6 p_0
noncomputable def Zbn.p1.S (bits_2 time_3 hard_5 own_6 : Int) (p_0 : Zac) (st : LL) : S := mkS 48 [(2, .one (.l (L.int .i64 bits_2))), (3, .one (.l (L.int .i64 time_3))), (5, .one (.l (L.int .i64 hard_5))), (6, .one (.l (L.int .i64 own_6))), (7, .one (.adr (.site 7) 0))] [(7, .cells p_0.ls)] st
theorem Zbn.p1_ok (bits_2 time_3 hard_5 own_6 : Int) (p_0 : Zac) (st : LL) {r : Int} (hE : En Tryz.f94 g0 w0 (Zbn.rs r) st R) (h : Zbn.p1 N bits_2 time_3 hard_5 own_6 p_0 = some r) : At g0 w0 (Zbn.p1.S bits_2 time_3 hard_5 own_6 p_0 st) (XK Tryz.prog R [.c (csub Zbn.B [1, 1, 1])]) := by
 unfold Zbn.p1 at h
 refine iteB h (fun c6 h1 => ?_) (fun c6 h2 => ?_) <;> clear h
 · obtain rfl := Zad h1
   exact af fol hE [.r [], .c true, .r []] [] 0 [] c6
 · refine iteB h2 (fun c7 h3 => ?_) (fun c7 h4 => ?_) <;> clear h2
   · obtain rfl := Zad h3
     exact af fol hE [.r [], .c false, .r [], .c true, .r []] [] 0 [] (aI c6 c7)
   · obtain rfl := Zad h4
     exact af fol hE [.r [], .c false, .r [], .c false, .r []] [] 0 [] (aI c6 c7)
theorem Zbn.snd {p_0 : Zac} {height_1 bits_2 time_3 first_4 hard_5 own_6 : Int} {r : Int} (h : Zbn N p_0 height_1 bits_2 time_3 first_4 hard_5 own_6 = some r) : SndQ Tryz.prog 94 [.agg p_0.ls, .one (L.int .i64 height_1), .one (L.int .i64 bits_2), .one (L.int .i64 time_3), .one (L.int .i64 first_4), .one (L.int .i64 hard_5), .one (L.int .i64 own_6)] (Zbn.rs r) := fun st =>
 sO Zbn.B Tryz.func94 fun g0 w0 R hE => by
  unfold Zbn at h
  refine iteB h (fun c1 h5 => ?_) (fun c1 h6 => ?_) <;> clear h
  · obtain rfl := Zad h5
    exact af fol hE [.r [], .r [], .c true, .r []] [] 0 [] c1
  · refine iteB h6 (fun c2 h7 => ?_) (fun c2 h8 => ?_) <;> clear h6
    · obtain ⟨c3, h9⟩ := ZaM h7; clear h7
      refine iteB h9 (fun c4 h10 => ?_) (fun c4 h11 => ?_) <;> clear h9
      · obtain ⟨x1, c5, h12⟩ := Zan h10; clear h10
        obtain rfl := Zad h12
        exact af fol hE [.r [], .r [], .c false, .r [], .c true, .r [(4, {rs := [.one (L.int .i64 x1)], m := 1})]] [] 0 [] (aI c1 (aI c2 (aI c2 (aI c2 (aI c2 (aI c3 (aI c2 (aI c2 (aI c4 (Zar.snd c5))))))))))
      · exact aq fol [.r [], .r [], .c false, .r [], .c false, .s 1] [2, 3, 5, 6, 7] [7] (aI c1 (aI c2 (aI c2 (aI c2 (aI c2 (aI c3 (aI c2 (aI c2 c4)))))))) (Zbn.p1_ok bits_2 time_3 hard_5 own_6 p_0 st hE h11)
    · exact aq fol [.r [], .r [], .c false, .r [(4, {want := false}), (5, {want := false}), (6, {want := false}), (7, {want := false}), (8, {want := false}), (9, {yes := false})], .c false, .s 1] [2, 3, 5, 6, 7] [7] (aI c1 (aI c2 (aI c2 (aI c2 (aI c2 (aI c2 (aI c2 (eB false)))))))) (Zbn.p1_ok bits_2 time_3 hard_5 own_6 p_0 st hE h8)
noncomputable def Zat.B : Code := Tryz.f61.body.getD .skip
noncomputable def Zat.rs (r : Int) : List CV := [.one (L.int .i64 r)]
noncomputable def Zat.p4 (N : Nat) (c1_ : (Int × Int × Int) → Option Int) (time_2 : Int) (chain_1 : LL) (first_7 hard_8 v4 : Int) (p_0 : Zac) (x1 : Zae) : Option Int :=
 c1_ (first_7, hard_8, w64 (v4 + 1))
noncomputable def Zat.p3 (N : Nat) (c1_ : (Int × Int × Int) → Option Int) (time_2 : Int) (chain_1 : LL) (first_7 hard_3 : Int) (begins_6 : Bool) (v4 : Int) (p_0 : Zac) (x1 x5 : Zae) : Option Int :=
 if (!p_0.Easy) = true then
  Zat.p4 N c1_ time_2 chain_1 first_7 x5.Bits v4 p_0 x1
 else
 if (x5.Bits != p_0.Limit) = true then
  Zat.p4 N c1_ time_2 chain_1 first_7 x5.Bits v4 p_0 x1
 else
 if begins_6 = true then
  Zat.p4 N c1_ time_2 chain_1 first_7 x5.Bits v4 p_0 x1
 else
 Zat.p4 N c1_ time_2 chain_1 first_7 hard_3 v4 p_0 x1
noncomputable def Zat.p2 (N : Nat) (c1_ : (Int × Int × Int) → Option Int) (time_2 : Int) (chain_1 : LL) (first_2 hard_3 : Int) (begins_6 : Bool) (v4 : Int) (p_0 : Zac) (x1 x5 : Zae) : Option Int :=
 if begins_6 = true then
  Zat.p3 N c1_ time_2 chain_1 x5.Time hard_3 begins_6 v4 p_0 x1 x5
 else
 Zat.p3 N c1_ time_2 chain_1 first_2 hard_3 begins_6 v4 p_0 x1 x5
noncomputable def Zat.p1 (N : Nat) (time_2 : Int) (chain_1 : LL) (p_0 : Zac) (x1 : Zae) (c1_ : (Int × Int × Int) → Option Int) : (Int × Int × Int) → Option Int := fun (first_2, hard_3, v4) =>
 if (decide (v4 < (len chain_1))) = true then
  chk (0 ≤ v4) <|
  getE (chain_1[Int.toNat v4]?) ZbZ fun x5 =>
  if (decide (p_0.Interval > 0)) = true then
   chk (p_0.Interval ≠ 0) <|
   Zat.p2 N c1_ time_2 chain_1 first_2 hard_3 ((Int.tmod v4 p_0.Interval) == 0) v4 p_0 x1 x5
  else
  Zat.p2 N c1_ time_2 chain_1 first_2 hard_3 false v4 p_0 x1 x5
 else
 optE (Zbn N p_0 (len chain_1) x1.Bits x1.Time first_2 hard_3 time_2) fun x9 =>
 some x9
noncomputable def Zat (N : Nat) (p_0 : Zac) (chain_1 : LL) (time_2 : Int) : Option Int :=
 if ((len chain_1) == 0) = true then
  some p_0.Limit
 else
 chk (0 ≤ (w64 ((len chain_1) - 1))) <|
 chk ((w64 ((len chain_1) - 1)) < (len chain_1)) <|
 getE (chain_1[Int.toNat (w64 ((len chain_1) - 1))]?) ZbZ fun x1 =>
 loopN (Zat.p1 N time_2 chain_1 p_0 x1) N (0, p_0.Limit, 0)
noncomputable def Zat.p4.S (time_2 : Int) (chain_1 : LL) (first_7 hard_8 v4 : Int) (p_0 : Zac) (x1 : Zae) (st : LL) : S := mkS 73 [(2, .one (.l (L.int .i64 time_2))), (3, .one (.adr (.site 3) 0)), (7, .one (.l (L.int .i64 (len chain_1)))), (8, .one (.adr (.site 8) 0)), (9, .one (.l (L.int .i64 first_7))), (10, .one (.l (L.int .i64 hard_8))), (27, .one (.l (L.sl 68 chain_1))), (28, .one (.l (L.int .i64 (len chain_1)))), (29, .one (.l (L.int .i64 v4)))] [(3, .cells p_0.ls), (8, .cells x1.ls)] st
noncomputable def Zat.p3.S (time_2 : Int) (chain_1 : LL) (first_7 hard_3 : Int) (begins_6 : Bool) (v4 : Int) (p_0 : Zac) (x1 x5 : Zae) (st : LL) : S := mkS 73 [(2, .one (.l (L.int .i64 time_2))), (3, .one (.adr (.site 3) 0)), (7, .one (.l (L.int .i64 (len chain_1)))), (8, .one (.adr (.site 8) 0)), (9, .one (.l (L.int .i64 first_7))), (10, .one (.l (L.int .i64 hard_3))), (12, .one (.adr (.site 12) 0)), (13, .one (.l (L.bool begins_6))), (27, .one (.l (L.sl 68 chain_1))), (28, .one (.l (L.int .i64 (len chain_1)))), (29, .one (.l (L.int .i64 v4)))] [(3, .cells p_0.ls), (8, .cells x1.ls), (12, .cells x5.ls)] st
noncomputable def Zat.p2.S (time_2 : Int) (chain_1 : LL) (first_2 hard_3 : Int) (begins_6 : Bool) (v4 : Int) (p_0 : Zac) (x1 x5 : Zae) (st : LL) : S := mkS 73 [(2, .one (.l (L.int .i64 time_2))), (3, .one (.adr (.site 3) 0)), (7, .one (.l (L.int .i64 (len chain_1)))), (8, .one (.adr (.site 8) 0)), (9, .one (.l (L.int .i64 first_2))), (10, .one (.l (L.int .i64 hard_3))), (12, .one (.adr (.site 12) 0)), (13, .one (.l (L.bool begins_6))), (27, .one (.l (L.sl 68 chain_1))), (28, .one (.l (L.int .i64 (len chain_1)))), (29, .one (.l (L.int .i64 v4)))] [(3, .cells p_0.ls), (8, .cells x1.ls), (12, .cells x5.ls)] st
noncomputable def Zat.p1.S (time_2 : Int) (chain_1 : LL) (first_2 hard_3 v4 : Int) (p_0 : Zac) (x1 : Zae) (st : LL) : S := mkS 73 [(2, .one (.l (L.int .i64 time_2))), (3, .one (.adr (.site 3) 0)), (7, .one (.l (L.int .i64 (len chain_1)))), (8, .one (.adr (.site 8) 0)), (9, .one (.l (L.int .i64 first_2))), (10, .one (.l (L.int .i64 hard_3))), (27, .one (.l (L.sl 68 chain_1))), (28, .one (.l (L.int .i64 (len chain_1)))), (29, .one (.l (L.int .i64 v4)))] [(3, .cells p_0.ls), (8, .cells x1.ls)] st
theorem Zat.p4_ok (time_2 : Int) (chain_1 : LL) (first_7 hard_8 v4 : Int) (p_0 : Zac) (x1 : Zae) (st : LL) {r : Int} {c1_ : (Int × Int × Int) → Option Int} {J1 : Act → World → Prop} (hE : En Tryz.f61 g0 w0 (Zat.rs r) st R) (hc1 : ∀ (first_2 hard_3 v4 : Int), c1_ (first_2, hard_3, v4) = some r → At g0 w0 (Zat.p1.S time_2 chain_1 first_2 hard_3 v4 p_0 x1 st) J1) (h : Zat.p4 N c1_ time_2 chain_1 first_7 hard_8 v4 p_0 x1 = some r) : At g0 w0 (Zat.p4.S time_2 chain_1 first_7 hard_8 v4 p_0 x1 st) (XK Tryz.prog R [.c (csub Zat.B [1, 1, 1, 1, 1, 1, 0, 1, 0, 0, 1, 1, 1]), .h J1, .b 0, .c (csub Zat.B [1, 1, 1, 1, 1, 1, 1])]) := by
 unfold Zat.p4 at h
 exact an fol [.r []] [2, 3, 7, 8, 9, 10, 27, 28, 29] [3, 8] trivial (hc1 first_7 hard_8 (w64 (v4 + 1)) h)
theorem Zat.p3_ok (time_2 : Int) (chain_1 : LL) (first_7 hard_3 : Int) (begins_6 : Bool) (v4 : Int) (p_0 : Zac) (x1 x5 : Zae) (st : LL) {r : Int} {c1_ : (Int × Int × Int) → Option Int} {J1 : Act → World → Prop} (hE : En Tryz.f61 g0 w0 (Zat.rs r) st R) (hc1 : ∀ (first_2 hard_3 v4 : Int), c1_ (first_2, hard_3, v4) = some r → At g0 w0 (Zat.p1.S time_2 chain_1 first_2 hard_3 v4 p_0 x1 st) J1) (h : Zat.p3 N c1_ time_2 chain_1 first_7 hard_3 begins_6 v4 p_0 x1 x5 = some r) : At g0 w0 (Zat.p3.S time_2 chain_1 first_7 hard_3 begins_6 v4 p_0 x1 x5 st) (XK Tryz.prog R [.c (csub Zat.B [1, 1, 1, 1, 1, 1, 0, 1, 0, 0, 1, 1, 0, 0, 1, 1, 1]), .b 1, .c (csub Zat.B [1, 1, 1, 1, 1, 1, 0, 1, 0, 0, 1, 1, 1]), .h J1, .b 0, .c (csub Zat.B [1, 1, 1, 1, 1, 1, 1])]) := by
 unfold Zat.p3 at h
 refine iteB h (fun c11 h1 => ?_) (fun c11 h2 => ?_) <;> clear h
 · exact aq fol [.r [(4, {want := false}), (5, {want := false}), (6, {want := false}), (7, {want := false}), (8, {want := false}), (11, {want := false})], .c true, .r [], .s 4] [2, 3, 7, 8, 9, 10, 27, 28, 29] [3, 8] (aI (not_false (Zbv c11)) (aI (not_false (Zbv c11)) (aI (not_false (Zbv c11)) (aI (not_false (Zbv c11)) (aI (not_false (Zbv c11)) (aI (not_false (Zbv c11)) (aI (eB true) (aI (eB true) (eB true))))))))) (Zat.p4_ok time_2 chain_1 first_7 x5.Bits v4 p_0 x1 st hE hc1 h1)
 · refine iteB h2 (fun c12 h3 => ?_) (fun c12 h4 => ?_) <;> clear h2
   · exact aq fol [.r [(9, {yes := false}), (11, {want := false})], .c true, .r [], .s 4] [2, 3, 7, 8, 9, 10, 27, 28, 29] [3, 8] (aI (not_true (ZaA c11)) (aI (not_true (ZaA c11)) (aI (not_true (ZaA c11)) (aI (not_true (ZaA c11)) (aI (not_true (ZaA c11)) (aI (not_true (ZaA c11)) (aI c12 (aI c12 (eB true))))))))) (Zat.p4_ok time_2 chain_1 first_7 x5.Bits v4 p_0 x1 st hE hc1 h3)
   · refine iteB h4 (fun c13 h5 => ?_) (fun c13 h6 => ?_) <;> clear h4
     · exact aq fol [.r [(9, {yes := false}), (12, {yes := false})], .c true, .r [], .s 4] [2, 3, 7, 8, 9, 10, 27, 28, 29] [3, 8] (aI (not_true (ZaA c11)) (aI (not_true (ZaA c11)) (aI (not_true (ZaA c11)) (aI (not_true (ZaA c11)) (aI (not_true (ZaA c11)) (aI (not_true (ZaA c11)) (aI c12 (aI c12 c13)))))))) (Zat.p4_ok time_2 chain_1 first_7 x5.Bits v4 p_0 x1 st hE hc1 h5)
     · exact aq fol [.r [(9, {yes := false}), (12, {yes := false})], .c false, .s 4] [2, 3, 7, 8, 9, 10, 27, 28, 29] [3, 8] (aI (not_true (ZaA c11)) (aI (not_true (ZaA c11)) (aI (not_true (ZaA c11)) (aI (not_true (ZaA c11)) (aI (not_true (ZaA c11)) (aI (not_true (ZaA c11)) (aI c12 (aI c12 c13)))))))) (Zat.p4_ok time_2 chain_1 first_7 hard_3 v4 p_0 x1 st hE hc1 h6)
theorem Zat.p2_ok (time_2 : Int) (chain_1 : LL) (first_2 hard_3 : Int) (begins_6 : Bool) (v4 : Int) (p_0 : Zac) (x1 x5 : Zae) (st : LL) {r : Int} {c1_ : (Int × Int × Int) → Option Int} {J1 : Act → World → Prop} (hE : En Tryz.f61 g0 w0 (Zat.rs r) st R) (hc1 : ∀ (first_2 hard_3 v4 : Int), c1_ (first_2, hard_3, v4) = some r → At g0 w0 (Zat.p1.S time_2 chain_1 first_2 hard_3 v4 p_0 x1 st) J1) (h : Zat.p2 N c1_ time_2 chain_1 first_2 hard_3 begins_6 v4 p_0 x1 x5 = some r) : At g0 w0 (Zat.p2.S time_2 chain_1 first_2 hard_3 begins_6 v4 p_0 x1 x5 st) (XK Tryz.prog R [.c (csub Zat.B [1, 1, 1, 1, 1, 1, 0, 1, 0, 0, 1, 1, 0, 0, 1, 1]), .b 1, .c (csub Zat.B [1, 1, 1, 1, 1, 1, 0, 1, 0, 0, 1, 1, 1]), .h J1, .b 0, .c (csub Zat.B [1, 1, 1, 1, 1, 1, 1])]) := by
 unfold Zat.p2 at h
 refine iteB h (fun c10 h7 => ?_) (fun c10 h8 => ?_) <;> clear h
 · exact aq fol [.r [], .c true, .r [], .s 6] [2, 3, 7, 8, 9, 10, 12, 13, 27, 28, 29] [3, 8, 12] c10 (Zat.p3_ok time_2 chain_1 x5.Time hard_3 begins_6 v4 p_0 x1 x5 st hE hc1 h7)
 · exact aq fol [.r [], .c false, .s 6] [2, 3, 7, 8, 9, 10, 12, 13, 27, 28, 29] [3, 8, 12] c10 (Zat.p3_ok time_2 chain_1 first_2 hard_3 begins_6 v4 p_0 x1 x5 st hE hc1 h8)
theorem Zat.p1_ok (time_2 : Int) (chain_1 : LL) (first_2 hard_3 v4 : Int) (p_0 : Zac) (x1 : Zae) (st : LL) {r : Int} {c1_ : (Int × Int × Int) → Option Int} {J1 : Act → World → Prop} (hE : En Tryz.f61 g0 w0 (Zat.rs r) st R) (hc1 : ∀ (first_2 hard_3 v4 : Int), c1_ (first_2, hard_3, v4) = some r → At g0 w0 (Zat.p1.S time_2 chain_1 first_2 hard_3 v4 p_0 x1 st) J1) (h : Zat.p1 N time_2 chain_1 p_0 x1 c1_ (first_2, hard_3, v4) = some r) : At g0 w0 (Zat.p1.S time_2 chain_1 first_2 hard_3 v4 p_0 x1 st) (XK Tryz.prog R (.c (csub Zat.B [1, 1, 1, 1, 1, 1, 0, 1, 0, 0]) :: .h J1 :: [.b 0, .c (csub Zat.B [1, 1, 1, 1, 1, 1, 1])])) := by
 unfold Zat.p1 at h
 refine iteB h (fun c5 h9 => ?_) (fun c5 h10 => ?_) <;> clear h
 · obtain ⟨c6, h11⟩ := ZaM h9; clear h9
   obtain ⟨x5, c7, h12⟩ := Zcf h11; clear h11
   refine iteB h12 (fun c8 h13 => ?_) (fun c8 h14 => ?_) <;> clear h12
   · obtain ⟨c9, h15⟩ := ZaM h13; clear h13
     exact aq fol [.r [], .c true, .r [(2, {oe := x5.ls})], .r [], .s 6] [2, 3, 7, 8, 9, 10, 12, 13, 27, 28, 29] [3, 8, 12] (aI c5 (aI c6 (aI (oD c5) (aI c7 (aI c8 (aI c8 (aI c8 (aI c8 (aI c9 (aI c8 c8)))))))))) (Zat.p2_ok time_2 chain_1 first_2 hard_3 ((Int.tmod v4 p_0.Interval) == 0) v4 p_0 x1 x5 st hE hc1 h15)
   · exact aq fol [.r [], .c true, .r [(2, {oe := x5.ls})], .r [(4, {want := false}), (5, {want := false}), (6, {want := false}), (7, {want := false}), (8, {want := false}), (9, {yes := false})], .s 6] [2, 3, 7, 8, 9, 10, 12, 13, 27, 28, 29] [3, 8, 12] (aI c5 (aI c6 (aI (oD c5) (aI c7 (aI c8 (aI c8 (aI c8 (aI c8 (aI c8 c8))))))))) (Zat.p2_ok time_2 chain_1 first_2 hard_3 false v4 p_0 x1 x5 st hE hc1 h14)
 · obtain ⟨x9, c14, h16⟩ := Zan h10; clear h10
   obtain rfl := Zad h16
   exact af fol hE [.r [], .c false, .r [(9, {rs := [.one (L.int .i64 x9)], m := 1})]] [] 0 [] (aI c5 (Zbn.snd c14))
theorem Zat.snd {p_0 : Zac} {chain_1 : LL} {time_2 : Int} {r : Int} (h : Zat N p_0 chain_1 time_2 = some r) : SndQ Tryz.prog 61 [.agg p_0.ls, .one (L.sl 68 chain_1), .one (L.int .i64 time_2)] (Zat.rs r) := fun st =>
 sO Zat.B Tryz.func61 fun g0 w0 R hE => by
  unfold Zat at h
  refine iteB h (fun c1 h17 => ?_) (fun c1 h18 => ?_) <;> clear h
  · obtain rfl := Zad h17
    exact af fol hE [.r [], .r [], .r [], .c true, .r []] [] 0 [] c1
  · obtain ⟨c2, c3, h19⟩ := ck2 h18; clear h18
    obtain ⟨x1, c4, h20⟩ := Zcf h19; clear h19
    exact aq fol [.r [], .r [], .r [], .c false, .r [(4, {oe := x1.ls})], .r [], .r [], .r []] [2, 3, 7, 8, 9, 10, 27, 28, 29] [3, 8] (aI c1 (aI c2 (aI c3 c4))) (At.loop N (At.loopN (fun y : Int × Int × Int => Zat.p1.S time_2 chain_1 y.1 y.2.1 y.2.2 p_0 x1 st) (fun c J hc y h => Zat.p1_ok time_2 chain_1 y.1 y.2.1 y.2.2 p_0 x1 st hE (fun first_2 hard_3 v4 hh => hc (first_2, hard_3, v4) hh) h) N (0, p_0.Limit, 0) h20))
noncomputable def ZaZ.B : Code := Tryz.f97.body.getD .skip
noncomputable def ZaZ.rs (r : (List Int)) : List CV := [.agg [L.arr .u64 4 r]]
noncomputable def ZaZ.p1 (N : Nat) (h_0_0 : List Int) (c1_ : (Int × (List Int)) → Option (List Int)) : (Int × (List Int)) → Option (List Int) := fun (i_1, out_3) =>
 if (decide (i_1 ≥ 0)) = true then
  optE (Zah N out_3 8) fun x4 =>
  chk (0 ≤ i_1) <|
  chk (i_1 < 32) <|
  c1_ (w64 (i_1 - 1), List.set x4 0 (v64 ((List.getD x4 0 0) + (v64 (List.getD h_0_0 (Int.toNat i_1) 0)))))
 else
 some out_3
noncomputable def ZaZ (N : Nat) (h_0_0 : List Int) : Option (List Int) :=
 loopN (ZaZ.p1 N h_0_0) N (31, List.replicate 4 0)
noncomputable def ZaZ.p1.S (i_1 : Int) (h_0_0 out_3 : List Int) (st : LL) : S := mkS 21 [(1, .one (.adr (.site 1) 0)), (2, .one (.adr (.site 2) 0)), (3, .one (.adr (.site 3) 0)), (4, .one (.l (L.int .i64 i_1)))] [(1, .cells [L.arr .u8 32 h_0_0]), (2, .cells [L.arr .u64 4 (List.replicate 4 0)]), (3, .cells [L.arr .u64 4 out_3])] st
theorem ZaZ.p1_ok (i_1 : Int) (h_0_0 out_3 : List Int) (st : LL) {r : (List Int)} {c1_ : (Int × (List Int)) → Option (List Int)} {J1 : Act → World → Prop} (hE : En Tryz.f97 g0 w0 (ZaZ.rs r) st R) (hc1 : ∀ (i_1 : Int) (out_3 : List Int), c1_ (i_1, out_3) = some r → At g0 w0 (ZaZ.p1.S i_1 h_0_0 out_3 st) J1) (h : ZaZ.p1 N h_0_0 c1_ (i_1, out_3) = some r) : At g0 w0 (ZaZ.p1.S i_1 h_0_0 out_3 st) (XK Tryz.prog R (.c (csub ZaZ.B [1, 1, 0, 1, 0, 0]) :: .h J1 :: [.b 0, .c (csub ZaZ.B [1, 1, 1])])) := by
 unfold ZaZ.p1 at h
 refine iteB h (fun c5 h1 => ?_) (fun c5 h2 => ?_) <;> clear h
 · obtain ⟨x4, c6, h3⟩ := Zan h1; clear h1
   obtain ⟨c7, c8, h4⟩ := ck2 h3; clear h3
   exact and_ fol [.r [], .c true, .r [(1, {rs := [.agg [L.arr .u64 4 x4]], m := 1})], .d {ds := [], hv := 256, Hs := [256]}, .r []] [1, 2, 3, 4] [1, 2, 3] (aI c5 (aI (Zah.snd c6) (ix 0 4 (aI c7 (aI c8 (aI (leI 0 0) (ltI 0 4))))))) (hc1 (w64 (i_1 - 1)) (List.set x4 0 (v64 ((List.getD x4 0 0) + (v64 (List.getD h_0_0 (Int.toNat i_1) 0))))) h4)
 · obtain rfl := Zad h2
   exact af fol hE [.r [], .c false, .r []] [] 0 [] c5
theorem ZaZ.snd {h_0_0 : List Int} {r : (List Int)} (h : ZaZ N h_0_0 = some r) : SndQ Tryz.prog 97 [.agg [L.arr .u8 32 h_0_0]] (ZaZ.rs r) := fun st =>
 sO ZaZ.B Tryz.func97 fun g0 w0 R hE => by
  unfold ZaZ at h
  exact aq fol [.r [], .r [], .r []] [1, 2, 3, 4] [1, 2, 3] trivial (At.loop N (At.loopN (fun y : Int × (List Int) => ZaZ.p1.S y.1 h_0_0 y.2 st) (fun c J hc y h => ZaZ.p1_ok y.1 h_0_0 y.2 st hE (fun i_1 out_3 hh => hc (i_1, out_3) hh) h) N (31, List.replicate 4 0) h))
noncomputable def Zcg.B : Code := Tryz.f62.body.getD .skip
noncomputable def Zcg.rs (r : Bool) : List CV := [.one (L.bool r)]
noncomputable def Zcg (N : Nat) (p_0 : Zac) (h_1 : Zae) : Option Bool :=
 optE (ZaR N h_1.Bits p_0.Limit) fun (x1, x2) =>
 if x2 = true then
  optE (Zcd N h_1) fun x3 =>
  optE (ZaZ N x3) fun x4 =>
  optE (ZaX N x1 x4) fun x5 =>
  some (!x5)
 else
 some false
theorem Zcg.snd {p_0 : Zac} {h_1 : Zae} {r : Bool} (h : Zcg N p_0 h_1 = some r) : SndQ Tryz.prog 62 [.agg p_0.ls, .agg h_1.ls] (Zcg.rs r) := fun st =>
 sO Zcg.B Tryz.func62 fun g0 w0 R hE => by
  unfold Zcg at h
  obtain ⟨⟨x1, x2⟩, c1, h1⟩ := Zan h; clear h
  refine iteB h1 (fun c2 h2 => ?_) (fun c2 h3 => ?_) <;> clear h1
  · obtain ⟨x3, c3, h4⟩ := Zan h2; clear h2
    obtain ⟨x4, c4, h5⟩ := Zan h4; clear h4
    obtain ⟨x5, c5, h6⟩ := Zan h5; clear h5
    obtain rfl := Zad h6
    exact afd fol hE [.r [], .r [(4, {rs := [.agg [L.arr .u64 4 x1], .one (L.bool x2)], m := 1})], .d {ds := [(4, {rs := [.agg [L.arr .u8 32 x3]], m := 1}), (5, {rs := [.agg [L.arr .u64 4 x4]], m := 1}), (6, {rs := [.one (L.bool x5)], m := 1})], hv := 0, Hs := []}] [] 0 [] (aI (ZaR.snd c1) (aI c2 (aI c2 (aI c2 (aI (Zcd.snd c3) (aI c2 (aI (ZaZ.snd c4) (aI c2 (aI (ZaX.snd c5) (aI c2 c2))))))))))
  · obtain rfl := Zad h3
    exact afd fol hE [.r [], .r [(4, {rs := [.agg [L.arr .u64 4 x1], .one (L.bool x2)], m := 1})], .d {ds := [(2, {want := false}), (3, {want := false}), (4, {want := false}), (5, {want := false}), (6, {want := false}), (7, {want := false}), (8, {yes := false})], hv := 0, Hs := []}] [] 0 [] (aI (ZaR.snd c1) (aI c2 (aI c2 (aI c2 (aI c2 (aI c2 (aI c2 c2)))))))
noncomputable def Zbm.B : Code := Tryz.f64.body.getD .skip
noncomputable def Zbm.rs (r : LL) : List CV := [.row true 1 r]
noncomputable def Zbm.p1 (N : Nat) (row_0 : LL) (c1_ : (LL × Int) → Option LL) : (LL × Int) → Option LL := fun (out_3, i_1) =>
 if (decide (i_1 ≥ 0)) = true then
  if (decide ((len out_3) < 11)) = true then
   chk (0 ≤ i_1) <|
   chk (i_1 < (len row_0)) <|
   getE (row_0[Int.toNat i_1]?) ZcN fun x4 =>
   chk (List.length (out_3 ++ [[L.int .i64 x4]]) * 8 ≤ 140737488355328) <|
   c1_ (out_3 ++ [[L.int .i64 x4]], w64 (i_1 - 1))
  else
  some out_3
 else
 some out_3
noncomputable def Zbm (N : Nat) (row_0 : LL) : Option LL :=
 loopN (Zbm.p1 N row_0) N ([], w64 ((len row_0) - 1))
noncomputable def Zbm.p1.S (row_0 out_3 : LL) (i_1 : Int) (st : LL) : S := mkS 25 [(0, .one (.l (L.sl 1 row_0))), (3, .one (.h (.row 3 0) 1 0 (List.length out_3))), (4, .one (.l (L.int .i64 i_1)))] [(3, .row 0 true 1 out_3)] st
theorem Zbm.p1_ok (row_0 out_3 : LL) (i_1 : Int) (st : LL) {r : LL} {c1_ : (LL × Int) → Option LL} {J1 : Act → World → Prop} (hE : En Tryz.f64 g0 w0 (Zbm.rs r) st R) (hc1 : ∀ (out_3 : LL) (i_1 : Int), c1_ (out_3, i_1) = some r → At g0 w0 (Zbm.p1.S row_0 out_3 i_1 st) J1) (h : Zbm.p1 N row_0 c1_ (out_3, i_1) = some r) : At g0 w0 (Zbm.p1.S row_0 out_3 i_1 st) (XK Tryz.prog R (.c (csub Zbm.B [1, 1, 0, 1, 0, 0]) :: .h J1 :: [.b 0, .c (csub Zbm.B [1, 1, 1])])) := by
 unfold Zbm.p1 at h
 refine iteB h (fun c6 h1 => ?_) (fun c6 h2 => ?_) <;> clear h
 · refine iteB h1 (fun c7 h3 => ?_) (fun c7 h4 => ?_) <;> clear h1
   · obtain ⟨c8, c9, h5⟩ := ck2 h3; clear h3
     obtain ⟨x4, c10, h6⟩ := Zcn h5; clear h5
     obtain ⟨c11, h7⟩ := ZaM h6; clear h6
     exact an fol [.r [], .c true, .r [(4, {oe := [L.int .i64 x4]})], .r []] [0, 3, 4] [3] (aI c6 (aI c6 (aI c6 (aI c6 (aI c7 (aI c8 (aI c9 (aI c10 (aI z0 (aI (eN (List.length out_3)) (aI z0 (aI (eN (1)) c11)))))))))))) (hc1 (out_3 ++ [[L.int .i64 x4]]) (w64 (i_1 - 1)) h7)
   · obtain rfl := Zad h4
     exact af fol hE [.r [], .c false, .r []] [] 0 [0] (aI c6 (aI c6 (aI c6 (aI c6 (aI c7 (aI z0 (eN (List.length out_3))))))))
 · obtain rfl := Zad h2
   exact af fol hE [.r [(3, {want := false}), (4, {want := false}), (5, {want := false}), (6, {yes := false})], .c false, .r []] [] 0 [0] (aI c6 (aI c6 (aI c6 (aI c6 (aI (eB false) (aI z0 (eN (List.length out_3))))))))
theorem Zbm.snd {row_0 : LL} {r : LL} (h : Zbm N row_0 = some r) : SndQ Tryz.prog 64 [.one (L.sl 1 row_0)] (Zbm.rs r) := fun st =>
 sO Zbm.B Tryz.func64 fun g0 w0 R hE => by
  unfold Zbm at h
  exact aq fol [.r [(0, {m := 2})], .r [(0, {m := 1})], .r []] [0, 3, 4] [3] trivial (At.loop N (At.loopN (fun y : LL × Int => Zbm.p1.S row_0 y.1 y.2 st) (fun c J hc y h => Zbm.p1_ok row_0 y.1 y.2 st hE (fun out_3 i_1 hh => hc (out_3, i_1) hh) h) N ([], w64 ((len row_0) - 1)) h))
noncomputable def Zay.B : Code := Tryz.f63.body.getD .skip
noncomputable def Zay.rs (r : Int) : List CV := [.one (L.int .i64 r)]
noncomputable def Zay.p4 (N : Nat) (c2_ : (Int × Int × Int) → Option Int) (c1_ : Int → Option Int) (times_0 : LL) (i_1 less_7 same_10 j_4 : Int) : Option Int :=
 c2_ (less_7, same_10, w64 (j_4 + 1))
noncomputable def Zay.p3 (N : Nat) (c2_ : (Int × Int × Int) → Option Int) (c1_ : Int → Option Int) (times_0 : LL) (i_1 less_7 same_3 j_4 : Int) : Option Int :=
 chk (0 ≤ j_4) <|
 chk (j_4 < (len times_0)) <|
 getE (times_0[Int.toNat j_4]?) ZcN fun x8 =>
 chk (0 ≤ i_1) <|
 chk (i_1 < (len times_0)) <|
 getE (times_0[Int.toNat i_1]?) ZcN fun x9 =>
 if (x8 == x9) = true then
  Zay.p4 N c2_ c1_ times_0 i_1 less_7 (w64 (same_3 + 1)) j_4
 else
 Zay.p4 N c2_ c1_ times_0 i_1 less_7 same_3 j_4
noncomputable def Zay.p2 (N : Nat) (c1_ : Int → Option Int) (times_0 : LL) (i_1 : Int) (c2_ : (Int × Int × Int) → Option Int) : (Int × Int × Int) → Option Int := fun (less_2, same_3, j_4) =>
 if (decide (j_4 < (if (11 : Int) < (len times_0) then 11 else (len times_0)))) = true then
  chk (0 ≤ j_4) <|
  chk (j_4 < (len times_0)) <|
  getE (times_0[Int.toNat j_4]?) ZcN fun x5 =>
  chk (0 ≤ i_1) <|
  chk (i_1 < (len times_0)) <|
  getE (times_0[Int.toNat i_1]?) ZcN fun x6 =>
  if (decide (x5 < x6)) = true then
   Zay.p3 N c2_ c1_ times_0 i_1 (w64 (less_2 + 1)) same_3 j_4
  else
  Zay.p3 N c2_ c1_ times_0 i_1 less_2 same_3 j_4
 else
 if (decide (less_2 ≤ (w64 (Int.tdiv (if (11 : Int) < (len times_0) then 11 else (len times_0)) 2)))) = true then
  if (decide ((w64 (Int.tdiv (if (11 : Int) < (len times_0) then 11 else (len times_0)) 2)) < (w64 (less_2 + same_3)))) = true then
   chk (0 ≤ i_1) <|
   chk (i_1 < (len times_0)) <|
   getE (times_0[Int.toNat i_1]?) ZcN fun x11 =>
   some x11
  else
  c1_ (w64 (i_1 + 1))
 else
 c1_ (w64 (i_1 + 1))
noncomputable def Zay.p1 (N : Nat) (times_0 : LL) (c1_ : Int → Option Int) : Int → Option Int := fun i_1 =>
 if (decide (i_1 < (if (11 : Int) < (len times_0) then 11 else (len times_0)))) = true then
  loopN (Zay.p2 N c1_ times_0 i_1) N (0, 0, 0)
 else
 some 0
noncomputable def Zay (N : Nat) (times_0 : LL) : Option Int :=
 loopN (Zay.p1 N times_0) N 0
noncomputable def Zay.p4.S (times_0 : LL) (i_1 less_7 same_10 j_4 : Int) (st : LL) : S := mkS 59 [(0, .one (.l (L.sl 1 times_0))), (3, .one (.l (L.int .i64 (if (11 : Int) < (len times_0) then 11 else (len times_0))))), (4, .one (.l (L.int .i64 i_1))), (5, .one (.l (L.int .i64 less_7))), (6, .one (.l (L.int .i64 same_10))), (7, .one (.l (L.int .i64 j_4)))] [] st
noncomputable def Zay.p3.S (times_0 : LL) (i_1 less_7 same_3 j_4 : Int) (st : LL) : S := mkS 59 [(0, .one (.l (L.sl 1 times_0))), (3, .one (.l (L.int .i64 (if (11 : Int) < (len times_0) then 11 else (len times_0))))), (4, .one (.l (L.int .i64 i_1))), (5, .one (.l (L.int .i64 less_7))), (6, .one (.l (L.int .i64 same_3))), (7, .one (.l (L.int .i64 j_4)))] [] st
noncomputable def Zay.p2.S (times_0 : LL) (i_1 less_2 same_3 j_4 : Int) (st : LL) : S := mkS 59 [(0, .one (.l (L.sl 1 times_0))), (3, .one (.l (L.int .i64 (if (11 : Int) < (len times_0) then 11 else (len times_0))))), (4, .one (.l (L.int .i64 i_1))), (5, .one (.l (L.int .i64 less_2))), (6, .one (.l (L.int .i64 same_3))), (7, .one (.l (L.int .i64 j_4)))] [] st
noncomputable def Zay.p1.S (times_0 : LL) (i_1 : Int) (st : LL) : S := mkS 59 [(0, .one (.l (L.sl 1 times_0))), (3, .one (.l (L.int .i64 (if (11 : Int) < (len times_0) then 11 else (len times_0))))), (4, .one (.l (L.int .i64 i_1)))] [] st
theorem Zay.p4_ok (times_0 : LL) (i_1 less_7 same_10 j_4 : Int) (st : LL) {r : Int} {c2_ : (Int × Int × Int) → Option Int} {c1_ : Int → Option Int} {J2 : Act → World → Prop} {J1 : Act → World → Prop} (hE : En Tryz.f63 g0 w0 (Zay.rs r) st R) (hc2 : ∀ (less_2 same_3 j_4 : Int), c2_ (less_2, same_3, j_4) = some r → At g0 w0 (Zay.p2.S times_0 i_1 less_2 same_3 j_4 st) J2) (hc1 : ∀ (i_1 : Int), c1_ i_1 = some r → At g0 w0 (Zay.p1.S times_0 i_1 st) J1) (h : Zay.p4 N c2_ c1_ times_0 i_1 less_7 same_10 j_4 = some r) : At g0 w0 (Zay.p4.S times_0 i_1 less_7 same_10 j_4 st) (XK Tryz.prog R [.c (csub Zay.B [1, 1, 0, 1, 0, 0, 1, 0, 0, 1, 1, 0, 1, 0, 0, 1, 1]), .h J2, .b 2, .c (csub Zay.B [1, 1, 0, 1, 0, 0, 1, 0, 0, 1, 1, 1]), .b 1, .c (csub Zay.B [1, 1, 0, 1, 0, 0, 1, 1]), .h J1, .b 0, .c (csub Zay.B [1, 1, 1])]) := by
 unfold Zay.p4 at h
 exact an fol [.r []] [0, 3, 4, 5, 6, 7] [] trivial (hc2 less_7 same_10 (w64 (j_4 + 1)) h)
theorem Zay.p3_ok (times_0 : LL) (i_1 less_7 same_3 j_4 : Int) (st : LL) {r : Int} {c2_ : (Int × Int × Int) → Option Int} {c1_ : Int → Option Int} {J2 : Act → World → Prop} {J1 : Act → World → Prop} (hE : En Tryz.f63 g0 w0 (Zay.rs r) st R) (hc2 : ∀ (less_2 same_3 j_4 : Int), c2_ (less_2, same_3, j_4) = some r → At g0 w0 (Zay.p2.S times_0 i_1 less_2 same_3 j_4 st) J2) (hc1 : ∀ (i_1 : Int), c1_ i_1 = some r → At g0 w0 (Zay.p1.S times_0 i_1 st) J1) (h : Zay.p3 N c2_ c1_ times_0 i_1 less_7 same_3 j_4 = some r) : At g0 w0 (Zay.p3.S times_0 i_1 less_7 same_3 j_4 st) (XK Tryz.prog R [.c (csub Zay.B [1, 1, 0, 1, 0, 0, 1, 0, 0, 1, 1, 0, 1, 0, 0, 1, 0, 0, 1]), .b 3, .c (csub Zay.B [1, 1, 0, 1, 0, 0, 1, 0, 0, 1, 1, 0, 1, 0, 0, 1, 1]), .h J2, .b 2, .c (csub Zay.B [1, 1, 0, 1, 0, 0, 1, 0, 0, 1, 1, 1]), .b 1, .c (csub Zay.B [1, 1, 0, 1, 0, 0, 1, 1]), .h J1, .b 0, .c (csub Zay.B [1, 1, 1])]) := by
 unfold Zay.p3 at h
 obtain ⟨c10, c11, h1⟩ := ck2 h; clear h
 obtain ⟨x8, c12, h2⟩ := Zcn h1; clear h1
 obtain ⟨c13, c14, h3⟩ := ck2 h2; clear h2
 obtain ⟨x9, c15, h4⟩ := Zcn h3; clear h3
 refine iteB h4 (fun c16 h5 => ?_) (fun c16 h6 => ?_) <;> clear h4
 · exact aqd fol [.d {ds := [(3, {oe := [L.int .i64 x8]}), (7, {oe := [L.int .i64 x9]})], hv := 0, Hs := []}, .c true, .r [], .s 9] [0, 3, 4, 5, 6, 7] [] (aI c10 (aI c11 (aI c12 (aI c13 (aI c14 (aI c15 c16)))))) (Zay.p4_ok times_0 i_1 less_7 (w64 (same_3 + 1)) j_4 st hE hc2 hc1 h5)
 · exact aqd fol [.d {ds := [(3, {oe := [L.int .i64 x8]}), (7, {oe := [L.int .i64 x9]})], hv := 0, Hs := []}, .c false, .s 9] [0, 3, 4, 5, 6, 7] [] (aI c10 (aI c11 (aI c12 (aI c13 (aI c14 (aI c15 c16)))))) (Zay.p4_ok times_0 i_1 less_7 same_3 j_4 st hE hc2 hc1 h6)
theorem Zay.p2_ok (times_0 : LL) (i_1 less_2 same_3 j_4 : Int) (st : LL) {r : Int} {c1_ : Int → Option Int} {c2_ : (Int × Int × Int) → Option Int} {J1 : Act → World → Prop} {J2 : Act → World → Prop} (hE : En Tryz.f63 g0 w0 (Zay.rs r) st R) (hc1 : ∀ (i_1 : Int), c1_ i_1 = some r → At g0 w0 (Zay.p1.S times_0 i_1 st) J1) (hc2 : ∀ (less_2 same_3 j_4 : Int), c2_ (less_2, same_3, j_4) = some r → At g0 w0 (Zay.p2.S times_0 i_1 less_2 same_3 j_4 st) J2) (h : Zay.p2 N c1_ times_0 i_1 c2_ (less_2, same_3, j_4) = some r) : At g0 w0 (Zay.p2.S times_0 i_1 less_2 same_3 j_4 st) (XK Tryz.prog R (.c (csub Zay.B [1, 1, 0, 1, 0, 0, 1, 0, 0, 1, 1, 0, 1, 0, 0]) :: .h J2 :: [.b 2, .c (csub Zay.B [1, 1, 0, 1, 0, 0, 1, 0, 0, 1, 1, 1]), .b 1, .c (csub Zay.B [1, 1, 0, 1, 0, 0, 1, 1]), .h J1, .b 0, .c (csub Zay.B [1, 1, 1])])) := by
 unfold Zay.p2 at h
 refine iteB h (fun c2 h7 => ?_) (fun c2 h8 => ?_) <;> clear h
 · obtain ⟨c3, c4, h9⟩ := ck2 h7; clear h7
   obtain ⟨x5, c5, h10⟩ := Zcn h9; clear h9
   obtain ⟨c6, c7, h11⟩ := ck2 h10; clear h10
   obtain ⟨x6, c8, h12⟩ := Zcn h11; clear h11
   refine iteB h12 (fun c9 h13 => ?_) (fun c9 h14 => ?_) <;> clear h12
   · exact aqd fol [.r [], .c true, .d {ds := [(3, {oe := [L.int .i64 x5]}), (7, {oe := [L.int .i64 x6]})], hv := 0, Hs := []}, .c true, .r [], .s 11] [0, 3, 4, 5, 6, 7] [] (aI c2 (aI c3 (aI c4 (aI c5 (aI c6 (aI c7 (aI c8 c9))))))) (Zay.p3_ok times_0 i_1 (w64 (less_2 + 1)) same_3 j_4 st hE hc2 hc1 h13)
   · exact aqd fol [.r [], .c true, .d {ds := [(3, {oe := [L.int .i64 x5]}), (7, {oe := [L.int .i64 x6]})], hv := 0, Hs := []}, .c false, .s 11] [0, 3, 4, 5, 6, 7] [] (aI c2 (aI c3 (aI c4 (aI c5 (aI c6 (aI c7 (aI c8 c9))))))) (Zay.p3_ok times_0 i_1 less_2 same_3 j_4 st hE hc2 hc1 h14)
 · refine iteB h8 (fun c17 h15 => ?_) (fun c17 h16 => ?_) <;> clear h8
   · refine iteB h15 (fun c18 h17 => ?_) (fun c18 h18 => ?_) <;> clear h15
     · obtain ⟨c19, c20, h19⟩ := ck2 h17; clear h17
       obtain ⟨x11, c21, h20⟩ := Zcn h19; clear h19
       obtain rfl := Zad h20
       exact af fol hE [.r [], .c false, .r [], .c true, .r [(3, {oe := [L.int .i64 x11]})]] [] 0 [] (aI c2 (aI (neI 2) (aI c17 (aI c17 (aI (neI 2) (aI c17 (aI c17 (aI c17 (aI c17 (aI c17 (aI c18 (aI c19 (aI c20 c21)))))))))))))
     · exact an fol [.r [], .c false, .r [], .c false, .r []] [0, 3, 4] [] (aI c2 (aI (neI 2) (aI c17 (aI c17 (aI (neI 2) (aI c17 (aI c17 (aI c17 (aI c17 (aI c17 c18)))))))))) (hc1 (w64 (i_1 + 1)) h18)
   · exact an fol [.r [], .c false, .r [(5, {want := false}), (6, {want := false}), (7, {want := false}), (8, {want := false}), (9, {want := false}), (10, {want := false}), (11, {yes := false})], .c false, .r []] [0, 3, 4] [] (aI c2 (aI (neI 2) (aI c17 (aI c17 (aI c17 (aI c17 (aI c17 (aI c17 (aI c17 (eB false)))))))))) (hc1 (w64 (i_1 + 1)) h16)
theorem Zay.p1_ok (times_0 : LL) (i_1 : Int) (st : LL) {r : Int} {c1_ : Int → Option Int} {J1 : Act → World → Prop} (hE : En Tryz.f63 g0 w0 (Zay.rs r) st R) (hc1 : ∀ (i_1 : Int), c1_ i_1 = some r → At g0 w0 (Zay.p1.S times_0 i_1 st) J1) (h : Zay.p1 N times_0 c1_ i_1 = some r) : At g0 w0 (Zay.p1.S times_0 i_1 st) (XK Tryz.prog R (.c (csub Zay.B [1, 1, 0, 1, 0, 0]) :: .h J1 :: [.b 0, .c (csub Zay.B [1, 1, 1])])) := by
 unfold Zay.p1 at h
 refine iteB h (fun c1 h21 => ?_) (fun c1 h22 => ?_) <;> clear h
 · exact aq fol [.r [], .c true, .r [], .r [], .r []] [0, 3, 4, 5, 6, 7] [] c1 (At.loop N (At.loopN (fun y : Int × Int × Int => Zay.p2.S times_0 i_1 y.1 y.2.1 y.2.2 st) (fun c J hc y h => Zay.p2_ok times_0 i_1 y.1 y.2.1 y.2.2 st hE hc1 (fun less_2 same_3 j_4 hh => hc (less_2, same_3, j_4) hh) h) N (0, 0, 0) h21))
 · obtain rfl := Zad h22
   exact af fol hE [.r [], .c false, .r []] [] 0 [] c1
theorem Zay.snd {times_0 : LL} {r : Int} (h : Zay N times_0 = some r) : SndQ Tryz.prog 63 [.one (L.sl 1 times_0)] (Zay.rs r) := fun st =>
 sO Zay.B Tryz.func63 fun g0 w0 R hE => by
  unfold Zay at h
  exact aq fol [.r [], .r [], .r []] [0, 3, 4] [] trivial (At.loop N (At.loopN (fun y : Int => Zay.p1.S times_0 y st) (fun c J hc y h => Zay.p1_ok times_0 y st hE (fun i_1 hh => hc i_1 hh) h) N 0 h))
noncomputable def Zam.B : Code := Tryz.f18.body.getD .skip
noncomputable def Zam.rs (r : Int) : List CV := [.one (L.int .i64 r)]
noncomputable def Zam.p6 (N : Nat) (chain_1 : LL) (p_0 : Zac) (h_2 : Zae) (c6_ : Int → Option Int) : Int → Option Int := fun v21 =>
 if (decide (v21 < (len p_0.Checks))) = true then
  chk (0 ≤ v21) <|
  getE (p_0.Checks[Int.toNat v21]?) Zcx fun x22 =>
  if (x22.Height == (len chain_1)) = true then
   optE (Zcd N h_2) fun x23 =>
   if (!(x22.Id == x23)) = true then
    some 8
   else
   c6_ (w64 (v21 + 1))
  else
  c6_ (w64 (v21 + 1))
 else
 some 0
noncomputable def Zam.p5 (N : Nat) (chain_1 : LL) (p_0 : Zac) (h_2 : Zae) (c5_ : Int → Option Int) : Int → Option Int := fun v19 =>
 if (decide (v19 < (len p_0.Gates))) = true then
  chk (0 ≤ v19) <|
  getE (p_0.Gates[Int.toNat v19]?) ZcF fun x20 =>
  if (decide (x20.Height ≤ (len chain_1))) = true then
   if (decide (h_2.Version < x20.Version)) = true then
    some 7
   else
   c5_ (w64 (v19 + 1))
  else
  c5_ (w64 (v19 + 1))
 else
 loopN (Zam.p6 N chain_1 p_0 h_2) N 0
noncomputable def Zam.p4 (N : Nat) (chain_1 : LL) (p_0 : Zac) (h_2 : Zae) : Option Int :=
 loopN (Zam.p5 N chain_1 p_0 h_2) N 0
noncomputable def Zam.p3 (N : Nat) (now_3 : Int) (chain_1 : LL) (p_0 : Zac) (h_2 : Zae) : Option Int :=
 if (decide (p_0.Future < 0)) = true then
  some 6
 else
 if (decide (h_2.Time > now_3)) = true then
  if (decide ((w64 (h_2.Time - now_3)) > p_0.Future)) = true then
   some 6
  else
  Zam.p4 N chain_1 p_0 h_2
 else
 Zam.p4 N chain_1 p_0 h_2
noncomputable def Zam.p2 (N : Nat) (now_3 : Int) (chain_1 : LL) (p_0 : Zac) (h_2 : Zae) (c2_ : (LL × Int) → Option Int) : (LL × Int) → Option Int := fun (times_15, v6) =>
 if (decide (v6 < (len chain_1))) = true then
  chk (0 ≤ v6) <|
  getE (chain_1[Int.toNat v6]?) ZbZ fun x16 =>
  chk (List.length (times_15 ++ [[L.int .i64 x16.Time]]) * 8 ≤ 140737488355328) <|
  c2_ (times_15 ++ [[L.int .i64 x16.Time]], w64 (v6 + 1))
 else
 if (decide ((len chain_1) > 0)) = true then
  optE (Zbm N times_15) fun x17 =>
  chk (plainRow x17 = true) <|
  optE (Zay N x17) fun x18 =>
  if (decide (h_2.Time ≤ x18)) = true then
   some 5
  else
  Zam.p3 N now_3 chain_1 p_0 h_2
 else
 Zam.p3 N now_3 chain_1 p_0 h_2
noncomputable def Zam.p1 (N : Nat) (chain_1 : LL) (now_3 : Int) (p_0 : Zac) (h_2 : Zae) : Option Int :=
 optE (Zat N p_0 chain_1 h_2.Time) fun x4 =>
 if (h_2.Bits != x4) = true then
  some 3
 else
 optE (Zcg N p_0 h_2) fun x5 =>
 if (!x5) = true then
  some 4
 else
 loopN (Zam.p2 N now_3 chain_1 p_0 h_2) N ([], 0)
noncomputable def Zam (N : Nat) (p_0 : Zac) (chain_1 : LL) (h_2 : Zae) (now_3 : Int) : Option Int :=
 optE (Zbx N h_2) fun x1 =>
 if (!x1) = true then
  some 1
 else
 if (decide ((len chain_1) > 0)) = true then
  chk (0 ≤ (w64 ((len chain_1) - 1))) <|
  chk ((w64 ((len chain_1) - 1)) < (len chain_1)) <|
  getE (chain_1[Int.toNat (w64 ((len chain_1) - 1))]?) ZbZ fun x2 =>
  optE (Zcd N x2) fun x3 =>
  if (!(h_2.Prev == x3)) = true then
   some 2
  else
  Zam.p1 N chain_1 now_3 p_0 h_2
 else
 Zam.p1 N chain_1 now_3 p_0 h_2
noncomputable def Zam.p6.S (chain_1 : LL) (p_0 : Zac) (v21 : Int) (h_2 : Zae) (st : LL) : S := mkS 125 [(6, .one (.adr (.site 6) 0)), (9, .one (.l (L.int .i64 (len chain_1)))), (107, .one (.l (L.sl 33 p_0.Checks))), (108, .one (.l (L.int .i64 (len p_0.Checks)))), (109, .one (.l (L.int .i64 v21)))] [(6, .cells h_2.ls)] st
noncomputable def Zam.p5.S (chain_1 : LL) (p_0 : Zac) (v19 : Int) (h_2 : Zae) (st : LL) : S := mkS 125 [(4, .one (.adr (.site 4) 0)), (6, .one (.adr (.site 6) 0)), (9, .one (.l (L.int .i64 (len chain_1)))), (88, .one (.l (L.sl 2 p_0.Gates))), (89, .one (.l (L.int .i64 (len p_0.Gates)))), (90, .one (.l (L.int .i64 v19)))] [(4, .cells p_0.ls), (6, .cells h_2.ls)] st
noncomputable def Zam.p4.S (chain_1 : LL) (p_0 : Zac) (h_2 : Zae) (st : LL) : S := mkS 125 [(4, .one (.adr (.site 4) 0)), (6, .one (.adr (.site 6) 0)), (9, .one (.l (L.int .i64 (len chain_1))))] [(4, .cells p_0.ls), (6, .cells h_2.ls)] st
noncomputable def Zam.p3.S (now_3 : Int) (chain_1 : LL) (p_0 : Zac) (h_2 : Zae) (st : LL) : S := mkS 125 [(3, .one (.l (L.int .i64 now_3))), (4, .one (.adr (.site 4) 0)), (6, .one (.adr (.site 6) 0)), (9, .one (.l (L.int .i64 (len chain_1))))] [(4, .cells p_0.ls), (6, .cells h_2.ls)] st
noncomputable def Zam.p2.S (now_3 : Int) (chain_1 times_15 : LL) (v6 : Int) (p_0 : Zac) (h_2 : Zae) (st : LL) : S := mkS 125 [(3, .one (.l (L.int .i64 now_3))), (4, .one (.adr (.site 4) 0)), (6, .one (.adr (.site 6) 0)), (9, .one (.l (L.int .i64 (len chain_1)))), (10, .one (.h (.row 10 0) 1 0 (List.length times_15))), (47, .one (.l (L.sl 68 chain_1))), (48, .one (.l (L.int .i64 (len chain_1)))), (49, .one (.l (L.int .i64 v6)))] [(4, .cells p_0.ls), (6, .cells h_2.ls), (10, .row 0 true 1 times_15)] st
noncomputable def Zam.p1.S (chain_1 : LL) (now_3 : Int) (p_0 : Zac) (h_2 : Zae) (st : LL) : S := mkS 125 [(1, .one (.l (L.sl 68 chain_1))), (3, .one (.l (L.int .i64 now_3))), (4, .one (.adr (.site 4) 0)), (6, .one (.adr (.site 6) 0)), (9, .one (.l (L.int .i64 (len chain_1))))] [(4, .cells p_0.ls), (6, .cells h_2.ls)] st
theorem Zam.p6_ok (chain_1 : LL) (p_0 : Zac) (v21 : Int) (h_2 : Zae) (st : LL) {r : Int} {c6_ : Int → Option Int} {J6 : Act → World → Prop} (hE : En Tryz.f18 g0 w0 (Zam.rs r) st R) (hc6 : ∀ (v21 : Int), c6_ v21 = some r → At g0 w0 (Zam.p6.S chain_1 p_0 v21 h_2 st) J6) (h : Zam.p6 N chain_1 p_0 h_2 c6_ v21 = some r) : At g0 w0 (Zam.p6.S chain_1 p_0 v21 h_2 st) (XK Tryz.prog R (.c (csub Zam.B [1, 1, 1, 1, 1, 1, 1, 1, 1, 1, 1, 0, 1, 0, 0]) :: .h J6 :: [.b 4, .c (csub Zam.B [1, 1, 1, 1, 1, 1, 1, 1, 1, 1, 1, 1])])) := by
 unfold Zam.p6 at h
 refine iteB h (fun c53 h1 => ?_) (fun c53 h2 => ?_) <;> clear h
 · obtain ⟨c54, h3⟩ := ZaM h1; clear h1
   obtain ⟨x22, c55, h4⟩ := ZcK h3; clear h3
   refine iteB h4 (fun c56 h5 => ?_) (fun c56 h6 => ?_) <;> clear h4
   · obtain ⟨x23, c57, h7⟩ := Zan h5; clear h5
     refine iteB h7 (fun c58 h8 => ?_) (fun c58 h9 => ?_) <;> clear h7
     · obtain rfl := Zad h8
       exact afd fol hE [.r [], .c true, .r [(1, {oe := x22.ls})], .d {ds := [(8, {rs := [.agg [L.arr .u8 32 x23]], m := 1})], hv := 0, Hs := []}, .c true, .r []] [] 0 [] (aI c53 (aI c54 (aI (oD c53) (aI c55 (aI c56 (aI c56 (aI c56 (aI c56 (aI (Zcd.snd c57) (aI c56 (aI c56 c58)))))))))))
     · exact and_ fol [.r [], .c true, .r [(1, {oe := x22.ls})], .d {ds := [(8, {rs := [.agg [L.arr .u8 32 x23]], m := 1})], hv := 0, Hs := []}, .c false, .r []] [6, 9, 107, 108, 109] [6] (aI c53 (aI c54 (aI (oD c53) (aI c55 (aI c56 (aI c56 (aI c56 (aI c56 (aI (Zcd.snd c57) (aI c56 (aI c56 c58))))))))))) (hc6 (w64 (v21 + 1)) h9)
   · exact and_ fol [.r [], .c true, .r [(1, {oe := x22.ls})], .d {ds := [(5, {want := false}), (6, {want := false}), (7, {want := false}), (8, {want := false}), (9, {want := false}), (10, {yes := false})], hv := 0, Hs := []}, .c false, .r []] [6, 9, 107, 108, 109] [6] (aI c53 (aI c54 (aI (oD c53) (aI c55 (aI c56 (aI c56 (aI c56 (aI c56 (aI c56 (aI c56 (eB false))))))))))) (hc6 (w64 (v21 + 1)) h6)
 · obtain rfl := Zad h2
   exact af fol hE [.r [], .c false, .r []] [] 0 [] c53
theorem Zam.p5_ok (chain_1 : LL) (p_0 : Zac) (v19 : Int) (h_2 : Zae) (st : LL) {r : Int} {c5_ : Int → Option Int} {J5 : Act → World → Prop} (hE : En Tryz.f18 g0 w0 (Zam.rs r) st R) (hc5 : ∀ (v19 : Int), c5_ v19 = some r → At g0 w0 (Zam.p5.S chain_1 p_0 v19 h_2 st) J5) (h : Zam.p5 N chain_1 p_0 h_2 c5_ v19 = some r) : At g0 w0 (Zam.p5.S chain_1 p_0 v19 h_2 st) (XK Tryz.prog R (.c (csub Zam.B [1, 1, 1, 1, 1, 1, 1, 1, 1, 1, 0, 1, 0, 0]) :: .h J5 :: [.b 2, .c (csub Zam.B [1, 1, 1, 1, 1, 1, 1, 1, 1, 1, 1])])) := by
 unfold Zam.p5 at h
 refine iteB h (fun c48 h10 => ?_) (fun c48 h11 => ?_) <;> clear h
 · obtain ⟨c49, h12⟩ := ZaM h10; clear h10
   obtain ⟨x20, c50, h13⟩ := ZcP h12; clear h12
   refine iteB h13 (fun c51 h14 => ?_) (fun c51 h15 => ?_) <;> clear h13
   · refine iteB h14 (fun c52 h16 => ?_) (fun c52 h17 => ?_) <;> clear h14
     · obtain rfl := Zad h16
       exact af fol hE [.r [], .c true, .r [(1, {oe := x20.ls})], .r [], .c true, .r []] [] 0 [] (aI c48 (aI c49 (aI (oD c48) (aI c50 (aI c51 (aI c51 (aI c51 (aI c51 (aI c51 (aI c51 c52))))))))))
     · exact an fol [.r [], .c true, .r [(1, {oe := x20.ls})], .r [], .c false, .r []] [4, 6, 9, 88, 89, 90] [4, 6] (aI c48 (aI c49 (aI (oD c48) (aI c50 (aI c51 (aI c51 (aI c51 (aI c51 (aI c51 (aI c51 c52)))))))))) (hc5 (w64 (v19 + 1)) h17)
   · exact an fol [.r [], .c true, .r [(1, {oe := x20.ls})], .r [(5, {want := false}), (6, {want := false}), (7, {want := false}), (8, {want := false}), (9, {want := false}), (10, {yes := false})], .c false, .r []] [4, 6, 9, 88, 89, 90] [4, 6] (aI c48 (aI c49 (aI (oD c48) (aI c50 (aI c51 (aI c51 (aI c51 (aI c51 (aI c51 (aI c51 (eB false))))))))))) (hc5 (w64 (v19 + 1)) h15)
 · exact aq fol [.r [], .c false, .r []] [6, 9, 107, 108, 109] [6] c48 (At.loop N (At.loopN (fun y : Int => Zam.p6.S chain_1 p_0 y h_2 st) (fun c J hc y h => Zam.p6_ok chain_1 p_0 y h_2 st hE (fun v21 hh => hc v21 hh) h) N 0 h11))
theorem Zam.p4_ok (chain_1 : LL) (p_0 : Zac) (h_2 : Zae) (st : LL) {r : Int} (hE : En Tryz.f18 g0 w0 (Zam.rs r) st R) (h : Zam.p4 N chain_1 p_0 h_2 = some r) : At g0 w0 (Zam.p4.S chain_1 p_0 h_2 st) (XK Tryz.prog R [.c (csub Zam.B [1, 1, 1, 1, 1, 1, 1, 1, 1, 1])]) := by
 unfold Zam.p4 at h
 exact aq fol [.r []] [4, 6, 9, 88, 89, 90] [4, 6] trivial (At.loop N (At.loopN (fun y : Int => Zam.p5.S chain_1 p_0 y h_2 st) (fun c J hc y h => Zam.p5_ok chain_1 p_0 y h_2 st hE (fun v19 hh => hc v19 hh) h) N 0 h))
theorem Zam.p3_ok (now_3 : Int) (chain_1 : LL) (p_0 : Zac) (h_2 : Zae) (st : LL) {r : Int} (hE : En Tryz.f18 g0 w0 (Zam.rs r) st R) (h : Zam.p3 N now_3 chain_1 p_0 h_2 = some r) : At g0 w0 (Zam.p3.S now_3 chain_1 p_0 h_2 st) (XK Tryz.prog R [.c (csub Zam.B [1, 1, 1, 1, 1, 1, 1, 1, 1])]) := by
 unfold Zam.p3 at h
 refine iteB h (fun c45 h18 => ?_) (fun c45 h19 => ?_) <;> clear h
 · obtain rfl := Zad h18
   exact af fol hE [.r [(4, {want := false}), (5, {want := false}), (6, {want := false}), (7, {want := false}), (8, {want := false}), (16, {want := false})], .c true, .r []] [] 0 [] (aI c45 (aI c45 (aI c45 (aI c45 (aI c45 (aI c45 (aI c45 (eB true))))))))
 · refine iteB h19 (fun c46 h20 => ?_) (fun c46 h21 => ?_) <;> clear h19
   · refine iteB h20 (fun c47 h22 => ?_) (fun c47 h23 => ?_) <;> clear h20
     · obtain rfl := Zad h22
       exact af fol hE [.r [(17, {yes := false})], .c true, .r []] [] 0 [] (aI c45 (aI c45 (aI c45 (aI c45 (aI c45 (aI c46 (aI c46 (aI c46 (aI c46 (aI c46 (aI c46 (aI c46 (aI c45 (aI c46 (aI c45 c47)))))))))))))))
     · exact aq fol [.r [(17, {yes := false})], .c false, .s 1] [4, 6, 9] [4, 6] (aI c45 (aI c45 (aI c45 (aI c45 (aI c45 (aI c46 (aI c46 (aI c46 (aI c46 (aI c46 (aI c46 (aI c46 (aI c45 (aI c46 (aI c45 c47))))))))))))))) (Zam.p4_ok chain_1 p_0 h_2 st hE h23)
   · exact aq fol [.r [(9, {want := false}), (10, {want := false}), (11, {want := false}), (12, {want := false}), (13, {want := false}), (14, {want := false}), (15, {want := false}), (16, {yes := false}), (17, {yes := false})], .c false, .s 1] [4, 6, 9] [4, 6] (aI c45 (aI c45 (aI c45 (aI c45 (aI c45 (aI c46 (aI c46 (aI c46 (aI c46 (aI c46 (aI c46 (aI c46 (aI c45 (aI c46 (aI c45 (eB false)))))))))))))))) (Zam.p4_ok chain_1 p_0 h_2 st hE h21)
theorem Zam.p2_ok (now_3 : Int) (chain_1 times_15 : LL) (v6 : Int) (p_0 : Zac) (h_2 : Zae) (st : LL) {r : Int} {c2_ : (LL × Int) → Option Int} {J2 : Act → World → Prop} (hE : En Tryz.f18 g0 w0 (Zam.rs r) st R) (hc2 : ∀ (times_15 : LL) (v6 : Int), c2_ (times_15, v6) = some r → At g0 w0 (Zam.p2.S now_3 chain_1 times_15 v6 p_0 h_2 st) J2) (h : Zam.p2 N now_3 chain_1 p_0 h_2 c2_ (times_15, v6) = some r) : At g0 w0 (Zam.p2.S now_3 chain_1 times_15 v6 p_0 h_2 st) (XK Tryz.prog R (.c (csub Zam.B [1, 1, 1, 1, 1, 1, 1, 0, 1, 0, 0]) :: .h J2 :: [.b 0, .c (csub Zam.B [1, 1, 1, 1, 1, 1, 1, 1])])) := by
 unfold Zam.p2 at h
 refine iteB h (fun c36 h24 => ?_) (fun c36 h25 => ?_) <;> clear h
 · obtain ⟨c37, h26⟩ := ZaM h24; clear h24
   obtain ⟨x16, c38, h27⟩ := Zcf h26; clear h26
   obtain ⟨c39, h28⟩ := ZaM h27; clear h27
   exact an fol [.r [], .c true, .r [(1, {oe := x16.ls})], .r [], .r []] [3, 4, 6, 9, 10, 47, 48, 49] [4, 6, 10] (aI c36 (aI c37 (aI (oD c36) (aI c38 (aI z0 (aI (eN (List.length times_15)) (aI z0 (aI (eN (1)) c39)))))))) (hc2 (times_15 ++ [[L.int .i64 x16.Time]]) (w64 (v6 + 1)) h28)
 · refine iteB h25 (fun c40 h29 => ?_) (fun c40 h30 => ?_) <;> clear h25
   · obtain ⟨x17, c41, h31⟩ := Zan h29; clear h29
     obtain ⟨c42, h32⟩ := ZaM h31; clear h31
     obtain ⟨x18, c43, h33⟩ := Zan h32; clear h32
     refine iteB h33 (fun c44 h34 => ?_) (fun c44 h35 => ?_) <;> clear h33
     · obtain rfl := Zad h34
       exact afd fol hE [.r [], .c false, .d {ds := [(6, {rs := [.row true 1 x17], ns := [65], m := 2}), (7, {rs := [.one (L.int .i64 x18)], m := 2})], hv := 64, Hs := [64]}, .c true, .r []] [] 0 [] (aI c36 (aI c40 (aI c40 (aI c40 (aI c40 (aI c40 (aI c40 (aI z0 (aI (eN (List.length times_15)) (aI c42 (aI (Zbm.snd c41) (aI c40 (aI z0 (aI (eN (List.length x17)) (aI (Zay.snd c43) (aI c40 (aI c40 c44)))))))))))))))))
     · exact aqd fol [.r [], .c false, .d {ds := [(6, {rs := [.row true 1 x17], ns := [65], m := 2}), (7, {rs := [.one (L.int .i64 x18)], m := 2})], hv := 64, Hs := [64]}, .c false, .s 1] [3, 4, 6, 9] [4, 6] (aI c36 (aI c40 (aI c40 (aI c40 (aI c40 (aI c40 (aI c40 (aI z0 (aI (eN (List.length times_15)) (aI c42 (aI (Zbm.snd c41) (aI c40 (aI z0 (aI (eN (List.length x17)) (aI (Zay.snd c43) (aI c40 (aI c40 c44))))))))))))))))) (Zam.p3_ok now_3 chain_1 p_0 h_2 st hE h35)
   · exact aqd fol [.r [], .c false, .d {ds := [(3, {want := false}), (4, {want := false}), (5, {want := false}), (6, {want := false}), (7, {want := false}), (8, {want := false}), (9, {yes := false})], hv := 0, Hs := []}, .c false, .s 1] [3, 4, 6, 9] [4, 6] (aI c36 (aI c40 (aI c40 (aI c40 (aI c40 (aI c40 (aI c40 (aI c40 (eB false))))))))) (Zam.p3_ok now_3 chain_1 p_0 h_2 st hE h30)
theorem Zam.p1_ok (chain_1 : LL) (now_3 : Int) (p_0 : Zac) (h_2 : Zae) (st : LL) {r : Int} (hE : En Tryz.f18 g0 w0 (Zam.rs r) st R) (h : Zam.p1 N chain_1 now_3 p_0 h_2 = some r) : At g0 w0 (Zam.p1.S chain_1 now_3 p_0 h_2 st) (XK Tryz.prog R [.c (csub Zam.B [1, 1, 1, 1])]) := by
 unfold Zam.p1 at h
 obtain ⟨x4, c9, h36⟩ := Zan h; clear h
 refine iteB h36 (fun c10 h37 => ?_) (fun c10 h38 => ?_) <;> clear h36
 · obtain rfl := Zad h37
   exact afd fol hE [.d {ds := [(6, {rs := [.one (L.int .i64 x4)], m := 1})], hv := 0, Hs := []}, .c true, .r []] [] 0 [] (aI (Zat.snd c9) c10)
 · obtain ⟨x5, c11, h39⟩ := Zan h38; clear h38
   refine iteB h39 (fun c12 h40 => ?_) (fun c12 h41 => ?_) <;> clear h39
   · obtain rfl := Zad h40
     exact afd fol hE [.d {ds := [(6, {rs := [.one (L.int .i64 x4)], m := 1})], hv := 0, Hs := []}, .c false, .r [(2, {rs := [.one (L.bool x5)], m := 1})], .c true, .r []] [] 0 [] (aI (Zat.snd c9) (aI c10 (aI (Zcg.snd c11) c12)))
   · exact aqd fol [.d {ds := [(6, {rs := [.one (L.int .i64 x4)], m := 1})], hv := 0, Hs := []}, .c false, .r [(2, {rs := [.one (L.bool x5)], m := 1})], .c false, .r [(0, {m := 1})], .r []] [3, 4, 6, 9, 10, 47, 48, 49] [4, 6, 10] (aI (Zat.snd c9) (aI c10 (aI (Zcg.snd c11) c12))) (At.loop N (At.loopN (fun y : LL × Int => Zam.p2.S now_3 chain_1 y.1 y.2 p_0 h_2 st) (fun c J hc y h => Zam.p2_ok now_3 chain_1 y.1 y.2 p_0 h_2 st hE (fun times_15 v6 hh => hc (times_15, v6) hh) h) N ([], 0) h41))
theorem Zam.snd {p_0 : Zac} {chain_1 : LL} {h_2 : Zae} {now_3 : Int} {r : Int} (h : Zam N p_0 chain_1 h_2 now_3 = some r) : SndQ Tryz.prog 18 [.agg p_0.ls, .one (L.sl 68 chain_1), .agg h_2.ls, .one (L.int .i64 now_3)] (Zam.rs r) := fun st =>
 sO Zam.B Tryz.func18 fun g0 w0 R hE => by
  unfold Zam at h
  obtain ⟨x1, c1, h42⟩ := Zan h; clear h
  refine iteB h42 (fun c2 h43 => ?_) (fun c2 h44 => ?_) <;> clear h42
  · obtain rfl := Zad h43
    exact af fol hE [.r [], .r [], .r [(1, {rs := [.one (L.bool x1)], m := 1})], .c true, .r []] [] 0 [] (aI (Zbx.snd c1) c2)
  · refine iteB h44 (fun c3 h45 => ?_) (fun c3 h46 => ?_) <;> clear h44
    · obtain ⟨c4, c5, h47⟩ := ck2 h45; clear h45
      obtain ⟨x2, c6, h48⟩ := Zcf h47; clear h47
      obtain ⟨x3, c7, h49⟩ := Zan h48; clear h48
      refine iteB h49 (fun c8 h50 => ?_) (fun c8 h51 => ?_) <;> clear h49
      · obtain rfl := Zad h50
        exact afd fol hE [.r [], .r [], .r [(1, {rs := [.one (L.bool x1)], m := 1})], .c false, .d {ds := [(9, {oe := x2.ls}), (10, {rs := [.agg [L.arr .u8 32 x3]], m := 1})], hv := 0, Hs := []}, .c true, .r []] [] 0 [] (aI (Zbx.snd c1) (aI c2 (aI c3 (aI c3 (aI c3 (aI c3 (aI c3 (aI c3 (aI c4 (aI c5 (aI c3 (aI c6 (aI c3 (aI (Zcd.snd c7) (aI c3 (aI c3 c8))))))))))))))))
      · exact aqd fol [.r [], .r [], .r [(1, {rs := [.one (L.bool x1)], m := 1})], .c false, .d {ds := [(9, {oe := x2.ls}), (10, {rs := [.agg [L.arr .u8 32 x3]], m := 1})], hv := 0, Hs := []}, .c false, .s 1] [1, 3, 4, 6, 9] [4, 6] (aI (Zbx.snd c1) (aI c2 (aI c3 (aI c3 (aI c3 (aI c3 (aI c3 (aI c3 (aI c4 (aI c5 (aI c3 (aI c6 (aI c3 (aI (Zcd.snd c7) (aI c3 (aI c3 c8)))))))))))))))) (Zam.p1_ok chain_1 now_3 p_0 h_2 st hE h51)
    · exact aqd fol [.r [], .r [], .r [(1, {rs := [.one (L.bool x1)], m := 1})], .c false, .d {ds := [(3, {want := false}), (4, {want := false}), (5, {want := false}), (6, {want := false}), (7, {want := false}), (8, {want := false}), (9, {want := false}), (10, {want := false}), (11, {want := false}), (12, {yes := false})], hv := 0, Hs := []}, .c false, .s 1] [1, 3, 4, 6, 9] [4, 6] (aI (Zbx.snd c1) (aI c2 (aI c3 (aI c3 (aI c3 (aI c3 (aI c3 (aI c3 (aI c3 (aI c3 (aI c3 (aI c3 (eB false))))))))))))) (Zam.p1_ok chain_1 now_3 p_0 h_2 st hE h46)
noncomputable def ZaK.B : Code := Tryz.f3.body.getD .skip
noncomputable def ZaK.rs (r : Bool) : List CV := [.one (L.bool r)]
noncomputable def ZaK.p1 (N : Nat) (chain_1 : LL) (now_3 : Int) (p_0 : Zac) (h_2 : Zae) (c1_ : Int → Option Bool) : Int → Option Bool := fun v3 =>
 if (decide (v3 < (len ([p_0.Genesis.ls] ++ chain_1)))) = true then
  chk (0 ≤ v3) <|
  getE (([p_0.Genesis.ls] ++ chain_1)[0 + (Int.toNat v3)]?) ZbZ fun x4 =>
  optE (Zbx N x4) fun x5 =>
  if (!x5) = true then
   some true
  else
  c1_ (w64 (v3 + 1))
 else
 chk (List.length ([p_0.Genesis.ls] ++ chain_1) * 96 ≤ 140737488355328) <|
 optE (Zbo N p_0 chain_1) fun x6 =>
 optE (Zcj N p_0 x6 h_2 now_3) fun x7 =>
 optE (Zam N p_0 ([p_0.Genesis.ls] ++ chain_1) h_2 now_3) fun x8 =>
 some (x7 == x8)
noncomputable def ZaK (N : Nat) (p_0 : Zac) (chain_1 : LL) (h_2 : Zae) (now_3 : Int) : Option Bool :=
 optE (ZbQ N ) fun x1 =>
 if (!x1) = true then
  some false
 else
 optE (ZbP N p_0 chain_1) fun x2 =>
 if x2 = true then
  some true
 else
 if (decide (now_3 < 0)) = true then
  some true
 else
 chk (List.length ([p_0.Genesis.ls] ++ chain_1) * 96 ≤ 140737488355328) <|
 loopN (ZaK.p1 N chain_1 now_3 p_0 h_2) N 0
noncomputable def ZaK.p1.S (chain_1 : LL) (now_3 : Int) (p_0 : Zac) (v3 : Int) (h_2 : Zae) (st : LL) : S := mkS 53 [(1, .one (.l (L.sl 68 chain_1))), (3, .one (.l (L.int .i64 now_3))), (4, .one (.adr (.site 4) 0)), (6, .one (.adr (.site 6) 0)), (25, .one (.h (.row 23 0) 68 0 (List.length ([p_0.Genesis.ls] ++ chain_1)))), (26, .one (.l (L.int .i64 (len ([p_0.Genesis.ls] ++ chain_1))))), (27, .one (.l (L.int .i64 v3)))] [(4, .cells p_0.ls), (6, .cells h_2.ls), (23, .row 0 true 68 ([p_0.Genesis.ls] ++ chain_1))] st
theorem ZaK.p1_ok (chain_1 : LL) (now_3 : Int) (p_0 : Zac) (v3 : Int) (h_2 : Zae) (st : LL) {r : Bool} {c1_ : Int → Option Bool} {J1 : Act → World → Prop} (hE : En Tryz.f3 g0 w0 (ZaK.rs r) st R) (hc1 : ∀ (v3 : Int), c1_ v3 = some r → At g0 w0 (ZaK.p1.S chain_1 now_3 p_0 v3 h_2 st) J1) (h : ZaK.p1 N chain_1 now_3 p_0 h_2 c1_ v3 = some r) : At g0 w0 (ZaK.p1.S chain_1 now_3 p_0 v3 h_2 st) (XK Tryz.prog R (.c (csub ZaK.B [1, 1, 1, 0, 1, 0, 0]) :: .h J1 :: [.b 0, .c (csub ZaK.B [1, 1, 1, 1])])) := by
 unfold ZaK.p1 at h
 refine iteB h (fun c7 h1 => ?_) (fun c7 h2 => ?_) <;> clear h
 · obtain ⟨c8, h3⟩ := ZaM h1; clear h1
   obtain ⟨x4, c9, h4⟩ := Zcf h3; clear h3
   obtain ⟨x5, c10, h5⟩ := Zan h4; clear h4
   refine iteB h5 (fun c11 h6 => ?_) (fun c11 h7 => ?_) <;> clear h5
   · obtain rfl := Zad h6
     exact af fol hE [.r [], .c true, .r [(1, {oe := x4.ls})], .r [(1, {rs := [.one (L.bool x5)], m := 1})], .c true, .r []] [] 0 [] (aI c7 (aI c8 (aI (oD c7) (aI c9 (aI (Zbx.snd c10) c11)))))
   · exact an fol [.r [], .c true, .r [(1, {oe := x4.ls})], .r [(1, {rs := [.one (L.bool x5)], m := 1})], .c false, .r []] [1, 3, 4, 6, 25, 26, 27] [4, 6, 23] (aI c7 (aI c8 (aI (oD c7) (aI c9 (aI (Zbx.snd c10) c11))))) (hc1 (w64 (v3 + 1)) h7)
 · obtain ⟨c12, h8⟩ := ZaM h2; clear h2
   obtain ⟨x6, c13, h9⟩ := Zan h8; clear h8
   obtain ⟨x7, c14, h10⟩ := Zan h9; clear h9
   obtain ⟨x8, c15, h11⟩ := Zan h10; clear h10
   obtain rfl := Zad h11
   exact afd fol hE [.r [], .c false, .r [], .d {ds := [(3, {rs := [.agg x6.ls], m := 1}), (6, {rs := [.one (L.int .i64 x7)], m := 1}), (11, {rs := [.one (L.int .i64 x8)], m := 2})], hv := 0, Hs := []}] [] 0 [] (aI c7 (aI z0 (aI (eN (1)) (aI c12 (aI (Zbo.snd c13) (aI (Zcj.snd c14) (aI z0 (aI (eN (List.length ([p_0.Genesis.ls] ++ chain_1))) (Zam.snd c15)))))))))
theorem ZaK.snd {p_0 : Zac} {chain_1 : LL} {h_2 : Zae} {now_3 : Int} {r : Bool} (h : ZaK N p_0 chain_1 h_2 now_3 = some r) : SndQ Tryz.prog 3 [.agg p_0.ls, .one (L.sl 68 chain_1), .agg h_2.ls, .one (L.int .i64 now_3)] (ZaK.rs r) := fun st =>
 sO ZaK.B Tryz.func3 fun g0 w0 R hE => by
  unfold ZaK at h
  obtain ⟨x1, c1, h12⟩ := Zan h; clear h
  refine iteB h12 (fun c2 h13 => ?_) (fun c2 h14 => ?_) <;> clear h12
  · obtain rfl := Zad h13
    exact af fol hE [.r [], .r [(0, {rs := [.one (L.bool x1)], m := 1})], .c true, .r []] [] 0 [] (aI (ZbQ.snd c1) c2)
  · obtain ⟨x2, c3, h15⟩ := Zan h14; clear h14
    refine iteB h15 (fun c4 h16 => ?_) (fun c4 h17 => ?_) <;> clear h15
    · obtain rfl := Zad h16
      exact af fol hE [.r [], .r [(0, {rs := [.one (L.bool x1)], m := 1})], .c false, .r [(2, {rs := [.one (L.bool x2)], m := 1}), (4, {want := false}), (5, {want := false})], .c true, .r []] [] 0 [] (aI (ZbQ.snd c1) (aI c2 (aI (ZbP.snd c3) (aI c4 (aI c4 (aI c4 (eB true)))))))
    · refine iteB h17 (fun c5 h18 => ?_) (fun c5 h19 => ?_) <;> clear h17
      · obtain rfl := Zad h18
        exact af fol hE [.r [], .r [(0, {rs := [.one (L.bool x1)], m := 1})], .c false, .r [(2, {rs := [.one (L.bool x2)], m := 1}), (6, {yes := false})], .c true, .r []] [] 0 [] (aI (ZbQ.snd c1) (aI c2 (aI (ZbP.snd c3) (aI c4 (aI c4 (aI c4 c5))))))
      · obtain ⟨c6, h20⟩ := ZaM h19; clear h19
        exact aq fol [.r [], .r [(0, {rs := [.one (L.bool x1)], m := 1})], .c false, .r [(2, {rs := [.one (L.bool x2)], m := 1}), (6, {yes := false})], .c false, .r []] [1, 3, 4, 6, 25, 26, 27] [4, 6, 23] (aI (ZbQ.snd c1) (aI c2 (aI (ZbP.snd c3) (aI c4 (aI c4 (aI c4 (aI c5 (aI z0 (aI (eN (1)) c6))))))))) (At.loop N (At.loopN (fun y : Int => ZaK.p1.S chain_1 now_3 p_0 y h_2 st) (fun c J hc y h => ZaK.p1_ok chain_1 now_3 p_0 y h_2 st hE (fun v3 hh => hc v3 hh) h) N 0 h20))
end Go.Dn.F
