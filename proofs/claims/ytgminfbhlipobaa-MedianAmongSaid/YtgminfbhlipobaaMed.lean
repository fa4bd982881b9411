/- Contracts of functions of the program, as shallow functions, and their proofs. -/
import Derived.Test.YtgminfbhlipobaaProg
import Derived.Test.YtgminfbhlipobaaKc
import Derived.Test.YtgminfbhlipobaaSort
set_option linter.all false
set_option maxRecDepth 100000
namespace Go.Dn.F
open Go.Proofs
noncomputable instance glob : Globs := ⟨fun k => match k with
  | _ => none⟩
theorem fol : Try.prog.follows .mixedOrders = true := by kernel_rfl
noncomputable def dec_i64 {α : Type} (l : List L) (k : Int → Option α) : Option α := match l with
  | [L.int .i64 x0] => k x0
  | _ => none
theorem dec_i64_inv {α : Type} {l : List L} {k : Int → Option α} {r : α} (h : dec_i64 l k = some r) : ∃ x0, l = [L.int .i64 x0] ∧ k x0 = some r := by
  unfold dec_i64 at h; split at h
  · exact ⟨_, rfl, h⟩
  · cases h
noncomputable def dec_o1 {α : Type} (l : List L) (k : (List (List L)) → Option α) : Option α := match l with
  | [L.own true 1 x0] => k x0
  | _ => none
theorem dec_o1_inv {α : Type} {l : List L} {k : (List (List L)) → Option α} {r : α} (h : dec_o1 l k = some r) : ∃ x0, l = [L.own true 1 x0] ∧ k x0 = some r := by
  unfold dec_o1 at h; split at h
  · exact ⟨_, rfl, h⟩
  · cases h
noncomputable def slices_Clone_int.B : Code := Try.f22.body.getD .skip
noncomputable def slices_Clone_int.rs (r : List (List L)) : List CV := [.row true 1 r]
noncomputable def slices_Clone_int (N : Nat) (s_0 : List (List L)) : Option (List (List L)) := chk (List.length s_0 * 8 ≤ 140737488355328) (some s_0)
theorem slices_Clone_int.snd {N : Nat} {s_0 : List (List L)} {r : List (List L)} (h : slices_Clone_int N s_0 = some r) : SndQ Try.prog 22 [.one (.sl 1 s_0)] (slices_Clone_int.rs r) := fun st =>
  Snd.of (fn := Try.f22) (c := slices_Clone_int.B) Try.func22 (by kernel_rfl) (by kernel_rfl) (of_decide_eq_true (by kernel_rfl)) fun g w R hE => by
    unfold slices_Clone_int at h
    obtain ⟨c1, h⟩ := chk_inv h
    obtain rfl := some_inv h
    refine At.q (s' := mkS 8 [(0, .one (.l (.sl 1 s_0)))] [] st) (ks' := [.c (.seq (.region 1 #[{ dst := some 3, op := .move (.tmp 0), type := 23, pos := opPos (csub slices_Clone_int.B [1, 0]) 0, after := #[], guard := none }, { dst := some 4, op := .binOp .eql 23 (.tmp 3) (.const (.slice none 0 0)) 23, type := 4, pos := opPos (csub slices_Clone_int.B [1, 0]) 1, after := #[⟨0, .data⟩], guard := none }] false) (csub slices_Clone_int.B [1, 0, 1])), .c (csub slices_Clone_int.B [1, 1])]) fol 400 [.r [(0, {m := 2})], .s 2] [0] [] trivial ?_ (by kernel_rfl)
    refine At.nilcmp (T := 23) (E := 3) (sz := 1) (xs := s_0) (stepZ_ok _) rfl rfl rfl rfl rfl rfl Try.underlying23 (by kernel_rfl) (of_decide_eq_true (by kernel_rfl)) fun b hb => ?_
    cases b with
    | true =>
      obtain rfl := hb rfl
      exact At.f fol hE 400 [.c true, .r [(0, {m := 2})]] [] 0 [0] (rfl : true = true) (by kernel_rfl)
    | false =>
      exact At.f fol hE 400 [.c false, .r []] [] 0 [0] (And.intro (rfl : false = false) (And.intro (rfl : (0 : Nat) = 0) (And.intro (@rfl Nat (List.length ([] : List (List L)))) (And.intro c1 (And.intro (rfl : (0 : Nat) = 0) (@rfl Nat (List.length s_0))))))) (by kernel_rfl)
theorem slices_Sort_int.snd : SortC Try.prog 23 := slices_Sort_int.holds
/-! trailhead/median.Of -/
noncomputable def median_Of.B : Code := Try.f15.body.getD .skip
noncomputable def median_Of.rs (r : Int) : List CV := [.one (L.int .i64 r)]
noncomputable def median_Of (N : Nat) (times_0 : List (List L)) : Option Int :=
  chk (0 ≤ (if (11 : Int) < ((List.length times_0 : Nat) : Int) then 11 else ((List.length times_0 : Nat) : Int))) <|
  chk ((Int.toNat (if (11 : Int) < ((List.length times_0 : Nat) : Int) then 11 else ((List.length times_0 : Nat) : Int))) ≤ (List.length times_0)) <|
  optE (slices_Clone_int N (List.take (Int.toNat (if (11 : Int) < ((List.length times_0 : Nat) : Int) then 11 else ((List.length times_0 : Nat) : Int))) (List.drop 0 times_0))) fun x1 =>
  if (((List.length x1 : Nat) : Int) == 0) = true then
    some 0
  else
  chk (isI x1 = true) <|
  chk (List.length x1 < 4611686018427387904) <|
  chk (0 ≤ (IntKind.wrap IntKind.i64 (Int.tdiv ((List.length x1 : Nat) : Int) 2))) <|
  chk ((IntKind.wrap IntKind.i64 (Int.tdiv ((List.length x1 : Nat) : Int) 2)) < ((List.length x1 : Nat) : Int)) <|
  optE ((sortR x1)[0 + (Int.toNat (IntKind.wrap IntKind.i64 (Int.tdiv ((List.length x1 : Nat) : Int) 2)))]?) fun e => dec_i64 e fun x2 =>
  some x2
theorem median_Of.at0 (times_0 : List (List L)) (st : List (List L)) {N : Nat} {r : Int} {g0 : G} {w0 : World} {R : Exit → Act → World → Prop} (hE : Ends Try.prog Try.f15 g0 w0 (median_Of.rs r) st R) (h : median_Of N times_0 = some r) : At g0 w0 (S.enter 21 [.one (L.sl 1 times_0)] st) (exK Try.prog R [.c median_Of.B] .normal) := by
  unfold median_Of at h
  obtain ⟨c1, h1⟩ := chk_inv h; clear h
  obtain ⟨c2, h2⟩ := chk_inv h1; clear h1
  obtain ⟨x1, c3, h3⟩ := optE_inv h2; clear h2
  refine iteB h3 (fun c4 h4 => ?_) (fun c4 h5 => ?_) <;> clear h3
  · obtain rfl := some_inv h4
    exact At.f fol hE 400 [.r [], .r [(5, {rs := [.row true 1 x1], ns := [9], m := 1})], .r [], .c true, .r []] [] 0 [] (And.intro c1 (And.intro (Nat.zero_le (Int.toNat (if (11 : Int) < ((List.length times_0 : Nat) : Int) then 11 else ((List.length times_0 : Nat) : Int)))) (And.intro c2 (And.intro (slices_Clone_int.snd c3) c4)))) (by kernel_rfl)
  · obtain ⟨c5, h6⟩ := chk_inv h5; clear h5
    obtain ⟨c6, h7⟩ := chk_inv h6; clear h6
    obtain ⟨c7, h8⟩ := chk_inv h7; clear h7
    obtain ⟨c8, h9⟩ := chk_inv h8; clear h8
    obtain ⟨h12, c9, h10⟩ := optE_inv h9; clear h9
    obtain ⟨x2, rfl, h11⟩ := dec_i64_inv h10; clear h10
    obtain rfl := some_inv h11
    exact At.f fol hE 400 [.r [], .r [(5, {rs := [.row true 1 x1], ns := [9], m := 1})], .r [], .c false, .r [(1, {m := 7})], .r [(5, {oe := [L.int .i64 x2]})]] [] 0 [] (And.intro c1 (And.intro (Nat.zero_le (Int.toNat (if (11 : Int) < ((List.length times_0 : Nat) : Int) then 11 else ((List.length times_0 : Nat) : Int)))) (And.intro c2 (And.intro (slices_Clone_int.snd c3) (And.intro c4 (And.intro (rfl : (0 : Nat) = 0) (And.intro (@rfl _ (List.length x1) : (List.length x1) = (List.length x1)) (And.intro c5 (And.intro c6 (And.intro slices_Sort_int.snd (And.intro (by decide : (2 : Int) ≠ 0) (And.intro c7 (And.intro c8 c9))))))))))))) (by kernel_rfl)
theorem median_Of.snd {N : Nat} {times_0 : List (List L)} {r : Int} (h : median_Of N times_0 = some r) : SndQ Try.prog 15 [.one (L.sl 1 times_0)] (median_Of.rs r) := fun st =>
  Snd.of (fn := Try.f15) (c := median_Of.B) Try.func15 (by kernel_rfl) (by kernel_rfl) (of_decide_eq_true (by kernel_rfl)) fun g w R hE => median_Of.at0 times_0 st hE h
/-! trailhead/median.Late -/
noncomputable def median_Late.B : Code := Try.f16.body.getD .skip
noncomputable def median_Late.rs (r : Bool) : List CV := [.one (L.bool r)]
noncomputable def median_Late (N : Nat) (time_0 : Int) (times_1 : List (List L)) : Option Bool :=
  if (((List.length times_1 : Nat) : Int) == 0) = true then
    some true
  else
  optE (median_Of N times_1) fun x1 =>
  some (decide (time_0 > x1))
theorem median_Late.at0 (time_0 : Int) (times_1 : List (List L)) (st : List (List L)) {N : Nat} {r : Bool} {g0 : G} {w0 : World} {R : Exit → Act → World → Prop} (hE : Ends Try.prog Try.f16 g0 w0 (median_Late.rs r) st R) (h : median_Late N time_0 times_1 = some r) : At g0 w0 (S.enter 14 [.one (L.int .i64 time_0), .one (L.sl 1 times_1)] st) (exK Try.prog R [.c median_Late.B] .normal) := by
  unfold median_Late at h
  refine iteB h (fun c1 h1 => ?_) (fun c1 h2 => ?_) <;> clear h
  · obtain rfl := some_inv h1
    exact At.f fol hE 400 [.r [], .r [(4, {want := false}), (5, {want := false}), (6, {want := false}), (7, {want := false})]] [] 0 [] (And.intro c1 (And.intro c1 (And.intro c1 (And.intro c1 c1)))) (by kernel_rfl)
  · obtain ⟨x1, c2, h3⟩ := optE_inv h2; clear h2
    obtain rfl := some_inv h3
    exact At.f fol hE 400 [.r [], .r [(6, {rs := [.one (L.int .i64 x1)], m := 1}), (8, {yes := false})]] [] 0 [] (And.intro c1 (And.intro c1 (And.intro c1 (And.intro (median_Of.snd c2) (And.intro c1 c1))))) (by kernel_rfl)
theorem median_Late.snd {N : Nat} {time_0 : Int} {times_1 : List (List L)} {r : Bool} (h : median_Late N time_0 times_1 = some r) : SndQ Try.prog 16 [.one (L.int .i64 time_0), .one (L.sl 1 times_1)] (median_Late.rs r) := fun st =>
  Snd.of (fn := Try.f16) (c := median_Late.B) Try.func16 (by kernel_rfl) (by kernel_rfl) (of_decide_eq_true (by kernel_rfl)) fun g w R hE => median_Late.at0 time_0 times_1 st hE h
/-! trailhead/median.Near -/
noncomputable def median_Near.B : Code := Try.f17.body.getD .skip
noncomputable def median_Near.rs (r : Bool) : List CV := [.one (L.bool r)]
noncomputable def median_Near (N : Nat) (time_0 : Int) (now_1 : Int) (future_2 : Int) : Option Bool :=
  if (decide (future_2 ≥ 0)) = true then
    if (decide (time_0 ≤ now_1)) = true then
      some true
    else
    some (decide ((IntKind.wrap IntKind.i64 (time_0 - now_1)) ≤ future_2))
  else
  some false
theorem median_Near.at0 (time_0 : Int) (now_1 : Int) (future_2 : Int) (st : List (List L)) {N : Nat} {r : Bool} {g0 : G} {w0 : World} {R : Exit → Act → World → Prop} (hE : Ends Try.prog Try.f17 g0 w0 (median_Near.rs r) st R) (h : median_Near N time_0 now_1 future_2 = some r) : At g0 w0 (S.enter 21 [.one (L.int .i64 time_0), .one (L.int .i64 now_1), .one (L.int .i64 future_2)] st) (exK Try.prog R [.c median_Near.B] .normal) := by
  unfold median_Near at h
  refine iteB h (fun c1 h1 => ?_) (fun c1 h2 => ?_) <;> clear h
  · refine iteB h1 (fun c2 h3 => ?_) (fun c2 h4 => ?_) <;> clear h1
    · obtain rfl := some_inv h3
      exact At.f fol hE 400 [.r [], .r [(7, {want := false}), (8, {want := false}), (9, {want := false}), (10, {want := false}), (11, {want := false})]] [] 0 [] (And.intro c1 (And.intro c1 (And.intro c1 (And.intro c1 (And.intro c2 (And.intro c2 (And.intro c2 (And.intro c2 (And.intro c2 (And.intro c1 (And.intro c2 c1))))))))))) (by kernel_rfl)
    · obtain rfl := some_inv h4
      exact At.f fol hE 400 [.r [], .r [(12, {yes := false})]] [] 0 [] (And.intro c1 (And.intro c1 (And.intro c1 (And.intro c1 (And.intro c2 (And.intro c2 (And.intro c2 (And.intro c2 (And.intro c2 (And.intro c1 (And.intro c2 c1))))))))))) (by kernel_rfl)
  · obtain rfl := some_inv h2
    exact At.f fol hE 400 [.r [], .r [(3, {want := false}), (4, {want := false}), (5, {want := false}), (6, {want := false}), (12, {want := false}), (13, {yes := false})]] [] 0 [] (And.intro c1 (And.intro c1 (And.intro c1 (And.intro c1 (And.intro c1 c1))))) (by kernel_rfl)
theorem median_Near.snd {N : Nat} {time_0 : Int} {now_1 : Int} {future_2 : Int} {r : Bool} (h : median_Near N time_0 now_1 future_2 = some r) : SndQ Try.prog 17 [.one (L.int .i64 time_0), .one (L.int .i64 now_1), .one (L.int .i64 future_2)] (median_Near.rs r) := fun st =>
  Snd.of (fn := Try.f17) (c := median_Near.B) Try.func17 (by kernel_rfl) (by kernel_rfl) (of_decide_eq_true (by kernel_rfl)) fun g w R hE => median_Near.at0 time_0 now_1 future_2 st hE h
/-! trailhead/trailheadlaw09.alive -/
noncomputable def Tlaw09_alive.B : Code := Try.f13.body.getD .skip
noncomputable def Tlaw09_alive.rs (r : Bool) : List CV := [.one (L.bool r)]
noncomputable def Tlaw09_alive (N : Nat)  : Option Bool :=
  chk (3 ≤ (List.length [[L.int .i64 5], [L.int .i64 1], [L.int .i64 3]])) <|
  optE (median_Of N (List.take 3 [[L.int .i64 5], [L.int .i64 1], [L.int .i64 3]])) fun x1 =>
  if (x1 == 3) = true then
    optE (median_Late N 4 (List.take 3 [[L.int .i64 5], [L.int .i64 1], [L.int .i64 3]])) fun x2 =>
    if x2 = true then
      optE (median_Near N 5 3 2) fun x3 =>
      some x3
    else
    some false
  else
  some false
theorem Tlaw09_alive.at0 (st : List (List L)) {N : Nat} {r : Bool} {g0 : G} {w0 : World} {R : Exit → Act → World → Prop} (hE : Ends Try.prog Try.f13 g0 w0 (Tlaw09_alive.rs r) st R) (h : Tlaw09_alive N  = some r) : At g0 w0 (S.enter 11 [] st) (exK Try.prog R [.c Tlaw09_alive.B] .normal) := by
  unfold Tlaw09_alive at h
  obtain ⟨c1, h1⟩ := chk_inv h; clear h
  obtain ⟨x1, c2, h2⟩ := optE_inv h1; clear h1
  refine iteB h2 (fun c3 h3 => ?_) (fun c3 h4 => ?_) <;> clear h2
  · obtain ⟨x2, c4, h5⟩ := optE_inv h3; clear h3
    refine iteB h5 (fun c5 h6 => ?_) (fun c5 h7 => ?_) <;> clear h5
    · obtain ⟨x3, c6, h8⟩ := optE_inv h6; clear h6
      obtain rfl := some_inv h8
      exact At.f fol hE 400 [.r [], .r [(1, {rs := [.one (L.int .i64 x1)], m := 2, wm := 2}), (5, {rs := [.one (L.bool x2)], m := 2, wm := 2}), (8, {rs := [.one (L.bool x3)], m := 1})]] [] 0 [] (And.intro (rfl : (0 : Nat) = 0) (And.intro c1 (And.intro (median_Of.snd c2) (And.intro c3 (And.intro c3 (And.intro (rfl : (0 : Nat) = 0) (And.intro c1 (And.intro (median_Late.snd c4) (And.intro c3 (And.intro c5 (And.intro (median_Near.snd c6) c5))))))))))) (by kernel_rfl)
    · obtain rfl := some_inv h7
      exact At.f fol hE 400 [.r [], .r [(1, {rs := [.one (L.int .i64 x1)], m := 2, wm := 2}), (5, {rs := [.one (L.bool x2)], m := 2, wm := 2}), (8, {want := false}), (9, {yes := false})]] [] 0 [] (And.intro (rfl : (0 : Nat) = 0) (And.intro c1 (And.intro (median_Of.snd c2) (And.intro c3 (And.intro c3 (And.intro (rfl : (0 : Nat) = 0) (And.intro c1 (And.intro (median_Late.snd c4) (And.intro c3 (And.intro c5 c5)))))))))) (by kernel_rfl)
  · obtain rfl := some_inv h4
    exact At.f fol hE 400 [.r [], .r [(1, {rs := [.one (L.int .i64 x1)], m := 2, wm := 2}), (4, {want := false}), (5, {want := false}), (6, {yes := false}), (8, {want := false}), (9, {yes := false})]] [] 0 [] (And.intro (rfl : (0 : Nat) = 0) (And.intro c1 (And.intro (median_Of.snd c2) (And.intro c3 (And.intro c3 (And.intro c3 (And.intro (rfl : false = false) (rfl : false = false)))))))) (by kernel_rfl)
theorem Tlaw09_alive.snd {N : Nat}  {r : Bool} (h : Tlaw09_alive N  = some r) : SndQ Try.prog 13 [] (Tlaw09_alive.rs r) := fun st =>
  Snd.of (fn := Try.f13) (c := Tlaw09_alive.B) Try.func13 (by kernel_rfl) (by kernel_rfl) (of_decide_eq_true (by kernel_rfl)) fun g w R hE => Tlaw09_alive.at0 st hE h
/-! trailhead/trailheadref09.Of -/
noncomputable def Tref09_Of.B : Code := Try.f14.body.getD .skip
noncomputable def Tref09_Of.rs (r : Int) : List CV := [.one (L.int .i64 r)]
noncomputable def Tref09_Of.p4 (N : Nat) (c2_ : (Int × Int × Int) → Option Int) (c1_ : Int → Option Int) (times_0 : List (List L)) (i_1 : Int) (less_7 : Int) (same_10 : Int) (j_4 : Int) : Option Int :=
  c2_ (less_7, same_10, IntKind.wrap IntKind.i64 (j_4 + 1))
noncomputable def Tref09_Of.p3 (N : Nat) (c2_ : (Int × Int × Int) → Option Int) (c1_ : Int → Option Int) (times_0 : List (List L)) (i_1 : Int) (less_7 : Int) (same_3 : Int) (j_4 : Int) : Option Int :=
  chk (0 ≤ j_4) <|
  chk (j_4 < ((List.length times_0 : Nat) : Int)) <|
  optE (times_0[Int.toNat j_4]?) fun e => dec_i64 e fun x8 =>
  chk (0 ≤ i_1) <|
  chk (i_1 < ((List.length times_0 : Nat) : Int)) <|
  optE (times_0[Int.toNat i_1]?) fun e => dec_i64 e fun x9 =>
  if (x8 == x9) = true then
    Tref09_Of.p4 N c2_ c1_ times_0 i_1 less_7 (IntKind.wrap IntKind.i64 (same_3 + 1)) j_4
  else
  Tref09_Of.p4 N c2_ c1_ times_0 i_1 less_7 same_3 j_4
noncomputable def Tref09_Of.p2 (N : Nat) (c1_ : Int → Option Int) (times_0 : List (List L)) (i_1 : Int) (c2_ : (Int × Int × Int) → Option Int) : (Int × Int × Int) → Option Int := fun (less_2, same_3, j_4) =>
  if (decide (j_4 < (if (11 : Int) < ((List.length times_0 : Nat) : Int) then 11 else ((List.length times_0 : Nat) : Int)))) = true then
    chk (0 ≤ j_4) <|
    chk (j_4 < ((List.length times_0 : Nat) : Int)) <|
    optE (times_0[Int.toNat j_4]?) fun e => dec_i64 e fun x5 =>
    chk (0 ≤ i_1) <|
    chk (i_1 < ((List.length times_0 : Nat) : Int)) <|
    optE (times_0[Int.toNat i_1]?) fun e => dec_i64 e fun x6 =>
    if (decide (x5 < x6)) = true then
      Tref09_Of.p3 N c2_ c1_ times_0 i_1 (IntKind.wrap IntKind.i64 (less_2 + 1)) same_3 j_4
    else
    Tref09_Of.p3 N c2_ c1_ times_0 i_1 less_2 same_3 j_4
  else
  if (decide (less_2 ≤ (IntKind.wrap IntKind.i64 (Int.tdiv (if (11 : Int) < ((List.length times_0 : Nat) : Int) then 11 else ((List.length times_0 : Nat) : Int)) 2)))) = true then
    if (decide ((IntKind.wrap IntKind.i64 (Int.tdiv (if (11 : Int) < ((List.length times_0 : Nat) : Int) then 11 else ((List.length times_0 : Nat) : Int)) 2)) < (IntKind.wrap IntKind.i64 (less_2 + same_3)))) = true then
      chk (0 ≤ i_1) <|
      chk (i_1 < ((List.length times_0 : Nat) : Int)) <|
      optE (times_0[Int.toNat i_1]?) fun e => dec_i64 e fun x11 =>
      some x11
    else
    c1_ (IntKind.wrap IntKind.i64 (i_1 + 1))
  else
  c1_ (IntKind.wrap IntKind.i64 (i_1 + 1))
noncomputable def Tref09_Of.p1 (N : Nat)  (times_0 : List (List L)) (c1_ : Int → Option Int) : Int → Option Int := fun i_1 =>
  if (decide (i_1 < (if (11 : Int) < ((List.length times_0 : Nat) : Int) then 11 else ((List.length times_0 : Nat) : Int)))) = true then
    loopN (Tref09_Of.p2 N c1_ times_0 i_1) N (0, 0, 0)
  else
  some 0
noncomputable def Tref09_Of (N : Nat) (times_0 : List (List L)) : Option Int :=
  loopN (Tref09_Of.p1 N  times_0) N 0
noncomputable def Tref09_Of.p4.S (times_0 : List (List L)) (i_1 : Int) (less_7 : Int) (same_10 : Int) (j_4 : Int) (st : List (List L)) : S := mkS 59 [(0, .one (.l (L.sl 1 times_0))), (3, .one (.l (L.int .i64 (if (11 : Int) < ((List.length times_0 : Nat) : Int) then 11 else ((List.length times_0 : Nat) : Int))))), (4, .one (.l (L.int .i64 i_1))), (5, .one (.l (L.int .i64 less_7))), (6, .one (.l (L.int .i64 same_10))), (7, .one (.l (L.int .i64 j_4)))] [] st
noncomputable def Tref09_Of.p3.S (times_0 : List (List L)) (i_1 : Int) (less_7 : Int) (same_3 : Int) (j_4 : Int) (st : List (List L)) : S := mkS 59 [(0, .one (.l (L.sl 1 times_0))), (3, .one (.l (L.int .i64 (if (11 : Int) < ((List.length times_0 : Nat) : Int) then 11 else ((List.length times_0 : Nat) : Int))))), (4, .one (.l (L.int .i64 i_1))), (5, .one (.l (L.int .i64 less_7))), (6, .one (.l (L.int .i64 same_3))), (7, .one (.l (L.int .i64 j_4)))] [] st
noncomputable def Tref09_Of.p2.S (times_0 : List (List L)) (i_1 : Int) (less_2 : Int) (same_3 : Int) (j_4 : Int) (st : List (List L)) : S := mkS 59 [(0, .one (.l (L.sl 1 times_0))), (3, .one (.l (L.int .i64 (if (11 : Int) < ((List.length times_0 : Nat) : Int) then 11 else ((List.length times_0 : Nat) : Int))))), (4, .one (.l (L.int .i64 i_1))), (5, .one (.l (L.int .i64 less_2))), (6, .one (.l (L.int .i64 same_3))), (7, .one (.l (L.int .i64 j_4)))] [] st
noncomputable def Tref09_Of.p1.S (times_0 : List (List L)) (i_1 : Int) (st : List (List L)) : S := mkS 59 [(0, .one (.l (L.sl 1 times_0))), (3, .one (.l (L.int .i64 (if (11 : Int) < ((List.length times_0 : Nat) : Int) then 11 else ((List.length times_0 : Nat) : Int))))), (4, .one (.l (L.int .i64 i_1)))] [] st
theorem Tref09_Of.p4_ok (times_0 : List (List L)) (i_1 : Int) (less_7 : Int) (same_10 : Int) (j_4 : Int) (st : List (List L)) {N : Nat} {r : Int} {g0 : G} {w0 : World} {R : Exit → Act → World → Prop} {c2_ : (Int × Int × Int) → Option Int} {c1_ : Int → Option Int} {J2 : Act → World → Prop} {J1 : Act → World → Prop} (hE : Ends Try.prog Try.f14 g0 w0 (Tref09_Of.rs r) st R) (hc2 : ∀ (less_2 : Int) (same_3 : Int) (j_4 : Int), c2_ (less_2, same_3, j_4) = some r → At g0 w0 (Tref09_Of.p2.S times_0 i_1 less_2 same_3 j_4 st) J2) (hc1 : ∀ (i_1 : Int), c1_ i_1 = some r → At g0 w0 (Tref09_Of.p1.S times_0 i_1 st) J1) (h : Tref09_Of.p4 N c2_ c1_ times_0 i_1 less_7 same_10 j_4 = some r) : At g0 w0 (Tref09_Of.p4.S times_0 i_1 less_7 same_10 j_4 st) (exK Try.prog R [.c (csub Tref09_Of.B [1, 1, 0, 1, 0, 0, 1, 0, 0, 1, 1, 0, 1, 0, 0, 1, 1]), .h J2, .b 2, .c (csub Tref09_Of.B [1, 1, 0, 1, 0, 0, 1, 0, 0, 1, 1, 1]), .b 1, .c (csub Tref09_Of.B [1, 1, 0, 1, 0, 0, 1, 1]), .h J1, .b 0, .c (csub Tref09_Of.B [1, 1, 1])] .normal) := by
  unfold Tref09_Of.p4 at h
  exact At.n fol 400 [.r []] [0, 3, 4, 5, 6, 7] [] trivial (hc2 less_7 same_10 (IntKind.wrap IntKind.i64 (j_4 + 1)) h) (by kernel_rfl)
theorem Tref09_Of.p3_ok (times_0 : List (List L)) (i_1 : Int) (less_7 : Int) (same_3 : Int) (j_4 : Int) (st : List (List L)) {N : Nat} {r : Int} {g0 : G} {w0 : World} {R : Exit → Act → World → Prop} {c2_ : (Int × Int × Int) → Option Int} {c1_ : Int → Option Int} {J2 : Act → World → Prop} {J1 : Act → World → Prop} (hE : Ends Try.prog Try.f14 g0 w0 (Tref09_Of.rs r) st R) (hc2 : ∀ (less_2 : Int) (same_3 : Int) (j_4 : Int), c2_ (less_2, same_3, j_4) = some r → At g0 w0 (Tref09_Of.p2.S times_0 i_1 less_2 same_3 j_4 st) J2) (hc1 : ∀ (i_1 : Int), c1_ i_1 = some r → At g0 w0 (Tref09_Of.p1.S times_0 i_1 st) J1) (h : Tref09_Of.p3 N c2_ c1_ times_0 i_1 less_7 same_3 j_4 = some r) : At g0 w0 (Tref09_Of.p3.S times_0 i_1 less_7 same_3 j_4 st) (exK Try.prog R [.c (csub Tref09_Of.B [1, 1, 0, 1, 0, 0, 1, 0, 0, 1, 1, 0, 1, 0, 0, 1, 0, 0, 1]), .b 3, .c (csub Tref09_Of.B [1, 1, 0, 1, 0, 0, 1, 0, 0, 1, 1, 0, 1, 0, 0, 1, 1]), .h J2, .b 2, .c (csub Tref09_Of.B [1, 1, 0, 1, 0, 0, 1, 0, 0, 1, 1, 1]), .b 1, .c (csub Tref09_Of.B [1, 1, 0, 1, 0, 0, 1, 1]), .h J1, .b 0, .c (csub Tref09_Of.B [1, 1, 1])] .normal) := by
  unfold Tref09_Of.p3 at h
  obtain ⟨c10, h1⟩ := chk_inv h; clear h
  obtain ⟨c11, h2⟩ := chk_inv h1; clear h1
  obtain ⟨h5, c12, h3⟩ := optE_inv h2; clear h2
  obtain ⟨x8, rfl, h4⟩ := dec_i64_inv h3; clear h3
  obtain ⟨c13, h6⟩ := chk_inv h4; clear h4
  obtain ⟨c14, h7⟩ := chk_inv h6; clear h6
  obtain ⟨h10, c15, h8⟩ := optE_inv h7; clear h7
  obtain ⟨x9, rfl, h9⟩ := dec_i64_inv h8; clear h8
  refine iteB h9 (fun c16 h11 => ?_) (fun c16 h12 => ?_) <;> clear h9
  · exact At.qd fol 400 [.d {ds := [(3, {oe := [L.int .i64 x8]}), (7, {oe := [L.int .i64 x9]})], hv := 0, Hs := []}, .c true, .r [], .s 9] [0, 3, 4, 5, 6, 7] [] (And.intro c10 (And.intro c11 (And.intro c12 (And.intro c13 (And.intro c14 (And.intro c15 c16)))))) (Tref09_Of.p4_ok times_0 i_1 less_7 (IntKind.wrap IntKind.i64 (same_3 + 1)) j_4 st hE hc2 hc1 h11) (by kernel_rfl) (by kernel_rfl)
  · exact At.qd fol 400 [.d {ds := [(3, {oe := [L.int .i64 x8]}), (7, {oe := [L.int .i64 x9]})], hv := 0, Hs := []}, .c false, .s 9] [0, 3, 4, 5, 6, 7] [] (And.intro c10 (And.intro c11 (And.intro c12 (And.intro c13 (And.intro c14 (And.intro c15 c16)))))) (Tref09_Of.p4_ok times_0 i_1 less_7 same_3 j_4 st hE hc2 hc1 h12) (by kernel_rfl) (by kernel_rfl)
theorem Tref09_Of.p2_ok (times_0 : List (List L)) (i_1 : Int) (less_2 : Int) (same_3 : Int) (j_4 : Int) (st : List (List L)) {N : Nat} {r : Int} {g0 : G} {w0 : World} {R : Exit → Act → World → Prop} {c1_ : Int → Option Int} {c2_ : (Int × Int × Int) → Option Int} {J1 : Act → World → Prop} {J2 : Act → World → Prop} (hE : Ends Try.prog Try.f14 g0 w0 (Tref09_Of.rs r) st R) (hc1 : ∀ (i_1 : Int), c1_ i_1 = some r → At g0 w0 (Tref09_Of.p1.S times_0 i_1 st) J1) (hc2 : ∀ (less_2 : Int) (same_3 : Int) (j_4 : Int), c2_ (less_2, same_3, j_4) = some r → At g0 w0 (Tref09_Of.p2.S times_0 i_1 less_2 same_3 j_4 st) J2) (h : Tref09_Of.p2 N c1_ times_0 i_1 c2_ (less_2, same_3, j_4) = some r) : At g0 w0 (Tref09_Of.p2.S times_0 i_1 less_2 same_3 j_4 st) (exK Try.prog R (.c (csub Tref09_Of.B [1, 1, 0, 1, 0, 0, 1, 0, 0, 1, 1, 0, 1, 0, 0]) :: .h J2 :: [.b 2, .c (csub Tref09_Of.B [1, 1, 0, 1, 0, 0, 1, 0, 0, 1, 1, 1]), .b 1, .c (csub Tref09_Of.B [1, 1, 0, 1, 0, 0, 1, 1]), .h J1, .b 0, .c (csub Tref09_Of.B [1, 1, 1])]) .normal) := by
  unfold Tref09_Of.p2 at h
  refine iteB h (fun c2 h13 => ?_) (fun c2 h14 => ?_) <;> clear h
  · obtain ⟨c3, h15⟩ := chk_inv h13; clear h13
    obtain ⟨c4, h16⟩ := chk_inv h15; clear h15
    obtain ⟨h19, c5, h17⟩ := optE_inv h16; clear h16
    obtain ⟨x5, rfl, h18⟩ := dec_i64_inv h17; clear h17
    obtain ⟨c6, h20⟩ := chk_inv h18; clear h18
    obtain ⟨c7, h21⟩ := chk_inv h20; clear h20
    obtain ⟨h24, c8, h22⟩ := optE_inv h21; clear h21
    obtain ⟨x6, rfl, h23⟩ := dec_i64_inv h22; clear h22
    refine iteB h23 (fun c9 h25 => ?_) (fun c9 h26 => ?_) <;> clear h23
    · exact At.qd fol 400 [.r [], .c true, .d {ds := [(3, {oe := [L.int .i64 x5]}), (7, {oe := [L.int .i64 x6]})], hv := 0, Hs := []}, .c true, .r [], .s 11] [0, 3, 4, 5, 6, 7] [] (And.intro c2 (And.intro c3 (And.intro c4 (And.intro c5 (And.intro c6 (And.intro c7 (And.intro c8 c9))))))) (Tref09_Of.p3_ok times_0 i_1 (IntKind.wrap IntKind.i64 (less_2 + 1)) same_3 j_4 st hE hc2 hc1 h25) (by kernel_rfl) (by kernel_rfl)
    · exact At.qd fol 400 [.r [], .c true, .d {ds := [(3, {oe := [L.int .i64 x5]}), (7, {oe := [L.int .i64 x6]})], hv := 0, Hs := []}, .c false, .s 11] [0, 3, 4, 5, 6, 7] [] (And.intro c2 (And.intro c3 (And.intro c4 (And.intro c5 (And.intro c6 (And.intro c7 (And.intro c8 c9))))))) (Tref09_Of.p3_ok times_0 i_1 less_2 same_3 j_4 st hE hc2 hc1 h26) (by kernel_rfl) (by kernel_rfl)
  · refine iteB h14 (fun c17 h27 => ?_) (fun c17 h28 => ?_) <;> clear h14
    · refine iteB h27 (fun c18 h29 => ?_) (fun c18 h30 => ?_) <;> clear h27
      · obtain ⟨c19, h31⟩ := chk_inv h29; clear h29
        obtain ⟨c20, h32⟩ := chk_inv h31; clear h31
        obtain ⟨h35, c21, h33⟩ := optE_inv h32; clear h32
        obtain ⟨x11, rfl, h34⟩ := dec_i64_inv h33; clear h33
        obtain rfl := some_inv h34
        exact At.f fol hE 400 [.r [], .c false, .r [], .c true, .r [(3, {oe := [L.int .i64 x11]})]] [] 0 [] (And.intro c2 (And.intro (by decide : (2 : Int) ≠ 0) (And.intro c17 (And.intro c17 (And.intro (by decide : (2 : Int) ≠ 0) (And.intro c17 (And.intro c17 (And.intro c17 (And.intro c17 (And.intro c17 (And.intro c18 (And.intro c19 (And.intro c20 c21))))))))))))) (by kernel_rfl)
      · exact At.n fol 400 [.r [], .c false, .r [], .c false, .r []] [0, 3, 4] [] (And.intro c2 (And.intro (by decide : (2 : Int) ≠ 0) (And.intro c17 (And.intro c17 (And.intro (by decide : (2 : Int) ≠ 0) (And.intro c17 (And.intro c17 (And.intro c17 (And.intro c17 (And.intro c17 c18)))))))))) (hc1 (IntKind.wrap IntKind.i64 (i_1 + 1)) h30) (by kernel_rfl)
    · exact At.n fol 400 [.r [], .c false, .r [(5, {want := false}), (6, {want := false}), (7, {want := false}), (8, {want := false}), (9, {want := false}), (10, {want := false}), (11, {yes := false})], .c false, .r []] [0, 3, 4] [] (And.intro c2 (And.intro (by decide : (2 : Int) ≠ 0) (And.intro c17 (And.intro c17 (And.intro c17 (And.intro c17 (And.intro c17 (And.intro c17 (And.intro c17 (rfl : false = false)))))))))) (hc1 (IntKind.wrap IntKind.i64 (i_1 + 1)) h28) (by kernel_rfl)
theorem Tref09_Of.p2_loop (times_0 : List (List L)) (i_1 : Int) (less_2 : Int) (same_3 : Int) (j_4 : Int) (st : List (List L)) {N : Nat} {r : Int} {g0 : G} {w0 : World} {R : Exit → Act → World → Prop} {c1_ : Int → Option Int} {J1 : Act → World → Prop} (hE : Ends Try.prog Try.f14 g0 w0 (Tref09_Of.rs r) st R) (hc1 : ∀ (i_1 : Int), c1_ i_1 = some r → At g0 w0 (Tref09_Of.p1.S times_0 i_1 st) J1) (h : loopN (Tref09_Of.p2 N c1_ times_0 i_1) N (less_2, same_3, j_4) = some r) : At g0 w0 (Tref09_Of.p2.S times_0 i_1 less_2 same_3 j_4 st) (exK Try.prog R (.c (.loop (csub Tref09_Of.B [1, 1, 0, 1, 0, 0, 1, 0, 0, 1, 1, 0, 1, 0, 0])) :: [.b 2, .c (csub Tref09_Of.B [1, 1, 0, 1, 0, 0, 1, 0, 0, 1, 1, 1]), .b 1, .c (csub Tref09_Of.B [1, 1, 0, 1, 0, 0, 1, 1]), .h J1, .b 0, .c (csub Tref09_Of.B [1, 1, 1])]) .normal) :=
  At.loop N (At.loopN (fun y : Int × Int × Int => Tref09_Of.p2.S times_0 i_1 y.1 y.2.1 y.2.2 st) (fun c J hc y h => Tref09_Of.p2_ok times_0 i_1 y.1 y.2.1 y.2.2 st hE hc1 (fun less_2 same_3 j_4 hh => hc (less_2, same_3, j_4) hh) h) N (less_2, same_3, j_4) h)
theorem Tref09_Of.p1_ok (times_0 : List (List L)) (i_1 : Int) (st : List (List L)) {N : Nat} {r : Int} {g0 : G} {w0 : World} {R : Exit → Act → World → Prop}  {c1_ : Int → Option Int}  {J1 : Act → World → Prop} (hE : Ends Try.prog Try.f14 g0 w0 (Tref09_Of.rs r) st R)  (hc1 : ∀ (i_1 : Int), c1_ i_1 = some r → At g0 w0 (Tref09_Of.p1.S times_0 i_1 st) J1) (h : Tref09_Of.p1 N  times_0 c1_ i_1 = some r) : At g0 w0 (Tref09_Of.p1.S times_0 i_1 st) (exK Try.prog R (.c (csub Tref09_Of.B [1, 1, 0, 1, 0, 0]) :: .h J1 :: [.b 0, .c (csub Tref09_Of.B [1, 1, 1])]) .normal) := by
  unfold Tref09_Of.p1 at h
  refine iteB h (fun c1 h36 => ?_) (fun c1 h37 => ?_) <;> clear h
  · exact At.q fol 400 [.r [], .c true, .r [], .r [], .r []] [0, 3, 4, 5, 6, 7] [] c1 (Tref09_Of.p2_loop times_0 i_1 0 0 0 st hE hc1 h36) (by kernel_rfl)
  · obtain rfl := some_inv h37
    exact At.f fol hE 400 [.r [], .c false, .r []] [] 0 [] c1 (by kernel_rfl)
theorem Tref09_Of.p1_loop (times_0 : List (List L)) (i_1 : Int) (st : List (List L)) {N : Nat} {r : Int} {g0 : G} {w0 : World} {R : Exit → Act → World → Prop}   (hE : Ends Try.prog Try.f14 g0 w0 (Tref09_Of.rs r) st R)  (h : loopN (Tref09_Of.p1 N  times_0) N i_1 = some r) : At g0 w0 (Tref09_Of.p1.S times_0 i_1 st) (exK Try.prog R (.c (.loop (csub Tref09_Of.B [1, 1, 0, 1, 0, 0])) :: [.b 0, .c (csub Tref09_Of.B [1, 1, 1])]) .normal) :=
  At.loop N (At.loopN (fun y : Int => Tref09_Of.p1.S times_0 y st) (fun c J hc y h => Tref09_Of.p1_ok times_0 y st hE  (fun i_1 hh => hc i_1 hh) h) N i_1 h)
theorem Tref09_Of.at0 (times_0 : List (List L)) (st : List (List L)) {N : Nat} {r : Int} {g0 : G} {w0 : World} {R : Exit → Act → World → Prop} (hE : Ends Try.prog Try.f14 g0 w0 (Tref09_Of.rs r) st R) (h : Tref09_Of N times_0 = some r) : At g0 w0 (S.enter 59 [.one (L.sl 1 times_0)] st) (exK Try.prog R [.c Tref09_Of.B] .normal) := by
  unfold Tref09_Of at h
  exact At.q fol 400 [.r [], .r [], .r []] [0, 3, 4] [] trivial (Tref09_Of.p1_loop times_0 0 st hE  h) (by kernel_rfl)
theorem Tref09_Of.snd {N : Nat} {times_0 : List (List L)} {r : Int} (h : Tref09_Of N times_0 = some r) : SndQ Try.prog 14 [.one (L.sl 1 times_0)] (Tref09_Of.rs r) := fun st =>
  Snd.of (fn := Try.f14) (c := Tref09_Of.B) Try.func14 (by kernel_rfl) (by kernel_rfl) (of_decide_eq_true (by kernel_rfl)) fun g w R hE => Tref09_Of.at0 times_0 st hE h
/-! trailhead/trailheadlaw09.MedianOf -/
noncomputable def Tlaw09_MedianOf.B : Code := Try.f4.body.getD .skip
noncomputable def Tlaw09_MedianOf.rs (r : Bool) : List CV := [.one (L.bool r)]
noncomputable def Tlaw09_MedianOf (N : Nat) (times_0 : List (List L)) (time_1 : Int) : Option Bool :=
  optE (Tlaw09_alive N ) fun x1 =>
  if (!x1) = true then
    some false
  else
  if (decide (((List.length times_0 : Nat) : Int) > 100)) = true then
    some true
  else
  optE (Tref09_Of N times_0) fun x2 =>
  optE (median_Of N times_0) fun x3 =>
  if (x3 == x2) = true then
    chk (0 ≤ (if (11 : Int) < ((List.length times_0 : Nat) : Int) then 11 else ((List.length times_0 : Nat) : Int))) <|
    chk ((Int.toNat (if (11 : Int) < ((List.length times_0 : Nat) : Int) then 11 else ((List.length times_0 : Nat) : Int))) ≤ (List.length times_0)) <|
    optE (median_Of N (List.take (Int.toNat (if (11 : Int) < ((List.length times_0 : Nat) : Int) then 11 else ((List.length times_0 : Nat) : Int))) (List.drop 0 times_0))) fun x4 =>
    if (x4 == x2) = true then
      optE (median_Late N time_1 times_0) fun x5 =>
      if (((List.length times_0 : Nat) : Int) == 0) = true then
        some (x5 == true)
      else
      some (x5 == (decide (time_1 > x2)))
    else
    some false
  else
  some false
theorem Tlaw09_MedianOf.at0 (times_0 : List (List L)) (time_1 : Int) (st : List (List L)) {N : Nat} {r : Bool} {g0 : G} {w0 : World} {R : Exit → Act → World → Prop} (hE : Ends Try.prog Try.f4 g0 w0 (Tlaw09_MedianOf.rs r) st R) (h : Tlaw09_MedianOf N times_0 time_1 = some r) : At g0 w0 (S.enter 41 [.one (L.sl 1 times_0), .one (L.int .i64 time_1)] st) (exK Try.prog R [.c Tlaw09_MedianOf.B] .normal) := by
  unfold Tlaw09_MedianOf at h
  obtain ⟨x1, c1, h1⟩ := optE_inv h; clear h
  refine iteB h1 (fun c2 h2 => ?_) (fun c2 h3 => ?_) <;> clear h1
  · obtain rfl := some_inv h2
    exact At.f fol hE 400 [.r [], .r [(0, {rs := [.one (L.bool x1)], m := 1})], .c true, .r []] [] 0 [] (And.intro (Tlaw09_alive.snd c1) c2) (by kernel_rfl)
  · refine iteB h3 (fun c3 h4 => ?_) (fun c3 h5 => ?_) <;> clear h3
    · obtain rfl := some_inv h4
      exact At.f fol hE 400 [.r [], .r [(0, {rs := [.one (L.bool x1)], m := 1})], .c false, .r [], .c true, .r []] [] 0 [] (And.intro (Tlaw09_alive.snd c1) (And.intro c2 c3)) (by kernel_rfl)
    · obtain ⟨x2, c4, h6⟩ := optE_inv h5; clear h5
      obtain ⟨x3, c5, h7⟩ := optE_inv h6; clear h6
      refine iteB h7 (fun c6 h8 => ?_) (fun c6 h9 => ?_) <;> clear h7
      · obtain ⟨c7, h10⟩ := chk_inv h8; clear h8
        obtain ⟨c8, h11⟩ := chk_inv h10; clear h10
        obtain ⟨x4, c9, h12⟩ := optE_inv h11; clear h11
        refine iteB h12 (fun c10 h13 => ?_) (fun c10 h14 => ?_) <;> clear h12
        · obtain ⟨x5, c11, h15⟩ := optE_inv h13; clear h13
          refine iteB h15 (fun c12 h16 => ?_) (fun c12 h17 => ?_) <;> clear h15
          · obtain rfl := some_inv h16
            exact At.f fol hE 400 [.r [], .r [(0, {rs := [.one (L.bool x1)], m := 1})], .c false, .r [], .c false, .r [(1, {rs := [.one (L.int .i64 x2)], m := 1})], .r [(1, {rs := [.one (L.int .i64 x3)], m := 1}), (10, {rs := [.one (L.int .i64 x4)], m := 1}), (17, {rs := [.one (L.bool x5)], m := 1}), (22, {want := false}), (23, {want := false}), (24, {want := false})]] [] 0 [] (And.intro (Tlaw09_alive.snd c1) (And.intro c2 (And.intro c3 (And.intro (Tref09_Of.snd c4) (And.intro (median_Of.snd c5) (And.intro c6 (And.intro c6 (And.intro c6 (And.intro c6 (And.intro c6 (And.intro c7 (And.intro (Nat.zero_le (Int.toNat (if (11 : Int) < ((List.length times_0 : Nat) : Int) then 11 else ((List.length times_0 : Nat) : Int)))) (And.intro c8 (And.intro c6 (And.intro (median_Of.snd c9) (And.intro c6 (And.intro c6 (And.intro c6 (And.intro c10 (And.intro c10 (And.intro c10 (And.intro (median_Late.snd c11) (And.intro c10 (And.intro c10 (And.intro c10 (And.intro c10 (And.intro c12 (And.intro c12 (And.intro c12 (And.intro c10 (And.intro c12 (And.intro c10 c10)))))))))))))))))))))))))))))))) (by kernel_rfl)
          · obtain rfl := some_inv h17
            exact At.f fol hE 400 [.r [], .r [(0, {rs := [.one (L.bool x1)], m := 1})], .c false, .r [], .c false, .r [(1, {rs := [.one (L.int .i64 x2)], m := 1})], .r [(1, {rs := [.one (L.int .i64 x3)], m := 1}), (10, {rs := [.one (L.int .i64 x4)], m := 1}), (17, {rs := [.one (L.bool x5)], m := 1}), (25, {yes := false})]] [] 0 [] (And.intro (Tlaw09_alive.snd c1) (And.intro c2 (And.intro c3 (And.intro (Tref09_Of.snd c4) (And.intro (median_Of.snd c5) (And.intro c6 (And.intro c6 (And.intro c6 (And.intro c6 (And.intro c6 (And.intro c7 (And.intro (Nat.zero_le (Int.toNat (if (11 : Int) < ((List.length times_0 : Nat) : Int) then 11 else ((List.length times_0 : Nat) : Int)))) (And.intro c8 (And.intro c6 (And.intro (median_Of.snd c9) (And.intro c6 (And.intro c6 (And.intro c6 (And.intro c10 (And.intro c10 (And.intro c10 (And.intro (median_Late.snd c11) (And.intro c10 (And.intro c10 (And.intro c10 (And.intro c10 (And.intro c12 (And.intro c12 (And.intro c12 (And.intro c10 (And.intro c12 (And.intro c10 c10)))))))))))))))))))))))))))))))) (by kernel_rfl)
        · obtain rfl := some_inv h14
          exact At.f fol hE 400 [.r [], .r [(0, {rs := [.one (L.bool x1)], m := 1})], .c false, .r [], .c false, .r [(1, {rs := [.one (L.int .i64 x2)], m := 1})], .r [(1, {rs := [.one (L.int .i64 x3)], m := 1}), (10, {rs := [.one (L.int .i64 x4)], m := 1}), (15, {want := false}), (16, {want := false}), (17, {want := false}), (18, {want := false}), (19, {want := false}), (20, {want := false}), (21, {want := false}), (25, {want := false}), (26, {want := false}), (27, {yes := false})]] [] 0 [] (And.intro (Tlaw09_alive.snd c1) (And.intro c2 (And.intro c3 (And.intro (Tref09_Of.snd c4) (And.intro (median_Of.snd c5) (And.intro c6 (And.intro c6 (And.intro c6 (And.intro c6 (And.intro c6 (And.intro c7 (And.intro (Nat.zero_le (Int.toNat (if (11 : Int) < ((List.length times_0 : Nat) : Int) then 11 else ((List.length times_0 : Nat) : Int)))) (And.intro c8 (And.intro c6 (And.intro (median_Of.snd c9) (And.intro c6 (And.intro c6 (And.intro c6 (And.intro c10 (And.intro c10 (And.intro c10 (And.intro c10 (And.intro c10 (And.intro c10 (And.intro c10 (And.intro c10 (And.intro c10 c10))))))))))))))))))))))))))) (by kernel_rfl)
      · obtain rfl := some_inv h9
        exact At.f fol hE 400 [.r [], .r [(0, {rs := [.one (L.bool x1)], m := 1})], .c false, .r [], .c false, .r [(1, {rs := [.one (L.int .i64 x2)], m := 1})], .r [(1, {rs := [.one (L.int .i64 x3)], m := 1}), (5, {want := false}), (6, {want := false}), (7, {want := false}), (8, {want := false}), (9, {want := false}), (10, {want := false}), (11, {want := false}), (12, {want := false}), (13, {yes := false}), (15, {want := false}), (16, {want := false}), (17, {want := false}), (18, {want := false}), (19, {want := false}), (20, {want := false}), (21, {want := false}), (25, {want := false}), (26, {want := false}), (27, {yes := false})]] [] 0 [] (And.intro (Tlaw09_alive.snd c1) (And.intro c2 (And.intro c3 (And.intro (Tref09_Of.snd c4) (And.intro (median_Of.snd c5) (And.intro c6 (And.intro c6 (And.intro c6 (And.intro c6 (And.intro c6 (And.intro c6 (And.intro c6 (And.intro c6 (And.intro c6 (And.intro (rfl : false = false) (And.intro (rfl : false = false) (And.intro (rfl : false = false) (And.intro (rfl : false = false) (And.intro (rfl : false = false) (And.intro (rfl : false = false) (And.intro (rfl : false = false) (And.intro (rfl : false = false) (And.intro (rfl : false = false) (rfl : false = false)))))))))))))))))))))))) (by kernel_rfl)
theorem Tlaw09_MedianOf.snd {N : Nat} {times_0 : List (List L)} {time_1 : Int} {r : Bool} (h : Tlaw09_MedianOf N times_0 time_1 = some r) : SndQ Try.prog 4 [.one (L.sl 1 times_0), .one (L.int .i64 time_1)] (Tlaw09_MedianOf.rs r) := fun st =>
  Snd.of (fn := Try.f4) (c := Tlaw09_MedianOf.B) Try.func4 (by kernel_rfl) (by kernel_rfl) (of_decide_eq_true (by kernel_rfl)) fun g w R hE => Tlaw09_MedianOf.at0 times_0 time_1 st hE h
/-! trailhead/trailheadlaw09.MedianTurned -/
noncomputable def Tlaw09_MedianTurned.B : Code := Try.f5.body.getD .skip
noncomputable def Tlaw09_MedianTurned.rs (r : Bool) : List CV := [.one (L.bool r)]
noncomputable def Tlaw09_MedianTurned.p1 (N : Nat)  (times_0 : List (List L)) (at_1 : Int) (c1_ : ((List (List L)) × Int) → Option Bool) : ((List (List L)) × Int) → Option Bool := fun (back_7, v2) =>
  if (decide (v2 < ((List.length times_0 : Nat) : Int))) = true then
    chk (0 ≤ (IntKind.wrap IntKind.i64 ((IntKind.wrap IntKind.i64 (((List.length times_0 : Nat) : Int) - 1)) - v2))) <|
    chk ((IntKind.wrap IntKind.i64 ((IntKind.wrap IntKind.i64 (((List.length times_0 : Nat) : Int) - 1)) - v2)) < ((List.length times_0 : Nat) : Int)) <|
    optE (times_0[Int.toNat (IntKind.wrap IntKind.i64 ((IntKind.wrap IntKind.i64 (((List.length times_0 : Nat) : Int) - 1)) - v2))]?) fun e => dec_i64 e fun x8 =>
    chk (1 ≤ (List.length [[L.int .i64 x8]])) <|
    chk (List.length (back_7 ++ (List.take 1 [[L.int .i64 x8]])) * 8 ≤ 140737488355328) <|
    c1_ (back_7 ++ (List.take 1 [[L.int .i64 x8]]), IntKind.wrap IntKind.i64 (v2 + 1))
  else
  optE (median_Of N times_0) fun x9 =>
  optE (median_Of N (((List.take 0 []) ++ (List.take ((List.length times_0) - (Int.toNat (IntKind.wrap IntKind.i64 (Int.tmod (IntKind.wrap IntKind.u64 (at_1)) (IntKind.wrap IntKind.u64 (((List.length times_0 : Nat) : Int))))))) (List.drop (Int.toNat (IntKind.wrap IntKind.i64 (Int.tmod (IntKind.wrap IntKind.u64 (at_1)) (IntKind.wrap IntKind.u64 (((List.length times_0 : Nat) : Int)))))) times_0))) ++ (List.take (Int.toNat (IntKind.wrap IntKind.i64 (Int.tmod (IntKind.wrap IntKind.u64 (at_1)) (IntKind.wrap IntKind.u64 (((List.length times_0 : Nat) : Int)))))) (List.drop 0 times_0)))) fun x10 =>
  if (x10 == x9) = true then
    optE (median_Of N back_7) fun x11 =>
    some (x11 == x9)
  else
  some false
noncomputable def Tlaw09_MedianTurned (N : Nat) (times_0 : List (List L)) (at_1 : Int) : Option Bool :=
  optE (Tlaw09_alive N ) fun x1 =>
  if (!x1) = true then
    some false
  else
  if (((List.length times_0 : Nat) : Int) == 0) = true then
    some true
  else
  if (decide (((List.length times_0 : Nat) : Int) > 11)) = true then
    some true
  else
  chk ((IntKind.wrap IntKind.u64 (((List.length times_0 : Nat) : Int))) ≠ 0) <|
  chk (0 ≤ (IntKind.wrap IntKind.i64 (Int.tmod (IntKind.wrap IntKind.u64 (at_1)) (IntKind.wrap IntKind.u64 (((List.length times_0 : Nat) : Int)))))) <|
  chk ((Int.toNat (IntKind.wrap IntKind.i64 (Int.tmod (IntKind.wrap IntKind.u64 (at_1)) (IntKind.wrap IntKind.u64 (((List.length times_0 : Nat) : Int)))))) ≤ (List.length times_0)) <|
  chk (List.length ((List.take 0 []) ++ (List.take ((List.length times_0) - (Int.toNat (IntKind.wrap IntKind.i64 (Int.tmod (IntKind.wrap IntKind.u64 (at_1)) (IntKind.wrap IntKind.u64 (((List.length times_0 : Nat) : Int))))))) (List.drop (Int.toNat (IntKind.wrap IntKind.i64 (Int.tmod (IntKind.wrap IntKind.u64 (at_1)) (IntKind.wrap IntKind.u64 (((List.length times_0 : Nat) : Int)))))) times_0))) * 8 ≤ 140737488355328) <|
  chk (List.length (((List.take 0 []) ++ (List.take ((List.length times_0) - (Int.toNat (IntKind.wrap IntKind.i64 (Int.tmod (IntKind.wrap IntKind.u64 (at_1)) (IntKind.wrap IntKind.u64 (((List.length times_0 : Nat) : Int))))))) (List.drop (Int.toNat (IntKind.wrap IntKind.i64 (Int.tmod (IntKind.wrap IntKind.u64 (at_1)) (IntKind.wrap IntKind.u64 (((List.length times_0 : Nat) : Int)))))) times_0))) ++ (List.take (Int.toNat (IntKind.wrap IntKind.i64 (Int.tmod (IntKind.wrap IntKind.u64 (at_1)) (IntKind.wrap IntKind.u64 (((List.length times_0 : Nat) : Int)))))) (List.drop 0 times_0))) * 8 ≤ 140737488355328) <|
  loopN (Tlaw09_MedianTurned.p1 N  times_0 at_1) N ([], 0)
noncomputable def Tlaw09_MedianTurned.p1.S (times_0 : List (List L)) (at_1 : Int) (back_7 : List (List L)) (v2 : Int) (st : List (List L)) : S := mkS 64 [(0, .one (.l (L.sl 1 times_0))), (5, .one (.l (L.int .i64 ((List.length times_0 : Nat) : Int)))), (7, .one (.h (.row 27 0) 1 0 (List.length (((List.take 0 []) ++ (List.take ((List.length times_0) - (Int.toNat (IntKind.wrap IntKind.i64 (Int.tmod (IntKind.wrap IntKind.u64 (at_1)) (IntKind.wrap IntKind.u64 (((List.length times_0 : Nat) : Int))))))) (List.drop (Int.toNat (IntKind.wrap IntKind.i64 (Int.tmod (IntKind.wrap IntKind.u64 (at_1)) (IntKind.wrap IntKind.u64 (((List.length times_0 : Nat) : Int)))))) times_0))) ++ (List.take (Int.toNat (IntKind.wrap IntKind.i64 (Int.tmod (IntKind.wrap IntKind.u64 (at_1)) (IntKind.wrap IntKind.u64 (((List.length times_0 : Nat) : Int)))))) (List.drop 0 times_0)))))), (8, .one (.h (.row 8 0) 1 0 (List.length back_7))), (37, .one (.l (L.int .i64 ((List.length times_0 : Nat) : Int)))), (38, .one (.l (L.int .i64 v2)))] [(8, .row 0 true 1 back_7), (27, .row 0 true 1 (((List.take 0 []) ++ (List.take ((List.length times_0) - (Int.toNat (IntKind.wrap IntKind.i64 (Int.tmod (IntKind.wrap IntKind.u64 (at_1)) (IntKind.wrap IntKind.u64 (((List.length times_0 : Nat) : Int))))))) (List.drop (Int.toNat (IntKind.wrap IntKind.i64 (Int.tmod (IntKind.wrap IntKind.u64 (at_1)) (IntKind.wrap IntKind.u64 (((List.length times_0 : Nat) : Int)))))) times_0))) ++ (List.take (Int.toNat (IntKind.wrap IntKind.i64 (Int.tmod (IntKind.wrap IntKind.u64 (at_1)) (IntKind.wrap IntKind.u64 (((List.length times_0 : Nat) : Int)))))) (List.drop 0 times_0))))] st
theorem Tlaw09_MedianTurned.p1_ok (times_0 : List (List L)) (at_1 : Int) (back_7 : List (List L)) (v2 : Int) (st : List (List L)) {N : Nat} {r : Bool} {g0 : G} {w0 : World} {R : Exit → Act → World → Prop}  {c1_ : ((List (List L)) × Int) → Option Bool}  {J1 : Act → World → Prop} (hE : Ends Try.prog Try.f5 g0 w0 (Tlaw09_MedianTurned.rs r) st R)  (hc1 : ∀ (back_7 : List (List L)) (v2 : Int), c1_ (back_7, v2) = some r → At g0 w0 (Tlaw09_MedianTurned.p1.S times_0 at_1 back_7 v2 st) J1) (h : Tlaw09_MedianTurned.p1 N  times_0 at_1 c1_ (back_7, v2) = some r) : At g0 w0 (Tlaw09_MedianTurned.p1.S times_0 at_1 back_7 v2 st) (exK Try.prog R (.c (csub Tlaw09_MedianTurned.B [1, 1, 1, 1, 1, 1, 1, 0, 1, 0, 0]) :: .h J1 :: [.b 0, .c (csub Tlaw09_MedianTurned.B [1, 1, 1, 1, 1, 1, 1, 1])]) .normal) := by
  unfold Tlaw09_MedianTurned.p1 at h
  refine iteB h (fun c20 h1 => ?_) (fun c20 h2 => ?_) <;> clear h
  · obtain ⟨c21, h3⟩ := chk_inv h1; clear h1
    obtain ⟨c22, h4⟩ := chk_inv h3; clear h3
    obtain ⟨h7, c23, h5⟩ := optE_inv h4; clear h4
    obtain ⟨x8, rfl, h6⟩ := dec_i64_inv h5; clear h5
    obtain ⟨c24, h8⟩ := chk_inv h6; clear h6
    obtain ⟨c25, h9⟩ := chk_inv h8; clear h8
    exact At.n fol 400 [.r [], .c true, .r [], .r [(7, {oe := [L.int .i64 x8]}), (9, {wm := 2})], .r []] [0, 5, 7, 8, 37, 38] [8, 27] (And.intro c20 (And.intro c21 (And.intro c22 (And.intro c23 (And.intro (rfl : (0 : Nat) = 0) (And.intro (@rfl Nat (List.length back_7)) (And.intro (rfl : (0 : Nat) = 0) (And.intro c24 c25)))))))) (hc1 (back_7 ++ (List.take 1 [[L.int .i64 x8]])) (IntKind.wrap IntKind.i64 (v2 + 1)) h9) (by kernel_rfl)
  · obtain ⟨x9, c26, h10⟩ := optE_inv h2; clear h2
    obtain ⟨x10, c27, h11⟩ := optE_inv h10; clear h10
    refine iteB h11 (fun c28 h12 => ?_) (fun c28 h13 => ?_) <;> clear h11
    · obtain ⟨x11, c29, h14⟩ := optE_inv h12; clear h12
      obtain rfl := some_inv h14
      exact At.f fol hE 400 [.r [], .c false, .r [(1, {rs := [.one (L.int .i64 x9)], m := 1})], .r [(1, {rs := [.one (L.int .i64 x10)], m := 2}), (6, {rs := [.one (L.int .i64 x11)], m := 2})]] [] 0 [] (And.intro c20 (And.intro (median_Of.snd c26) (And.intro (rfl : (0 : Nat) = 0) (And.intro (@rfl Nat (List.length (((List.take 0 ([] : List (List L))) ++ (List.take ((List.length times_0) - (Int.toNat (IntKind.wrap IntKind.i64 (Int.tmod (IntKind.wrap IntKind.u64 (at_1)) (IntKind.wrap IntKind.u64 (((List.length times_0 : Nat) : Int))))))) (List.drop (Int.toNat (IntKind.wrap IntKind.i64 (Int.tmod (IntKind.wrap IntKind.u64 (at_1)) (IntKind.wrap IntKind.u64 (((List.length times_0 : Nat) : Int)))))) times_0))) ++ (List.take (Int.toNat (IntKind.wrap IntKind.i64 (Int.tmod (IntKind.wrap IntKind.u64 (at_1)) (IntKind.wrap IntKind.u64 (((List.length times_0 : Nat) : Int)))))) (List.drop 0 times_0))))) (And.intro (median_Of.snd c27) (And.intro c28 (And.intro c28 (And.intro (rfl : (0 : Nat) = 0) (And.intro (@rfl Nat (List.length back_7)) (And.intro (median_Of.snd c29) (And.intro c28 (And.intro c28 c28)))))))))))) (by kernel_rfl)
    · obtain rfl := some_inv h13
      exact At.f fol hE 400 [.r [], .c false, .r [(1, {rs := [.one (L.int .i64 x9)], m := 1})], .r [(1, {rs := [.one (L.int .i64 x10)], m := 2}), (5, {want := false}), (6, {want := false}), (7, {want := false}), (8, {want := false}), (9, {yes := false})]] [] 0 [] (And.intro c20 (And.intro (median_Of.snd c26) (And.intro (rfl : (0 : Nat) = 0) (And.intro (@rfl Nat (List.length (((List.take 0 ([] : List (List L))) ++ (List.take ((List.length times_0) - (Int.toNat (IntKind.wrap IntKind.i64 (Int.tmod (IntKind.wrap IntKind.u64 (at_1)) (IntKind.wrap IntKind.u64 (((List.length times_0 : Nat) : Int))))))) (List.drop (Int.toNat (IntKind.wrap IntKind.i64 (Int.tmod (IntKind.wrap IntKind.u64 (at_1)) (IntKind.wrap IntKind.u64 (((List.length times_0 : Nat) : Int)))))) times_0))) ++ (List.take (Int.toNat (IntKind.wrap IntKind.i64 (Int.tmod (IntKind.wrap IntKind.u64 (at_1)) (IntKind.wrap IntKind.u64 (((List.length times_0 : Nat) : Int)))))) (List.drop 0 times_0))))) (And.intro (median_Of.snd c27) (And.intro c28 (And.intro c28 (And.intro c28 (And.intro c28 c28))))))))) (by kernel_rfl)
theorem Tlaw09_MedianTurned.p1_loop (times_0 : List (List L)) (at_1 : Int) (back_7 : List (List L)) (v2 : Int) (st : List (List L)) {N : Nat} {r : Bool} {g0 : G} {w0 : World} {R : Exit → Act → World → Prop}   (hE : Ends Try.prog Try.f5 g0 w0 (Tlaw09_MedianTurned.rs r) st R)  (h : loopN (Tlaw09_MedianTurned.p1 N  times_0 at_1) N (back_7, v2) = some r) : At g0 w0 (Tlaw09_MedianTurned.p1.S times_0 at_1 back_7 v2 st) (exK Try.prog R (.c (.loop (csub Tlaw09_MedianTurned.B [1, 1, 1, 1, 1, 1, 1, 0, 1, 0, 0])) :: [.b 0, .c (csub Tlaw09_MedianTurned.B [1, 1, 1, 1, 1, 1, 1, 1])]) .normal) :=
  At.loop N (At.loopN (fun y : (List (List L)) × Int => Tlaw09_MedianTurned.p1.S times_0 at_1 y.1 y.2 st) (fun c J hc y h => Tlaw09_MedianTurned.p1_ok times_0 at_1 y.1 y.2 st hE  (fun back_7 v2 hh => hc (back_7, v2) hh) h) N (back_7, v2) h)
theorem Tlaw09_MedianTurned.at0 (times_0 : List (List L)) (at_1 : Int) (st : List (List L)) {N : Nat} {r : Bool} {g0 : G} {w0 : World} {R : Exit → Act → World → Prop} (hE : Ends Try.prog Try.f5 g0 w0 (Tlaw09_MedianTurned.rs r) st R) (h : Tlaw09_MedianTurned N times_0 at_1 = some r) : At g0 w0 (S.enter 64 [.one (L.sl 1 times_0), .one (L.int .i64 at_1)] st) (exK Try.prog R [.c Tlaw09_MedianTurned.B] .normal) := by
  unfold Tlaw09_MedianTurned at h
  obtain ⟨x1, c1, h15⟩ := optE_inv h; clear h
  refine iteB h15 (fun c2 h16 => ?_) (fun c2 h17 => ?_) <;> clear h15
  · obtain rfl := some_inv h16
    exact At.f fol hE 400 [.r [], .r [(0, {rs := [.one (L.bool x1)], m := 1})], .c true, .r []] [] 0 [] (And.intro (Tlaw09_alive.snd c1) c2) (by kernel_rfl)
  · refine iteB h17 (fun c3 h18 => ?_) (fun c3 h19 => ?_) <;> clear h17
    · obtain rfl := some_inv h18
      exact At.f fol hE 400 [.r [], .r [(0, {rs := [.one (L.bool x1)], m := 1})], .c false, .r [], .r [(3, {want := false}), (4, {want := false})], .c true, .r []] [] 0 [] (And.intro (Tlaw09_alive.snd c1) (And.intro c2 (And.intro c3 (And.intro c3 (And.intro c3 (rfl : true = true)))))) (by kernel_rfl)
    · refine iteB h19 (fun c4 h20 => ?_) (fun c4 h21 => ?_) <;> clear h19
      · obtain rfl := some_inv h20
        exact At.f fol hE 400 [.r [], .r [(0, {rs := [.one (L.bool x1)], m := 1})], .c false, .r [], .r [(5, {yes := false})], .c true, .r []] [] 0 [] (And.intro (Tlaw09_alive.snd c1) (And.intro c2 (And.intro c3 (And.intro c3 (And.intro c3 c4))))) (by kernel_rfl)
      · obtain ⟨c5, h22⟩ := chk_inv h21; clear h21
        obtain ⟨c6, h23⟩ := chk_inv h22; clear h22
        obtain ⟨c7, h24⟩ := chk_inv h23; clear h23
        obtain ⟨c8, h25⟩ := chk_inv h24; clear h24
        obtain ⟨c9, h26⟩ := chk_inv h25; clear h25
        exact At.qd fol 400 [.r [], .r [(0, {rs := [.one (L.bool x1)], m := 1})], .c false, .r [], .r [(5, {yes := false})], .c false, .r [], .d {ds := [(4, {m := 2})], hv := 273, Hs := [1, 17, 273]}, .r [(0, {m := 1})], .r []] [0, 5, 7, 8, 37, 38] [8, 27] (And.intro (Tlaw09_alive.snd c1) (And.intro c2 (And.intro c3 (And.intro c3 (And.intro c3 (And.intro c4 (And.intro c5 (And.intro c6 (And.intro c7 (And.intro (Nat.le_refl (List.length times_0)) (And.intro c6 (And.intro c7 (And.intro (Nat.le_refl (List.length times_0)) (And.intro (rfl : (0 : Nat) = 0) (And.intro (Nat.zero_le (List.length ([] : List (List L)))) (And.intro c8 (And.intro c6 (And.intro (Nat.zero_le (Int.toNat (IntKind.wrap IntKind.i64 (Int.tmod (IntKind.wrap IntKind.u64 (at_1)) (IntKind.wrap IntKind.u64 (((List.length times_0 : Nat) : Int))))))) (And.intro c7 (And.intro c6 (And.intro (Nat.zero_le (Int.toNat (IntKind.wrap IntKind.i64 (Int.tmod (IntKind.wrap IntKind.u64 (at_1)) (IntKind.wrap IntKind.u64 (((List.length times_0 : Nat) : Int))))))) (And.intro c7 (And.intro c6 (And.intro (Nat.zero_le (Int.toNat (IntKind.wrap IntKind.i64 (Int.tmod (IntKind.wrap IntKind.u64 (at_1)) (IntKind.wrap IntKind.u64 (((List.length times_0 : Nat) : Int))))))) (And.intro c7 (And.intro (rfl : (0 : Nat) = 0) (And.intro (@rfl Nat (List.length ((List.take 0 ([] : List (List L))) ++ (List.take ((List.length times_0) - (Int.toNat (IntKind.wrap IntKind.i64 (Int.tmod (IntKind.wrap IntKind.u64 (at_1)) (IntKind.wrap IntKind.u64 (((List.length times_0 : Nat) : Int))))))) (List.drop (Int.toNat (IntKind.wrap IntKind.i64 (Int.tmod (IntKind.wrap IntKind.u64 (at_1)) (IntKind.wrap IntKind.u64 (((List.length times_0 : Nat) : Int)))))) times_0))))) c9))))))))))))))))))))))))))) (Tlaw09_MedianTurned.p1_loop times_0 at_1 [] 0 st hE  h26) (by kernel_rfl) (by kernel_rfl)
theorem Tlaw09_MedianTurned.snd {N : Nat} {times_0 : List (List L)} {at_1 : Int} {r : Bool} (h : Tlaw09_MedianTurned N times_0 at_1 = some r) : SndQ Try.prog 5 [.one (L.sl 1 times_0), .one (L.int .i64 at_1)] (Tlaw09_MedianTurned.rs r) := fun st =>
  Snd.of (fn := Try.f5) (c := Tlaw09_MedianTurned.B) Try.func5 (by kernel_rfl) (by kernel_rfl) (of_decide_eq_true (by kernel_rfl)) fun g w R hE => Tlaw09_MedianTurned.at0 times_0 at_1 st hE h
/-! trailhead/trailheadlaw09.MedianNear -/
noncomputable def Tlaw09_MedianNear.B : Code := Try.f6.body.getD .skip
noncomputable def Tlaw09_MedianNear.rs (r : Bool) : List CV := [.one (L.bool r)]
noncomputable def Tlaw09_MedianNear (N : Nat) (time_0 : Int) (now_1 : Int) (future_2 : Int) : Option Bool :=
  optE (Tlaw09_alive N ) fun x1 =>
  if (!x1) = true then
    some false
  else
  if (decide (time_0 < 0)) = true then
    some true
  else
  if (decide (now_1 < 0)) = true then
    some true
  else
  optE (median_Near N time_0 now_1 future_2) fun x2 =>
  if (decide (future_2 ≥ 0)) = true then
    some (x2 == (decide ((IntKind.wrap IntKind.u64 (time_0)) ≤ (IntKind.wrap IntKind.u64 ((IntKind.wrap IntKind.u64 (now_1)) + (IntKind.wrap IntKind.u64 (future_2)))))))
  else
  some (x2 == false)
theorem Tlaw09_MedianNear.at0 (time_0 : Int) (now_1 : Int) (future_2 : Int) (st : List (List L)) {N : Nat} {r : Bool} {g0 : G} {w0 : World} {R : Exit → Act → World → Prop} (hE : Ends Try.prog Try.f6 g0 w0 (Tlaw09_MedianNear.rs r) st R) (h : Tlaw09_MedianNear N time_0 now_1 future_2 = some r) : At g0 w0 (S.enter 32 [.one (L.int .i64 time_0), .one (L.int .i64 now_1), .one (L.int .i64 future_2)] st) (exK Try.prog R [.c Tlaw09_MedianNear.B] .normal) := by
  unfold Tlaw09_MedianNear at h
  obtain ⟨x1, c1, h1⟩ := optE_inv h; clear h
  refine iteB h1 (fun c2 h2 => ?_) (fun c2 h3 => ?_) <;> clear h1
  · obtain rfl := some_inv h2
    exact At.f fol hE 400 [.r [], .r [(0, {rs := [.one (L.bool x1)], m := 1})], .c true, .r []] [] 0 [] (And.intro (Tlaw09_alive.snd c1) c2) (by kernel_rfl)
  · refine iteB h3 (fun c3 h4 => ?_) (fun c3 h5 => ?_) <;> clear h3
    · obtain rfl := some_inv h4
      exact At.f fol hE 400 [.r [], .r [(0, {rs := [.one (L.bool x1)], m := 1})], .c false, .r [(3, {want := false}), (4, {want := false})], .c true, .r []] [] 0 [] (And.intro (Tlaw09_alive.snd c1) (And.intro c2 (And.intro c3 (And.intro c3 (And.intro c3 (rfl : true = true)))))) (by kernel_rfl)
    · refine iteB h5 (fun c4 h6 => ?_) (fun c4 h7 => ?_) <;> clear h5
      · obtain rfl := some_inv h6
        exact At.f fol hE 400 [.r [], .r [(0, {rs := [.one (L.bool x1)], m := 1})], .c false, .r [(5, {yes := false})], .c true, .r []] [] 0 [] (And.intro (Tlaw09_alive.snd c1) (And.intro c2 (And.intro c3 (And.intro c3 (And.intro c3 c4))))) (by kernel_rfl)
      · obtain ⟨x2, c5, h8⟩ := optE_inv h7; clear h7
        refine iteB h8 (fun c6 h9 => ?_) (fun c6 h10 => ?_) <;> clear h8
        · obtain rfl := some_inv h9
          exact At.f fol hE 400 [.r [], .r [(0, {rs := [.one (L.bool x1)], m := 1})], .c false, .r [(5, {yes := false})], .c false, .r [(3, {rs := [.one (L.bool x2)], m := 1})]] [] 0 [] (And.intro (Tlaw09_alive.snd c1) (And.intro c2 (And.intro c3 (And.intro c3 (And.intro c3 (And.intro c4 (And.intro (median_Near.snd c5) (And.intro c6 (And.intro c6 (And.intro c6 (And.intro c6 (And.intro c6 (And.intro c6 (And.intro c6 (And.intro c6 c6))))))))))))))) (by kernel_rfl)
        · obtain rfl := some_inv h10
          exact At.f fol hE 400 [.r [], .r [(0, {rs := [.one (L.bool x1)], m := 1})], .c false, .r [(5, {yes := false})], .c false, .r [(3, {rs := [.one (L.bool x2)], m := 1}), (7, {want := false}), (8, {want := false}), (9, {want := false}), (10, {want := false}), (11, {want := false}), (12, {want := false}), (13, {want := false}), (14, {want := false}), (15, {yes := false})]] [] 0 [] (And.intro (Tlaw09_alive.snd c1) (And.intro c2 (And.intro c3 (And.intro c3 (And.intro c3 (And.intro c4 (And.intro (median_Near.snd c5) (And.intro c6 (And.intro c6 (And.intro c6 (And.intro c6 (And.intro c6 (And.intro c6 (And.intro c6 (And.intro c6 c6))))))))))))))) (by kernel_rfl)
theorem Tlaw09_MedianNear.snd {N : Nat} {time_0 : Int} {now_1 : Int} {future_2 : Int} {r : Bool} (h : Tlaw09_MedianNear N time_0 now_1 future_2 = some r) : SndQ Try.prog 6 [.one (L.int .i64 time_0), .one (L.int .i64 now_1), .one (L.int .i64 future_2)] (Tlaw09_MedianNear.rs r) := fun st =>
  Snd.of (fn := Try.f6) (c := Tlaw09_MedianNear.B) Try.func6 (by kernel_rfl) (by kernel_rfl) (of_decide_eq_true (by kernel_rfl)) fun g w R hE => Tlaw09_MedianNear.at0 time_0 now_1 future_2 st hE h
/-! trailhead/trailheadlaw09.MedianAmong -/
noncomputable def Tlaw09_MedianAmong.B : Code := Try.f7.body.getD .skip
noncomputable def Tlaw09_MedianAmong.rs (r : Bool) : List CV := [.one (L.bool r)]
noncomputable def Tlaw09_MedianAmong.p1 (N : Nat)  (times_0 : List (List L)) (x2 : Int) (c1_ : (Int × Int × Bool × Int) → Option Bool) : (Int × Int × Bool × Int) → Option Bool := fun (least_4, most_5, in_6, v7) =>
  if (decide (v7 < ((List.length (List.take (Int.toNat (if (11 : Int) < ((List.length times_0 : Nat) : Int) then 11 else ((List.length times_0 : Nat) : Int))) (List.drop 0 times_0)) : Nat) : Int))) = true then
    chk (0 ≤ v7) <|
    optE ((List.take (Int.toNat (if (11 : Int) < ((List.length times_0 : Nat) : Int) then 11 else ((List.length times_0 : Nat) : Int))) (List.drop 0 times_0))[Int.toNat v7]?) fun e => dec_i64 e fun x8 =>
    if in_6 = true then
      c1_ (if x8 < least_4 then x8 else least_4, if x8 > most_5 then x8 else most_5, true, IntKind.wrap IntKind.i64 (v7 + 1))
    else
    c1_ (if x8 < least_4 then x8 else least_4, if x8 > most_5 then x8 else most_5, x8 == x2, IntKind.wrap IntKind.i64 (v7 + 1))
  else
  if in_6 = true then
    if (decide (x2 ≥ least_4)) = true then
      if (decide (x2 ≤ most_5)) = true then
        optE (median_Late N least_4 times_0) fun x9 =>
        if (!x9) = true then
          if (most_5 == 9223372036854775807) = true then
            some true
          else
          optE (median_Late N (IntKind.wrap IntKind.i64 (most_5 + 1)) times_0) fun x10 =>
          some x10
        else
        some false
      else
      some false
    else
    some false
  else
  some false
noncomputable def Tlaw09_MedianAmong (N : Nat) (times_0 : List (List L)) : Option Bool :=
  optE (Tlaw09_alive N ) fun x1 =>
  if (!x1) = true then
    some false
  else
  if (decide (((List.length times_0 : Nat) : Int) > 100)) = true then
    some true
  else
  if ((if (11 : Int) < ((List.length times_0 : Nat) : Int) then 11 else ((List.length times_0 : Nat) : Int)) == 0) = true then
    some true
  else
  optE (median_Of N times_0) fun x2 =>
  chk (0 < ((List.length times_0 : Nat) : Int)) <|
  optE (times_0[0]?) fun e => dec_i64 e fun x3 =>
  chk (0 ≤ (if (11 : Int) < ((List.length times_0 : Nat) : Int) then 11 else ((List.length times_0 : Nat) : Int))) <|
  chk ((Int.toNat (if (11 : Int) < ((List.length times_0 : Nat) : Int) then 11 else ((List.length times_0 : Nat) : Int))) ≤ (List.length times_0)) <|
  loopN (Tlaw09_MedianAmong.p1 N  times_0 x2) N (x3, x3, false, 0)
noncomputable def Tlaw09_MedianAmong.p1.S (times_0 : List (List L)) (x2 : Int) (least_4 : Int) (most_5 : Int) (in_6 : Bool) (v7 : Int) (st : List (List L)) : S := mkS 78 [(0, .one (.l (L.sl 1 times_0))), (4, .one (.l (L.int .i64 x2))), (5, .one (.l (L.int .i64 least_4))), (6, .one (.l (L.int .i64 most_5))), (7, .one (.l (L.bool in_6))), (32, .one (.l (L.sl 1 (List.take (Int.toNat (if (11 : Int) < ((List.length times_0 : Nat) : Int) then 11 else ((List.length times_0 : Nat) : Int))) (List.drop 0 times_0))))), (33, .one (.l (L.int .i64 ((List.length (List.take (Int.toNat (if (11 : Int) < ((List.length times_0 : Nat) : Int) then 11 else ((List.length times_0 : Nat) : Int))) (List.drop 0 times_0)) : Nat) : Int)))), (34, .one (.l (L.int .i64 v7)))] [] st
theorem Tlaw09_MedianAmong.p1_ok (times_0 : List (List L)) (x2 : Int) (least_4 : Int) (most_5 : Int) (in_6 : Bool) (v7 : Int) (st : List (List L)) {N : Nat} {r : Bool} {g0 : G} {w0 : World} {R : Exit → Act → World → Prop}  {c1_ : (Int × Int × Bool × Int) → Option Bool}  {J1 : Act → World → Prop} (hE : Ends Try.prog Try.f7 g0 w0 (Tlaw09_MedianAmong.rs r) st R)  (hc1 : ∀ (least_4 : Int) (most_5 : Int) (in_6 : Bool) (v7 : Int), c1_ (least_4, most_5, in_6, v7) = some r → At g0 w0 (Tlaw09_MedianAmong.p1.S times_0 x2 least_4 most_5 in_6 v7 st) J1) (h : Tlaw09_MedianAmong.p1 N  times_0 x2 c1_ (least_4, most_5, in_6, v7) = some r) : At g0 w0 (Tlaw09_MedianAmong.p1.S times_0 x2 least_4 most_5 in_6 v7 st) (exK Try.prog R (.c (csub Tlaw09_MedianAmong.B [1, 1, 1, 1, 1, 1, 0, 1, 0, 0]) :: .h J1 :: [.b 0, .c (csub Tlaw09_MedianAmong.B [1, 1, 1, 1, 1, 1, 1])]) .normal) := by
  unfold Tlaw09_MedianAmong.p1 at h
  refine iteB h (fun c10 h1 => ?_) (fun c10 h2 => ?_) <;> clear h
  · obtain ⟨c11, h3⟩ := chk_inv h1; clear h1
    obtain ⟨h6, c12, h4⟩ := optE_inv h3; clear h3
    obtain ⟨x8, rfl, h5⟩ := dec_i64_inv h4; clear h4
    refine iteB h5 (fun c13 h7 => ?_) (fun c13 h8 => ?_) <;> clear h5
    · exact At.n fol 400 [.r [], .c true, .r [(1, {oe := [L.int .i64 x8]})], .r [], .r [], .r [(2, {want := false}), (3, {want := false}), (4, {want := false})], .r []] [0, 4, 5, 6, 7, 32, 33, 34] [] (And.intro c10 (And.intro c11 (And.intro (of_decide_eq_true c10) (And.intro c12 (And.intro c13 (And.intro c13 (And.intro c13 c13))))))) (hc1 (if x8 < least_4 then x8 else least_4) (if x8 > most_5 then x8 else most_5) true (IntKind.wrap IntKind.i64 (v7 + 1)) h7) (by kernel_rfl)
    · exact At.n fol 400 [.r [], .c true, .r [(1, {oe := [L.int .i64 x8]})], .r [], .r [], .r [(5, {yes := false})], .r []] [0, 4, 5, 6, 7, 32, 33, 34] [] (And.intro c10 (And.intro c11 (And.intro (of_decide_eq_true c10) (And.intro c12 (And.intro c13 (And.intro c13 (And.intro c13 c13))))))) (hc1 (if x8 < least_4 then x8 else least_4) (if x8 > most_5 then x8 else most_5) (x8 == x2) (IntKind.wrap IntKind.i64 (v7 + 1)) h8) (by kernel_rfl)
  · refine iteB h2 (fun c14 h9 => ?_) (fun c14 h10 => ?_) <;> clear h2
    · refine iteB h9 (fun c15 h11 => ?_) (fun c15 h12 => ?_) <;> clear h9
      · refine iteB h11 (fun c16 h13 => ?_) (fun c16 h14 => ?_) <;> clear h11
        · obtain ⟨x9, c17, h15⟩ := optE_inv h13; clear h13
          refine iteB h15 (fun c18 h16 => ?_) (fun c18 h17 => ?_) <;> clear h15
          · refine iteB h16 (fun c19 h18 => ?_) (fun c19 h19 => ?_) <;> clear h16
            · obtain rfl := some_inv h18
              exact At.f fol hE 400 [.r [], .c false, .r [(14, {rs := [.one (L.bool x9)], m := 1}), (21, {want := false}), (22, {want := false}), (23, {want := false}), (24, {want := false})]] [] 0 [] (And.intro c10 (And.intro c14 (And.intro c14 (And.intro c14 (And.intro c14 (And.intro c15 (And.intro c15 (And.intro c15 (And.intro c15 (And.intro c16 (And.intro c16 (And.intro c16 (And.intro (median_Late.snd c17) (And.intro c16 (And.intro c16 (And.intro (not_false (not_inv_t c18)) (And.intro (not_false (not_inv_t c18)) (And.intro (not_false (not_inv_t c18)) (And.intro c19 (And.intro c19 (And.intro c19 (And.intro c19 (And.intro (not_false (not_inv_t c18)) (And.intro c19 (not_false (not_inv_t c18)))))))))))))))))))))))))) (by kernel_rfl)
            · obtain ⟨x10, c20, h20⟩ := optE_inv h19; clear h19
              obtain rfl := some_inv h20
              exact At.f fol hE 400 [.r [], .c false, .r [(14, {rs := [.one (L.bool x9)], m := 1}), (24, {rs := [.one (L.bool x10)], m := 1}), (25, {yes := false})]] [] 0 [] (And.intro c10 (And.intro c14 (And.intro c14 (And.intro c14 (And.intro c14 (And.intro c15 (And.intro c15 (And.intro c15 (And.intro c15 (And.intro c16 (And.intro c16 (And.intro c16 (And.intro (median_Late.snd c17) (And.intro c16 (And.intro c16 (And.intro (not_false (not_inv_t c18)) (And.intro (not_false (not_inv_t c18)) (And.intro (not_false (not_inv_t c18)) (And.intro c19 (And.intro c19 (And.intro c19 (And.intro c19 (And.intro (median_Late.snd c20) (And.intro (not_false (not_inv_t c18)) (And.intro c19 (not_false (not_inv_t c18))))))))))))))))))))))))))) (by kernel_rfl)
          · obtain rfl := some_inv h17
            exact At.f fol hE 400 [.r [], .c false, .r [(14, {rs := [.one (L.bool x9)], m := 1}), (18, {want := false}), (19, {want := false}), (20, {want := false}), (25, {want := false}), (26, {yes := false})]] [] 0 [] (And.intro c10 (And.intro c14 (And.intro c14 (And.intro c14 (And.intro c14 (And.intro c15 (And.intro c15 (And.intro c15 (And.intro c15 (And.intro c16 (And.intro c16 (And.intro c16 (And.intro (median_Late.snd c17) (And.intro c16 (And.intro c16 (And.intro (not_true (not_inv_f c18)) (And.intro (not_true (not_inv_f c18)) (And.intro (not_true (not_inv_f c18)) (And.intro (not_true (not_inv_f c18)) (not_true (not_inv_f c18))))))))))))))))))))) (by kernel_rfl)
        · obtain rfl := some_inv h14
          exact At.f fol hE 400 [.r [], .c false, .r [(12, {want := false}), (13, {want := false}), (14, {want := false}), (15, {want := false}), (16, {yes := false}), (18, {want := false}), (19, {want := false}), (20, {want := false}), (25, {want := false}), (26, {yes := false})]] [] 0 [] (And.intro c10 (And.intro c14 (And.intro c14 (And.intro c14 (And.intro c14 (And.intro c15 (And.intro c15 (And.intro c15 (And.intro c15 (And.intro c16 (And.intro c16 (And.intro c16 (And.intro c16 (And.intro c16 (And.intro (rfl : false = false) (And.intro (rfl : false = false) (And.intro (rfl : false = false) (And.intro (rfl : false = false) (rfl : false = false))))))))))))))))))) (by kernel_rfl)
      · obtain rfl := some_inv h12
        exact At.f fol hE 400 [.r [], .c false, .r [(7, {want := false}), (8, {want := false}), (9, {want := false}), (10, {yes := false}), (12, {want := false}), (13, {want := false}), (14, {want := false}), (15, {want := false}), (16, {yes := false}), (18, {want := false}), (19, {want := false}), (20, {want := false}), (25, {want := false}), (26, {yes := false})]] [] 0 [] (And.intro c10 (And.intro c14 (And.intro c14 (And.intro c14 (And.intro c14 (And.intro c15 (And.intro c15 (And.intro c15 (And.intro c15 (And.intro (rfl : false = false) (And.intro (rfl : false = false) (And.intro (rfl : false = false) (And.intro (rfl : false = false) (And.intro (rfl : false = false) (And.intro (rfl : false = false) (And.intro (rfl : false = false) (And.intro (rfl : false = false) (And.intro (rfl : false = false) (rfl : false = false))))))))))))))))))) (by kernel_rfl)
    · obtain rfl := some_inv h10
      exact At.f fol hE 400 [.r [], .c false, .r [(2, {want := false}), (3, {want := false}), (4, {want := false}), (5, {yes := false}), (7, {want := false}), (8, {want := false}), (9, {want := false}), (10, {yes := false}), (12, {want := false}), (13, {want := false}), (14, {want := false}), (15, {want := false}), (16, {yes := false}), (18, {want := false}), (19, {want := false}), (20, {want := false}), (25, {want := false}), (26, {yes := false})]] [] 0 [] (And.intro c10 (And.intro c14 (And.intro c14 (And.intro c14 (And.intro c14 (And.intro (rfl : false = false) (And.intro (rfl : false = false) (And.intro (rfl : false = false) (And.intro (rfl : false = false) (And.intro (rfl : false = false) (And.intro (rfl : false = false) (And.intro (rfl : false = false) (And.intro (rfl : false = false) (And.intro (rfl : false = false) (And.intro (rfl : false = false) (And.intro (rfl : false = false) (And.intro (rfl : false = false) (And.intro (rfl : false = false) (rfl : false = false))))))))))))))))))) (by kernel_rfl)
theorem Tlaw09_MedianAmong.p1_loop (times_0 : List (List L)) (x2 : Int) (least_4 : Int) (most_5 : Int) (in_6 : Bool) (v7 : Int) (st : List (List L)) {N : Nat} {r : Bool} {g0 : G} {w0 : World} {R : Exit → Act → World → Prop}   (hE : Ends Try.prog Try.f7 g0 w0 (Tlaw09_MedianAmong.rs r) st R)  (h : loopN (Tlaw09_MedianAmong.p1 N  times_0 x2) N (least_4, most_5, in_6, v7) = some r) : At g0 w0 (Tlaw09_MedianAmong.p1.S times_0 x2 least_4 most_5 in_6 v7 st) (exK Try.prog R (.c (.loop (csub Tlaw09_MedianAmong.B [1, 1, 1, 1, 1, 1, 0, 1, 0, 0])) :: [.b 0, .c (csub Tlaw09_MedianAmong.B [1, 1, 1, 1, 1, 1, 1])]) .normal) :=
  At.loop N (At.loopN (fun y : Int × Int × Bool × Int => Tlaw09_MedianAmong.p1.S times_0 x2 y.1 y.2.1 y.2.2.1 y.2.2.2 st) (fun c J hc y h => Tlaw09_MedianAmong.p1_ok times_0 x2 y.1 y.2.1 y.2.2.1 y.2.2.2 st hE  (fun least_4 most_5 in_6 v7 hh => hc (least_4, most_5, in_6, v7) hh) h) N (least_4, most_5, in_6, v7) h)
theorem Tlaw09_MedianAmong.at0 (times_0 : List (List L)) (st : List (List L)) {N : Nat} {r : Bool} {g0 : G} {w0 : World} {R : Exit → Act → World → Prop} (hE : Ends Try.prog Try.f7 g0 w0 (Tlaw09_MedianAmong.rs r) st R) (h : Tlaw09_MedianAmong N times_0 = some r) : At g0 w0 (S.enter 78 [.one (L.sl 1 times_0)] st) (exK Try.prog R [.c Tlaw09_MedianAmong.B] .normal) := by
  unfold Tlaw09_MedianAmong at h
  obtain ⟨x1, c1, h21⟩ := optE_inv h; clear h
  refine iteB h21 (fun c2 h22 => ?_) (fun c2 h23 => ?_) <;> clear h21
  · obtain rfl := some_inv h22
    exact At.f fol hE 400 [.r [], .r [(0, {rs := [.one (L.bool x1)], m := 1})], .c true, .r []] [] 0 [] (And.intro (Tlaw09_alive.snd c1) c2) (by kernel_rfl)
  · refine iteB h23 (fun c3 h24 => ?_) (fun c3 h25 => ?_) <;> clear h23
    · obtain rfl := some_inv h24
      exact At.f fol hE 400 [.r [], .r [(0, {rs := [.one (L.bool x1)], m := 1})], .c false, .r [], .r [(4, {want := false}), (5, {want := false})], .c true, .r []] [] 0 [] (And.intro (Tlaw09_alive.snd c1) (And.intro c2 (And.intro c3 (And.intro c3 (And.intro c3 (rfl : true = true)))))) (by kernel_rfl)
    · refine iteB h25 (fun c4 h26 => ?_) (fun c4 h27 => ?_) <;> clear h25
      · obtain rfl := some_inv h26
        exact At.f fol hE 400 [.r [], .r [(0, {rs := [.one (L.bool x1)], m := 1})], .c false, .r [], .r [(6, {yes := false})], .c true, .r []] [] 0 [] (And.intro (Tlaw09_alive.snd c1) (And.intro c2 (And.intro c3 (And.intro c3 (And.intro c3 c4))))) (by kernel_rfl)
      · obtain ⟨x2, c5, h28⟩ := optE_inv h27; clear h27
        obtain ⟨c6, h29⟩ := chk_inv h28; clear h28
        obtain ⟨h32, c7, h30⟩ := optE_inv h29; clear h29
        obtain ⟨x3, rfl, h31⟩ := dec_i64_inv h30; clear h30
        obtain ⟨c8, h33⟩ := chk_inv h31; clear h31
        obtain ⟨c9, h34⟩ := chk_inv h33; clear h33
        exact At.qd fol 400 [.r [], .r [(0, {rs := [.one (L.bool x1)], m := 1})], .c false, .r [], .r [(6, {yes := false})], .c false, .r [(1, {rs := [.one (L.int .i64 x2)], m := 1})], .d {ds := [(2, {oe := [L.int .i64 x3]}), (5, {oe := [L.int .i64 x3]})], hv := 0, Hs := []}, .r []] [0, 4, 5, 6, 7, 32, 33, 34] [] (And.intro (Tlaw09_alive.snd c1) (And.intro c2 (And.intro c3 (And.intro c3 (And.intro c3 (And.intro c4 (And.intro (median_Of.snd c5) (And.intro (by decide : (0 : Int) ≤ 0) (And.intro c6 (And.intro c7 (And.intro (by decide : (0 : Int) ≤ 0) (And.intro c6 (And.intro c7 (And.intro c8 (And.intro (Nat.zero_le (Int.toNat (if (11 : Int) < ((List.length times_0 : Nat) : Int) then 11 else ((List.length times_0 : Nat) : Int)))) c9))))))))))))))) (Tlaw09_MedianAmong.p1_loop times_0 x2 x3 x3 false 0 st hE  h34) (by kernel_rfl) (by kernel_rfl)
theorem Tlaw09_MedianAmong.snd {N : Nat} {times_0 : List (List L)} {r : Bool} (h : Tlaw09_MedianAmong N times_0 = some r) : SndQ Try.prog 7 [.one (L.sl 1 times_0)] (Tlaw09_MedianAmong.rs r) := fun st =>
  Snd.of (fn := Try.f7) (c := Tlaw09_MedianAmong.B) Try.func7 (by kernel_rfl) (by kernel_rfl) (of_decide_eq_true (by kernel_rfl)) fun g w R hE => Tlaw09_MedianAmong.at0 times_0 st hE h
/-! (*trailhead/median.Window).Push -/
noncomputable def median_Window_Push.B : Code := Try.f18.body.getD .skip
noncomputable def median_Window_Push.rs (r : (List (List L))) : List CV := []
noncomputable def median_Window_Push.p1 (N : Nat)  (times_1 : List (List L)) (c1_ : ((Option Nat) × Int × (List (List L))) → Option (List (List L))) : ((Option Nat) × Int × (List (List L))) → Option (List (List L)) := fun (w_5, v1, st6) =>
  if (decide (v1 < ((List.length times_1 : Nat) : Int))) = true then
    chk (0 ≤ v1) <|
    optE (times_1[Int.toNat v1]?) fun e => dec_i64 e fun x7 =>
    optE w_5 fun i8 =>
    optE (st6[i8]?) fun e => dec_o1 e fun x9 =>
    chk (0 ≤ (if (10 : Int) < ((List.length x9 : Nat) : Int) then 10 else ((List.length x9 : Nat) : Int))) <|
    chk ((Int.toNat (if (10 : Int) < ((List.length x9 : Nat) : Int) then 10 else ((List.length x9 : Nat) : Int))) ≤ (List.length x9)) <|
    chk (1 ≤ (List.length [[L.int .i64 x7]])) <|
    chk (List.length ((List.take 1 [[L.int .i64 x7]]) ++ (List.take (Int.toNat (if (10 : Int) < ((List.length x9 : Nat) : Int) then 10 else ((List.length x9 : Nat) : Int))) x9)) * 8 ≤ 140737488355328) <|
    c1_ ((some i8), IntKind.wrap IntKind.i64 (v1 + 1), List.set st6 i8 [L.own true 1 ((List.take 1 [[L.int .i64 x7]]) ++ (List.take (Int.toNat (if (10 : Int) < ((List.length x9 : Nat) : Int) then 10 else ((List.length x9 : Nat) : Int))) x9))])
  else
  some st6
noncomputable def median_Window_Push (N : Nat) (w_0 : Option Nat) (times_1 : List (List L)) (st : List (List L)) : Option (List (List L)) :=
  if (Option.isNone w_0) = true then
    some st
  else
  loopN (median_Window_Push.p1 N  times_1) N (w_0, 0, st)
noncomputable def median_Window_Push.p1.S (w_5 : Option Nat) (times_1 : List (List L)) (v1 : Int) (st6 : List (List L)) : S := mkS 32 [(0, .one (.l (L.ptr w_5))), (8, .one (.l (L.sl 1 times_1))), (9, .one (.l (L.int .i64 ((List.length times_1 : Nat) : Int)))), (10, .one (.l (L.int .i64 v1)))] [] st6
theorem median_Window_Push.p1_ok (w_5 : Option Nat) (times_1 : List (List L)) (v1 : Int) (st6 : List (List L)) {N : Nat} {r : (List (List L))} {g0 : G} {w0 : World} {R : Exit → Act → World → Prop}  {c1_ : ((Option Nat) × Int × (List (List L))) → Option (List (List L))}  {J1 : Act → World → Prop} (hE : Ends Try.prog Try.f18 g0 w0 (median_Window_Push.rs r) (r) R)  (hc1 : ∀ (w_5 : Option Nat) (v1 : Int) (st6 : List (List L)), c1_ (w_5, v1, st6) = some r → At g0 w0 (median_Window_Push.p1.S w_5 times_1 v1 st6) J1) (h : median_Window_Push.p1 N  times_1 c1_ (w_5, v1, st6) = some r) : At g0 w0 (median_Window_Push.p1.S w_5 times_1 v1 st6) (exK Try.prog R (.c (csub median_Window_Push.B [1, 1, 0, 0]) :: .h J1 :: [.b 0]) .normal) := by
  unfold median_Window_Push.p1 at h
  refine iteB h (fun c11 h1 => ?_) (fun c11 h2 => ?_) <;> clear h
  · obtain ⟨c12, h3⟩ := chk_inv h1; clear h1
    obtain ⟨h6, c13, h4⟩ := optE_inv h3; clear h3
    obtain ⟨x7, rfl, h5⟩ := dec_i64_inv h4; clear h4
    obtain ⟨i8, rfl, h7⟩ := optE_inv h5; clear h5
    obtain ⟨h10, c15, h8⟩ := optE_inv h7; clear h7
    obtain ⟨x9, rfl, h9⟩ := dec_o1_inv h8; clear h8
    obtain ⟨c16, h11⟩ := chk_inv h9; clear h9
    obtain ⟨c17, h12⟩ := chk_inv h11; clear h11
    obtain ⟨c18, h13⟩ := chk_inv h12; clear h12
    obtain ⟨c19, h14⟩ := chk_inv h13; clear h13
    exact At.nd fol 400 [.r [], .c true, .r [(1, {oe := [L.int .i64 x7]})], .d {ds := [(6, {oc := [L.own true 1 x9]}), (10, {oc := [L.own true 1 x9]}), (13, {oc := [L.own true 1 x9]}), (14, {oc := [L.own true 1 x9], m := 2, wm := 2}), (17, {oc := [L.own true 1 x9], mv := [16]})], hv := 147460, Hs := [4, 16388, 147460]}, .r []] [0, 8, 9, 10] [] (And.intro c11 (And.intro c12 (And.intro (of_decide_eq_true c11) (And.intro c13 (And.intro c15 (And.intro c15 (And.intro c15 (And.intro c15 (And.intro c16 (And.intro (Nat.zero_le (Int.toNat (if (10 : Int) < ((List.length x9 : Nat) : Int) then 10 else ((List.length x9 : Nat) : Int)))) (And.intro c17 (And.intro c15 (And.intro c16 (And.intro (Nat.zero_le (Int.toNat (if (10 : Int) < ((List.length x9 : Nat) : Int) then 10 else ((List.length x9 : Nat) : Int)))) (And.intro c17 (And.intro c15 (And.intro (rfl : (0 : Nat) = 0) (And.intro c18 (And.intro (rfl : (0 : Nat) = 0) (And.intro c17 (And.intro c15 (And.intro c19 (And.intro c15 (And.intro (rfl : (0 : Nat) = 0) (@rfl Nat (List.length ((List.take 1 [[L.int .i64 x7]]) ++ (List.take (Int.toNat (if (10 : Int) < ((List.length x9 : Nat) : Int) then 10 else ((List.length x9 : Nat) : Int))) x9)))))))))))))))))))))))))))) (hc1 (some i8) (IntKind.wrap IntKind.i64 (v1 + 1)) (List.set st6 i8 [L.own true 1 ((List.take 1 [[L.int .i64 x7]]) ++ (List.take (Int.toNat (if (10 : Int) < ((List.length x9 : Nat) : Int) then 10 else ((List.length x9 : Nat) : Int))) x9))]) h14) (by kernel_rfl) (by kernel_rfl)
  · obtain rfl := some_inv h2
    exact At.f fol hE 400 [.r [], .c false] [] 0 [] c11 (by kernel_rfl)
theorem median_Window_Push.p1_loop (w_5 : Option Nat) (times_1 : List (List L)) (v1 : Int) (st6 : List (List L)) {N : Nat} {r : (List (List L))} {g0 : G} {w0 : World} {R : Exit → Act → World → Prop}   (hE : Ends Try.prog Try.f18 g0 w0 (median_Window_Push.rs r) (r) R)  (h : loopN (median_Window_Push.p1 N  times_1) N (w_5, v1, st6) = some r) : At g0 w0 (median_Window_Push.p1.S w_5 times_1 v1 st6) (exK Try.prog R (.c (.loop (csub median_Window_Push.B [1, 1, 0, 0])) :: [.b 0]) .normal) :=
  At.loop N (At.loopN (fun y : (Option Nat) × Int × (List (List L)) => median_Window_Push.p1.S y.1 times_1 y.2.1 y.2.2) (fun c J hc y h => median_Window_Push.p1_ok y.1 times_1 y.2.1 y.2.2 hE  (fun w_5 v1 st6 hh => hc (w_5, v1, st6) hh) h) N (w_5, v1, st6) h)
theorem median_Window_Push.at0 (w_0 : Option Nat) (times_1 : List (List L)) (st : List (List L)) {N : Nat} {r : (List (List L))} {g0 : G} {w0 : World} {R : Exit → Act → World → Prop} (hE : Ends Try.prog Try.f18 g0 w0 (median_Window_Push.rs r) (r) R) (h : median_Window_Push N w_0 times_1 st = some r) : At g0 w0 (S.enter 32 [.one (L.ptr w_0), .one (L.sl 1 times_1)] st) (exK Try.prog R [.c median_Window_Push.B] .normal) := by
  unfold median_Window_Push at h
  refine iteB h (fun c1 h15 => ?_) (fun c1 h16 => ?_) <;> clear h
  · obtain rfl := some_inv h15
    exact At.f fol hE 400 [.r [], .c true] [] 0 [] c1 (by kernel_rfl)
  · exact At.q fol 400 [.r [], .c false, .r []] [0, 8, 9, 10] [] c1 (median_Window_Push.p1_loop w_0 times_1 0 st hE  h16) (by kernel_rfl)
theorem median_Window_Push.snd {N : Nat} {w_0 : Option Nat} {times_1 : List (List L)} {st : List (List L)} {r : (List (List L))} (h : median_Window_Push N w_0 times_1 st = some r) : Snd Try.prog 18 [.one (L.ptr w_0), .one (L.sl 1 times_1)] st (median_Window_Push.rs r) (r) :=
  Snd.of (fn := Try.f18) (c := median_Window_Push.B) Try.func18 (by kernel_rfl) (by kernel_rfl) (of_decide_eq_true (by kernel_rfl)) fun g w R hE => median_Window_Push.at0 w_0 times_1 st hE h
/-! (*trailhead/median.Window).Times -/
noncomputable def median_Window_Times.B : Code := Try.f19.body.getD .skip
noncomputable def median_Window_Times.rs (r : (List (List L)) × (List (List L))) : List CV := [.row true 1 r.1]
noncomputable def median_Window_Times (N : Nat) (w_0 : Option Nat) (st : List (List L)) : Option ((List (List L)) × (List (List L))) :=
  if (Option.isNone w_0) = true then
    some ([], st)
  else
  optE w_0 fun i1 =>
  optE (st[i1]?) fun e => dec_o1 e fun x2 =>
  optE (slices_Clone_int N x2) fun x3 =>
  chk (plainRow x3 = true) <|
  some (x3, st)
theorem median_Window_Times.at0 (w_0 : Option Nat) (st : List (List L)) {N : Nat} {r : (List (List L)) × (List (List L))} {g0 : G} {w0 : World} {R : Exit → Act → World → Prop} (hE : Ends Try.prog Try.f19 g0 w0 (median_Window_Times.rs r) (r.2) R) (h : median_Window_Times N w_0 st = some r) : At g0 w0 (S.enter 10 [.one (L.ptr w_0)] st) (exK Try.prog R [.c median_Window_Times.B] .normal) := by
  unfold median_Window_Times at h
  refine iteB h (fun c1 h1 => ?_) (fun c1 h2 => ?_) <;> clear h
  · obtain rfl := some_inv h1
    exact At.f fol hE 400 [.r [(0, {m := 2})], .r [], .c true, .r [(0, {m := 2})]] [] 0 [0] c1 (by kernel_rfl)
  · obtain ⟨i1, rfl, h3⟩ := optE_inv h2; clear h2
    obtain ⟨h6, c3, h4⟩ := optE_inv h3; clear h3
    obtain ⟨x2, rfl, h5⟩ := dec_o1_inv h4; clear h4
    obtain ⟨x3, c4, h7⟩ := optE_inv h5; clear h5
    obtain ⟨c5, h8⟩ := chk_inv h7; clear h7
    obtain rfl := some_inv h8
    exact At.f fol hE 400 [.r [(0, {m := 2})], .r [], .c false, .r [(3, {oc := [L.own true 1 x2]}), (4, {oc := [L.own true 1 x2], rs := [.row true 1 x3], ns := [9], m := 2})]] [] 0 [0] (And.intro c1 (And.intro c3 (And.intro (rfl : (0 : Nat) = 0) (And.intro (@rfl Nat (List.length x2)) (And.intro c3 (And.intro c5 (And.intro (slices_Clone_int.snd c4) (And.intro (rfl : (0 : Nat) = 0) (@rfl Nat (List.length x3)))))))))) (by kernel_rfl)
theorem median_Window_Times.snd {N : Nat} {w_0 : Option Nat} {st : List (List L)} {r : (List (List L)) × (List (List L))} (h : median_Window_Times N w_0 st = some r) : Snd Try.prog 19 [.one (L.ptr w_0)] st (median_Window_Times.rs r) (r.2) :=
  Snd.of (fn := Try.f19) (c := median_Window_Times.B) Try.func19 (by kernel_rfl) (by kernel_rfl) (of_decide_eq_true (by kernel_rfl)) fun g w R hE => median_Window_Times.at0 w_0 st hE h
/-! trailhead/trailheadlaw09.MedianOne -/
noncomputable def Tlaw09_MedianOne.B : Code := Try.f8.body.getD .skip
noncomputable def Tlaw09_MedianOne.rs (r : Bool × (List (List L))) : List CV := [.one (L.bool r.1)]
noncomputable def Tlaw09_MedianOne.p1 (N : Nat)  (x3 : List (List L)) (x6 : List (List L)) (st7 : List (List L)) (c1_ : Int → Option (Bool × (List (List L)))) : Int → Option (Bool × (List (List L))) := fun i_9 =>
  if (decide (i_9 < ((List.length x6 : Nat) : Int))) = true then
    chk (0 ≤ i_9) <|
    optE (x6[0 + (Int.toNat i_9)]?) fun e => dec_i64 e fun x10 =>
    chk (0 ≤ (IntKind.wrap IntKind.i64 (i_9 - 1))) <|
    chk ((IntKind.wrap IntKind.i64 (i_9 - 1)) < ((List.length x3 : Nat) : Int)) <|
    optE (x3[0 + (Int.toNat (IntKind.wrap IntKind.i64 (i_9 - 1)))]?) fun e => dec_i64 e fun x11 =>
    if (x10 != x11) = true then
      some (false, st7)
    else
    c1_ (IntKind.wrap IntKind.i64 (i_9 + 1))
  else
  some (true, st7)
noncomputable def Tlaw09_MedianOne (N : Nat) (row_0 : List (List L)) (time_1 : Int) (st : List (List L)) : Option (Bool × (List (List L))) :=
  optE (Tlaw09_alive N ) fun x1 =>
  if (!x1) = true then
    some (false, st)
  else
  if (decide (((List.length row_0 : Nat) : Int) > 60)) = true then
    some (true, st)
  else
  optE (median_Window_Push N (some (List.length st)) row_0 (st ++ [[L.own true 1 []]])) fun st2 =>
  optE (median_Window_Times N (some (List.length st)) st2) fun (x3, st4) =>
  chk (1 ≤ (List.length [[L.int .i64 time_1]])) <|
  optE (median_Window_Push N (some (List.length st)) (List.take 1 [[L.int .i64 time_1]]) st4) fun st5 =>
  optE (median_Window_Times N (some (List.length st)) st5) fun (x6, st7) =>
  if (((List.length x6 : Nat) : Int) != (if (11 : Int) < (IntKind.wrap IntKind.i64 (((List.length x3 : Nat) : Int) + 1)) then 11 else (IntKind.wrap IntKind.i64 (((List.length x3 : Nat) : Int) + 1)))) = true then
    some (false, st7)
  else
  chk (0 < ((List.length x6 : Nat) : Int)) <|
  optE (x6[0]?) fun e => dec_i64 e fun x8 =>
  if (x8 != time_1) = true then
    some (false, st7)
  else
  loopN (Tlaw09_MedianOne.p1 N  x3 x6 st7) N 1
noncomputable def Tlaw09_MedianOne.p1.S (x3 : List (List L)) (x6 : List (List L)) (i_9 : Int) (st7 : List (List L)) : S := mkS 57 [(6, .one (.h (.row 20 0) 1 0 (List.length x3))), (7, .one (.h (.row 26 0) 1 0 (List.length x6))), (8, .one (.l (L.int .i64 i_9)))] [(20, .row 0 true 1 x3), (26, .row 0 true 1 x6)] st7
theorem Tlaw09_MedianOne.p1_ok (x3 : List (List L)) (x6 : List (List L)) (i_9 : Int) (st7 : List (List L)) {N : Nat} {r : Bool × (List (List L))} {g0 : G} {w0 : World} {R : Exit → Act → World → Prop}  {c1_ : Int → Option (Bool × (List (List L)))}  {J1 : Act → World → Prop} (hE : Ends Try.prog Try.f8 g0 w0 (Tlaw09_MedianOne.rs r) (r.2) R)  (hc1 : ∀ (i_9 : Int), c1_ i_9 = some r → At g0 w0 (Tlaw09_MedianOne.p1.S x3 x6 i_9 st7) J1) (h : Tlaw09_MedianOne.p1 N  x3 x6 st7 c1_ i_9 = some r) : At g0 w0 (Tlaw09_MedianOne.p1.S x3 x6 i_9 st7) (exK Try.prog R (.c (csub Tlaw09_MedianOne.B [1, 1, 1, 1, 1, 1, 1, 1, 1, 0, 1, 0, 0]) :: .h J1 :: [.b 0, .c (csub Tlaw09_MedianOne.B [1, 1, 1, 1, 1, 1, 1, 1, 1, 1])]) .normal) := by
  unfold Tlaw09_MedianOne.p1 at h
  refine iteB h (fun c13 h1 => ?_) (fun c13 h2 => ?_) <;> clear h
  · obtain ⟨c14, h3⟩ := chk_inv h1; clear h1
    obtain ⟨h6, c15, h4⟩ := optE_inv h3; clear h3
    obtain ⟨x10, rfl, h5⟩ := dec_i64_inv h4; clear h4
    obtain ⟨c16, h7⟩ := chk_inv h5; clear h5
    obtain ⟨c17, h8⟩ := chk_inv h7; clear h7
    obtain ⟨h11, c18, h9⟩ := optE_inv h8; clear h8
    obtain ⟨x11, rfl, h10⟩ := dec_i64_inv h9; clear h9
    refine iteB h10 (fun c19 h12 => ?_) (fun c19 h13 => ?_) <;> clear h10
    · obtain rfl := some_inv h12
      exact At.fd fol hE 400 [.r [], .c true, .d {ds := [(3, {oe := [L.int .i64 x10]}), (8, {oe := [L.int .i64 x11]})], hv := 0, Hs := []}, .c true, .r []] [] 0 [] (And.intro c13 (And.intro c14 (And.intro (of_decide_eq_true c13) (And.intro c15 (And.intro c16 (And.intro c17 (And.intro c18 c19))))))) (by kernel_rfl) (by kernel_rfl)
    · exact At.nd fol 400 [.r [], .c true, .d {ds := [(3, {oe := [L.int .i64 x10]}), (8, {oe := [L.int .i64 x11]})], hv := 0, Hs := []}, .c false, .r []] [6, 7, 8] [20, 26] (And.intro c13 (And.intro c14 (And.intro (of_decide_eq_true c13) (And.intro c15 (And.intro c16 (And.intro c17 (And.intro c18 c19))))))) (hc1 (IntKind.wrap IntKind.i64 (i_9 + 1)) h13) (by kernel_rfl) (by kernel_rfl)
  · obtain rfl := some_inv h2
    exact At.f fol hE 400 [.r [], .c false, .r []] [] 0 [] c13 (by kernel_rfl)
theorem Tlaw09_MedianOne.p1_loop (x3 : List (List L)) (x6 : List (List L)) (i_9 : Int) (st7 : List (List L)) {N : Nat} {r : Bool × (List (List L))} {g0 : G} {w0 : World} {R : Exit → Act → World → Prop}   (hE : Ends Try.prog Try.f8 g0 w0 (Tlaw09_MedianOne.rs r) (r.2) R)  (h : loopN (Tlaw09_MedianOne.p1 N  x3 x6 st7) N i_9 = some r) : At g0 w0 (Tlaw09_MedianOne.p1.S x3 x6 i_9 st7) (exK Try.prog R (.c (.loop (csub Tlaw09_MedianOne.B [1, 1, 1, 1, 1, 1, 1, 1, 1, 0, 1, 0, 0])) :: [.b 0, .c (csub Tlaw09_MedianOne.B [1, 1, 1, 1, 1, 1, 1, 1, 1, 1])]) .normal) :=
  At.loop N (At.loopN (fun y : Int => Tlaw09_MedianOne.p1.S x3 x6 y st7) (fun c J hc y h => Tlaw09_MedianOne.p1_ok x3 x6 y st7 hE  (fun i_9 hh => hc i_9 hh) h) N i_9 h)
theorem Tlaw09_MedianOne.at0 (row_0 : List (List L)) (time_1 : Int) (st : List (List L)) {N : Nat} {r : Bool × (List (List L))} {g0 : G} {w0 : World} {R : Exit → Act → World → Prop} (hE : Ends Try.prog Try.f8 g0 w0 (Tlaw09_MedianOne.rs r) (r.2) R) (h : Tlaw09_MedianOne N row_0 time_1 st = some r) : At g0 w0 (S.enter 57 [.one (L.sl 1 row_0), .one (L.int .i64 time_1)] st) (exK Try.prog R [.c Tlaw09_MedianOne.B] .normal) := by
  unfold Tlaw09_MedianOne at h
  obtain ⟨x1, c1, h14⟩ := optE_inv h; clear h
  refine iteB h14 (fun c2 h15 => ?_) (fun c2 h16 => ?_) <;> clear h14
  · obtain rfl := some_inv h15
    exact At.f fol hE 400 [.r [], .r [(0, {rs := [.one (L.bool x1)], m := 1})], .c true, .r []] [] 0 [] (And.intro (Tlaw09_alive.snd c1) c2) (by kernel_rfl)
  · refine iteB h16 (fun c3 h17 => ?_) (fun c3 h18 => ?_) <;> clear h16
    · obtain rfl := some_inv h17
      exact At.f fol hE 400 [.r [], .r [(0, {rs := [.one (L.bool x1)], m := 1})], .c false, .r [], .c true, .r []] [] 0 [] (And.intro (Tlaw09_alive.snd c1) (And.intro c2 c3)) (by kernel_rfl)
    · obtain ⟨st2, c4, h19⟩ := optE_inv h18; clear h18
      obtain ⟨⟨x3, st4⟩, c5, h20⟩ := optE_inv h19; clear h19
      obtain ⟨c6, h21⟩ := chk_inv h20; clear h20
      obtain ⟨st5, c7, h22⟩ := optE_inv h21; clear h21
      obtain ⟨⟨x6, st7⟩, c8, h23⟩ := optE_inv h22; clear h22
      refine iteB h23 (fun c9 h24 => ?_) (fun c9 h25 => ?_) <;> clear h23
      · obtain rfl := some_inv h24
        exact At.f fol hE 400 [.r [], .r [(0, {rs := [.one (L.bool x1)], m := 1})], .c false, .r [], .c false, .r [(0, {ns := [0]}), (1, {m := 1})], .r [(2, {st := st2})], .r [(1, {rs := [.row true 1 x3], st := st4, ns := [20]})], .r [(3, {st := st5, wm := 2, fz := [23]})], .r [(1, {rs := [.row true 1 x6], st := st7, ns := [26]})], .r [(8, {want := false}), (9, {want := false}), (10, {want := false}), (11, {want := false}), (12, {want := false})], .c true, .r []] [] 0 [] (And.intro (Tlaw09_alive.snd c1) (And.intro c2 (And.intro c3 (And.intro (median_Window_Push.snd c4) (And.intro (median_Window_Times.snd c5) (And.intro (rfl : (0 : Nat) = 0) (And.intro c6 (And.intro (median_Window_Push.snd c7) (And.intro (median_Window_Times.snd c8) (And.intro c9 (And.intro c9 (And.intro c9 (And.intro c9 (And.intro c9 (And.intro c9 (rfl : true = true)))))))))))))))) (by kernel_rfl)
      · obtain ⟨c10, h26⟩ := chk_inv h25; clear h25
        obtain ⟨h29, c11, h27⟩ := optE_inv h26; clear h26
        obtain ⟨x8, rfl, h28⟩ := dec_i64_inv h27; clear h27
        refine iteB h28 (fun c12 h30 => ?_) (fun c12 h31 => ?_) <;> clear h28
        · obtain rfl := some_inv h30
          exact At.f fol hE 400 [.r [], .r [(0, {rs := [.one (L.bool x1)], m := 1})], .c false, .r [], .c false, .r [(0, {ns := [0]}), (1, {m := 1})], .r [(2, {st := st2})], .r [(1, {rs := [.row true 1 x3], st := st4, ns := [20]})], .r [(3, {st := st5, wm := 2, fz := [23]})], .r [(1, {rs := [.row true 1 x6], st := st7, ns := [26]})], .r [(10, {oe := [L.int .i64 x8]}), (13, {yes := false})], .c true, .r []] [] 0 [] (And.intro (Tlaw09_alive.snd c1) (And.intro c2 (And.intro c3 (And.intro (median_Window_Push.snd c4) (And.intro (median_Window_Times.snd c5) (And.intro (rfl : (0 : Nat) = 0) (And.intro c6 (And.intro (median_Window_Push.snd c7) (And.intro (median_Window_Times.snd c8) (And.intro c9 (And.intro c9 (And.intro (by decide : (0 : Int) ≤ 0) (And.intro c10 (And.intro c9 (And.intro c11 (And.intro c9 (And.intro c9 (And.intro c9 c12)))))))))))))))))) (by kernel_rfl)
        · exact At.q fol 400 [.r [], .r [(0, {rs := [.one (L.bool x1)], m := 1})], .c false, .r [], .c false, .r [(0, {ns := [0]}), (1, {m := 1})], .r [(2, {st := st2})], .r [(1, {rs := [.row true 1 x3], st := st4, ns := [20]})], .r [(3, {st := st5, wm := 2, fz := [23]})], .r [(1, {rs := [.row true 1 x6], st := st7, ns := [26]})], .r [(10, {oe := [L.int .i64 x8]}), (13, {yes := false})], .c false, .r []] [6, 7, 8] [20, 26] (And.intro (Tlaw09_alive.snd c1) (And.intro c2 (And.intro c3 (And.intro (median_Window_Push.snd c4) (And.intro (median_Window_Times.snd c5) (And.intro (rfl : (0 : Nat) = 0) (And.intro c6 (And.intro (median_Window_Push.snd c7) (And.intro (median_Window_Times.snd c8) (And.intro c9 (And.intro c9 (And.intro (by decide : (0 : Int) ≤ 0) (And.intro c10 (And.intro c9 (And.intro c11 (And.intro c9 (And.intro c9 (And.intro c9 c12)))))))))))))))))) (Tlaw09_MedianOne.p1_loop x3 x6 1 st7 hE  h31) (by kernel_rfl)
theorem Tlaw09_MedianOne.snd {N : Nat} {row_0 : List (List L)} {time_1 : Int} {st : List (List L)} {r : Bool × (List (List L))} (h : Tlaw09_MedianOne N row_0 time_1 st = some r) : Snd Try.prog 8 [.one (L.sl 1 row_0), .one (L.int .i64 time_1)] st (Tlaw09_MedianOne.rs r) (r.2) :=
  Snd.of (fn := Try.f8) (c := Tlaw09_MedianOne.B) Try.func8 (by kernel_rfl) (by kernel_rfl) (of_decide_eq_true (by kernel_rfl)) fun g w R hE => Tlaw09_MedianOne.at0 row_0 time_1 st hE h
/-! trailhead/trailheadref09.Last -/
noncomputable def Tref09_Last.B : Code := Try.f20.body.getD .skip
noncomputable def Tref09_Last.rs (r : (List (List L))) : List CV := [.row true 1 r]
noncomputable def Tref09_Last.p1 (N : Nat)  (row_0 : List (List L)) (c1_ : ((List (List L)) × Int) → Option (List (List L))) : ((List (List L)) × Int) → Option (List (List L)) := fun (out_3, i_1) =>
  if (decide (i_1 ≥ 0)) = true then
    if (decide (((List.length out_3 : Nat) : Int) < 11)) = true then
      chk (0 ≤ i_1) <|
      chk (i_1 < ((List.length row_0 : Nat) : Int)) <|
      optE (row_0[Int.toNat i_1]?) fun e => dec_i64 e fun x4 =>
      chk (1 ≤ (List.length [[L.int .i64 x4]])) <|
      chk (List.length (out_3 ++ (List.take 1 [[L.int .i64 x4]])) * 8 ≤ 140737488355328) <|
      c1_ (out_3 ++ (List.take 1 [[L.int .i64 x4]]), IntKind.wrap IntKind.i64 (i_1 - 1))
    else
    some out_3
  else
  some out_3
noncomputable def Tref09_Last (N : Nat) (row_0 : List (List L)) : Option (List (List L)) :=
  loopN (Tref09_Last.p1 N  row_0) N ([], IntKind.wrap IntKind.i64 (((List.length row_0 : Nat) : Int) - 1))
noncomputable def Tref09_Last.p1.S (row_0 : List (List L)) (out_3 : List (List L)) (i_1 : Int) (st : List (List L)) : S := mkS 25 [(0, .one (.l (L.sl 1 row_0))), (3, .one (.h (.row 3 0) 1 0 (List.length out_3))), (4, .one (.l (L.int .i64 i_1)))] [(3, .row 0 true 1 out_3)] st
theorem Tref09_Last.p1_ok (row_0 : List (List L)) (out_3 : List (List L)) (i_1 : Int) (st : List (List L)) {N : Nat} {r : (List (List L))} {g0 : G} {w0 : World} {R : Exit → Act → World → Prop}  {c1_ : ((List (List L)) × Int) → Option (List (List L))}  {J1 : Act → World → Prop} (hE : Ends Try.prog Try.f20 g0 w0 (Tref09_Last.rs r) st R)  (hc1 : ∀ (out_3 : List (List L)) (i_1 : Int), c1_ (out_3, i_1) = some r → At g0 w0 (Tref09_Last.p1.S row_0 out_3 i_1 st) J1) (h : Tref09_Last.p1 N  row_0 c1_ (out_3, i_1) = some r) : At g0 w0 (Tref09_Last.p1.S row_0 out_3 i_1 st) (exK Try.prog R (.c (csub Tref09_Last.B [1, 1, 0, 1, 0, 0]) :: .h J1 :: [.b 0, .c (csub Tref09_Last.B [1, 1, 1])]) .normal) := by
  unfold Tref09_Last.p1 at h
  refine iteB h (fun c7 h1 => ?_) (fun c7 h2 => ?_) <;> clear h
  · refine iteB h1 (fun c8 h3 => ?_) (fun c8 h4 => ?_) <;> clear h1
    · obtain ⟨c9, h5⟩ := chk_inv h3; clear h3
      obtain ⟨c10, h6⟩ := chk_inv h5; clear h5
      obtain ⟨h9, c11, h7⟩ := optE_inv h6; clear h6
      obtain ⟨x4, rfl, h8⟩ := dec_i64_inv h7; clear h7
      obtain ⟨c12, h10⟩ := chk_inv h8; clear h8
      obtain ⟨c13, h11⟩ := chk_inv h10; clear h10
      exact At.n fol 400 [.r [], .c true, .r [(4, {oe := [L.int .i64 x4]}), (6, {wm := 2})], .r []] [0, 3, 4] [3] (And.intro c7 (And.intro c7 (And.intro c7 (And.intro c7 (And.intro c8 (And.intro c9 (And.intro c10 (And.intro c11 (And.intro (rfl : (0 : Nat) = 0) (And.intro (@rfl Nat (List.length out_3)) (And.intro (rfl : (0 : Nat) = 0) (And.intro c12 c13)))))))))))) (hc1 (out_3 ++ (List.take 1 [[L.int .i64 x4]])) (IntKind.wrap IntKind.i64 (i_1 - 1)) h11) (by kernel_rfl)
    · obtain rfl := some_inv h4
      exact At.f fol hE 400 [.r [], .c false, .r []] [] 0 [0] (And.intro c7 (And.intro c7 (And.intro c7 (And.intro c7 (And.intro c8 (And.intro (rfl : (0 : Nat) = 0) (@rfl Nat (List.length out_3)))))))) (by kernel_rfl)
  · obtain rfl := some_inv h2
    exact At.f fol hE 400 [.r [(3, {want := false}), (4, {want := false}), (5, {want := false}), (6, {yes := false})], .c false, .r []] [] 0 [0] (And.intro c7 (And.intro c7 (And.intro c7 (And.intro c7 (And.intro (rfl : false = false) (And.intro (rfl : (0 : Nat) = 0) (@rfl Nat (List.length out_3)))))))) (by kernel_rfl)
theorem Tref09_Last.p1_loop (row_0 : List (List L)) (out_3 : List (List L)) (i_1 : Int) (st : List (List L)) {N : Nat} {r : (List (List L))} {g0 : G} {w0 : World} {R : Exit → Act → World → Prop}   (hE : Ends Try.prog Try.f20 g0 w0 (Tref09_Last.rs r) st R)  (h : loopN (Tref09_Last.p1 N  row_0) N (out_3, i_1) = some r) : At g0 w0 (Tref09_Last.p1.S row_0 out_3 i_1 st) (exK Try.prog R (.c (.loop (csub Tref09_Last.B [1, 1, 0, 1, 0, 0])) :: [.b 0, .c (csub Tref09_Last.B [1, 1, 1])]) .normal) :=
  At.loop N (At.loopN (fun y : (List (List L)) × Int => Tref09_Last.p1.S row_0 y.1 y.2 st) (fun c J hc y h => Tref09_Last.p1_ok row_0 y.1 y.2 st hE  (fun out_3 i_1 hh => hc (out_3, i_1) hh) h) N (out_3, i_1) h)
theorem Tref09_Last.at0 (row_0 : List (List L)) (st : List (List L)) {N : Nat} {r : (List (List L))} {g0 : G} {w0 : World} {R : Exit → Act → World → Prop} (hE : Ends Try.prog Try.f20 g0 w0 (Tref09_Last.rs r) st R) (h : Tref09_Last N row_0 = some r) : At g0 w0 (S.enter 25 [.one (L.sl 1 row_0)] st) (exK Try.prog R [.c Tref09_Last.B] .normal) := by
  unfold Tref09_Last at h
  exact At.q fol 400 [.r [(0, {m := 2})], .r [(0, {m := 1})], .r []] [0, 3, 4] [3] trivial (Tref09_Last.p1_loop row_0 [] (IntKind.wrap IntKind.i64 (((List.length row_0 : Nat) : Int) - 1)) st hE  h) (by kernel_rfl)
theorem Tref09_Last.snd {N : Nat} {row_0 : List (List L)} {r : (List (List L))} (h : Tref09_Last N row_0 = some r) : SndQ Try.prog 20 [.one (L.sl 1 row_0)] (Tref09_Last.rs r) := fun st =>
  Snd.of (fn := Try.f20) (c := Tref09_Last.B) Try.func20 (by kernel_rfl) (by kernel_rfl) (of_decide_eq_true (by kernel_rfl)) fun g w R hE => Tref09_Last.at0 row_0 st hE h
/-! (*trailhead/median.Window).Mid -/
noncomputable def median_Window_Mid.B : Code := Try.f21.body.getD .skip
noncomputable def median_Window_Mid.rs (r : Int × (List (List L))) : List CV := [.one (L.int .i64 r.1)]
noncomputable def median_Window_Mid (N : Nat) (w_0 : Option Nat) (st : List (List L)) : Option (Int × (List (List L))) :=
  optE (median_Window_Times N w_0 st) fun (x1, st2) =>
  optE (median_Of N x1) fun x3 =>
  some (x3, st2)
theorem median_Window_Mid.at0 (w_0 : Option Nat) (st : List (List L)) {N : Nat} {r : Int × (List (List L))} {g0 : G} {w0 : World} {R : Exit → Act → World → Prop} (hE : Ends Try.prog Try.f21 g0 w0 (median_Window_Mid.rs r) (r.2) R) (h : median_Window_Mid N w_0 st = some r) : At g0 w0 (S.enter 6 [.one (L.ptr w_0)] st) (exK Try.prog R [.c median_Window_Mid.B] .normal) := by
  unfold median_Window_Mid at h
  obtain ⟨⟨x1, st2⟩, c1, h1⟩ := optE_inv h; clear h
  obtain ⟨x3, c2, h2⟩ := optE_inv h1; clear h1
  obtain rfl := some_inv h2
  exact At.f fol hE 400 [.r [], .r [(1, {rs := [.row true 1 x1], st := st2, ns := [4]}), (2, {rs := [.one (L.int .i64 x3)], m := 2})]] [] 0 [] (And.intro (median_Window_Times.snd c1) (And.intro (rfl : (0 : Nat) = 0) (And.intro (@rfl Nat (List.length x1)) (median_Of.snd c2)))) (by kernel_rfl)
theorem median_Window_Mid.snd {N : Nat} {w_0 : Option Nat} {st : List (List L)} {r : Int × (List (List L))} (h : median_Window_Mid N w_0 st = some r) : Snd Try.prog 21 [.one (L.ptr w_0)] st (median_Window_Mid.rs r) (r.2) :=
  Snd.of (fn := Try.f21) (c := median_Window_Mid.B) Try.func21 (by kernel_rfl) (by kernel_rfl) (of_decide_eq_true (by kernel_rfl)) fun g w R hE => median_Window_Mid.at0 w_0 st hE h
/-! trailhead/trailheadlaw09.MedianWindow -/
noncomputable def Tlaw09_MedianWindow.B : Code := Try.f9.body.getD .skip
noncomputable def Tlaw09_MedianWindow.rs (r : Bool × (List (List L))) : List CV := [.one (L.bool r.1)]
noncomputable def Tlaw09_MedianWindow.p1 (N : Nat)  (st : List (List L)) (x5 : List (List L)) (x6 : List (List L)) (x8 : List (List L)) (st9 : List (List L)) (c1_ : Int → Option (Bool × (List (List L)))) : Int → Option (Bool × (List (List L))) := fun v10 =>
  if (decide (v10 < ((List.length x5 : Nat) : Int))) = true then
    chk (0 ≤ v10) <|
    chk (v10 < ((List.length x6 : Nat) : Int)) <|
    optE (x6[0 + (Int.toNat v10)]?) fun e => dec_i64 e fun x11 =>
    optE (x5[0 + (Int.toNat v10)]?) fun e => dec_i64 e fun x12 =>
    if (x11 != x12) = true then
      some (false, st9)
    else
    chk (v10 < ((List.length x8 : Nat) : Int)) <|
    optE (x8[0 + (Int.toNat v10)]?) fun e => dec_i64 e fun x13 =>
    if (x13 != x12) = true then
      some (false, st9)
    else
    c1_ (IntKind.wrap IntKind.i64 (v10 + 1))
  else
  chk (1 ≤ (List.length [[L.int .i64 1]])) <|
  optE (median_Window_Push N none (List.take 1 [[L.int .i64 1]]) st9) fun st14 =>
  optE (median_Window_Mid N (some (List.length st)) st14) fun (x15, st16) =>
  optE (Tref09_Of N x5) fun x17 =>
  if (x15 == x17) = true then
    optE (median_Window_Mid N none st16) fun (x18, st19) =>
    if (x18 == 0) = true then
      optE (median_Window_Times N none st19) fun (x20, st21) =>
      some (((List.length x20 : Nat) : Int) == 0, st21)
    else
    some (false, st19)
  else
  some (false, st16)
noncomputable def Tlaw09_MedianWindow (N : Nat) (row_0 : List (List L)) (cut_1 : Int) (st : List (List L)) : Option (Bool × (List (List L))) :=
  optE (Tlaw09_alive N ) fun x1 =>
  if (!x1) = true then
    some (false, st)
  else
  if (decide (((List.length row_0 : Nat) : Int) > 60)) = true then
    some (true, st)
  else
  if (decide (cut_1 < 0)) = true then
    some (true, st)
  else
  if (decide (cut_1 > ((List.length row_0 : Nat) : Int))) = true then
    some (true, st)
  else
  optE (median_Window_Push N (some (List.length st)) row_0 ((st ++ [[L.own true 1 []]]) ++ [[L.own true 1 []]])) fun st2 =>
  chk (0 ≤ cut_1) <|
  chk ((Int.toNat cut_1) ≤ (List.length row_0)) <|
  optE (median_Window_Push N (some (List.length (st ++ [[L.own true 1 []]]))) (List.take (Int.toNat cut_1) (List.drop 0 row_0)) st2) fun st3 =>
  optE (median_Window_Push N (some (List.length (st ++ [[L.own true 1 []]]))) (List.take ((List.length row_0) - (Int.toNat cut_1)) (List.drop (Int.toNat cut_1) row_0)) st3) fun st4 =>
  optE (Tref09_Last N row_0) fun x5 =>
  optE (median_Window_Times N (some (List.length st)) st4) fun (x6, st7) =>
  optE (median_Window_Times N (some (List.length (st ++ [[L.own true 1 []]]))) st7) fun (x8, st9) =>
  if (((List.length x6 : Nat) : Int) != ((List.length x5 : Nat) : Int)) = true then
    some (false, st9)
  else
  if (((List.length x8 : Nat) : Int) != ((List.length x5 : Nat) : Int)) = true then
    some (false, st9)
  else
  loopN (Tlaw09_MedianWindow.p1 N  st x5 x6 x8 st9) N 0
noncomputable def Tlaw09_MedianWindow.p1.S (st : List (List L)) (x5 : List (List L)) (x6 : List (List L)) (x8 : List (List L)) (v10 : Int) (st9 : List (List L)) : S := mkS 107 [(5, .one (.l (L.ptr (some (List.length st))))), (7, .one (.h (.row 45 0) 1 0 (List.length x5))), (8, .one (.h (.row 47 0) 1 0 (List.length x6))), (9, .one (.h (.row 49 0) 1 0 (List.length x8))), (63, .one (.l (L.int .i64 ((List.length x5 : Nat) : Int)))), (64, .one (.l (L.int .i64 v10)))] [(45, .row 0 true 1 x5), (47, .row 0 true 1 x6), (49, .row 0 true 1 x8)] st9
theorem Tlaw09_MedianWindow.p1_ok (st : List (List L)) (x5 : List (List L)) (x6 : List (List L)) (x8 : List (List L)) (v10 : Int) (st9 : List (List L)) {N : Nat} {r : Bool × (List (List L))} {g0 : G} {w0 : World} {R : Exit → Act → World → Prop}  {c1_ : Int → Option (Bool × (List (List L)))}  {J1 : Act → World → Prop} (hE : Ends Try.prog Try.f9 g0 w0 (Tlaw09_MedianWindow.rs r) (r.2) R)  (hc1 : ∀ (v10 : Int), c1_ v10 = some r → At g0 w0 (Tlaw09_MedianWindow.p1.S st x5 x6 x8 v10 st9) J1) (h : Tlaw09_MedianWindow.p1 N  st x5 x6 x8 st9 c1_ v10 = some r) : At g0 w0 (Tlaw09_MedianWindow.p1.S st x5 x6 x8 v10 st9) (exK Try.prog R (.c (csub Tlaw09_MedianWindow.B [1, 1, 1, 1, 1, 1, 1, 1, 1, 1, 0, 1, 0, 0]) :: .h J1 :: [.b 0, .c (csub Tlaw09_MedianWindow.B [1, 1, 1, 1, 1, 1, 1, 1, 1, 1, 1])]) .normal) := by
  unfold Tlaw09_MedianWindow.p1 at h
  refine iteB h (fun c16 h1 => ?_) (fun c16 h2 => ?_) <;> clear h
  · obtain ⟨c17, h3⟩ := chk_inv h1; clear h1
    obtain ⟨c18, h4⟩ := chk_inv h3; clear h3
    obtain ⟨h7, c19, h5⟩ := optE_inv h4; clear h4
    obtain ⟨x11, rfl, h6⟩ := dec_i64_inv h5; clear h5
    obtain ⟨h10, c20, h8⟩ := optE_inv h6; clear h6
    obtain ⟨x12, rfl, h9⟩ := dec_i64_inv h8; clear h8
    refine iteB h9 (fun c21 h11 => ?_) (fun c21 h12 => ?_) <;> clear h9
    · obtain rfl := some_inv h11
      exact At.fd fol hE 400 [.r [], .c true, .r [], .d {ds := [(3, {oe := [L.int .i64 x11]}), (7, {oe := [L.int .i64 x12]}), (10, {want := false}), (11, {want := false}), (12, {want := false}), (13, {want := false}), (14, {want := false}), (15, {want := false}), (16, {want := false}), (17, {want := false}), (18, {want := false})], hv := 0, Hs := []}, .c true, .r []] [] 0 [] (And.intro c16 (And.intro c17 (And.intro c18 (And.intro c19 (And.intro c17 (And.intro (of_decide_eq_true c16) (And.intro c20 (And.intro c21 (And.intro c21 (And.intro c21 (And.intro c21 (And.intro c21 (And.intro c21 (And.intro c21 (And.intro c21 (And.intro c21 (And.intro c21 (rfl : true = true)))))))))))))))))) (by kernel_rfl) (by kernel_rfl)
    · obtain ⟨c22, h13⟩ := chk_inv h12; clear h12
      obtain ⟨h16, c23, h14⟩ := optE_inv h13; clear h13
      obtain ⟨x13, rfl, h15⟩ := dec_i64_inv h14; clear h14
      refine iteB h15 (fun c24 h17 => ?_) (fun c24 h18 => ?_) <;> clear h15
      · obtain rfl := some_inv h17
        exact At.fd fol hE 400 [.r [], .c true, .r [], .d {ds := [(3, {oe := [L.int .i64 x11]}), (7, {oe := [L.int .i64 x12]}), (13, {oe := [L.int .i64 x13]}), (17, {oe := [L.int .i64 x12]}), (19, {yes := false})], hv := 0, Hs := []}, .c true, .r []] [] 0 [] (And.intro c16 (And.intro c17 (And.intro c18 (And.intro c19 (And.intro c17 (And.intro (of_decide_eq_true c16) (And.intro c20 (And.intro c21 (And.intro c21 (And.intro c21 (And.intro c17 (And.intro c22 (And.intro c21 (And.intro c23 (And.intro c21 (And.intro c21 (And.intro c21 (And.intro c17 (And.intro (of_decide_eq_true c16) (And.intro c21 (And.intro c20 (And.intro c21 (And.intro c21 c24))))))))))))))))))))))) (by kernel_rfl) (by kernel_rfl)
      · exact At.nd fol 400 [.r [], .c true, .r [], .d {ds := [(3, {oe := [L.int .i64 x11]}), (7, {oe := [L.int .i64 x12]}), (13, {oe := [L.int .i64 x13]}), (17, {oe := [L.int .i64 x12]}), (19, {yes := false})], hv := 0, Hs := []}, .c false, .r []] [5, 7, 8, 9, 63, 64] [45, 47, 49] (And.intro c16 (And.intro c17 (And.intro c18 (And.intro c19 (And.intro c17 (And.intro (of_decide_eq_true c16) (And.intro c20 (And.intro c21 (And.intro c21 (And.intro c21 (And.intro c17 (And.intro c22 (And.intro c21 (And.intro c23 (And.intro c21 (And.intro c21 (And.intro c21 (And.intro c17 (And.intro (of_decide_eq_true c16) (And.intro c21 (And.intro c20 (And.intro c21 (And.intro c21 c24))))))))))))))))))))))) (hc1 (IntKind.wrap IntKind.i64 (v10 + 1)) h18) (by kernel_rfl) (by kernel_rfl)
  · obtain ⟨c25, h19⟩ := chk_inv h2; clear h2
    obtain ⟨st14, c26, h20⟩ := optE_inv h19; clear h19
    obtain ⟨⟨x15, st16⟩, c27, h21⟩ := optE_inv h20; clear h20
    obtain ⟨x17, c28, h22⟩ := optE_inv h21; clear h21
    refine iteB h22 (fun c29 h23 => ?_) (fun c29 h24 => ?_) <;> clear h22
    · obtain ⟨⟨x18, st19⟩, c30, h25⟩ := optE_inv h23; clear h23
      refine iteB h25 (fun c31 h26 => ?_) (fun c31 h27 => ?_) <;> clear h25
      · obtain ⟨⟨x20, st21⟩, c32, h28⟩ := optE_inv h26; clear h26
        obtain rfl := some_inv h28
        exact At.f fol hE 400 [.r [], .c false, .r [], .r [(2, {st := st14, wm := 2, fz := [89]})], .r [(1, {rs := [.one (L.int .i64 x15)], st := st16}), (3, {rs := [.one (L.int .i64 x17)], m := 2}), (7, {rs := [.one (L.int .i64 x18)], st := st19}), (12, {rs := [.row true 1 x20], st := st21, ns := [103]})]] [] 0 [] (And.intro c16 (And.intro (rfl : (0 : Nat) = 0) (And.intro c25 (And.intro (median_Window_Push.snd c26) (And.intro (median_Window_Mid.snd c27) (And.intro (rfl : (0 : Nat) = 0) (And.intro (@rfl Nat (List.length x5)) (And.intro (Tref09_Of.snd c28) (And.intro c29 (And.intro c29 (And.intro (median_Window_Mid.snd c30) (And.intro c29 (And.intro c29 (And.intro c31 (And.intro c31 (And.intro (median_Window_Times.snd c32) (And.intro c31 (And.intro c31 c31)))))))))))))))))) (by kernel_rfl)
      · obtain rfl := some_inv h27
        exact At.f fol hE 400 [.r [], .c false, .r [], .r [(2, {st := st14, wm := 2, fz := [89]})], .r [(1, {rs := [.one (L.int .i64 x15)], st := st16}), (3, {rs := [.one (L.int .i64 x17)], m := 2}), (7, {rs := [.one (L.int .i64 x18)], st := st19}), (11, {want := false}), (12, {want := false}), (13, {want := false}), (14, {want := false}), (15, {yes := false})]] [] 0 [] (And.intro c16 (And.intro (rfl : (0 : Nat) = 0) (And.intro c25 (And.intro (median_Window_Push.snd c26) (And.intro (median_Window_Mid.snd c27) (And.intro (rfl : (0 : Nat) = 0) (And.intro (@rfl Nat (List.length x5)) (And.intro (Tref09_Of.snd c28) (And.intro c29 (And.intro c29 (And.intro (median_Window_Mid.snd c30) (And.intro c29 (And.intro c29 (And.intro c31 (And.intro c31 (And.intro c31 (And.intro c31 c31))))))))))))))))) (by kernel_rfl)
    · obtain rfl := some_inv h24
      exact At.f fol hE 400 [.r [], .c false, .r [], .r [(2, {st := st14, wm := 2, fz := [89]})], .r [(1, {rs := [.one (L.int .i64 x15)], st := st16}), (3, {rs := [.one (L.int .i64 x17)], m := 2}), (6, {want := false}), (7, {want := false}), (8, {want := false}), (9, {yes := false}), (11, {want := false}), (12, {want := false}), (13, {want := false}), (14, {want := false}), (15, {yes := false})]] [] 0 [] (And.intro c16 (And.intro (rfl : (0 : Nat) = 0) (And.intro c25 (And.intro (median_Window_Push.snd c26) (And.intro (median_Window_Mid.snd c27) (And.intro (rfl : (0 : Nat) = 0) (And.intro (@rfl Nat (List.length x5)) (And.intro (Tref09_Of.snd c28) (And.intro c29 (And.intro c29 (And.intro c29 (And.intro c29 (And.intro (rfl : false = false) (And.intro (rfl : false = false) (And.intro (rfl : false = false) (And.intro (rfl : false = false) (rfl : false = false))))))))))))))))) (by kernel_rfl)
theorem Tlaw09_MedianWindow.p1_loop (st : List (List L)) (x5 : List (List L)) (x6 : List (List L)) (x8 : List (List L)) (v10 : Int) (st9 : List (List L)) {N : Nat} {r : Bool × (List (List L))} {g0 : G} {w0 : World} {R : Exit → Act → World → Prop}   (hE : Ends Try.prog Try.f9 g0 w0 (Tlaw09_MedianWindow.rs r) (r.2) R)  (h : loopN (Tlaw09_MedianWindow.p1 N  st x5 x6 x8 st9) N v10 = some r) : At g0 w0 (Tlaw09_MedianWindow.p1.S st x5 x6 x8 v10 st9) (exK Try.prog R (.c (.loop (csub Tlaw09_MedianWindow.B [1, 1, 1, 1, 1, 1, 1, 1, 1, 1, 0, 1, 0, 0])) :: [.b 0, .c (csub Tlaw09_MedianWindow.B [1, 1, 1, 1, 1, 1, 1, 1, 1, 1, 1])]) .normal) :=
  At.loop N (At.loopN (fun y : Int => Tlaw09_MedianWindow.p1.S st x5 x6 x8 y st9) (fun c J hc y h => Tlaw09_MedianWindow.p1_ok st x5 x6 x8 y st9 hE  (fun v10 hh => hc v10 hh) h) N v10 h)
theorem Tlaw09_MedianWindow.at0 (row_0 : List (List L)) (cut_1 : Int) (st : List (List L)) {N : Nat} {r : Bool × (List (List L))} {g0 : G} {w0 : World} {R : Exit → Act → World → Prop} (hE : Ends Try.prog Try.f9 g0 w0 (Tlaw09_MedianWindow.rs r) (r.2) R) (h : Tlaw09_MedianWindow N row_0 cut_1 st = some r) : At g0 w0 (S.enter 107 [.one (L.sl 1 row_0), .one (L.int .i64 cut_1)] st) (exK Try.prog R [.c Tlaw09_MedianWindow.B] .normal) := by
  unfold Tlaw09_MedianWindow at h
  obtain ⟨x1, c1, h29⟩ := optE_inv h; clear h
  refine iteB h29 (fun c2 h30 => ?_) (fun c2 h31 => ?_) <;> clear h29
  · obtain rfl := some_inv h30
    exact At.f fol hE 400 [.r [], .r [(0, {rs := [.one (L.bool x1)], m := 1})], .c true, .r []] [] 0 [] (And.intro (Tlaw09_alive.snd c1) c2) (by kernel_rfl)
  · refine iteB h31 (fun c3 h32 => ?_) (fun c3 h33 => ?_) <;> clear h31
    · obtain rfl := some_inv h32
      exact At.f fol hE 400 [.r [], .r [(0, {rs := [.one (L.bool x1)], m := 1})], .c false, .r [(4, {want := false}), (5, {want := false}), (8, {want := false}), (9, {want := false}), (10, {want := false}), (11, {want := false})], .c true, .r []] [] 0 [] (And.intro (Tlaw09_alive.snd c1) (And.intro c2 (And.intro c3 (And.intro c3 (And.intro c3 (And.intro (rfl : true = true) (And.intro (rfl : true = true) (And.intro (rfl : true = true) (And.intro (rfl : true = true) (And.intro (rfl : true = true) (rfl : true = true))))))))))) (by kernel_rfl)
    · refine iteB h33 (fun c4 h34 => ?_) (fun c4 h35 => ?_) <;> clear h33
      · obtain rfl := some_inv h34
        exact At.f fol hE 400 [.r [], .r [(0, {rs := [.one (L.bool x1)], m := 1})], .c false, .r [(6, {yes := false}), (8, {want := false}), (9, {want := false}), (10, {want := false}), (11, {want := false})], .c true, .r []] [] 0 [] (And.intro (Tlaw09_alive.snd c1) (And.intro c2 (And.intro c3 (And.intro c3 (And.intro c3 (And.intro c4 (And.intro c4 (And.intro c4 (And.intro c4 (And.intro c4 (rfl : true = true))))))))))) (by kernel_rfl)
      · refine iteB h35 (fun c5 h36 => ?_) (fun c5 h37 => ?_) <;> clear h35
        · obtain rfl := some_inv h36
          exact At.f fol hE 400 [.r [], .r [(0, {rs := [.one (L.bool x1)], m := 1})], .c false, .r [(6, {yes := false}), (12, {yes := false})], .c true, .r []] [] 0 [] (And.intro (Tlaw09_alive.snd c1) (And.intro c2 (And.intro c3 (And.intro c3 (And.intro c3 (And.intro c4 (And.intro c4 (And.intro c4 (And.intro c4 (And.intro c4 c5)))))))))) (by kernel_rfl)
        · obtain ⟨st2, c6, h38⟩ := optE_inv h37; clear h37
          obtain ⟨c7, h39⟩ := chk_inv h38; clear h38
          obtain ⟨c8, h40⟩ := chk_inv h39; clear h39
          obtain ⟨st3, c9, h41⟩ := optE_inv h40; clear h40
          obtain ⟨st4, c10, h42⟩ := optE_inv h41; clear h41
          obtain ⟨x5, c11, h43⟩ := optE_inv h42; clear h42
          obtain ⟨⟨x6, st7⟩, c12, h44⟩ := optE_inv h43; clear h43
          obtain ⟨⟨x8, st9⟩, c13, h45⟩ := optE_inv h44; clear h44
          refine iteB h45 (fun c14 h46 => ?_) (fun c14 h47 => ?_) <;> clear h45
          · obtain rfl := some_inv h46
            exact At.f fol hE 400 [.r [], .r [(0, {rs := [.one (L.bool x1)], m := 1})], .c false, .r [(6, {yes := false}), (12, {yes := false})], .c false, .r [(0, {ns := [0]}), (1, {m := 1}), (2, {ns := [0]}), (3, {m := 1})], .r [(2, {st := st2})], .r [(4, {st := st3})], .r [(4, {st := st4})], .r [(1, {rs := [.row true 1 x5], ns := [45], m := 1})], .r [(1, {rs := [.row true 1 x6], st := st7, ns := [47]}), (3, {rs := [.row true 1 x8], st := st9, ns := [49]})], .r [(6, {want := false}), (7, {want := false}), (8, {want := false}), (9, {want := false}), (10, {want := false})], .c true, .r []] [] 0 [] (And.intro (Tlaw09_alive.snd c1) (And.intro c2 (And.intro c3 (And.intro c3 (And.intro c3 (And.intro c4 (And.intro c4 (And.intro c4 (And.intro c4 (And.intro c4 (And.intro c5 (And.intro (median_Window_Push.snd c6) (And.intro c7 (And.intro (Nat.zero_le (Int.toNat cut_1)) (And.intro c8 (And.intro (median_Window_Push.snd c9) (And.intro c7 (And.intro c8 (And.intro (Nat.le_refl (List.length row_0)) (And.intro (median_Window_Push.snd c10) (And.intro (Tref09_Last.snd c11) (And.intro (median_Window_Times.snd c12) (And.intro (median_Window_Times.snd c13) (And.intro c14 (And.intro c14 (And.intro c14 (And.intro c14 (And.intro c14 (And.intro c14 (rfl : true = true)))))))))))))))))))))))))))))) (by kernel_rfl)
          · refine iteB h47 (fun c15 h48 => ?_) (fun c15 h49 => ?_) <;> clear h47
            · obtain rfl := some_inv h48
              exact At.f fol hE 400 [.r [], .r [(0, {rs := [.one (L.bool x1)], m := 1})], .c false, .r [(6, {yes := false}), (12, {yes := false})], .c false, .r [(0, {ns := [0]}), (1, {m := 1}), (2, {ns := [0]}), (3, {m := 1})], .r [(2, {st := st2})], .r [(4, {st := st3})], .r [(4, {st := st4})], .r [(1, {rs := [.row true 1 x5], ns := [45], m := 1})], .r [(1, {rs := [.row true 1 x6], st := st7, ns := [47]}), (3, {rs := [.row true 1 x8], st := st9, ns := [49]})], .r [(11, {yes := false})], .c true, .r []] [] 0 [] (And.intro (Tlaw09_alive.snd c1) (And.intro c2 (And.intro c3 (And.intro c3 (And.intro c3 (And.intro c4 (And.intro c4 (And.intro c4 (And.intro c4 (And.intro c4 (And.intro c5 (And.intro (median_Window_Push.snd c6) (And.intro c7 (And.intro (Nat.zero_le (Int.toNat cut_1)) (And.intro c8 (And.intro (median_Window_Push.snd c9) (And.intro c7 (And.intro c8 (And.intro (Nat.le_refl (List.length row_0)) (And.intro (median_Window_Push.snd c10) (And.intro (Tref09_Last.snd c11) (And.intro (median_Window_Times.snd c12) (And.intro (median_Window_Times.snd c13) (And.intro c14 (And.intro c14 (And.intro c14 (And.intro c14 (And.intro c14 (And.intro c14 c15))))))))))))))))))))))))))))) (by kernel_rfl)
            · exact At.q fol 400 [.r [], .r [(0, {rs := [.one (L.bool x1)], m := 1})], .c false, .r [(6, {yes := false}), (12, {yes := false})], .c false, .r [(0, {ns := [0]}), (1, {m := 1}), (2, {ns := [0]}), (3, {m := 1})], .r [(2, {st := st2})], .r [(4, {st := st3})], .r [(4, {st := st4})], .r [(1, {rs := [.row true 1 x5], ns := [45], m := 1})], .r [(1, {rs := [.row true 1 x6], st := st7, ns := [47]}), (3, {rs := [.row true 1 x8], st := st9, ns := [49]})], .r [(11, {yes := false})], .c false, .r []] [5, 7, 8, 9, 63, 64] [45, 47, 49] (And.intro (Tlaw09_alive.snd c1) (And.intro c2 (And.intro c3 (And.intro c3 (And.intro c3 (And.intro c4 (And.intro c4 (And.intro c4 (And.intro c4 (And.intro c4 (And.intro c5 (And.intro (median_Window_Push.snd c6) (And.intro c7 (And.intro (Nat.zero_le (Int.toNat cut_1)) (And.intro c8 (And.intro (median_Window_Push.snd c9) (And.intro c7 (And.intro c8 (And.intro (Nat.le_refl (List.length row_0)) (And.intro (median_Window_Push.snd c10) (And.intro (Tref09_Last.snd c11) (And.intro (median_Window_Times.snd c12) (And.intro (median_Window_Times.snd c13) (And.intro c14 (And.intro c14 (And.intro c14 (And.intro c14 (And.intro c14 (And.intro c14 c15))))))))))))))))))))))))))))) (Tlaw09_MedianWindow.p1_loop st x5 x6 x8 0 st9 hE  h49) (by kernel_rfl)
theorem Tlaw09_MedianWindow.snd {N : Nat} {row_0 : List (List L)} {cut_1 : Int} {st : List (List L)} {r : Bool × (List (List L))} (h : Tlaw09_MedianWindow N row_0 cut_1 st = some r) : Snd Try.prog 9 [.one (L.sl 1 row_0), .one (L.int .i64 cut_1)] st (Tlaw09_MedianWindow.rs r) (r.2) :=
  Snd.of (fn := Try.f9) (c := Tlaw09_MedianWindow.B) Try.func9 (by kernel_rfl) (by kernel_rfl) (of_decide_eq_true (by kernel_rfl)) fun g w R hE => Tlaw09_MedianWindow.at0 row_0 cut_1 st hE h
end Go.Dn.F
