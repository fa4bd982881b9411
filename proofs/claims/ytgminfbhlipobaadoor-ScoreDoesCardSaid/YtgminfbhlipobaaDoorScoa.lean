/- Contracts of functions of the program, as shallow functions, and their proofs. -/
import Derived.Test.YtgminfbhlipobaaDoorProg
import Derived.Test.YtgminfbhlipobaaDoorKc
set_option linter.all false
set_option maxRecDepth 100000
namespace Go.Dn.F
open Go.Proofs
noncomputable def glob_digest_steps : List Int := [1116352408, 1899447441, 3049323471, 3921009573, 961987163, 1508970993, 2453635748, 2870763221, 3624381080, 310598401, 607225278, 1426881987, 1925078388, 2162078206, 2614888103, 3248222580, 3835390401, 4022224774, 264347078, 604807628, 770255983, 1249150122, 1555081692, 1996064986, 2554220882, 2821834349, 2952996808, 3210313671, 3336571891, 3584528711, 113926993, 338241895, 666307205, 773529912, 1294757372, 1396182291, 1695183700, 1986661051, 2177026350, 2456956037, 2730485921, 2820302411, 3259730800, 3345764771, 3516065817, 3600352804, 4094571909, 275423344, 430227734, 506948616, 659060556, 883997877, 958139571, 1322822218, 1537002063, 1747873779, 1955562222, 2024104815, 2227730452, 2361852424, 2428436474, 2756734187, 3204031479, 3329325298]
noncomputable def glob_digest_starts : List Int := [1779033703, 3144134277, 1013904242, 2773480762, 1359893119, 2600822924, 528734635, 1541459225]
noncomputable def glob_score_points : List Int := [0, 100, 100, 100, 20, 100, 50, 10]
noncomputable instance glob : Globs := ⟨fun k => match k with
  | 0 => some [L.arr .i64 8 glob_score_points]
  | _ => none⟩
theorem fol : Tryd.prog.follows .mixedOrders = true := by kernel_rfl
noncomputable def dec_i64 {α : Type} (l : List L) (k : Int → Option α) : Option α := match l with
  | [L.int .i64 x0] => k x0
  | _ => none
theorem dec_i64_inv {α : Type} {l : List L} {k : Int → Option α} {r : α} (h : dec_i64 l k = some r) : ∃ x0, l = [L.int .i64 x0] ∧ k x0 = some r := by
  unfold dec_i64 at h; split at h
  · exact ⟨_, rfl, h⟩
  · cases h
noncomputable def obj_score_Board {α : Type} (l : List L) (k : (List (L × L)) → (List (List L)) → Option α) : Option α := match l with
  | [L.mp x0, L.own true 1 x1] => k x0 x1
  | _ => none
theorem obj_score_Board_inv {α : Type} {l : List L} {k : (List (L × L)) → (List (List L)) → Option α} {r : α} (h : obj_score_Board l k = some r) : ∃ x0 x1, l = [L.mp x0, L.own true 1 x1] ∧ k x0 x1 = some r := by
  unfold obj_score_Board at h; split at h
  · exact ⟨_, _, rfl, h⟩
  · cases h
noncomputable def dec_trailheadlaw20_Call {α : Type} (l : List L) (k : Int → Int → (List (List L)) → Option α) : Option α := match l with
  | [L.int .i64 x0, L.int .i64 x1, L.sl 1 x2] => k x0 x1 x2
  | _ => none
theorem dec_trailheadlaw20_Call_inv {α : Type} {l : List L} {k : Int → Int → (List (List L)) → Option α} {r : α} (h : dec_trailheadlaw20_Call l k = some r) : ∃ x0 x1 x2, l = [L.int .i64 x0, L.int .i64 x1, L.sl 1 x2] ∧ k x0 x1 x2 = some r := by
  unfold dec_trailheadlaw20_Call at h; split at h
  · exact ⟨_, _, _, rfl, h⟩
  · cases h
noncomputable def obj_trailheadref20_Board {α : Type} (l : List L) (k : (List (List L)) → (List (List L)) → (List (List L)) → Option α) : Option α := match l with
  | [L.own true 1 x0, L.own true 1 x1, L.own true 1 x2] => k x0 x1 x2
  | _ => none
theorem obj_trailheadref20_Board_inv {α : Type} {l : List L} {k : (List (List L)) → (List (List L)) → (List (List L)) → Option α} {r : α} (h : obj_trailheadref20_Board l k = some r) : ∃ x0 x1 x2, l = [L.own true 1 x0, L.own true 1 x1, L.own true 1 x2] ∧ k x0 x1 x2 = some r := by
  unfold obj_trailheadref20_Board at h; split at h
  · exact ⟨_, _, _, rfl, h⟩
  · cases h
noncomputable def slices_Clone_int.B : Code := Tryd.f30.body.getD .skip
noncomputable def slices_Clone_int.rs (r : List (List L)) : List CV := [.row true 1 r]
noncomputable def slices_Clone_int (N : Nat) (s_0 : List (List L)) : Option (List (List L)) := chk (List.length s_0 * 8 ≤ 140737488355328) (some s_0)
theorem slices_Clone_int.snd {N : Nat} {s_0 : List (List L)} {r : List (List L)} (h : slices_Clone_int N s_0 = some r) : SndQ Tryd.prog 30 [.one (.sl 1 s_0)] (slices_Clone_int.rs r) := fun st =>
  Snd.of (fn := Tryd.f30) (c := slices_Clone_int.B) Tryd.func30 (by kernel_rfl) (by kernel_rfl) (of_decide_eq_true (by kernel_rfl)) fun g w R hE => by
    unfold slices_Clone_int at h
    obtain ⟨c1, h⟩ := chk_inv h
    obtain rfl := some_inv h
    refine At.q (s' := mkS 8 [(0, .one (.l (.sl 1 s_0)))] [] st) (ks' := [.c (.seq (.region 1 #[{ dst := some 3, op := .move (.tmp 0), type := 27, pos := opPos (csub slices_Clone_int.B [1, 0]) 0, after := #[], guard := none }, { dst := some 4, op := .binOp .eql 27 (.tmp 3) (.const (.slice none 0 0)) 27, type := 4, pos := opPos (csub slices_Clone_int.B [1, 0]) 1, after := #[⟨0, .data⟩], guard := none }] false) (csub slices_Clone_int.B [1, 0, 1])), .c (csub slices_Clone_int.B [1, 1])]) fol 400 [.r [(0, {m := 2})], .s 2] [0] [] trivial ?_ (by kernel_rfl)
    refine At.nilcmp (T := 27) (E := 3) (sz := 1) (xs := s_0) (stepZ_ok _) rfl rfl rfl rfl rfl rfl Tryd.underlying27 (by kernel_rfl) (of_decide_eq_true (by kernel_rfl)) fun b hb => ?_
    cases b with
    | true =>
      obtain rfl := hb rfl
      exact At.f fol hE 400 [.c true, .r [(0, {m := 2})]] [] 0 [0] (rfl : true = true) (by kernel_rfl)
    | false =>
      exact At.f fol hE 400 [.c false, .r []] [] 0 [0] (And.intro (rfl : false = false) (And.intro (rfl : (0 : Nat) = 0) (And.intro (@rfl Nat (List.length ([] : List (List L)))) (And.intro c1 (And.intro (rfl : (0 : Nat) = 0) (@rfl Nat (List.length s_0))))))) (by kernel_rfl)
theorem bits_Add64.snd {N : Nat} {x y z : Int} {r : Int × Int} (h : bits_Add64 N x y z = some r) : ExtI Tryd.prog 73 [(.u64, x), (.u64, y), (.u64, z)] [(.u64, r.1), (.u64, r.2)] := bits_Add64_ext Tryd.func73 (by kernel_rfl) (by kernel_rfl) (by kernel_rfl) (by kernel_rfl) h
theorem bits_Sub64.snd {N : Nat} {x y z : Int} {r : Int × Int} (h : bits_Sub64 N x y z = some r) : ExtI Tryd.prog 80 [(.u64, x), (.u64, y), (.u64, z)] [(.u64, r.1), (.u64, r.2)] := bits_Sub64_ext Tryd.func80 (by kernel_rfl) (by kernel_rfl) (by kernel_rfl) (by kernel_rfl) h
/-! trailhead/score.New -/
noncomputable def score_New.B : Code := Tryd.f10.body.getD .skip
noncomputable def score_New.rs (r : (Option Nat) × (List (List L))) : List CV := [.one (L.ptr r.1)]
noncomputable def score_New (N : Nat) (st : List (List L)) : Option ((Option Nat) × (List (List L))) :=
  some ((some (List.length st)), st ++ [[L.mp [], L.own true 1 []]])
theorem score_New.at0 (st : List (List L)) {N : Nat} {r : (Option Nat) × (List (List L))} {g0 : G} {w0 : World} {R : Exit → Act → World → Prop} (hE : Ends Tryd.prog Tryd.f10 g0 w0 (score_New.rs r) (r.2) R) (h : score_New N st = some r) : At g0 w0 (S.enter 4 [] st) (exK Tryd.prog R [.c score_New.B] .normal) := by
  unfold score_New at h
  obtain rfl := some_inv h
  exact At.f fol hE 400 [.r [], .r [(1, {ns := [1]}), (2, {m := 1})]] [] 0 [] trivial (by kernel_rfl)
theorem score_New.snd {N : Nat}  {st : List (List L)} {r : (Option Nat) × (List (List L))} (h : score_New N st = some r) : Snd Tryd.prog 10 [] st (score_New.rs r) (r.2) :=
  Snd.of (fn := Tryd.f10) (c := score_New.B) Tryd.func10 (by kernel_rfl) (by kernel_rfl) (of_decide_eq_true (by kernel_rfl)) fun g w R hE => score_New.at0 st hE h
/-! trailhead/score.Points -/
noncomputable def score_Points.B : Code := Tryd.f16.body.getD .skip
noncomputable def score_Points.rs (r : Int) : List CV := [.one (L.int .i64 r)]
noncomputable def score_Points.p2 (N : Nat) (c1_ : (Int × Int) → Option Int) (n_4 : Int) (faults_0 : List (List L)) (v2 : Int) : Option Int :=
  c1_ (n_4, IntKind.wrap IntKind.i64 (v2 + 1))
noncomputable def score_Points.p1 (N : Nat)  (faults_0 : List (List L)) (c1_ : (Int × Int) → Option Int) : (Int × Int) → Option Int := fun (n_1, v2) =>
  if (decide (v2 < ((List.length faults_0 : Nat) : Int))) = true then
    chk (0 ≤ v2) <|
    optE (faults_0[Int.toNat v2]?) fun e => dec_i64 e fun x3 =>
    if (decide (x3 ≥ 1)) = true then
      if (decide (x3 < 8)) = true then
        chk (0 ≤ x3) <|
        score_Points.p2 N c1_ (IntKind.wrap IntKind.i64 (n_1 + (List.getD glob_score_points (Int.toNat x3) 0))) faults_0 v2
      else
      score_Points.p2 N c1_ n_1 faults_0 v2
    else
    score_Points.p2 N c1_ n_1 faults_0 v2
  else
  some n_1
noncomputable def score_Points (N : Nat) (faults_0 : List (List L)) : Option Int :=
  loopN (score_Points.p1 N  faults_0) N (0, 0)
noncomputable def score_Points.p2.S (n_4 : Int) (faults_0 : List (List L)) (v2 : Int) (st : List (List L)) : S := mkS 25 [(3, .one (.l (L.int .i64 n_4))), (6, .one (.l (L.sl 1 faults_0))), (7, .one (.l (L.int .i64 ((List.length faults_0 : Nat) : Int)))), (8, .one (.l (L.int .i64 v2)))] [] st
noncomputable def score_Points.p1.S (n_1 : Int) (faults_0 : List (List L)) (v2 : Int) (st : List (List L)) : S := mkS 25 [(3, .one (.l (L.int .i64 n_1))), (6, .one (.l (L.sl 1 faults_0))), (7, .one (.l (L.int .i64 ((List.length faults_0 : Nat) : Int)))), (8, .one (.l (L.int .i64 v2)))] [] st
theorem score_Points.p2_ok (n_4 : Int) (faults_0 : List (List L)) (v2 : Int) (st : List (List L)) {N : Nat} {r : Int} {g0 : G} {w0 : World} {R : Exit → Act → World → Prop} {c1_ : (Int × Int) → Option Int} {J1 : Act → World → Prop} (hE : Ends Tryd.prog Tryd.f16 g0 w0 (score_Points.rs r) st R) (hc1 : ∀ (n_1 : Int) (v2 : Int), c1_ (n_1, v2) = some r → At g0 w0 (score_Points.p1.S n_1 faults_0 v2 st) J1) (h : score_Points.p2 N c1_ n_4 faults_0 v2 = some r) : At g0 w0 (score_Points.p2.S n_4 faults_0 v2 st) (exK Tryd.prog R [.c (csub score_Points.B [1, 1, 0, 1, 0, 0, 1, 1, 1]), .h J1, .b 0, .c (csub score_Points.B [1, 1, 1])] .normal) := by
  unfold score_Points.p2 at h
  exact At.n fol 400 [.r []] [3, 6, 7, 8] [] trivial (hc1 n_4 (IntKind.wrap IntKind.i64 (v2 + 1)) h) (by kernel_rfl)
theorem score_Points.p1_ok (n_1 : Int) (faults_0 : List (List L)) (v2 : Int) (st : List (List L)) {N : Nat} {r : Int} {g0 : G} {w0 : World} {R : Exit → Act → World → Prop}  {c1_ : (Int × Int) → Option Int}  {J1 : Act → World → Prop} (hE : Ends Tryd.prog Tryd.f16 g0 w0 (score_Points.rs r) st R)  (hc1 : ∀ (n_1 : Int) (v2 : Int), c1_ (n_1, v2) = some r → At g0 w0 (score_Points.p1.S n_1 faults_0 v2 st) J1) (h : score_Points.p1 N  faults_0 c1_ (n_1, v2) = some r) : At g0 w0 (score_Points.p1.S n_1 faults_0 v2 st) (exK Tryd.prog R (.c (csub score_Points.B [1, 1, 0, 1, 0, 0]) :: .h J1 :: [.b 0, .c (csub score_Points.B [1, 1, 1])]) .normal) := by
  unfold score_Points.p1 at h
  refine iteB h (fun c1 h1 => ?_) (fun c1 h2 => ?_) <;> clear h
  · obtain ⟨c2, h3⟩ := chk_inv h1; clear h1
    obtain ⟨h6, c3, h4⟩ := optE_inv h3; clear h3
    obtain ⟨x3, rfl, h5⟩ := dec_i64_inv h4; clear h4
    refine iteB h5 (fun c4 h7 => ?_) (fun c4 h8 => ?_) <;> clear h5
    · refine iteB h7 (fun c5 h9 => ?_) (fun c5 h10 => ?_) <;> clear h7
      · obtain ⟨c6, h11⟩ := chk_inv h9; clear h9
        exact At.q fol 400 [.r [], .c true, .r [(1, {oe := [L.int .i64 x3]})], .r [], .c true, .r [], .s 4] [3, 6, 7, 8] [] (And.intro c1 (And.intro c2 (And.intro (of_decide_eq_true c1) (And.intro c3 (And.intro c4 (And.intro c4 (And.intro c4 (And.intro c5 (And.intro c6 (of_decide_eq_true c5)))))))))) (score_Points.p2_ok (IntKind.wrap IntKind.i64 (n_1 + (List.getD glob_score_points (Int.toNat x3) 0))) faults_0 v2 st hE hc1 h11) (by kernel_rfl)
      · exact At.q fol 400 [.r [], .c true, .r [(1, {oe := [L.int .i64 x3]})], .r [], .c false, .s 4] [3, 6, 7, 8] [] (And.intro c1 (And.intro c2 (And.intro (of_decide_eq_true c1) (And.intro c3 (And.intro c4 (And.intro c4 (And.intro c4 c5))))))) (score_Points.p2_ok n_1 faults_0 v2 st hE hc1 h10) (by kernel_rfl)
    · exact At.q fol 400 [.r [], .c true, .r [(1, {oe := [L.int .i64 x3]})], .r [(3, {want := false}), (4, {want := false}), (5, {yes := false})], .c false, .s 4] [3, 6, 7, 8] [] (And.intro c1 (And.intro c2 (And.intro (of_decide_eq_true c1) (And.intro c3 (And.intro c4 (And.intro c4 (And.intro c4 (rfl : false = false)))))))) (score_Points.p2_ok n_1 faults_0 v2 st hE hc1 h8) (by kernel_rfl)
  · obtain rfl := some_inv h2
    exact At.f fol hE 400 [.r [], .c false, .r []] [] 0 [] c1 (by kernel_rfl)
theorem score_Points.p1_loop (n_1 : Int) (faults_0 : List (List L)) (v2 : Int) (st : List (List L)) {N : Nat} {r : Int} {g0 : G} {w0 : World} {R : Exit → Act → World → Prop}   (hE : Ends Tryd.prog Tryd.f16 g0 w0 (score_Points.rs r) st R)  (h : loopN (score_Points.p1 N  faults_0) N (n_1, v2) = some r) : At g0 w0 (score_Points.p1.S n_1 faults_0 v2 st) (exK Tryd.prog R (.c (.loop (csub score_Points.B [1, 1, 0, 1, 0, 0])) :: [.b 0, .c (csub score_Points.B [1, 1, 1])]) .normal) :=
  At.loop N (At.loopN (fun y : Int × Int => score_Points.p1.S y.1 faults_0 y.2 st) (fun c J hc y h => score_Points.p1_ok y.1 faults_0 y.2 st hE  (fun n_1 v2 hh => hc (n_1, v2) hh) h) N (n_1, v2) h)
theorem score_Points.at0 (faults_0 : List (List L)) (st : List (List L)) {N : Nat} {r : Int} {g0 : G} {w0 : World} {R : Exit → Act → World → Prop} (hE : Ends Tryd.prog Tryd.f16 g0 w0 (score_Points.rs r) st R) (h : score_Points N faults_0 = some r) : At g0 w0 (S.enter 25 [.one (L.sl 1 faults_0)] st) (exK Tryd.prog R [.c score_Points.B] .normal) := by
  unfold score_Points at h
  exact At.q fol 400 [.r [], .r [], .r []] [3, 6, 7, 8] [] trivial (score_Points.p1_loop 0 faults_0 0 st hE  h) (by kernel_rfl)
theorem score_Points.snd {N : Nat} {faults_0 : List (List L)} {r : Int} (h : score_Points N faults_0 = some r) : SndQ Tryd.prog 16 [.one (L.sl 1 faults_0)] (score_Points.rs r) := fun st =>
  Snd.of (fn := Tryd.f16) (c := score_Points.B) Tryd.func16 (by kernel_rfl) (by kernel_rfl) (of_decide_eq_true (by kernel_rfl)) fun g w R hE => score_Points.at0 faults_0 st hE h
/-! slices.Index[[]int,int] -/
noncomputable def slices_Index_int.B : Code := Tryd.f37.body.getD .skip
noncomputable def slices_Index_int.rs (r : Int) : List CV := [.one (L.int .i64 r)]
noncomputable def slices_Index_int.p1 (N : Nat)  (s_0 : List (List L)) (v_1 : Int) (c1_ : Int → Option Int) : Int → Option Int := fun v1 =>
  if (decide (v1 < ((List.length s_0 : Nat) : Int))) = true then
    chk (0 ≤ v1) <|
    optE (s_0[Int.toNat v1]?) fun e => dec_i64 e fun x2 =>
    if (v_1 == x2) = true then
      some v1
    else
    c1_ (IntKind.wrap IntKind.i64 (v1 + 1))
  else
  some (-1)
noncomputable def slices_Index_int (N : Nat) (s_0 : List (List L)) (v_1 : Int) : Option Int :=
  loopN (slices_Index_int.p1 N  s_0 v_1) N 0
noncomputable def slices_Index_int.p1.S (s_0 : List (List L)) (v_1 : Int) (v1 : Int) (st : List (List L)) : S := mkS 19 [(0, .one (.l (L.sl 1 s_0))), (1, .one (.l (L.int .i64 v_1))), (7, .one (.l (L.int .i64 ((List.length s_0 : Nat) : Int)))), (8, .one (.l (L.int .i64 v1)))] [] st
theorem slices_Index_int.p1_ok (s_0 : List (List L)) (v_1 : Int) (v1 : Int) (st : List (List L)) {N : Nat} {r : Int} {g0 : G} {w0 : World} {R : Exit → Act → World → Prop}  {c1_ : Int → Option Int}  {J1 : Act → World → Prop} (hE : Ends Tryd.prog Tryd.f37 g0 w0 (slices_Index_int.rs r) st R)  (hc1 : ∀ (v1 : Int), c1_ v1 = some r → At g0 w0 (slices_Index_int.p1.S s_0 v_1 v1 st) J1) (h : slices_Index_int.p1 N  s_0 v_1 c1_ v1 = some r) : At g0 w0 (slices_Index_int.p1.S s_0 v_1 v1 st) (exK Tryd.prog R (.c (csub slices_Index_int.B [1, 0, 1, 0, 0]) :: .h J1 :: [.b 0, .c (csub slices_Index_int.B [1, 1])]) .normal) := by
  unfold slices_Index_int.p1 at h
  refine iteB h (fun c1 h1 => ?_) (fun c1 h2 => ?_) <;> clear h
  · obtain ⟨c2, h3⟩ := chk_inv h1; clear h1
    obtain ⟨h6, c3, h4⟩ := optE_inv h3; clear h3
    obtain ⟨x2, rfl, h5⟩ := dec_i64_inv h4; clear h4
    refine iteB h5 (fun c4 h7 => ?_) (fun c4 h8 => ?_) <;> clear h5
    · obtain rfl := some_inv h7
      exact At.f fol hE 400 [.r [], .c true, .r [], .r [(4, {oe := [L.int .i64 x2]})], .c true, .r []] [] 0 [] (And.intro c1 (And.intro c2 (And.intro (of_decide_eq_true c1) (And.intro c3 c4)))) (by kernel_rfl)
    · exact At.n fol 400 [.r [], .c true, .r [], .r [(4, {oe := [L.int .i64 x2]})], .c false, .r []] [0, 1, 7, 8] [] (And.intro c1 (And.intro c2 (And.intro (of_decide_eq_true c1) (And.intro c3 c4)))) (hc1 (IntKind.wrap IntKind.i64 (v1 + 1)) h8) (by kernel_rfl)
  · obtain rfl := some_inv h2
    exact At.f fol hE 400 [.r [], .c false, .r []] [] 0 [] c1 (by kernel_rfl)
theorem slices_Index_int.p1_loop (s_0 : List (List L)) (v_1 : Int) (v1 : Int) (st : List (List L)) {N : Nat} {r : Int} {g0 : G} {w0 : World} {R : Exit → Act → World → Prop}   (hE : Ends Tryd.prog Tryd.f37 g0 w0 (slices_Index_int.rs r) st R)  (h : loopN (slices_Index_int.p1 N  s_0 v_1) N v1 = some r) : At g0 w0 (slices_Index_int.p1.S s_0 v_1 v1 st) (exK Tryd.prog R (.c (.loop (csub slices_Index_int.B [1, 0, 1, 0, 0])) :: [.b 0, .c (csub slices_Index_int.B [1, 1])]) .normal) :=
  At.loop N (At.loopN (fun y : Int => slices_Index_int.p1.S s_0 v_1 y st) (fun c J hc y h => slices_Index_int.p1_ok s_0 v_1 y st hE  (fun v1 hh => hc v1 hh) h) N v1 h)
theorem slices_Index_int.at0 (s_0 : List (List L)) (v_1 : Int) (st : List (List L)) {N : Nat} {r : Int} {g0 : G} {w0 : World} {R : Exit → Act → World → Prop} (hE : Ends Tryd.prog Tryd.f37 g0 w0 (slices_Index_int.rs r) st R) (h : slices_Index_int N s_0 v_1 = some r) : At g0 w0 (S.enter 19 [.one (L.sl 1 s_0), .one (L.int .i64 v_1)] st) (exK Tryd.prog R [.c slices_Index_int.B] .normal) := by
  unfold slices_Index_int at h
  exact At.q fol 400 [.r [], .r []] [0, 1, 7, 8] [] trivial (slices_Index_int.p1_loop s_0 v_1 0 st hE  h) (by kernel_rfl)
theorem slices_Index_int.snd {N : Nat} {s_0 : List (List L)} {v_1 : Int} {r : Int} (h : slices_Index_int N s_0 v_1 = some r) : SndQ Tryd.prog 37 [.one (L.sl 1 s_0), .one (L.int .i64 v_1)] (slices_Index_int.rs r) := fun st =>
  Snd.of (fn := Tryd.f37) (c := slices_Index_int.B) Tryd.func37 (by kernel_rfl) (by kernel_rfl) (of_decide_eq_true (by kernel_rfl)) fun g w R hE => slices_Index_int.at0 s_0 v_1 st hE h
/-! slices.Contains[[]int,int] -/
noncomputable def slices_Contains_int.B : Code := Tryd.f29.body.getD .skip
noncomputable def slices_Contains_int.rs (r : Bool) : List CV := [.one (L.bool r)]
noncomputable def slices_Contains_int (N : Nat) (s_0 : List (List L)) (v_1 : Int) : Option Bool :=
  optE (slices_Index_int N s_0 v_1) fun x1 =>
  some (decide (x1 ≥ 0))
theorem slices_Contains_int.at0 (s_0 : List (List L)) (v_1 : Int) (st : List (List L)) {N : Nat} {r : Bool} {g0 : G} {w0 : World} {R : Exit → Act → World → Prop} (hE : Ends Tryd.prog Tryd.f29 g0 w0 (slices_Contains_int.rs r) st R) (h : slices_Contains_int N s_0 v_1 = some r) : At g0 w0 (S.enter 9 [.one (L.sl 1 s_0), .one (L.int .i64 v_1)] st) (exK Tryd.prog R [.c slices_Contains_int.B] .normal) := by
  unfold slices_Contains_int at h
  obtain ⟨x1, c1, h1⟩ := optE_inv h; clear h
  obtain rfl := some_inv h1
  exact At.f fol hE 400 [.r [], .r [(2, {rs := [.one (L.int .i64 x1)], m := 1})]] [] 0 [] (slices_Index_int.snd c1) (by kernel_rfl)
theorem slices_Contains_int.snd {N : Nat} {s_0 : List (List L)} {v_1 : Int} {r : Bool} (h : slices_Contains_int N s_0 v_1 = some r) : SndQ Tryd.prog 29 [.one (L.sl 1 s_0), .one (L.int .i64 v_1)] (slices_Contains_int.rs r) := fun st =>
  Snd.of (fn := Tryd.f29) (c := slices_Contains_int.B) Tryd.func29 (by kernel_rfl) (by kernel_rfl) (of_decide_eq_true (by kernel_rfl)) fun g w R hE => slices_Contains_int.at0 s_0 v_1 st hE h
/-! (*trailhead/score.Board).Shuns -/
noncomputable def score_Board_Shuns.B : Code := Tryd.f15.body.getD .skip
noncomputable def score_Board_Shuns.rs (r : Bool × (List (List L))) : List CV := [.one (L.bool r.1)]
noncomputable def score_Board_Shuns (N : Nat) (b_0 : Option Nat) (peer_1 : Int) (st : List (List L)) : Option (Bool × (List (List L))) :=
  if (!(Option.isNone b_0)) = true then
    optE b_0 fun i1 =>
    optE (st[i1]?) fun e => obj_score_Board e fun x2 x3 =>
    optE (slices_Contains_int N x3 peer_1) fun x4 =>
    some (x4, st)
  else
  some (false, st)
theorem score_Board_Shuns.at0 (b_0 : Option Nat) (peer_1 : Int) (st : List (List L)) {N : Nat} {r : Bool × (List (List L))} {g0 : G} {w0 : World} {R : Exit → Act → World → Prop} (hE : Ends Tryd.prog Tryd.f15 g0 w0 (score_Board_Shuns.rs r) (r.2) R) (h : score_Board_Shuns N b_0 peer_1 st = some r) : At g0 w0 (S.enter 15 [.one (L.ptr b_0), .one (L.int .i64 peer_1)] st) (exK Tryd.prog R [.c score_Board_Shuns.B] .normal) := by
  unfold score_Board_Shuns at h
  refine iteB h (fun c1 h1 => ?_) (fun c1 h2 => ?_) <;> clear h
  · obtain ⟨i1, rfl, h3⟩ := optE_inv h1; clear h1
    obtain ⟨h6, c3, h4⟩ := optE_inv h3; clear h3
    obtain ⟨x2, x3, rfl, h5⟩ := obj_score_Board_inv h4; clear h4
    obtain ⟨x4, c4, h7⟩ := optE_inv h5; clear h5
    obtain rfl := some_inv h7
    exact At.f fol hE 400 [.r [], .r [(6, {oc := [L.mp x2, L.own true 1 x3]}), (8, {oc := [L.mp x2, L.own true 1 x3], rs := [.one (L.bool x4)], m := 2})]] [] 0 [] (And.intro (rfl : true = true) (And.intro (rfl : true = true) (And.intro (rfl : true = true) (And.intro (rfl : true = true) (And.intro c3 (And.intro (rfl : true = true) (And.intro (rfl : true = true) (And.intro (rfl : (0 : Nat) = 0) (And.intro (@rfl Nat (List.length x3)) (And.intro c3 (And.intro (slices_Contains_int.snd c4) (rfl : true = true)))))))))))) (by kernel_rfl)
  · obtain rfl := some_inv h2
    exact At.f fol hE 400 [.r [], .r [(3, {want := false}), (4, {want := false}), (5, {want := false}), (6, {want := false}), (7, {want := false}), (8, {want := false}), (9, {yes := false})]] [] 0 [] (And.intro c1 (And.intro c1 (And.intro c1 (And.intro c1 (And.intro c1 (And.intro c1 c1)))))) (by kernel_rfl)
theorem score_Board_Shuns.snd {N : Nat} {b_0 : Option Nat} {peer_1 : Int} {st : List (List L)} {r : Bool × (List (List L))} (h : score_Board_Shuns N b_0 peer_1 st = some r) : Snd Tryd.prog 15 [.one (L.ptr b_0), .one (L.int .i64 peer_1)] st (score_Board_Shuns.rs r) (r.2) :=
  Snd.of (fn := Tryd.f15) (c := score_Board_Shuns.B) Tryd.func15 (by kernel_rfl) (by kernel_rfl) (of_decide_eq_true (by kernel_rfl)) fun g w R hE => score_Board_Shuns.at0 b_0 peer_1 st hE h
/-! (*trailhead/score.Board).Blame$1 -/
noncomputable def score_Board_Blame_1.B : Code := Tryd.f27.body.getD .skip
noncomputable def score_Board_Blame_1.rs (r : Bool) : List CV := [.one (L.bool r)]
noncomputable def score_Board_Blame_1 (N : Nat) (x_0 : Int) (a_1_0 : Int) : Option Bool :=
  some (x_0 == a_1_0)
theorem score_Board_Blame_1.at0 (x_0 : Int) (a_1_0 : Int) (st : List (List L)) {N : Nat} {r : Bool} {g0 : G} {w0 : World} {R : Exit → Act → World → Prop} (hE : Ends Tryd.prog Tryd.f27 g0 w0 (score_Board_Blame_1.rs r) st R) (h : score_Board_Blame_1 N x_0 a_1_0 = some r) : At g0 w0 (S.enter 7 [.one (L.int .i64 x_0), .one (L.bx 1 [L.int .i64 a_1_0])] st) (exK Tryd.prog R [.c score_Board_Blame_1.B] .normal) := by
  unfold score_Board_Blame_1 at h
  obtain rfl := some_inv h
  exact At.f fol hE 400 [.r [], .r [(1, {m := 2})]] [] 0 [] trivial (by kernel_rfl)
theorem score_Board_Blame_1.snd {N : Nat} {x_0 : Int} {a_1_0 : Int} {r : Bool} (h : score_Board_Blame_1 N x_0 a_1_0 = some r) : SndQ Tryd.prog 27 [.one (L.int .i64 x_0), .one (L.bx 1 [L.int .i64 a_1_0])] (score_Board_Blame_1.rs r) := fun st =>
  Snd.of (fn := Tryd.f27) (c := score_Board_Blame_1.B) Tryd.func27 (by kernel_rfl) (by kernel_rfl) (of_decide_eq_true (by kernel_rfl)) fun g w R hE => score_Board_Blame_1.at0 x_0 a_1_0 st hE h
/-! slices.IndexFunc[[]int,int] -/
noncomputable def slices_IndexFunc_int_score_Board_Blame_1.B : Code := Tryd.f36.body.getD .skip
noncomputable def slices_IndexFunc_int_score_Board_Blame_1.rs (r : Int) : List CV := [.one (L.int .i64 r)]
noncomputable def slices_IndexFunc_int_score_Board_Blame_1.p1 (N : Nat)  (s_0 : List (List L)) (f_1_0_0 : Int) (c1_ : Int → Option Int) : Int → Option Int := fun v1 =>
  if (decide (v1 < ((List.length s_0 : Nat) : Int))) = true then
    chk (0 ≤ v1) <|
    optE (s_0[Int.toNat v1]?) fun e => dec_i64 e fun x2 =>
    optE (score_Board_Blame_1 N x2 f_1_0_0) fun x3 =>
    if x3 = true then
      some v1
    else
    c1_ (IntKind.wrap IntKind.i64 (v1 + 1))
  else
  some (-1)
noncomputable def slices_IndexFunc_int_score_Board_Blame_1 (N : Nat) (s_0 : List (List L)) (f_1_0_0 : Int) : Option Int :=
  loopN (slices_IndexFunc_int_score_Board_Blame_1.p1 N  s_0 f_1_0_0) N 0
noncomputable def slices_IndexFunc_int_score_Board_Blame_1.p1.S (s_0 : List (List L)) (f_1_0_0 : Int) (v1 : Int) (st : List (List L)) : S := mkS 19 [(0, .one (.l (L.sl 1 s_0))), (1, .one (.l (L.fn 27 [L.bx 1 [L.int .i64 f_1_0_0]]))), (7, .one (.l (L.int .i64 ((List.length s_0 : Nat) : Int)))), (8, .one (.l (L.int .i64 v1)))] [] st
theorem slices_IndexFunc_int_score_Board_Blame_1.p1_ok (s_0 : List (List L)) (f_1_0_0 : Int) (v1 : Int) (st : List (List L)) {N : Nat} {r : Int} {g0 : G} {w0 : World} {R : Exit → Act → World → Prop}  {c1_ : Int → Option Int}  {J1 : Act → World → Prop} (hE : Ends Tryd.prog Tryd.f36 g0 w0 (slices_IndexFunc_int_score_Board_Blame_1.rs r) st R)  (hc1 : ∀ (v1 : Int), c1_ v1 = some r → At g0 w0 (slices_IndexFunc_int_score_Board_Blame_1.p1.S s_0 f_1_0_0 v1 st) J1) (h : slices_IndexFunc_int_score_Board_Blame_1.p1 N  s_0 f_1_0_0 c1_ v1 = some r) : At g0 w0 (slices_IndexFunc_int_score_Board_Blame_1.p1.S s_0 f_1_0_0 v1 st) (exK Tryd.prog R (.c (csub slices_IndexFunc_int_score_Board_Blame_1.B [1, 0, 1, 0, 0]) :: .h J1 :: [.b 0, .c (csub slices_IndexFunc_int_score_Board_Blame_1.B [1, 1])]) .normal) := by
  unfold slices_IndexFunc_int_score_Board_Blame_1.p1 at h
  refine iteB h (fun c1 h1 => ?_) (fun c1 h2 => ?_) <;> clear h
  · obtain ⟨c2, h3⟩ := chk_inv h1; clear h1
    obtain ⟨h6, c3, h4⟩ := optE_inv h3; clear h3
    obtain ⟨x2, rfl, h5⟩ := dec_i64_inv h4; clear h4
    obtain ⟨x3, c4, h7⟩ := optE_inv h5; clear h5
    refine iteB h7 (fun c5 h8 => ?_) (fun c5 h9 => ?_) <;> clear h7
    · obtain rfl := some_inv h8
      exact At.f fol hE 400 [.r [], .c true, .r [], .r [(4, {oe := [L.int .i64 x2]}), (5, {rs := [.one (L.bool x3)], st := st, m := 5})], .c true, .r []] [] 0 [] (And.intro c1 (And.intro c2 (And.intro (of_decide_eq_true c1) (And.intro c3 (And.intro (score_Board_Blame_1.snd c4 st) c5))))) (by kernel_rfl)
    · exact At.n fol 400 [.r [], .c true, .r [], .r [(4, {oe := [L.int .i64 x2]}), (5, {rs := [.one (L.bool x3)], st := st, m := 5})], .c false, .r []] [0, 1, 7, 8] [] (And.intro c1 (And.intro c2 (And.intro (of_decide_eq_true c1) (And.intro c3 (And.intro (score_Board_Blame_1.snd c4 st) c5))))) (hc1 (IntKind.wrap IntKind.i64 (v1 + 1)) h9) (by kernel_rfl)
  · obtain rfl := some_inv h2
    exact At.f fol hE 400 [.r [], .c false, .r []] [] 0 [] c1 (by kernel_rfl)
theorem slices_IndexFunc_int_score_Board_Blame_1.p1_loop (s_0 : List (List L)) (f_1_0_0 : Int) (v1 : Int) (st : List (List L)) {N : Nat} {r : Int} {g0 : G} {w0 : World} {R : Exit → Act → World → Prop}   (hE : Ends Tryd.prog Tryd.f36 g0 w0 (slices_IndexFunc_int_score_Board_Blame_1.rs r) st R)  (h : loopN (slices_IndexFunc_int_score_Board_Blame_1.p1 N  s_0 f_1_0_0) N v1 = some r) : At g0 w0 (slices_IndexFunc_int_score_Board_Blame_1.p1.S s_0 f_1_0_0 v1 st) (exK Tryd.prog R (.c (.loop (csub slices_IndexFunc_int_score_Board_Blame_1.B [1, 0, 1, 0, 0])) :: [.b 0, .c (csub slices_IndexFunc_int_score_Board_Blame_1.B [1, 1])]) .normal) :=
  At.loop N (At.loopN (fun y : Int => slices_IndexFunc_int_score_Board_Blame_1.p1.S s_0 f_1_0_0 y st) (fun c J hc y h => slices_IndexFunc_int_score_Board_Blame_1.p1_ok s_0 f_1_0_0 y st hE  (fun v1 hh => hc v1 hh) h) N v1 h)
theorem slices_IndexFunc_int_score_Board_Blame_1.at0 (s_0 : List (List L)) (f_1_0_0 : Int) (st : List (List L)) {N : Nat} {r : Int} {g0 : G} {w0 : World} {R : Exit → Act → World → Prop} (hE : Ends Tryd.prog Tryd.f36 g0 w0 (slices_IndexFunc_int_score_Board_Blame_1.rs r) st R) (h : slices_IndexFunc_int_score_Board_Blame_1 N s_0 f_1_0_0 = some r) : At g0 w0 (S.enter 19 [.one (L.sl 1 s_0), .one (L.fn 27 [L.bx 1 [L.int .i64 f_1_0_0]])] st) (exK Tryd.prog R [.c slices_IndexFunc_int_score_Board_Blame_1.B] .normal) := by
  unfold slices_IndexFunc_int_score_Board_Blame_1 at h
  exact At.q fol 400 [.r [], .r []] [0, 1, 7, 8] [] trivial (slices_IndexFunc_int_score_Board_Blame_1.p1_loop s_0 f_1_0_0 0 st hE  h) (by kernel_rfl)
theorem slices_IndexFunc_int_score_Board_Blame_1.snd {N : Nat} {s_0 : List (List L)} {f_1_0_0 : Int} {r : Int} (h : slices_IndexFunc_int_score_Board_Blame_1 N s_0 f_1_0_0 = some r) : SndQ Tryd.prog 36 [.one (L.sl 1 s_0), .one (L.fn 27 [L.bx 1 [L.int .i64 f_1_0_0]])] (slices_IndexFunc_int_score_Board_Blame_1.rs r) := fun st =>
  Snd.of (fn := Tryd.f36) (c := slices_IndexFunc_int_score_Board_Blame_1.B) Tryd.func36 (by kernel_rfl) (by kernel_rfl) (of_decide_eq_true (by kernel_rfl)) fun g w R hE => slices_IndexFunc_int_score_Board_Blame_1.at0 s_0 f_1_0_0 st hE h
/-! slices.DeleteFunc[[]int,int] -/
noncomputable def slices_DeleteFunc_int_score_Board_Blame_1.B : Code := Tryd.f26.body.getD .skip
noncomputable def slices_DeleteFunc_int_score_Board_Blame_1.rs (r : (List (List L))) : List CV := [.row true 1 r]
noncomputable def slices_DeleteFunc_int_score_Board_Blame_1.p2 (N : Nat) (c1_ : (Int × Int × (List (List L))) → Option (List (List L))) (s_0 : List (List L)) (del_1_0_0 : Int) (i_12 : Int) (j_3 : Int) (s_11 : List (List L)) : Option (List (List L)) :=
  c1_ (i_12, IntKind.wrap IntKind.i64 (j_3 + 1), s_11)
noncomputable def slices_DeleteFunc_int_score_Board_Blame_1.p1 (N : Nat)  (s_0 : List (List L)) (del_1_0_0 : Int) (c1_ : (Int × Int × (List (List L))) → Option (List (List L))) : (Int × Int × (List (List L))) → Option (List (List L)) := fun (i_2, j_3, s_8) =>
  if (decide (j_3 < ((List.length s_0 : Nat) : Int))) = true then
    chk (0 ≤ j_3) <|
    optE (s_8[0 + (Int.toNat j_3)]?) fun e => dec_i64 e fun x9 =>
    optE (score_Board_Blame_1 N x9 del_1_0_0) fun x10 =>
    if (!x10) = true then
      chk (0 ≤ i_2) <|
      chk (i_2 < ((List.length s_0 : Nat) : Int)) <|
      slices_DeleteFunc_int_score_Board_Blame_1.p2 N c1_ s_0 del_1_0_0 (IntKind.wrap IntKind.i64 (i_2 + 1)) j_3 (List.set s_8 (0 + (Int.toNat i_2)) [L.int .i64 x9])
    else
    slices_DeleteFunc_int_score_Board_Blame_1.p2 N c1_ s_0 del_1_0_0 i_2 j_3 s_8
  else
  chk (0 ≤ i_2) <|
  chk ((Int.toNat i_2) ≤ (List.length s_0)) <|
  chk ((0 + (Int.toNat i_2)) + ((List.length s_0) - (Int.toNat i_2)) = List.length s_8) <|
  chk ((0 + (Int.toNat i_2)) ≤ (List.length (List.take (0 + (Int.toNat i_2)) s_8 ++ List.replicate ((List.length s_0) - (Int.toNat i_2)) [L.int .i64 0]))) <|
  chk ((Int.toNat i_2) ≤ (List.length (List.take (0 + (Int.toNat i_2)) s_8 ++ List.replicate ((List.length s_0) - (Int.toNat i_2)) [L.int .i64 0]))) <|
  some (List.take (Int.toNat i_2) (List.take (0 + (Int.toNat i_2)) s_8 ++ List.replicate ((List.length s_0) - (Int.toNat i_2)) [L.int .i64 0]))
noncomputable def slices_DeleteFunc_int_score_Board_Blame_1 (N : Nat) (s_0 : List (List L)) (del_1_0_0 : Int) : Option (List (List L)) :=
  optE (slices_IndexFunc_int_score_Board_Blame_1 N s_0 del_1_0_0) fun x1 =>
  if (x1 == (-1)) = true then
    some s_0
  else
  loopN (slices_DeleteFunc_int_score_Board_Blame_1.p1 N  s_0 del_1_0_0) N (x1, IntKind.wrap IntKind.i64 (x1 + 1), s_0)
noncomputable def slices_DeleteFunc_int_score_Board_Blame_1.p2.S (s_0 : List (List L)) (del_1_0_0 : Int) (i_12 : Int) (j_3 : Int) (s_11 : List (List L)) (st : List (List L)) : S := mkS 42 [(0, .one (.h (.row 0 0) 1 0 (List.length s_0))), (1, .one (.l (L.fn 27 [L.bx 1 [L.int .i64 del_1_0_0]]))), (5, .one (.l (L.int .i64 i_12))), (6, .one (.l (L.int .i64 j_3)))] [(0, .row 0 true 1 s_11)] st
noncomputable def slices_DeleteFunc_int_score_Board_Blame_1.p1.S (s_0 : List (List L)) (del_1_0_0 : Int) (i_2 : Int) (j_3 : Int) (s_8 : List (List L)) (st : List (List L)) : S := mkS 42 [(0, .one (.h (.row 0 0) 1 0 (List.length s_0))), (1, .one (.l (L.fn 27 [L.bx 1 [L.int .i64 del_1_0_0]]))), (5, .one (.l (L.int .i64 i_2))), (6, .one (.l (L.int .i64 j_3)))] [(0, .row 0 true 1 s_8)] st
theorem slices_DeleteFunc_int_score_Board_Blame_1.p2_ok (s_0 : List (List L)) (del_1_0_0 : Int) (i_12 : Int) (j_3 : Int) (s_11 : List (List L)) (st : List (List L)) {N : Nat} {r : (List (List L))} {g0 : G} {w0 : World} {R : Exit → Act → World → Prop} {c1_ : (Int × Int × (List (List L))) → Option (List (List L))} {J1 : Act → World → Prop} (hE : Ends Tryd.prog Tryd.f26 g0 w0 (slices_DeleteFunc_int_score_Board_Blame_1.rs r) st R) (hc1 : ∀ (i_2 : Int) (j_3 : Int) (s_8 : List (List L)), c1_ (i_2, j_3, s_8) = some r → At g0 w0 (slices_DeleteFunc_int_score_Board_Blame_1.p1.S s_0 del_1_0_0 i_2 j_3 s_8 st) J1) (h : slices_DeleteFunc_int_score_Board_Blame_1.p2 N c1_ s_0 del_1_0_0 i_12 j_3 s_11 = some r) : At g0 w0 (slices_DeleteFunc_int_score_Board_Blame_1.p2.S s_0 del_1_0_0 i_12 j_3 s_11 st) (exK Tryd.prog R [.c (csub slices_DeleteFunc_int_score_Board_Blame_1.B [1, 1, 1, 0, 1, 0, 0, 1, 1]), .h J1, .b 0, .c (csub slices_DeleteFunc_int_score_Board_Blame_1.B [1, 1, 1, 1])] .normal) := by
  unfold slices_DeleteFunc_int_score_Board_Blame_1.p2 at h
  exact At.n fol 400 [.r []] [0, 1, 5, 6] [0] trivial (hc1 i_12 (IntKind.wrap IntKind.i64 (j_3 + 1)) s_11 h) (by kernel_rfl)
theorem slices_DeleteFunc_int_score_Board_Blame_1.p1_ok (s_0 : List (List L)) (del_1_0_0 : Int) (i_2 : Int) (j_3 : Int) (s_8 : List (List L)) (st : List (List L)) {N : Nat} {r : (List (List L))} {g0 : G} {w0 : World} {R : Exit → Act → World → Prop}  {c1_ : (Int × Int × (List (List L))) → Option (List (List L))}  {J1 : Act → World → Prop} (hE : Ends Tryd.prog Tryd.f26 g0 w0 (slices_DeleteFunc_int_score_Board_Blame_1.rs r) st R)  (hc1 : ∀ (i_2 : Int) (j_3 : Int) (s_8 : List (List L)), c1_ (i_2, j_3, s_8) = some r → At g0 w0 (slices_DeleteFunc_int_score_Board_Blame_1.p1.S s_0 del_1_0_0 i_2 j_3 s_8 st) J1) (h : slices_DeleteFunc_int_score_Board_Blame_1.p1 N  s_0 del_1_0_0 c1_ (i_2, j_3, s_8) = some r) : At g0 w0 (slices_DeleteFunc_int_score_Board_Blame_1.p1.S s_0 del_1_0_0 i_2 j_3 s_8 st) (exK Tryd.prog R (.c (csub slices_DeleteFunc_int_score_Board_Blame_1.B [1, 1, 1, 0, 1, 0, 0]) :: .h J1 :: [.b 0, .c (csub slices_DeleteFunc_int_score_Board_Blame_1.B [1, 1, 1, 1])]) .normal) := by
  unfold slices_DeleteFunc_int_score_Board_Blame_1.p1 at h
  refine iteB h (fun c15 h1 => ?_) (fun c15 h2 => ?_) <;> clear h
  · obtain ⟨c16, h3⟩ := chk_inv h1; clear h1
    obtain ⟨h6, c17, h4⟩ := optE_inv h3; clear h3
    obtain ⟨x9, rfl, h5⟩ := dec_i64_inv h4; clear h4
    obtain ⟨x10, c18, h7⟩ := optE_inv h5; clear h5
    refine iteB h7 (fun c19 h8 => ?_) (fun c19 h9 => ?_) <;> clear h7
    · obtain ⟨c20, h10⟩ := chk_inv h8; clear h8
      obtain ⟨c21, h11⟩ := chk_inv h10; clear h10
      exact At.q fol 400 [.r [], .c true, .r [(3, {oe := [L.int .i64 x9]})], .r [(2, {rs := [.one (L.bool x10)], st := st, m := 5})], .c true, .r [], .r [], .s 4] [0, 1, 5, 6] [0] (And.intro c15 (And.intro c16 (And.intro (of_decide_eq_true c15) (And.intro c17 (And.intro (score_Board_Blame_1.snd c18 st) (And.intro c19 (And.intro c20 c21))))))) (slices_DeleteFunc_int_score_Board_Blame_1.p2_ok s_0 del_1_0_0 (IntKind.wrap IntKind.i64 (i_2 + 1)) j_3 (List.set s_8 (0 + (Int.toNat i_2)) [L.int .i64 x9]) st hE hc1 h11) (by kernel_rfl)
    · exact At.q fol 400 [.r [], .c true, .r [(3, {oe := [L.int .i64 x9]})], .r [(2, {rs := [.one (L.bool x10)], st := st, m := 5})], .c false, .s 4] [0, 1, 5, 6] [0] (And.intro c15 (And.intro c16 (And.intro (of_decide_eq_true c15) (And.intro c17 (And.intro (score_Board_Blame_1.snd c18 st) c19))))) (slices_DeleteFunc_int_score_Board_Blame_1.p2_ok s_0 del_1_0_0 i_2 j_3 s_8 st hE hc1 h9) (by kernel_rfl)
  · obtain ⟨c22, h12⟩ := chk_inv h2; clear h2
    obtain ⟨c23, h13⟩ := chk_inv h12; clear h12
    obtain ⟨c24, h14⟩ := chk_inv h13; clear h13
    obtain ⟨c25, h15⟩ := chk_inv h14; clear h14
    obtain ⟨c26, h16⟩ := chk_inv h15; clear h15
    obtain rfl := some_inv h16
    exact At.f fol hE 400 [.r [], .c false, .r [], .r [(2, {m := 9})]] [] 2 [0] (And.intro c15 (And.intro c22 (And.intro c23 (And.intro (Nat.le_refl (List.length s_0)) (And.intro c24 (And.intro c22 (And.intro (Nat.zero_le (Int.toNat i_2)) (And.intro c25 (And.intro (rfl : (0 : Nat) = 0) c26))))))))) (by kernel_rfl)
theorem slices_DeleteFunc_int_score_Board_Blame_1.p1_loop (s_0 : List (List L)) (del_1_0_0 : Int) (i_2 : Int) (j_3 : Int) (s_8 : List (List L)) (st : List (List L)) {N : Nat} {r : (List (List L))} {g0 : G} {w0 : World} {R : Exit → Act → World → Prop}   (hE : Ends Tryd.prog Tryd.f26 g0 w0 (slices_DeleteFunc_int_score_Board_Blame_1.rs r) st R)  (h : loopN (slices_DeleteFunc_int_score_Board_Blame_1.p1 N  s_0 del_1_0_0) N (i_2, j_3, s_8) = some r) : At g0 w0 (slices_DeleteFunc_int_score_Board_Blame_1.p1.S s_0 del_1_0_0 i_2 j_3 s_8 st) (exK Tryd.prog R (.c (.loop (csub slices_DeleteFunc_int_score_Board_Blame_1.B [1, 1, 1, 0, 1, 0, 0])) :: [.b 0, .c (csub slices_DeleteFunc_int_score_Board_Blame_1.B [1, 1, 1, 1])]) .normal) :=
  At.loop N (At.loopN (fun y : Int × Int × (List (List L)) => slices_DeleteFunc_int_score_Board_Blame_1.p1.S s_0 del_1_0_0 y.1 y.2.1 y.2.2 st) (fun c J hc y h => slices_DeleteFunc_int_score_Board_Blame_1.p1_ok s_0 del_1_0_0 y.1 y.2.1 y.2.2 st hE  (fun i_2 j_3 s_8 hh => hc (i_2, j_3, s_8) hh) h) N (i_2, j_3, s_8) h)
theorem slices_DeleteFunc_int_score_Board_Blame_1.at0 (s_0 : List (List L)) (del_1_0_0 : Int) (st : List (List L)) {N : Nat} {r : (List (List L))} {g0 : G} {w0 : World} {R : Exit → Act → World → Prop} (hE : Ends Tryd.prog Tryd.f26 g0 w0 (slices_DeleteFunc_int_score_Board_Blame_1.rs r) st R) (h : slices_DeleteFunc_int_score_Board_Blame_1 N s_0 del_1_0_0 = some r) : At g0 w0 (S.enter 42 [.row true 1 s_0, .one (L.fn 27 [L.bx 1 [L.int .i64 del_1_0_0]])] st) (exK Tryd.prog R [.c slices_DeleteFunc_int_score_Board_Blame_1.B] .normal) := by
  unfold slices_DeleteFunc_int_score_Board_Blame_1 at h
  obtain ⟨x1, c1, h17⟩ := optE_inv h; clear h
  refine iteB h17 (fun c2 h18 => ?_) (fun c2 h19 => ?_) <;> clear h17
  · obtain rfl := some_inv h18
    exact At.f fol hE 400 [.r [(0, {m := 2})], .r [(2, {rs := [.one (L.int .i64 x1)], m := 2})], .r [], .c true, .r []] [] 0 [0] (And.intro (rfl : (0 : Nat) = 0) (And.intro (@rfl Nat (List.length s_0)) (And.intro (slices_IndexFunc_int_score_Board_Blame_1.snd c1) (And.intro c2 (And.intro (rfl : (0 : Nat) = 0) (@rfl Nat (List.length s_0))))))) (by kernel_rfl)
  · exact At.q fol 400 [.r [(0, {m := 2})], .r [(2, {rs := [.one (L.int .i64 x1)], m := 2})], .r [], .c false, .r []] [0, 1, 5, 6] [0] (And.intro (rfl : (0 : Nat) = 0) (And.intro (@rfl Nat (List.length s_0)) (And.intro (slices_IndexFunc_int_score_Board_Blame_1.snd c1) c2))) (slices_DeleteFunc_int_score_Board_Blame_1.p1_loop s_0 del_1_0_0 x1 (IntKind.wrap IntKind.i64 (x1 + 1)) s_0 st hE  h19) (by kernel_rfl)
theorem slices_DeleteFunc_int_score_Board_Blame_1.snd {N : Nat} {s_0 : List (List L)} {del_1_0_0 : Int} {r : (List (List L))} (h : slices_DeleteFunc_int_score_Board_Blame_1 N s_0 del_1_0_0 = some r) : SndQ Tryd.prog 26 [.row true 1 s_0, .one (L.fn 27 [L.bx 1 [L.int .i64 del_1_0_0]])] (slices_DeleteFunc_int_score_Board_Blame_1.rs r) := fun st =>
  Snd.of (fn := Tryd.f26) (c := slices_DeleteFunc_int_score_Board_Blame_1.B) Tryd.func26 (by kernel_rfl) (by kernel_rfl) (of_decide_eq_true (by kernel_rfl)) fun g w R hE => slices_DeleteFunc_int_score_Board_Blame_1.at0 s_0 del_1_0_0 st hE h
/-! slices.Delete[[]int,int] -/
noncomputable def slices_Delete_int.B : Code := Tryd.f28.body.getD .skip
noncomputable def slices_Delete_int.rs (r : (List (List L))) : List CV := [.row true 1 r]
noncomputable def slices_Delete_int (N : Nat) (s_0 : List (List L)) (i_1 : Int) (j_2 : Int) : Option (List (List L)) :=
  chk (0 ≤ i_1) <|
  chk (0 ≤ j_2) <|
  chk ((Int.toNat i_1) ≤ (Int.toNat j_2)) <|
  chk ((Int.toNat j_2) ≤ (Int.toNat ((List.length s_0 : Nat) : Int))) <|
  chk ((Int.toNat ((List.length s_0 : Nat) : Int)) ≤ (List.length s_0)) <|
  if (i_1 == j_2) = true then
    some s_0
  else
  chk ((Int.toNat i_1) ≤ (List.length s_0)) <|
  chk ((Int.toNat j_2) ≤ (List.length s_0)) <|
  chk (((Int.toNat i_1) + ((List.length s_0) - (Int.toNat j_2))) ≤ (List.length s_0)) <|
  chk (((0 + (Int.toNat j_2)) + ((List.length s_0) - (Int.toNat j_2))) ≤ (List.length s_0)) <|
  chk ((Int.toNat (((Int.toNat i_1) + ((List.length s_0) - (Int.toNat j_2)) : Nat) : Int)) ≤ (Int.toNat ((List.length s_0 : Nat) : Int))) <|
  chk ((0 + (Int.toNat ((List.length s_0 : Nat) : Int))) ≤ (List.length ((List.take (Int.toNat i_1) s_0 ++ List.take ((List.length s_0) - (Int.toNat j_2)) (List.drop (0 + (Int.toNat j_2)) s_0)) ++ List.drop ((Int.toNat i_1) + ((List.length s_0) - (Int.toNat j_2))) s_0))) <|
  chk ((0 + (Int.toNat (((Int.toNat i_1) + ((List.length s_0) - (Int.toNat j_2)) : Nat) : Int))) + ((Int.toNat ((List.length s_0 : Nat) : Int)) - (Int.toNat (((Int.toNat i_1) + ((List.length s_0) - (Int.toNat j_2)) : Nat) : Int))) = List.length ((List.take (Int.toNat i_1) s_0 ++ List.take ((List.length s_0) - (Int.toNat j_2)) (List.drop (0 + (Int.toNat j_2)) s_0)) ++ List.drop ((Int.toNat i_1) + ((List.length s_0) - (Int.toNat j_2))) s_0)) <|
  chk (((Int.toNat i_1) + ((List.length s_0) - (Int.toNat j_2))) ≤ (List.length (List.take (0 + (Int.toNat (((Int.toNat i_1) + ((List.length s_0) - (Int.toNat j_2)) : Nat) : Int))) ((List.take (Int.toNat i_1) s_0 ++ List.take ((List.length s_0) - (Int.toNat j_2)) (List.drop (0 + (Int.toNat j_2)) s_0)) ++ List.drop ((Int.toNat i_1) + ((List.length s_0) - (Int.toNat j_2))) s_0) ++ List.replicate ((Int.toNat ((List.length s_0 : Nat) : Int)) - (Int.toNat (((Int.toNat i_1) + ((List.length s_0) - (Int.toNat j_2)) : Nat) : Int))) [L.int .i64 0]))) <|
  some (List.take ((Int.toNat i_1) + ((List.length s_0) - (Int.toNat j_2))) (List.take (0 + (Int.toNat (((Int.toNat i_1) + ((List.length s_0) - (Int.toNat j_2)) : Nat) : Int))) ((List.take (Int.toNat i_1) s_0 ++ List.take ((List.length s_0) - (Int.toNat j_2)) (List.drop (0 + (Int.toNat j_2)) s_0)) ++ List.drop ((Int.toNat i_1) + ((List.length s_0) - (Int.toNat j_2))) s_0) ++ List.replicate ((Int.toNat ((List.length s_0 : Nat) : Int)) - (Int.toNat (((Int.toNat i_1) + ((List.length s_0) - (Int.toNat j_2)) : Nat) : Int))) [L.int .i64 0]))
theorem slices_Delete_int.at0 (s_0 : List (List L)) (i_1 : Int) (j_2 : Int) (st : List (List L)) {N : Nat} {r : (List (List L))} {g0 : G} {w0 : World} {R : Exit → Act → World → Prop} (hE : Ends Tryd.prog Tryd.f28 g0 w0 (slices_Delete_int.rs r) st R) (h : slices_Delete_int N s_0 i_1 j_2 = some r) : At g0 w0 (S.enter 33 [.row true 1 s_0, .one (L.int .i64 i_1), .one (L.int .i64 j_2)] st) (exK Tryd.prog R [.c slices_Delete_int.B] .normal) := by
  unfold slices_Delete_int at h
  obtain ⟨c1, h1⟩ := chk_inv h; clear h
  obtain ⟨c2, h2⟩ := chk_inv h1; clear h1
  obtain ⟨c3, h3⟩ := chk_inv h2; clear h2
  obtain ⟨c4, h4⟩ := chk_inv h3; clear h3
  obtain ⟨c5, h5⟩ := chk_inv h4; clear h4
  refine iteB h5 (fun c6 h6 => ?_) (fun c6 h7 => ?_) <;> clear h5
  · obtain rfl := some_inv h6
    exact At.f fol hE 400 [.r [(0, {m := 2})], .r [], .r [], .c true, .r []] [] 0 [0] (And.intro c1 (And.intro c2 (And.intro (Int.natCast_nonneg (List.length s_0)) (And.intro c3 (And.intro c4 (And.intro c5 (And.intro c6 (And.intro (rfl : (0 : Nat) = 0) (@rfl Nat (List.length s_0)))))))))) (by kernel_rfl)
  · obtain ⟨c7, h8⟩ := chk_inv h7; clear h7
    obtain ⟨c8, h9⟩ := chk_inv h8; clear h8
    obtain ⟨c9, h10⟩ := chk_inv h9; clear h9
    obtain ⟨c10, h11⟩ := chk_inv h10; clear h10
    obtain ⟨c11, h12⟩ := chk_inv h11; clear h11
    obtain ⟨c12, h13⟩ := chk_inv h12; clear h12
    obtain ⟨c13, h14⟩ := chk_inv h13; clear h13
    obtain ⟨c14, h15⟩ := chk_inv h14; clear h14
    obtain rfl := some_inv h15
    exact At.fd fol hE 400 [.r [(0, {m := 2})], .r [], .r [], .c false, .r [], .d {ds := [(6, {m := 9})], hv := 64, Hs := [64]}, .r [(4, {m := 9})], .r []] [] 2 [0] (And.intro c1 (And.intro c2 (And.intro (Int.natCast_nonneg (List.length s_0)) (And.intro c3 (And.intro c4 (And.intro c5 (And.intro c6 (And.intro c1 (And.intro (Nat.zero_le (Int.toNat i_1)) (And.intro c7 (And.intro c2 (And.intro c8 (And.intro (Nat.le_refl (List.length s_0)) (And.intro (rfl : (0 : Nat) = 0) (And.intro c9 (And.intro c10 (And.intro (Int.natCast_nonneg ((Int.toNat i_1) + ((List.length s_0) - (Int.toNat j_2)))) (And.intro (Int.natCast_nonneg (List.length s_0)) (And.intro c11 (And.intro c12 (And.intro c13 (And.intro (rfl : (0 : Nat) = 0) c14)))))))))))))))))))))) (by kernel_rfl) (by kernel_rfl)
theorem slices_Delete_int.snd {N : Nat} {s_0 : List (List L)} {i_1 : Int} {j_2 : Int} {r : (List (List L))} (h : slices_Delete_int N s_0 i_1 j_2 = some r) : SndQ Tryd.prog 28 [.row true 1 s_0, .one (L.int .i64 i_1), .one (L.int .i64 j_2)] (slices_Delete_int.rs r) := fun st =>
  Snd.of (fn := Tryd.f28) (c := slices_Delete_int.B) Tryd.func28 (by kernel_rfl) (by kernel_rfl) (of_decide_eq_true (by kernel_rfl)) fun g w R hE => slices_Delete_int.at0 s_0 i_1 j_2 st hE h
/-! (*trailhead/score.Board).Blame -/
noncomputable def score_Board_Blame.B : Code := Tryd.f12.body.getD .skip
noncomputable def score_Board_Blame.rs (r : Bool × (List (List L))) : List CV := [.one (L.bool r.1)]
noncomputable def score_Board_Blame.p2 (N : Nat)  (i4 : Nat) (peer_1 : Int) (st18 : List (List L)) : Option (Bool × (List (List L))) :=
  optE (score_Board_Shuns N (some i4) peer_1 st18) fun (x19, st20) =>
  some (x19, st20)
noncomputable def score_Board_Blame.p1 (N : Nat)  (i4 : Nat) (peer_1 : Int) (st13 : List (List L)) : Option (Bool × (List (List L))) :=
  optE (st13[i4]?) fun e => obj_score_Board e fun x14 x15 =>
  optM (mfind x14 (L.int .i64 peer_1)) (fun j16 e => dec_i64 [e] fun x17 =>
    score_Board_Blame.p2 N  i4 peer_1 (List.set st13 i4 [L.mp (List.eraseIdx x14 j16), L.own true 1 x15]))
  (
    score_Board_Blame.p2 N  i4 peer_1 (List.set st13 i4 [L.mp x14, L.own true 1 x15]))
noncomputable def score_Board_Blame.p4 (N : Nat)  (i4 : Nat) (peer_1 : Int) (st32 : List (List L)) : Option (Bool × (List (List L))) :=
  optE (score_Board_Shuns N (some i4) peer_1 st32) fun (x33, st34) =>
  some (x33, st34)
noncomputable def score_Board_Blame.p3 (N : Nat)  (i4 : Nat) (peer_1 : Int) (st27 : List (List L)) : Option (Bool × (List (List L))) :=
  optE (st27[i4]?) fun e => obj_score_Board e fun x28 x29 =>
  optM (mfind x28 (L.int .i64 peer_1)) (fun j30 e => dec_i64 [e] fun x31 =>
    score_Board_Blame.p4 N  i4 peer_1 (List.set st27 i4 [L.mp (List.eraseIdx x28 j30), L.own true 1 x29]))
  (
    score_Board_Blame.p4 N  i4 peer_1 (List.set st27 i4 [L.mp x28, L.own true 1 x29]))
noncomputable def score_Board_Blame (N : Nat) (b_0 : Option Nat) (peer_1 : Int) (faults_2 : List (List L)) (st : List (List L)) : Option (Bool × (List (List L))) :=
  if (Option.isNone b_0) = true then
    some (false, st)
  else
  optE (score_Points N faults_2) fun x1 =>
  if (x1 == 0) = true then
    optE (score_Board_Shuns N b_0 peer_1 st) fun (x2, st3) =>
    some (x2, st3)
  else
  optE b_0 fun i4 =>
  optE (st[i4]?) fun e => obj_score_Board e fun x5 x6 =>
  optM (mfind x5 (L.int .i64 peer_1)) (fun j7 e => dec_i64 [e] fun x8 =>
    optM (mfind (List.set x5 j7 (L.int .i64 peer_1, L.int .i64 (if (100000 : Int) < (IntKind.wrap IntKind.i64 (x8 + x1)) then 100000 else (IntKind.wrap IntKind.i64 (x8 + x1))))) (L.int .i64 peer_1)) (fun j9 e => dec_i64 [e] fun x10 =>
      if (decide (x10 ≥ 100)) = true then
        chk ((0 + (List.length x6)) ≤ (List.length x6)) <|
        optE (slices_DeleteFunc_int_score_Board_Blame_1 N (List.take (List.length x6) (List.drop 0 x6)) peer_1) fun x11 =>
        chk (1 ≤ (List.length [[L.int .i64 peer_1]])) <|
        chk (List.length (x11 ++ (List.take 1 [[L.int .i64 peer_1]])) * 8 ≤ 140737488355328) <|
        if (decide (((List.length (x11 ++ (List.take 1 [[L.int .i64 peer_1]])) : Nat) : Int) > 16)) = true then
          chk ((0 + (List.length (x11 ++ (List.take 1 [[L.int .i64 peer_1]])))) ≤ (List.length (x11 ++ (List.take 1 [[L.int .i64 peer_1]])))) <|
          optE (slices_Delete_int N (List.take (List.length (x11 ++ (List.take 1 [[L.int .i64 peer_1]]))) (List.drop 0 (x11 ++ (List.take 1 [[L.int .i64 peer_1]])))) 0 1) fun x12 =>
          score_Board_Blame.p1 N  i4 peer_1 (List.set (List.set (List.set (List.set (List.set (List.set (List.set st i4 [L.mp (List.set x5 j7 (L.int .i64 peer_1, L.int .i64 (if (100000 : Int) < (IntKind.wrap IntKind.i64 (x8 + x1)) then 100000 else (IntKind.wrap IntKind.i64 (x8 + x1))))), L.own true 1 x6]) i4 [L.mp (List.set x5 j7 (L.int .i64 peer_1, L.int .i64 (if (100000 : Int) < (IntKind.wrap IntKind.i64 (x8 + x1)) then 100000 else (IntKind.wrap IntKind.i64 (x8 + x1))))), L.gone]) i4 [L.mp (List.set x5 j7 (L.int .i64 peer_1, L.int .i64 (if (100000 : Int) < (IntKind.wrap IntKind.i64 (x8 + x1)) then 100000 else (IntKind.wrap IntKind.i64 (x8 + x1))))), L.own true 1 x11]) i4 [L.mp (List.set x5 j7 (L.int .i64 peer_1, L.int .i64 (if (100000 : Int) < (IntKind.wrap IntKind.i64 (x8 + x1)) then 100000 else (IntKind.wrap IntKind.i64 (x8 + x1))))), L.gone]) i4 [L.mp (List.set x5 j7 (L.int .i64 peer_1, L.int .i64 (if (100000 : Int) < (IntKind.wrap IntKind.i64 (x8 + x1)) then 100000 else (IntKind.wrap IntKind.i64 (x8 + x1))))), L.own true 1 (x11 ++ (List.take 1 [[L.int .i64 peer_1]]))]) i4 [L.mp (List.set x5 j7 (L.int .i64 peer_1, L.int .i64 (if (100000 : Int) < (IntKind.wrap IntKind.i64 (x8 + x1)) then 100000 else (IntKind.wrap IntKind.i64 (x8 + x1))))), L.gone]) i4 [L.mp (List.set x5 j7 (L.int .i64 peer_1, L.int .i64 (if (100000 : Int) < (IntKind.wrap IntKind.i64 (x8 + x1)) then 100000 else (IntKind.wrap IntKind.i64 (x8 + x1))))), L.own true 1 x12])
        else
        score_Board_Blame.p1 N  i4 peer_1 (List.set (List.set (List.set (List.set (List.set st i4 [L.mp (List.set x5 j7 (L.int .i64 peer_1, L.int .i64 (if (100000 : Int) < (IntKind.wrap IntKind.i64 (x8 + x1)) then 100000 else (IntKind.wrap IntKind.i64 (x8 + x1))))), L.own true 1 x6]) i4 [L.mp (List.set x5 j7 (L.int .i64 peer_1, L.int .i64 (if (100000 : Int) < (IntKind.wrap IntKind.i64 (x8 + x1)) then 100000 else (IntKind.wrap IntKind.i64 (x8 + x1))))), L.gone]) i4 [L.mp (List.set x5 j7 (L.int .i64 peer_1, L.int .i64 (if (100000 : Int) < (IntKind.wrap IntKind.i64 (x8 + x1)) then 100000 else (IntKind.wrap IntKind.i64 (x8 + x1))))), L.own true 1 x11]) i4 [L.mp (List.set x5 j7 (L.int .i64 peer_1, L.int .i64 (if (100000 : Int) < (IntKind.wrap IntKind.i64 (x8 + x1)) then 100000 else (IntKind.wrap IntKind.i64 (x8 + x1))))), L.gone]) i4 [L.mp (List.set x5 j7 (L.int .i64 peer_1, L.int .i64 (if (100000 : Int) < (IntKind.wrap IntKind.i64 (x8 + x1)) then 100000 else (IntKind.wrap IntKind.i64 (x8 + x1))))), L.own true 1 (x11 ++ (List.take 1 [[L.int .i64 peer_1]]))])
      else
      score_Board_Blame.p2 N  i4 peer_1 (List.set st i4 [L.mp (List.set x5 j7 (L.int .i64 peer_1, L.int .i64 (if (100000 : Int) < (IntKind.wrap IntKind.i64 (x8 + x1)) then 100000 else (IntKind.wrap IntKind.i64 (x8 + x1))))), L.own true 1 x6]))
    (
      optE (score_Board_Shuns N (some i4) peer_1 (List.set st i4 [L.mp (List.set x5 j7 (L.int .i64 peer_1, L.int .i64 (if (100000 : Int) < (IntKind.wrap IntKind.i64 (x8 + x1)) then 100000 else (IntKind.wrap IntKind.i64 (x8 + x1))))), L.own true 1 x6])) fun (x21, st22) =>
      some (x21, st22)))
  (
    optM (mfind (x5 ++ [(L.int .i64 peer_1, L.int .i64 (if (100000 : Int) < (IntKind.wrap IntKind.i64 (0 + x1)) then 100000 else (IntKind.wrap IntKind.i64 (0 + x1))))]) (L.int .i64 peer_1)) (fun j23 e => dec_i64 [e] fun x24 =>
      if (decide (x24 ≥ 100)) = true then
        chk ((0 + (List.length x6)) ≤ (List.length x6)) <|
        optE (slices_DeleteFunc_int_score_Board_Blame_1 N (List.take (List.length x6) (List.drop 0 x6)) peer_1) fun x25 =>
        chk (1 ≤ (List.length [[L.int .i64 peer_1]])) <|
        chk (List.length (x25 ++ (List.take 1 [[L.int .i64 peer_1]])) * 8 ≤ 140737488355328) <|
        if (decide (((List.length (x25 ++ (List.take 1 [[L.int .i64 peer_1]])) : Nat) : Int) > 16)) = true then
          chk ((0 + (List.length (x25 ++ (List.take 1 [[L.int .i64 peer_1]])))) ≤ (List.length (x25 ++ (List.take 1 [[L.int .i64 peer_1]])))) <|
          optE (slices_Delete_int N (List.take (List.length (x25 ++ (List.take 1 [[L.int .i64 peer_1]]))) (List.drop 0 (x25 ++ (List.take 1 [[L.int .i64 peer_1]])))) 0 1) fun x26 =>
          score_Board_Blame.p3 N  i4 peer_1 (List.set (List.set (List.set (List.set (List.set (List.set (List.set st i4 [L.mp (x5 ++ [(L.int .i64 peer_1, L.int .i64 (if (100000 : Int) < (IntKind.wrap IntKind.i64 (0 + x1)) then 100000 else (IntKind.wrap IntKind.i64 (0 + x1))))]), L.own true 1 x6]) i4 [L.mp (x5 ++ [(L.int .i64 peer_1, L.int .i64 (if (100000 : Int) < (IntKind.wrap IntKind.i64 (0 + x1)) then 100000 else (IntKind.wrap IntKind.i64 (0 + x1))))]), L.gone]) i4 [L.mp (x5 ++ [(L.int .i64 peer_1, L.int .i64 (if (100000 : Int) < (IntKind.wrap IntKind.i64 (0 + x1)) then 100000 else (IntKind.wrap IntKind.i64 (0 + x1))))]), L.own true 1 x25]) i4 [L.mp (x5 ++ [(L.int .i64 peer_1, L.int .i64 (if (100000 : Int) < (IntKind.wrap IntKind.i64 (0 + x1)) then 100000 else (IntKind.wrap IntKind.i64 (0 + x1))))]), L.gone]) i4 [L.mp (x5 ++ [(L.int .i64 peer_1, L.int .i64 (if (100000 : Int) < (IntKind.wrap IntKind.i64 (0 + x1)) then 100000 else (IntKind.wrap IntKind.i64 (0 + x1))))]), L.own true 1 (x25 ++ (List.take 1 [[L.int .i64 peer_1]]))]) i4 [L.mp (x5 ++ [(L.int .i64 peer_1, L.int .i64 (if (100000 : Int) < (IntKind.wrap IntKind.i64 (0 + x1)) then 100000 else (IntKind.wrap IntKind.i64 (0 + x1))))]), L.gone]) i4 [L.mp (x5 ++ [(L.int .i64 peer_1, L.int .i64 (if (100000 : Int) < (IntKind.wrap IntKind.i64 (0 + x1)) then 100000 else (IntKind.wrap IntKind.i64 (0 + x1))))]), L.own true 1 x26])
        else
        score_Board_Blame.p3 N  i4 peer_1 (List.set (List.set (List.set (List.set (List.set st i4 [L.mp (x5 ++ [(L.int .i64 peer_1, L.int .i64 (if (100000 : Int) < (IntKind.wrap IntKind.i64 (0 + x1)) then 100000 else (IntKind.wrap IntKind.i64 (0 + x1))))]), L.own true 1 x6]) i4 [L.mp (x5 ++ [(L.int .i64 peer_1, L.int .i64 (if (100000 : Int) < (IntKind.wrap IntKind.i64 (0 + x1)) then 100000 else (IntKind.wrap IntKind.i64 (0 + x1))))]), L.gone]) i4 [L.mp (x5 ++ [(L.int .i64 peer_1, L.int .i64 (if (100000 : Int) < (IntKind.wrap IntKind.i64 (0 + x1)) then 100000 else (IntKind.wrap IntKind.i64 (0 + x1))))]), L.own true 1 x25]) i4 [L.mp (x5 ++ [(L.int .i64 peer_1, L.int .i64 (if (100000 : Int) < (IntKind.wrap IntKind.i64 (0 + x1)) then 100000 else (IntKind.wrap IntKind.i64 (0 + x1))))]), L.gone]) i4 [L.mp (x5 ++ [(L.int .i64 peer_1, L.int .i64 (if (100000 : Int) < (IntKind.wrap IntKind.i64 (0 + x1)) then 100000 else (IntKind.wrap IntKind.i64 (0 + x1))))]), L.own true 1 (x25 ++ (List.take 1 [[L.int .i64 peer_1]]))])
      else
      score_Board_Blame.p4 N  i4 peer_1 (List.set st i4 [L.mp (x5 ++ [(L.int .i64 peer_1, L.int .i64 (if (100000 : Int) < (IntKind.wrap IntKind.i64 (0 + x1)) then 100000 else (IntKind.wrap IntKind.i64 (0 + x1))))]), L.own true 1 x6]))
    (
      optE (score_Board_Shuns N (some i4) peer_1 (List.set st i4 [L.mp (x5 ++ [(L.int .i64 peer_1, L.int .i64 (if (100000 : Int) < (IntKind.wrap IntKind.i64 (0 + x1)) then 100000 else (IntKind.wrap IntKind.i64 (0 + x1))))]), L.own true 1 x6])) fun (x35, st36) =>
      some (x35, st36)))
noncomputable def score_Board_Blame.p2.S (i4 : Nat) (peer_1 : Int) (st18 : List (List L)) : S := mkS 79 [(0, .one (.l (L.ptr (some i4)))), (4, .one (.l (L.bx 1 [L.int .i64 peer_1])))] [] st18
noncomputable def score_Board_Blame.p1.S (i4 : Nat) (peer_1 : Int) (st13 : List (List L)) : S := mkS 79 [(0, .one (.l (L.ptr (some i4)))), (4, .one (.l (L.bx 1 [L.int .i64 peer_1])))] [] st13
noncomputable def score_Board_Blame.p4.S (i4 : Nat) (peer_1 : Int) (st32 : List (List L)) : S := mkS 79 [(0, .one (.l (L.ptr (some i4)))), (4, .one (.l (L.bx 1 [L.int .i64 peer_1])))] [] st32
noncomputable def score_Board_Blame.p3.S (i4 : Nat) (peer_1 : Int) (st27 : List (List L)) : S := mkS 79 [(0, .one (.l (L.ptr (some i4)))), (4, .one (.l (L.bx 1 [L.int .i64 peer_1])))] [] st27
theorem score_Board_Blame.p2_ok (i4 : Nat) (peer_1 : Int) (st18 : List (List L)) {N : Nat} {r : Bool × (List (List L))} {g0 : G} {w0 : World} {R : Exit → Act → World → Prop}   (hE : Ends Tryd.prog Tryd.f12 g0 w0 (score_Board_Blame.rs r) (r.2) R)  (h : score_Board_Blame.p2 N  i4 peer_1 st18 = some r) : At g0 w0 (score_Board_Blame.p2.S i4 peer_1 st18) (exK Tryd.prog R [.c (csub score_Board_Blame.B [1, 1, 1, 1, 1, 1])] .normal) := by
  unfold score_Board_Blame.p2 at h
  obtain ⟨⟨x19, st20⟩, c19, h1⟩ := optE_inv h; clear h
  obtain rfl := some_inv h1
  exact At.f fol hE 400 [.r [(1, {m := 2}), (2, {rs := [.one (L.bool x19)], st := st20})]] [] 0 [] (score_Board_Shuns.snd c19) (by kernel_rfl)
theorem score_Board_Blame.p1_ok (i4 : Nat) (peer_1 : Int) (st13 : List (List L)) {N : Nat} {r : Bool × (List (List L))} {g0 : G} {w0 : World} {R : Exit → Act → World → Prop}   (hE : Ends Tryd.prog Tryd.f12 g0 w0 (score_Board_Blame.rs r) (r.2) R)  (h : score_Board_Blame.p1 N  i4 peer_1 st13 = some r) : At g0 w0 (score_Board_Blame.p1.S i4 peer_1 st13) (exK Tryd.prog R [.c (csub score_Board_Blame.B [1, 1, 1, 1, 1, 0, 1, 0, 1, 1, 1]), .c (csub score_Board_Blame.B [1, 1, 1, 1, 1, 1])] .normal) := by
  unfold score_Board_Blame.p1 at h
  obtain ⟨h4, c17, h2⟩ := optE_inv h; clear h
  obtain ⟨x14, x15, rfl, h3⟩ := obj_score_Board_inv h2; clear h2
  rcases optM_inv h3 with ⟨j16, h8, c18, h5⟩ | ⟨c18, h6⟩ <;> clear h3
  · obtain ⟨x17, h9, h7⟩ := dec_i64_inv h5; clear h5
    obtain rfl := single_inv h9
    exact At.qd fol 400 [.d {ds := [(3, {oc := [L.mp x14, L.own true 1 x15]}), (4, {m := 2}), (5, {oc := [L.mp x14, L.own true 1 x15], m := j16})], hv := 32, Hs := [32]}, .s 1] [0, 4] [] (And.intro c17 (And.intro (ex_at c18) c17)) (score_Board_Blame.p2_ok i4 peer_1 (List.set st13 i4 [L.mp (List.eraseIdx x14 j16), L.own true 1 x15]) hE  h7) (by kernel_rfl) (by kernel_rfl)
  · exact At.qd fol 400 [.d {ds := [(3, {oc := [L.mp x14, L.own true 1 x15]}), (4, {m := 2}), (5, {oc := [L.mp x14, L.own true 1 x15], yes := false})], hv := 32, Hs := [32]}, .s 1] [0, 4] [] (And.intro c17 (And.intro c18 c17)) (score_Board_Blame.p2_ok i4 peer_1 (List.set st13 i4 [L.mp x14, L.own true 1 x15]) hE  h6) (by kernel_rfl) (by kernel_rfl)
theorem score_Board_Blame.p4_ok (i4 : Nat) (peer_1 : Int) (st32 : List (List L)) {N : Nat} {r : Bool × (List (List L))} {g0 : G} {w0 : World} {R : Exit → Act → World → Prop}   (hE : Ends Tryd.prog Tryd.f12 g0 w0 (score_Board_Blame.rs r) (r.2) R)  (h : score_Board_Blame.p4 N  i4 peer_1 st32 = some r) : At g0 w0 (score_Board_Blame.p4.S i4 peer_1 st32) (exK Tryd.prog R [.c (csub score_Board_Blame.B [1, 1, 1, 1, 1, 1])] .normal) := by
  unfold score_Board_Blame.p4 at h
  obtain ⟨⟨x33, st34⟩, c32, h10⟩ := optE_inv h; clear h
  obtain rfl := some_inv h10
  exact At.f fol hE 400 [.r [(1, {m := 2}), (2, {rs := [.one (L.bool x33)], st := st34})]] [] 0 [] (score_Board_Shuns.snd c32) (by kernel_rfl)
theorem score_Board_Blame.p3_ok (i4 : Nat) (peer_1 : Int) (st27 : List (List L)) {N : Nat} {r : Bool × (List (List L))} {g0 : G} {w0 : World} {R : Exit → Act → World → Prop}   (hE : Ends Tryd.prog Tryd.f12 g0 w0 (score_Board_Blame.rs r) (r.2) R)  (h : score_Board_Blame.p3 N  i4 peer_1 st27 = some r) : At g0 w0 (score_Board_Blame.p3.S i4 peer_1 st27) (exK Tryd.prog R [.c (csub score_Board_Blame.B [1, 1, 1, 1, 1, 0, 1, 0, 1, 1, 1]), .c (csub score_Board_Blame.B [1, 1, 1, 1, 1, 1])] .normal) := by
  unfold score_Board_Blame.p3 at h
  obtain ⟨h13, c30, h11⟩ := optE_inv h; clear h
  obtain ⟨x28, x29, rfl, h12⟩ := obj_score_Board_inv h11; clear h11
  rcases optM_inv h12 with ⟨j30, h17, c31, h14⟩ | ⟨c31, h15⟩ <;> clear h12
  · obtain ⟨x31, h18, h16⟩ := dec_i64_inv h14; clear h14
    obtain rfl := single_inv h18
    exact At.qd fol 400 [.d {ds := [(3, {oc := [L.mp x28, L.own true 1 x29]}), (4, {m := 2}), (5, {oc := [L.mp x28, L.own true 1 x29], m := j30})], hv := 32, Hs := [32]}, .s 1] [0, 4] [] (And.intro c30 (And.intro (ex_at c31) c30)) (score_Board_Blame.p4_ok i4 peer_1 (List.set st27 i4 [L.mp (List.eraseIdx x28 j30), L.own true 1 x29]) hE  h16) (by kernel_rfl) (by kernel_rfl)
  · exact At.qd fol 400 [.d {ds := [(3, {oc := [L.mp x28, L.own true 1 x29]}), (4, {m := 2}), (5, {oc := [L.mp x28, L.own true 1 x29], yes := false})], hv := 32, Hs := [32]}, .s 1] [0, 4] [] (And.intro c30 (And.intro c31 c30)) (score_Board_Blame.p4_ok i4 peer_1 (List.set st27 i4 [L.mp x28, L.own true 1 x29]) hE  h15) (by kernel_rfl) (by kernel_rfl)
theorem score_Board_Blame.at0 (b_0 : Option Nat) (peer_1 : Int) (faults_2 : List (List L)) (st : List (List L)) {N : Nat} {r : Bool × (List (List L))} {g0 : G} {w0 : World} {R : Exit → Act → World → Prop} (hE : Ends Tryd.prog Tryd.f12 g0 w0 (score_Board_Blame.rs r) (r.2) R) (h : score_Board_Blame N b_0 peer_1 faults_2 st = some r) : At g0 w0 (S.enter 79 [.one (L.ptr b_0), .one (L.int .i64 peer_1), .one (L.sl 1 faults_2)] st) (exK Tryd.prog R [.c score_Board_Blame.B] .normal) := by
  unfold score_Board_Blame at h
  refine iteB h (fun c1 h19 => ?_) (fun c1 h20 => ?_) <;> clear h
  · obtain rfl := some_inv h19
    exact At.f fol hE 400 [.r [(0, {m := 2})], .r [], .c true, .r []] [] 0 [] c1 (by kernel_rfl)
  · obtain ⟨x1, c2, h21⟩ := optE_inv h20; clear h20
    refine iteB h21 (fun c3 h22 => ?_) (fun c3 h23 => ?_) <;> clear h21
    · obtain ⟨⟨x2, st3⟩, c4, h24⟩ := optE_inv h22; clear h22
      obtain rfl := some_inv h24
      exact At.f fol hE 400 [.r [(0, {m := 2})], .r [], .c false, .r [(1, {rs := [.one (L.int .i64 x1)], m := 1})], .r [], .c true, .r [(1, {m := 2}), (2, {rs := [.one (L.bool x2)], st := st3})]] [] 0 [] (And.intro c1 (And.intro (score_Points.snd c2) (And.intro c3 (score_Board_Shuns.snd c4)))) (by kernel_rfl)
    · obtain ⟨i4, rfl, h25⟩ := optE_inv h23; clear h23
      obtain ⟨h28, c6, h26⟩ := optE_inv h25; clear h25
      obtain ⟨x5, x6, rfl, h27⟩ := obj_score_Board_inv h26; clear h26
      rcases optM_inv h27 with ⟨j7, h32, c7, h29⟩ | ⟨c7, h30⟩ <;> clear h27
      · obtain ⟨x8, h33, h31⟩ := dec_i64_inv h29; clear h29
        obtain rfl := single_inv h33
        rcases optM_inv h31 with ⟨j9, h37, c8, h34⟩ | ⟨c8, h35⟩ <;> clear h31
        · obtain ⟨x10, h38, h36⟩ := dec_i64_inv h34; clear h34
          obtain rfl := single_inv h38
          refine iteB h36 (fun c9 h39 => ?_) (fun c9 h40 => ?_) <;> clear h36
          · obtain ⟨c10, h41⟩ := chk_inv h39; clear h39
            obtain ⟨x11, c11, h42⟩ := optE_inv h41; clear h41
            obtain ⟨c12, h43⟩ := chk_inv h42; clear h42
            obtain ⟨c13, h44⟩ := chk_inv h43; clear h43
            refine iteB h44 (fun c14 h45 => ?_) (fun c14 h46 => ?_) <;> clear h44
            · obtain ⟨c15, h47⟩ := chk_inv h45; clear h45
              obtain ⟨x12, c16, h48⟩ := optE_inv h47; clear h47
              exact At.qd fol 400 [.r [(0, {m := 2})], .r [], .c false, .r [(1, {rs := [.one (L.int .i64 x1)], m := 1})], .r [], .c false, .d {ds := [(3, {oc := [L.mp x5, L.own true 1 x6]}), (4, {m := 2}), (8, {oc := [L.mp x5, L.own true 1 x6]}), (9, {m := 2}), (10, {oc := [L.mp x5, L.own true 1 x6], oe := [L.int .i64 x8]}), (14, {oc := [L.mp x5, L.own true 1 x6], m := j7})], hv := 16384, Hs := [16384]}, .d {ds := [(3, {oc := [L.mp (List.set x5 j7 (L.int .i64 peer_1, L.int .i64 (if (100000 : Int) < (IntKind.wrap IntKind.i64 (x8 + x1)) then 100000 else (IntKind.wrap IntKind.i64 (x8 + x1))))), L.own true 1 x6]}), (4, {m := 2}), (5, {oc := [L.mp (List.set x5 j7 (L.int .i64 peer_1, L.int .i64 (if (100000 : Int) < (IntKind.wrap IntKind.i64 (x8 + x1)) then 100000 else (IntKind.wrap IntKind.i64 (x8 + x1))))), L.own true 1 x6], oe := [L.int .i64 x10]})], hv := 0, Hs := []}, .c true, .r [(4, {oc := [L.mp (List.set x5 j7 (L.int .i64 peer_1, L.int .i64 (if (100000 : Int) < (IntKind.wrap IntKind.i64 (x8 + x1)) then 100000 else (IntKind.wrap IntKind.i64 (x8 + x1))))), L.own true 1 x6]}), (6, {oe := [L.mp (List.set x5 j7 (L.int .i64 peer_1, L.int .i64 (if (100000 : Int) < (IntKind.wrap IntKind.i64 (x8 + x1)) then 100000 else (IntKind.wrap IntKind.i64 (x8 + x1))))), L.own true 1 x6], rs := [.row true 1 x11], st := List.set (List.set st i4 [L.mp (List.set x5 j7 (L.int .i64 peer_1, L.int .i64 (if (100000 : Int) < (IntKind.wrap IntKind.i64 (x8 + x1)) then 100000 else (IntKind.wrap IntKind.i64 (x8 + x1))))), L.own true 1 x6]) i4 [L.mp (List.set x5 j7 (L.int .i64 peer_1, L.int .i64 (if (100000 : Int) < (IntKind.wrap IntKind.i64 (x8 + x1)) then 100000 else (IntKind.wrap IntKind.i64 (x8 + x1))))), L.gone], m := 6, vm := 1}), (9, {oc := [L.mp (List.set x5 j7 (L.int .i64 peer_1, L.int .i64 (if (100000 : Int) < (IntKind.wrap IntKind.i64 (x8 + x1)) then 100000 else (IntKind.wrap IntKind.i64 (x8 + x1))))), L.gone], mv := [44]})], .d {ds := [(4, {oc := [L.mp (List.set x5 j7 (L.int .i64 peer_1, L.int .i64 (if (100000 : Int) < (IntKind.wrap IntKind.i64 (x8 + x1)) then 100000 else (IntKind.wrap IntKind.i64 (x8 + x1))))), L.own true 1 x11]}), (5, {m := 2}), (7, {oe := [L.mp (List.set x5 j7 (L.int .i64 peer_1, L.int .i64 (if (100000 : Int) < (IntKind.wrap IntKind.i64 (x8 + x1)) then 100000 else (IntKind.wrap IntKind.i64 (x8 + x1))))), L.own true 1 x11], wm := 2}), (10, {oc := [L.mp (List.set x5 j7 (L.int .i64 peer_1, L.int .i64 (if (100000 : Int) < (IntKind.wrap IntKind.i64 (x8 + x1)) then 100000 else (IntKind.wrap IntKind.i64 (x8 + x1))))), L.gone], mv := [54]})], hv := 1216, Hs := [64, 192, 1216]}, .r [(3, {oc := [L.mp (List.set x5 j7 (L.int .i64 peer_1, L.int .i64 (if (100000 : Int) < (IntKind.wrap IntKind.i64 (x8 + x1)) then 100000 else (IntKind.wrap IntKind.i64 (x8 + x1))))), L.own true 1 (x11 ++ (List.take 1 [[L.int .i64 peer_1]]))]})], .c true, .r [(4, {oc := [L.mp (List.set x5 j7 (L.int .i64 peer_1, L.int .i64 (if (100000 : Int) < (IntKind.wrap IntKind.i64 (x8 + x1)) then 100000 else (IntKind.wrap IntKind.i64 (x8 + x1))))), L.own true 1 (x11 ++ (List.take 1 [[L.int .i64 peer_1]]))]}), (5, {oe := [L.mp (List.set x5 j7 (L.int .i64 peer_1, L.int .i64 (if (100000 : Int) < (IntKind.wrap IntKind.i64 (x8 + x1)) then 100000 else (IntKind.wrap IntKind.i64 (x8 + x1))))), L.own true 1 (x11 ++ (List.take 1 [[L.int .i64 peer_1]]))], rs := [.row true 1 x12], st := List.set (List.set (List.set (List.set (List.set (List.set st i4 [L.mp (List.set x5 j7 (L.int .i64 peer_1, L.int .i64 (if (100000 : Int) < (IntKind.wrap IntKind.i64 (x8 + x1)) then 100000 else (IntKind.wrap IntKind.i64 (x8 + x1))))), L.own true 1 x6]) i4 [L.mp (List.set x5 j7 (L.int .i64 peer_1, L.int .i64 (if (100000 : Int) < (IntKind.wrap IntKind.i64 (x8 + x1)) then 100000 else (IntKind.wrap IntKind.i64 (x8 + x1))))), L.gone]) i4 [L.mp (List.set x5 j7 (L.int .i64 peer_1, L.int .i64 (if (100000 : Int) < (IntKind.wrap IntKind.i64 (x8 + x1)) then 100000 else (IntKind.wrap IntKind.i64 (x8 + x1))))), L.own true 1 x11]) i4 [L.mp (List.set x5 j7 (L.int .i64 peer_1, L.int .i64 (if (100000 : Int) < (IntKind.wrap IntKind.i64 (x8 + x1)) then 100000 else (IntKind.wrap IntKind.i64 (x8 + x1))))), L.gone]) i4 [L.mp (List.set x5 j7 (L.int .i64 peer_1, L.int .i64 (if (100000 : Int) < (IntKind.wrap IntKind.i64 (x8 + x1)) then 100000 else (IntKind.wrap IntKind.i64 (x8 + x1))))), L.own true 1 (x11 ++ (List.take 1 [[L.int .i64 peer_1]]))]) i4 [L.mp (List.set x5 j7 (L.int .i64 peer_1, L.int .i64 (if (100000 : Int) < (IntKind.wrap IntKind.i64 (x8 + x1)) then 100000 else (IntKind.wrap IntKind.i64 (x8 + x1))))), L.gone], m := 6, vm := 1}), (8, {oc := [L.mp (List.set x5 j7 (L.int .i64 peer_1, L.int .i64 (if (100000 : Int) < (IntKind.wrap IntKind.i64 (x8 + x1)) then 100000 else (IntKind.wrap IntKind.i64 (x8 + x1))))), L.gone], mv := [68]})], .s 2] [0, 4] [] (And.intro c1 (And.intro (score_Points.snd c2) (And.intro c3 (And.intro c6 (And.intro c6 (And.intro (ex_find c7) (And.intro c6 (And.intro (ex_at c7) (And.intro c6 (And.intro (st_set_self c6 [L.mp (List.set x5 j7 (L.int .i64 peer_1, L.int .i64 (if (100000 : Int) < (IntKind.wrap IntKind.i64 (x8 + x1)) then 100000 else (IntKind.wrap IntKind.i64 (x8 + x1))))), L.own true 1 x6]) (And.intro (ex_find c8) (And.intro (st_set_self c6 [L.mp (List.set x5 j7 (L.int .i64 peer_1, L.int .i64 (if (100000 : Int) < (IntKind.wrap IntKind.i64 (x8 + x1)) then 100000 else (IntKind.wrap IntKind.i64 (x8 + x1))))), L.own true 1 x6]) (And.intro c9 (And.intro (st_set_self c6 [L.mp (List.set x5 j7 (L.int .i64 peer_1, L.int .i64 (if (100000 : Int) < (IntKind.wrap IntKind.i64 (x8 + x1)) then 100000 else (IntKind.wrap IntKind.i64 (x8 + x1))))), L.own true 1 x6]) (And.intro c10 (And.intro (st_set_self c6 [L.mp (List.set x5 j7 (L.int .i64 peer_1, L.int .i64 (if (100000 : Int) < (IntKind.wrap IntKind.i64 (x8 + x1)) then 100000 else (IntKind.wrap IntKind.i64 (x8 + x1))))), L.own true 1 x6]) (And.intro (slices_DeleteFunc_int_score_Board_Blame_1.snd c11 (List.set (List.set st i4 [L.mp (List.set x5 j7 (L.int .i64 peer_1, L.int .i64 (if (100000 : Int) < (IntKind.wrap IntKind.i64 (x8 + x1)) then 100000 else (IntKind.wrap IntKind.i64 (x8 + x1))))), L.own true 1 x6]) i4 [L.mp (List.set x5 j7 (L.int .i64 peer_1, L.int .i64 (if (100000 : Int) < (IntKind.wrap IntKind.i64 (x8 + x1)) then 100000 else (IntKind.wrap IntKind.i64 (x8 + x1))))), L.gone])) (And.intro (st_set_self (st_set_self c6 [L.mp (List.set x5 j7 (L.int .i64 peer_1, L.int .i64 (if (100000 : Int) < (IntKind.wrap IntKind.i64 (x8 + x1)) then 100000 else (IntKind.wrap IntKind.i64 (x8 + x1))))), L.own true 1 x6]) [L.mp (List.set x5 j7 (L.int .i64 peer_1, L.int .i64 (if (100000 : Int) < (IntKind.wrap IntKind.i64 (x8 + x1)) then 100000 else (IntKind.wrap IntKind.i64 (x8 + x1))))), L.gone]) (And.intro (rfl : (0 : Nat) = 0) (And.intro (@rfl Nat (List.length x11)) (And.intro (st_set_self (st_set_self (st_set_self c6 [L.mp (List.set x5 j7 (L.int .i64 peer_1, L.int .i64 (if (100000 : Int) < (IntKind.wrap IntKind.i64 (x8 + x1)) then 100000 else (IntKind.wrap IntKind.i64 (x8 + x1))))), L.own true 1 x6]) [L.mp (List.set x5 j7 (L.int .i64 peer_1, L.int .i64 (if (100000 : Int) < (IntKind.wrap IntKind.i64 (x8 + x1)) then 100000 else (IntKind.wrap IntKind.i64 (x8 + x1))))), L.gone]) [L.mp (List.set x5 j7 (L.int .i64 peer_1, L.int .i64 (if (100000 : Int) < (IntKind.wrap IntKind.i64 (x8 + x1)) then 100000 else (IntKind.wrap IntKind.i64 (x8 + x1))))), L.own true 1 x11]) (And.intro (st_set_self (st_set_self (st_set_self c6 [L.mp (List.set x5 j7 (L.int .i64 peer_1, L.int .i64 (if (100000 : Int) < (IntKind.wrap IntKind.i64 (x8 + x1)) then 100000 else (IntKind.wrap IntKind.i64 (x8 + x1))))), L.own true 1 x6]) [L.mp (List.set x5 j7 (L.int .i64 peer_1, L.int .i64 (if (100000 : Int) < (IntKind.wrap IntKind.i64 (x8 + x1)) then 100000 else (IntKind.wrap IntKind.i64 (x8 + x1))))), L.gone]) [L.mp (List.set x5 j7 (L.int .i64 peer_1, L.int .i64 (if (100000 : Int) < (IntKind.wrap IntKind.i64 (x8 + x1)) then 100000 else (IntKind.wrap IntKind.i64 (x8 + x1))))), L.own true 1 x11]) (And.intro (rfl : (0 : Nat) = 0) (And.intro (@rfl Nat (List.length x11)) (And.intro (st_set_self (st_set_self (st_set_self c6 [L.mp (List.set x5 j7 (L.int .i64 peer_1, L.int .i64 (if (100000 : Int) < (IntKind.wrap IntKind.i64 (x8 + x1)) then 100000 else (IntKind.wrap IntKind.i64 (x8 + x1))))), L.own true 1 x6]) [L.mp (List.set x5 j7 (L.int .i64 peer_1, L.int .i64 (if (100000 : Int) < (IntKind.wrap IntKind.i64 (x8 + x1)) then 100000 else (IntKind.wrap IntKind.i64 (x8 + x1))))), L.gone]) [L.mp (List.set x5 j7 (L.int .i64 peer_1, L.int .i64 (if (100000 : Int) < (IntKind.wrap IntKind.i64 (x8 + x1)) then 100000 else (IntKind.wrap IntKind.i64 (x8 + x1))))), L.own true 1 x11]) (And.intro (rfl : (0 : Nat) = 0) (And.intro c12 (And.intro c13 (And.intro (st_set_self (st_set_self (st_set_self (st_set_self c6 [L.mp (List.set x5 j7 (L.int .i64 peer_1, L.int .i64 (if (100000 : Int) < (IntKind.wrap IntKind.i64 (x8 + x1)) then 100000 else (IntKind.wrap IntKind.i64 (x8 + x1))))), L.own true 1 x6]) [L.mp (List.set x5 j7 (L.int .i64 peer_1, L.int .i64 (if (100000 : Int) < (IntKind.wrap IntKind.i64 (x8 + x1)) then 100000 else (IntKind.wrap IntKind.i64 (x8 + x1))))), L.gone]) [L.mp (List.set x5 j7 (L.int .i64 peer_1, L.int .i64 (if (100000 : Int) < (IntKind.wrap IntKind.i64 (x8 + x1)) then 100000 else (IntKind.wrap IntKind.i64 (x8 + x1))))), L.own true 1 x11]) [L.mp (List.set x5 j7 (L.int .i64 peer_1, L.int .i64 (if (100000 : Int) < (IntKind.wrap IntKind.i64 (x8 + x1)) then 100000 else (IntKind.wrap IntKind.i64 (x8 + x1))))), L.gone]) (And.intro (rfl : (0 : Nat) = 0) (And.intro (@rfl Nat (List.length (x11 ++ (List.take 1 [[L.int .i64 peer_1]])))) (And.intro (st_set_self (st_set_self (st_set_self (st_set_self (st_set_self c6 [L.mp (List.set x5 j7 (L.int .i64 peer_1, L.int .i64 (if (100000 : Int) < (IntKind.wrap IntKind.i64 (x8 + x1)) then 100000 else (IntKind.wrap IntKind.i64 (x8 + x1))))), L.own true 1 x6]) [L.mp (List.set x5 j7 (L.int .i64 peer_1, L.int .i64 (if (100000 : Int) < (IntKind.wrap IntKind.i64 (x8 + x1)) then 100000 else (IntKind.wrap IntKind.i64 (x8 + x1))))), L.gone]) [L.mp (List.set x5 j7 (L.int .i64 peer_1, L.int .i64 (if (100000 : Int) < (IntKind.wrap IntKind.i64 (x8 + x1)) then 100000 else (IntKind.wrap IntKind.i64 (x8 + x1))))), L.own true 1 x11]) [L.mp (List.set x5 j7 (L.int .i64 peer_1, L.int .i64 (if (100000 : Int) < (IntKind.wrap IntKind.i64 (x8 + x1)) then 100000 else (IntKind.wrap IntKind.i64 (x8 + x1))))), L.gone]) [L.mp (List.set x5 j7 (L.int .i64 peer_1, L.int .i64 (if (100000 : Int) < (IntKind.wrap IntKind.i64 (x8 + x1)) then 100000 else (IntKind.wrap IntKind.i64 (x8 + x1))))), L.own true 1 (x11 ++ (List.take 1 [[L.int .i64 peer_1]]))]) (And.intro c14 (And.intro (st_set_self (st_set_self (st_set_self (st_set_self (st_set_self c6 [L.mp (List.set x5 j7 (L.int .i64 peer_1, L.int .i64 (if (100000 : Int) < (IntKind.wrap IntKind.i64 (x8 + x1)) then 100000 else (IntKind.wrap IntKind.i64 (x8 + x1))))), L.own true 1 x6]) [L.mp (List.set x5 j7 (L.int .i64 peer_1, L.int .i64 (if (100000 : Int) < (IntKind.wrap IntKind.i64 (x8 + x1)) then 100000 else (IntKind.wrap IntKind.i64 (x8 + x1))))), L.gone]) [L.mp (List.set x5 j7 (L.int .i64 peer_1, L.int .i64 (if (100000 : Int) < (IntKind.wrap IntKind.i64 (x8 + x1)) then 100000 else (IntKind.wrap IntKind.i64 (x8 + x1))))), L.own true 1 x11]) [L.mp (List.set x5 j7 (L.int .i64 peer_1, L.int .i64 (if (100000 : Int) < (IntKind.wrap IntKind.i64 (x8 + x1)) then 100000 else (IntKind.wrap IntKind.i64 (x8 + x1))))), L.gone]) [L.mp (List.set x5 j7 (L.int .i64 peer_1, L.int .i64 (if (100000 : Int) < (IntKind.wrap IntKind.i64 (x8 + x1)) then 100000 else (IntKind.wrap IntKind.i64 (x8 + x1))))), L.own true 1 (x11 ++ (List.take 1 [[L.int .i64 peer_1]]))]) (And.intro c15 (And.intro (st_set_self (st_set_self (st_set_self (st_set_self (st_set_self c6 [L.mp (List.set x5 j7 (L.int .i64 peer_1, L.int .i64 (if (100000 : Int) < (IntKind.wrap IntKind.i64 (x8 + x1)) then 100000 else (IntKind.wrap IntKind.i64 (x8 + x1))))), L.own true 1 x6]) [L.mp (List.set x5 j7 (L.int .i64 peer_1, L.int .i64 (if (100000 : Int) < (IntKind.wrap IntKind.i64 (x8 + x1)) then 100000 else (IntKind.wrap IntKind.i64 (x8 + x1))))), L.gone]) [L.mp (List.set x5 j7 (L.int .i64 peer_1, L.int .i64 (if (100000 : Int) < (IntKind.wrap IntKind.i64 (x8 + x1)) then 100000 else (IntKind.wrap IntKind.i64 (x8 + x1))))), L.own true 1 x11]) [L.mp (List.set x5 j7 (L.int .i64 peer_1, L.int .i64 (if (100000 : Int) < (IntKind.wrap IntKind.i64 (x8 + x1)) then 100000 else (IntKind.wrap IntKind.i64 (x8 + x1))))), L.gone]) [L.mp (List.set x5 j7 (L.int .i64 peer_1, L.int .i64 (if (100000 : Int) < (IntKind.wrap IntKind.i64 (x8 + x1)) then 100000 else (IntKind.wrap IntKind.i64 (x8 + x1))))), L.own true 1 (x11 ++ (List.take 1 [[L.int .i64 peer_1]]))]) (And.intro (slices_Delete_int.snd c16 (List.set (List.set (List.set (List.set (List.set (List.set st i4 [L.mp (List.set x5 j7 (L.int .i64 peer_1, L.int .i64 (if (100000 : Int) < (IntKind.wrap IntKind.i64 (x8 + x1)) then 100000 else (IntKind.wrap IntKind.i64 (x8 + x1))))), L.own true 1 x6]) i4 [L.mp (List.set x5 j7 (L.int .i64 peer_1, L.int .i64 (if (100000 : Int) < (IntKind.wrap IntKind.i64 (x8 + x1)) then 100000 else (IntKind.wrap IntKind.i64 (x8 + x1))))), L.gone]) i4 [L.mp (List.set x5 j7 (L.int .i64 peer_1, L.int .i64 (if (100000 : Int) < (IntKind.wrap IntKind.i64 (x8 + x1)) then 100000 else (IntKind.wrap IntKind.i64 (x8 + x1))))), L.own true 1 x11]) i4 [L.mp (List.set x5 j7 (L.int .i64 peer_1, L.int .i64 (if (100000 : Int) < (IntKind.wrap IntKind.i64 (x8 + x1)) then 100000 else (IntKind.wrap IntKind.i64 (x8 + x1))))), L.gone]) i4 [L.mp (List.set x5 j7 (L.int .i64 peer_1, L.int .i64 (if (100000 : Int) < (IntKind.wrap IntKind.i64 (x8 + x1)) then 100000 else (IntKind.wrap IntKind.i64 (x8 + x1))))), L.own true 1 (x11 ++ (List.take 1 [[L.int .i64 peer_1]]))]) i4 [L.mp (List.set x5 j7 (L.int .i64 peer_1, L.int .i64 (if (100000 : Int) < (IntKind.wrap IntKind.i64 (x8 + x1)) then 100000 else (IntKind.wrap IntKind.i64 (x8 + x1))))), L.gone])) (And.intro (st_set_self (st_set_self (st_set_self (st_set_self (st_set_self (st_set_self c6 [L.mp (List.set x5 j7 (L.int .i64 peer_1, L.int .i64 (if (100000 : Int) < (IntKind.wrap IntKind.i64 (x8 + x1)) then 100000 else (IntKind.wrap IntKind.i64 (x8 + x1))))), L.own true 1 x6]) [L.mp (List.set x5 j7 (L.int .i64 peer_1, L.int .i64 (if (100000 : Int) < (IntKind.wrap IntKind.i64 (x8 + x1)) then 100000 else (IntKind.wrap IntKind.i64 (x8 + x1))))), L.gone]) [L.mp (List.set x5 j7 (L.int .i64 peer_1, L.int .i64 (if (100000 : Int) < (IntKind.wrap IntKind.i64 (x8 + x1)) then 100000 else (IntKind.wrap IntKind.i64 (x8 + x1))))), L.own true 1 x11]) [L.mp (List.set x5 j7 (L.int .i64 peer_1, L.int .i64 (if (100000 : Int) < (IntKind.wrap IntKind.i64 (x8 + x1)) then 100000 else (IntKind.wrap IntKind.i64 (x8 + x1))))), L.gone]) [L.mp (List.set x5 j7 (L.int .i64 peer_1, L.int .i64 (if (100000 : Int) < (IntKind.wrap IntKind.i64 (x8 + x1)) then 100000 else (IntKind.wrap IntKind.i64 (x8 + x1))))), L.own true 1 (x11 ++ (List.take 1 [[L.int .i64 peer_1]]))]) [L.mp (List.set x5 j7 (L.int .i64 peer_1, L.int .i64 (if (100000 : Int) < (IntKind.wrap IntKind.i64 (x8 + x1)) then 100000 else (IntKind.wrap IntKind.i64 (x8 + x1))))), L.gone]) (And.intro (rfl : (0 : Nat) = 0) (@rfl Nat (List.length x12))))))))))))))))))))))))))))))))))))))))) (score_Board_Blame.p1_ok i4 peer_1 (List.set (List.set (List.set (List.set (List.set (List.set (List.set st i4 [L.mp (List.set x5 j7 (L.int .i64 peer_1, L.int .i64 (if (100000 : Int) < (IntKind.wrap IntKind.i64 (x8 + x1)) then 100000 else (IntKind.wrap IntKind.i64 (x8 + x1))))), L.own true 1 x6]) i4 [L.mp (List.set x5 j7 (L.int .i64 peer_1, L.int .i64 (if (100000 : Int) < (IntKind.wrap IntKind.i64 (x8 + x1)) then 100000 else (IntKind.wrap IntKind.i64 (x8 + x1))))), L.gone]) i4 [L.mp (List.set x5 j7 (L.int .i64 peer_1, L.int .i64 (if (100000 : Int) < (IntKind.wrap IntKind.i64 (x8 + x1)) then 100000 else (IntKind.wrap IntKind.i64 (x8 + x1))))), L.own true 1 x11]) i4 [L.mp (List.set x5 j7 (L.int .i64 peer_1, L.int .i64 (if (100000 : Int) < (IntKind.wrap IntKind.i64 (x8 + x1)) then 100000 else (IntKind.wrap IntKind.i64 (x8 + x1))))), L.gone]) i4 [L.mp (List.set x5 j7 (L.int .i64 peer_1, L.int .i64 (if (100000 : Int) < (IntKind.wrap IntKind.i64 (x8 + x1)) then 100000 else (IntKind.wrap IntKind.i64 (x8 + x1))))), L.own true 1 (x11 ++ (List.take 1 [[L.int .i64 peer_1]]))]) i4 [L.mp (List.set x5 j7 (L.int .i64 peer_1, L.int .i64 (if (100000 : Int) < (IntKind.wrap IntKind.i64 (x8 + x1)) then 100000 else (IntKind.wrap IntKind.i64 (x8 + x1))))), L.gone]) i4 [L.mp (List.set x5 j7 (L.int .i64 peer_1, L.int .i64 (if (100000 : Int) < (IntKind.wrap IntKind.i64 (x8 + x1)) then 100000 else (IntKind.wrap IntKind.i64 (x8 + x1))))), L.own true 1 x12]) hE  h48) (by kernel_rfl) (by kernel_rfl)
            · exact At.qd fol 400 [.r [(0, {m := 2})], .r [], .c false, .r [(1, {rs := [.one (L.int .i64 x1)], m := 1})], .r [], .c false, .d {ds := [(3, {oc := [L.mp x5, L.own true 1 x6]}), (4, {m := 2}), (8, {oc := [L.mp x5, L.own true 1 x6]}), (9, {m := 2}), (10, {oc := [L.mp x5, L.own true 1 x6], oe := [L.int .i64 x8]}), (14, {oc := [L.mp x5, L.own true 1 x6], m := j7})], hv := 16384, Hs := [16384]}, .d {ds := [(3, {oc := [L.mp (List.set x5 j7 (L.int .i64 peer_1, L.int .i64 (if (100000 : Int) < (IntKind.wrap IntKind.i64 (x8 + x1)) then 100000 else (IntKind.wrap IntKind.i64 (x8 + x1))))), L.own true 1 x6]}), (4, {m := 2}), (5, {oc := [L.mp (List.set x5 j7 (L.int .i64 peer_1, L.int .i64 (if (100000 : Int) < (IntKind.wrap IntKind.i64 (x8 + x1)) then 100000 else (IntKind.wrap IntKind.i64 (x8 + x1))))), L.own true 1 x6], oe := [L.int .i64 x10]})], hv := 0, Hs := []}, .c true, .r [(4, {oc := [L.mp (List.set x5 j7 (L.int .i64 peer_1, L.int .i64 (if (100000 : Int) < (IntKind.wrap IntKind.i64 (x8 + x1)) then 100000 else (IntKind.wrap IntKind.i64 (x8 + x1))))), L.own true 1 x6]}), (6, {oe := [L.mp (List.set x5 j7 (L.int .i64 peer_1, L.int .i64 (if (100000 : Int) < (IntKind.wrap IntKind.i64 (x8 + x1)) then 100000 else (IntKind.wrap IntKind.i64 (x8 + x1))))), L.own true 1 x6], rs := [.row true 1 x11], st := List.set (List.set st i4 [L.mp (List.set x5 j7 (L.int .i64 peer_1, L.int .i64 (if (100000 : Int) < (IntKind.wrap IntKind.i64 (x8 + x1)) then 100000 else (IntKind.wrap IntKind.i64 (x8 + x1))))), L.own true 1 x6]) i4 [L.mp (List.set x5 j7 (L.int .i64 peer_1, L.int .i64 (if (100000 : Int) < (IntKind.wrap IntKind.i64 (x8 + x1)) then 100000 else (IntKind.wrap IntKind.i64 (x8 + x1))))), L.gone], m := 6, vm := 1}), (9, {oc := [L.mp (List.set x5 j7 (L.int .i64 peer_1, L.int .i64 (if (100000 : Int) < (IntKind.wrap IntKind.i64 (x8 + x1)) then 100000 else (IntKind.wrap IntKind.i64 (x8 + x1))))), L.gone], mv := [44]})], .d {ds := [(4, {oc := [L.mp (List.set x5 j7 (L.int .i64 peer_1, L.int .i64 (if (100000 : Int) < (IntKind.wrap IntKind.i64 (x8 + x1)) then 100000 else (IntKind.wrap IntKind.i64 (x8 + x1))))), L.own true 1 x11]}), (5, {m := 2}), (7, {oe := [L.mp (List.set x5 j7 (L.int .i64 peer_1, L.int .i64 (if (100000 : Int) < (IntKind.wrap IntKind.i64 (x8 + x1)) then 100000 else (IntKind.wrap IntKind.i64 (x8 + x1))))), L.own true 1 x11], wm := 2}), (10, {oc := [L.mp (List.set x5 j7 (L.int .i64 peer_1, L.int .i64 (if (100000 : Int) < (IntKind.wrap IntKind.i64 (x8 + x1)) then 100000 else (IntKind.wrap IntKind.i64 (x8 + x1))))), L.gone], mv := [54]})], hv := 1216, Hs := [64, 192, 1216]}, .r [(3, {oc := [L.mp (List.set x5 j7 (L.int .i64 peer_1, L.int .i64 (if (100000 : Int) < (IntKind.wrap IntKind.i64 (x8 + x1)) then 100000 else (IntKind.wrap IntKind.i64 (x8 + x1))))), L.own true 1 (x11 ++ (List.take 1 [[L.int .i64 peer_1]]))]})], .c false, .s 2] [0, 4] [] (And.intro c1 (And.intro (score_Points.snd c2) (And.intro c3 (And.intro c6 (And.intro c6 (And.intro (ex_find c7) (And.intro c6 (And.intro (ex_at c7) (And.intro c6 (And.intro (st_set_self c6 [L.mp (List.set x5 j7 (L.int .i64 peer_1, L.int .i64 (if (100000 : Int) < (IntKind.wrap IntKind.i64 (x8 + x1)) then 100000 else (IntKind.wrap IntKind.i64 (x8 + x1))))), L.own true 1 x6]) (And.intro (ex_find c8) (And.intro (st_set_self c6 [L.mp (List.set x5 j7 (L.int .i64 peer_1, L.int .i64 (if (100000 : Int) < (IntKind.wrap IntKind.i64 (x8 + x1)) then 100000 else (IntKind.wrap IntKind.i64 (x8 + x1))))), L.own true 1 x6]) (And.intro c9 (And.intro (st_set_self c6 [L.mp (List.set x5 j7 (L.int .i64 peer_1, L.int .i64 (if (100000 : Int) < (IntKind.wrap IntKind.i64 (x8 + x1)) then 100000 else (IntKind.wrap IntKind.i64 (x8 + x1))))), L.own true 1 x6]) (And.intro c10 (And.intro (st_set_self c6 [L.mp (List.set x5 j7 (L.int .i64 peer_1, L.int .i64 (if (100000 : Int) < (IntKind.wrap IntKind.i64 (x8 + x1)) then 100000 else (IntKind.wrap IntKind.i64 (x8 + x1))))), L.own true 1 x6]) (And.intro (slices_DeleteFunc_int_score_Board_Blame_1.snd c11 (List.set (List.set st i4 [L.mp (List.set x5 j7 (L.int .i64 peer_1, L.int .i64 (if (100000 : Int) < (IntKind.wrap IntKind.i64 (x8 + x1)) then 100000 else (IntKind.wrap IntKind.i64 (x8 + x1))))), L.own true 1 x6]) i4 [L.mp (List.set x5 j7 (L.int .i64 peer_1, L.int .i64 (if (100000 : Int) < (IntKind.wrap IntKind.i64 (x8 + x1)) then 100000 else (IntKind.wrap IntKind.i64 (x8 + x1))))), L.gone])) (And.intro (st_set_self (st_set_self c6 [L.mp (List.set x5 j7 (L.int .i64 peer_1, L.int .i64 (if (100000 : Int) < (IntKind.wrap IntKind.i64 (x8 + x1)) then 100000 else (IntKind.wrap IntKind.i64 (x8 + x1))))), L.own true 1 x6]) [L.mp (List.set x5 j7 (L.int .i64 peer_1, L.int .i64 (if (100000 : Int) < (IntKind.wrap IntKind.i64 (x8 + x1)) then 100000 else (IntKind.wrap IntKind.i64 (x8 + x1))))), L.gone]) (And.intro (rfl : (0 : Nat) = 0) (And.intro (@rfl Nat (List.length x11)) (And.intro (st_set_self (st_set_self (st_set_self c6 [L.mp (List.set x5 j7 (L.int .i64 peer_1, L.int .i64 (if (100000 : Int) < (IntKind.wrap IntKind.i64 (x8 + x1)) then 100000 else (IntKind.wrap IntKind.i64 (x8 + x1))))), L.own true 1 x6]) [L.mp (List.set x5 j7 (L.int .i64 peer_1, L.int .i64 (if (100000 : Int) < (IntKind.wrap IntKind.i64 (x8 + x1)) then 100000 else (IntKind.wrap IntKind.i64 (x8 + x1))))), L.gone]) [L.mp (List.set x5 j7 (L.int .i64 peer_1, L.int .i64 (if (100000 : Int) < (IntKind.wrap IntKind.i64 (x8 + x1)) then 100000 else (IntKind.wrap IntKind.i64 (x8 + x1))))), L.own true 1 x11]) (And.intro (st_set_self (st_set_self (st_set_self c6 [L.mp (List.set x5 j7 (L.int .i64 peer_1, L.int .i64 (if (100000 : Int) < (IntKind.wrap IntKind.i64 (x8 + x1)) then 100000 else (IntKind.wrap IntKind.i64 (x8 + x1))))), L.own true 1 x6]) [L.mp (List.set x5 j7 (L.int .i64 peer_1, L.int .i64 (if (100000 : Int) < (IntKind.wrap IntKind.i64 (x8 + x1)) then 100000 else (IntKind.wrap IntKind.i64 (x8 + x1))))), L.gone]) [L.mp (List.set x5 j7 (L.int .i64 peer_1, L.int .i64 (if (100000 : Int) < (IntKind.wrap IntKind.i64 (x8 + x1)) then 100000 else (IntKind.wrap IntKind.i64 (x8 + x1))))), L.own true 1 x11]) (And.intro (rfl : (0 : Nat) = 0) (And.intro (@rfl Nat (List.length x11)) (And.intro (st_set_self (st_set_self (st_set_self c6 [L.mp (List.set x5 j7 (L.int .i64 peer_1, L.int .i64 (if (100000 : Int) < (IntKind.wrap IntKind.i64 (x8 + x1)) then 100000 else (IntKind.wrap IntKind.i64 (x8 + x1))))), L.own true 1 x6]) [L.mp (List.set x5 j7 (L.int .i64 peer_1, L.int .i64 (if (100000 : Int) < (IntKind.wrap IntKind.i64 (x8 + x1)) then 100000 else (IntKind.wrap IntKind.i64 (x8 + x1))))), L.gone]) [L.mp (List.set x5 j7 (L.int .i64 peer_1, L.int .i64 (if (100000 : Int) < (IntKind.wrap IntKind.i64 (x8 + x1)) then 100000 else (IntKind.wrap IntKind.i64 (x8 + x1))))), L.own true 1 x11]) (And.intro (rfl : (0 : Nat) = 0) (And.intro c12 (And.intro c13 (And.intro (st_set_self (st_set_self (st_set_self (st_set_self c6 [L.mp (List.set x5 j7 (L.int .i64 peer_1, L.int .i64 (if (100000 : Int) < (IntKind.wrap IntKind.i64 (x8 + x1)) then 100000 else (IntKind.wrap IntKind.i64 (x8 + x1))))), L.own true 1 x6]) [L.mp (List.set x5 j7 (L.int .i64 peer_1, L.int .i64 (if (100000 : Int) < (IntKind.wrap IntKind.i64 (x8 + x1)) then 100000 else (IntKind.wrap IntKind.i64 (x8 + x1))))), L.gone]) [L.mp (List.set x5 j7 (L.int .i64 peer_1, L.int .i64 (if (100000 : Int) < (IntKind.wrap IntKind.i64 (x8 + x1)) then 100000 else (IntKind.wrap IntKind.i64 (x8 + x1))))), L.own true 1 x11]) [L.mp (List.set x5 j7 (L.int .i64 peer_1, L.int .i64 (if (100000 : Int) < (IntKind.wrap IntKind.i64 (x8 + x1)) then 100000 else (IntKind.wrap IntKind.i64 (x8 + x1))))), L.gone]) (And.intro (rfl : (0 : Nat) = 0) (And.intro (@rfl Nat (List.length (x11 ++ (List.take 1 [[L.int .i64 peer_1]])))) (And.intro (st_set_self (st_set_self (st_set_self (st_set_self (st_set_self c6 [L.mp (List.set x5 j7 (L.int .i64 peer_1, L.int .i64 (if (100000 : Int) < (IntKind.wrap IntKind.i64 (x8 + x1)) then 100000 else (IntKind.wrap IntKind.i64 (x8 + x1))))), L.own true 1 x6]) [L.mp (List.set x5 j7 (L.int .i64 peer_1, L.int .i64 (if (100000 : Int) < (IntKind.wrap IntKind.i64 (x8 + x1)) then 100000 else (IntKind.wrap IntKind.i64 (x8 + x1))))), L.gone]) [L.mp (List.set x5 j7 (L.int .i64 peer_1, L.int .i64 (if (100000 : Int) < (IntKind.wrap IntKind.i64 (x8 + x1)) then 100000 else (IntKind.wrap IntKind.i64 (x8 + x1))))), L.own true 1 x11]) [L.mp (List.set x5 j7 (L.int .i64 peer_1, L.int .i64 (if (100000 : Int) < (IntKind.wrap IntKind.i64 (x8 + x1)) then 100000 else (IntKind.wrap IntKind.i64 (x8 + x1))))), L.gone]) [L.mp (List.set x5 j7 (L.int .i64 peer_1, L.int .i64 (if (100000 : Int) < (IntKind.wrap IntKind.i64 (x8 + x1)) then 100000 else (IntKind.wrap IntKind.i64 (x8 + x1))))), L.own true 1 (x11 ++ (List.take 1 [[L.int .i64 peer_1]]))]) c14)))))))))))))))))))))))))))))))) (score_Board_Blame.p1_ok i4 peer_1 (List.set (List.set (List.set (List.set (List.set st i4 [L.mp (List.set x5 j7 (L.int .i64 peer_1, L.int .i64 (if (100000 : Int) < (IntKind.wrap IntKind.i64 (x8 + x1)) then 100000 else (IntKind.wrap IntKind.i64 (x8 + x1))))), L.own true 1 x6]) i4 [L.mp (List.set x5 j7 (L.int .i64 peer_1, L.int .i64 (if (100000 : Int) < (IntKind.wrap IntKind.i64 (x8 + x1)) then 100000 else (IntKind.wrap IntKind.i64 (x8 + x1))))), L.gone]) i4 [L.mp (List.set x5 j7 (L.int .i64 peer_1, L.int .i64 (if (100000 : Int) < (IntKind.wrap IntKind.i64 (x8 + x1)) then 100000 else (IntKind.wrap IntKind.i64 (x8 + x1))))), L.own true 1 x11]) i4 [L.mp (List.set x5 j7 (L.int .i64 peer_1, L.int .i64 (if (100000 : Int) < (IntKind.wrap IntKind.i64 (x8 + x1)) then 100000 else (IntKind.wrap IntKind.i64 (x8 + x1))))), L.gone]) i4 [L.mp (List.set x5 j7 (L.int .i64 peer_1, L.int .i64 (if (100000 : Int) < (IntKind.wrap IntKind.i64 (x8 + x1)) then 100000 else (IntKind.wrap IntKind.i64 (x8 + x1))))), L.own true 1 (x11 ++ (List.take 1 [[L.int .i64 peer_1]]))]) hE  h46) (by kernel_rfl) (by kernel_rfl)
          · exact At.qd fol 400 [.r [(0, {m := 2})], .r [], .c false, .r [(1, {rs := [.one (L.int .i64 x1)], m := 1})], .r [], .c false, .d {ds := [(3, {oc := [L.mp x5, L.own true 1 x6]}), (4, {m := 2}), (8, {oc := [L.mp x5, L.own true 1 x6]}), (9, {m := 2}), (10, {oc := [L.mp x5, L.own true 1 x6], oe := [L.int .i64 x8]}), (14, {oc := [L.mp x5, L.own true 1 x6], m := j7})], hv := 16384, Hs := [16384]}, .d {ds := [(3, {oc := [L.mp (List.set x5 j7 (L.int .i64 peer_1, L.int .i64 (if (100000 : Int) < (IntKind.wrap IntKind.i64 (x8 + x1)) then 100000 else (IntKind.wrap IntKind.i64 (x8 + x1))))), L.own true 1 x6]}), (4, {m := 2}), (5, {oc := [L.mp (List.set x5 j7 (L.int .i64 peer_1, L.int .i64 (if (100000 : Int) < (IntKind.wrap IntKind.i64 (x8 + x1)) then 100000 else (IntKind.wrap IntKind.i64 (x8 + x1))))), L.own true 1 x6], oe := [L.int .i64 x10]})], hv := 0, Hs := []}, .c false, .s 1] [0, 4] [] (And.intro c1 (And.intro (score_Points.snd c2) (And.intro c3 (And.intro c6 (And.intro c6 (And.intro (ex_find c7) (And.intro c6 (And.intro (ex_at c7) (And.intro c6 (And.intro (st_set_self c6 [L.mp (List.set x5 j7 (L.int .i64 peer_1, L.int .i64 (if (100000 : Int) < (IntKind.wrap IntKind.i64 (x8 + x1)) then 100000 else (IntKind.wrap IntKind.i64 (x8 + x1))))), L.own true 1 x6]) (And.intro (ex_find c8) (And.intro (st_set_self c6 [L.mp (List.set x5 j7 (L.int .i64 peer_1, L.int .i64 (if (100000 : Int) < (IntKind.wrap IntKind.i64 (x8 + x1)) then 100000 else (IntKind.wrap IntKind.i64 (x8 + x1))))), L.own true 1 x6]) c9)))))))))))) (score_Board_Blame.p2_ok i4 peer_1 (List.set st i4 [L.mp (List.set x5 j7 (L.int .i64 peer_1, L.int .i64 (if (100000 : Int) < (IntKind.wrap IntKind.i64 (x8 + x1)) then 100000 else (IntKind.wrap IntKind.i64 (x8 + x1))))), L.own true 1 x6]) hE  h40) (by kernel_rfl) (by kernel_rfl)
        · obtain ⟨⟨x21, st22⟩, c20, h49⟩ := optE_inv h35; clear h35
          obtain rfl := some_inv h49
          exact At.fd fol hE 400 [.r [(0, {m := 2})], .r [], .c false, .r [(1, {rs := [.one (L.int .i64 x1)], m := 1})], .r [], .c false, .d {ds := [(3, {oc := [L.mp x5, L.own true 1 x6]}), (4, {m := 2}), (8, {oc := [L.mp x5, L.own true 1 x6]}), (9, {m := 2}), (10, {oc := [L.mp x5, L.own true 1 x6], oe := [L.int .i64 x8]}), (14, {oc := [L.mp x5, L.own true 1 x6], m := j7})], hv := 16384, Hs := [16384]}, .d {ds := [(3, {oc := [L.mp (List.set x5 j7 (L.int .i64 peer_1, L.int .i64 (if (100000 : Int) < (IntKind.wrap IntKind.i64 (x8 + x1)) then 100000 else (IntKind.wrap IntKind.i64 (x8 + x1))))), L.own true 1 x6]}), (4, {m := 2}), (5, {oc := [L.mp (List.set x5 j7 (L.int .i64 peer_1, L.int .i64 (if (100000 : Int) < (IntKind.wrap IntKind.i64 (x8 + x1)) then 100000 else (IntKind.wrap IntKind.i64 (x8 + x1))))), L.own true 1 x6], yes := false})], hv := 0, Hs := []}, .c false, .r [(1, {m := 2}), (2, {rs := [.one (L.bool x21)], st := st22})]] [] 0 [] (And.intro c1 (And.intro (score_Points.snd c2) (And.intro c3 (And.intro c6 (And.intro c6 (And.intro (ex_find c7) (And.intro c6 (And.intro (ex_at c7) (And.intro c6 (And.intro (st_set_self c6 [L.mp (List.set x5 j7 (L.int .i64 peer_1, L.int .i64 (if (100000 : Int) < (IntKind.wrap IntKind.i64 (x8 + x1)) then 100000 else (IntKind.wrap IntKind.i64 (x8 + x1))))), L.own true 1 x6]) (And.intro c8 (And.intro (st_set_self c6 [L.mp (List.set x5 j7 (L.int .i64 peer_1, L.int .i64 (if (100000 : Int) < (IntKind.wrap IntKind.i64 (x8 + x1)) then 100000 else (IntKind.wrap IntKind.i64 (x8 + x1))))), L.own true 1 x6]) (And.intro (rfl : false = false) (score_Board_Shuns.snd c20)))))))))))))) (by kernel_rfl) (by kernel_rfl)
      · rcases optM_inv h30 with ⟨j23, h53, c21, h50⟩ | ⟨c21, h51⟩ <;> clear h30
        · obtain ⟨x24, h54, h52⟩ := dec_i64_inv h50; clear h50
          obtain rfl := single_inv h54
          refine iteB h52 (fun c22 h55 => ?_) (fun c22 h56 => ?_) <;> clear h52
          · obtain ⟨c23, h57⟩ := chk_inv h55; clear h55
            obtain ⟨x25, c24, h58⟩ := optE_inv h57; clear h57
            obtain ⟨c25, h59⟩ := chk_inv h58; clear h58
            obtain ⟨c26, h60⟩ := chk_inv h59; clear h59
            refine iteB h60 (fun c27 h61 => ?_) (fun c27 h62 => ?_) <;> clear h60
            · obtain ⟨c28, h63⟩ := chk_inv h61; clear h61
              obtain ⟨x26, c29, h64⟩ := optE_inv h63; clear h63
              exact At.qd fol 400 [.r [(0, {m := 2})], .r [], .c false, .r [(1, {rs := [.one (L.int .i64 x1)], m := 1})], .r [], .c false, .d {ds := [(3, {oc := [L.mp x5, L.own true 1 x6]}), (4, {m := 2}), (8, {oc := [L.mp x5, L.own true 1 x6]}), (9, {m := 2}), (10, {oc := [L.mp x5, L.own true 1 x6], yes := false}), (14, {oc := [L.mp x5, L.own true 1 x6], yes := false})], hv := 16384, Hs := [16384]}, .d {ds := [(3, {oc := [L.mp (x5 ++ [(L.int .i64 peer_1, L.int .i64 (if (100000 : Int) < (IntKind.wrap IntKind.i64 (0 + x1)) then 100000 else (IntKind.wrap IntKind.i64 (0 + x1))))]), L.own true 1 x6]}), (4, {m := 2}), (5, {oc := [L.mp (x5 ++ [(L.int .i64 peer_1, L.int .i64 (if (100000 : Int) < (IntKind.wrap IntKind.i64 (0 + x1)) then 100000 else (IntKind.wrap IntKind.i64 (0 + x1))))]), L.own true 1 x6], oe := [L.int .i64 x24]})], hv := 0, Hs := []}, .c true, .r [(4, {oc := [L.mp (x5 ++ [(L.int .i64 peer_1, L.int .i64 (if (100000 : Int) < (IntKind.wrap IntKind.i64 (0 + x1)) then 100000 else (IntKind.wrap IntKind.i64 (0 + x1))))]), L.own true 1 x6]}), (6, {oe := [L.mp (x5 ++ [(L.int .i64 peer_1, L.int .i64 (if (100000 : Int) < (IntKind.wrap IntKind.i64 (0 + x1)) then 100000 else (IntKind.wrap IntKind.i64 (0 + x1))))]), L.own true 1 x6], rs := [.row true 1 x25], st := List.set (List.set st i4 [L.mp (x5 ++ [(L.int .i64 peer_1, L.int .i64 (if (100000 : Int) < (IntKind.wrap IntKind.i64 (0 + x1)) then 100000 else (IntKind.wrap IntKind.i64 (0 + x1))))]), L.own true 1 x6]) i4 [L.mp (x5 ++ [(L.int .i64 peer_1, L.int .i64 (if (100000 : Int) < (IntKind.wrap IntKind.i64 (0 + x1)) then 100000 else (IntKind.wrap IntKind.i64 (0 + x1))))]), L.gone], m := 6, vm := 1}), (9, {oc := [L.mp (x5 ++ [(L.int .i64 peer_1, L.int .i64 (if (100000 : Int) < (IntKind.wrap IntKind.i64 (0 + x1)) then 100000 else (IntKind.wrap IntKind.i64 (0 + x1))))]), L.gone], mv := [44]})], .d {ds := [(4, {oc := [L.mp (x5 ++ [(L.int .i64 peer_1, L.int .i64 (if (100000 : Int) < (IntKind.wrap IntKind.i64 (0 + x1)) then 100000 else (IntKind.wrap IntKind.i64 (0 + x1))))]), L.own true 1 x25]}), (5, {m := 2}), (7, {oe := [L.mp (x5 ++ [(L.int .i64 peer_1, L.int .i64 (if (100000 : Int) < (IntKind.wrap IntKind.i64 (0 + x1)) then 100000 else (IntKind.wrap IntKind.i64 (0 + x1))))]), L.own true 1 x25], wm := 2}), (10, {oc := [L.mp (x5 ++ [(L.int .i64 peer_1, L.int .i64 (if (100000 : Int) < (IntKind.wrap IntKind.i64 (0 + x1)) then 100000 else (IntKind.wrap IntKind.i64 (0 + x1))))]), L.gone], mv := [54]})], hv := 1216, Hs := [64, 192, 1216]}, .r [(3, {oc := [L.mp (x5 ++ [(L.int .i64 peer_1, L.int .i64 (if (100000 : Int) < (IntKind.wrap IntKind.i64 (0 + x1)) then 100000 else (IntKind.wrap IntKind.i64 (0 + x1))))]), L.own true 1 (x25 ++ (List.take 1 [[L.int .i64 peer_1]]))]})], .c true, .r [(4, {oc := [L.mp (x5 ++ [(L.int .i64 peer_1, L.int .i64 (if (100000 : Int) < (IntKind.wrap IntKind.i64 (0 + x1)) then 100000 else (IntKind.wrap IntKind.i64 (0 + x1))))]), L.own true 1 (x25 ++ (List.take 1 [[L.int .i64 peer_1]]))]}), (5, {oe := [L.mp (x5 ++ [(L.int .i64 peer_1, L.int .i64 (if (100000 : Int) < (IntKind.wrap IntKind.i64 (0 + x1)) then 100000 else (IntKind.wrap IntKind.i64 (0 + x1))))]), L.own true 1 (x25 ++ (List.take 1 [[L.int .i64 peer_1]]))], rs := [.row true 1 x26], st := List.set (List.set (List.set (List.set (List.set (List.set st i4 [L.mp (x5 ++ [(L.int .i64 peer_1, L.int .i64 (if (100000 : Int) < (IntKind.wrap IntKind.i64 (0 + x1)) then 100000 else (IntKind.wrap IntKind.i64 (0 + x1))))]), L.own true 1 x6]) i4 [L.mp (x5 ++ [(L.int .i64 peer_1, L.int .i64 (if (100000 : Int) < (IntKind.wrap IntKind.i64 (0 + x1)) then 100000 else (IntKind.wrap IntKind.i64 (0 + x1))))]), L.gone]) i4 [L.mp (x5 ++ [(L.int .i64 peer_1, L.int .i64 (if (100000 : Int) < (IntKind.wrap IntKind.i64 (0 + x1)) then 100000 else (IntKind.wrap IntKind.i64 (0 + x1))))]), L.own true 1 x25]) i4 [L.mp (x5 ++ [(L.int .i64 peer_1, L.int .i64 (if (100000 : Int) < (IntKind.wrap IntKind.i64 (0 + x1)) then 100000 else (IntKind.wrap IntKind.i64 (0 + x1))))]), L.gone]) i4 [L.mp (x5 ++ [(L.int .i64 peer_1, L.int .i64 (if (100000 : Int) < (IntKind.wrap IntKind.i64 (0 + x1)) then 100000 else (IntKind.wrap IntKind.i64 (0 + x1))))]), L.own true 1 (x25 ++ (List.take 1 [[L.int .i64 peer_1]]))]) i4 [L.mp (x5 ++ [(L.int .i64 peer_1, L.int .i64 (if (100000 : Int) < (IntKind.wrap IntKind.i64 (0 + x1)) then 100000 else (IntKind.wrap IntKind.i64 (0 + x1))))]), L.gone], m := 6, vm := 1}), (8, {oc := [L.mp (x5 ++ [(L.int .i64 peer_1, L.int .i64 (if (100000 : Int) < (IntKind.wrap IntKind.i64 (0 + x1)) then 100000 else (IntKind.wrap IntKind.i64 (0 + x1))))]), L.gone], mv := [68]})], .s 2] [0, 4] [] (And.intro c1 (And.intro (score_Points.snd c2) (And.intro c3 (And.intro c6 (And.intro c6 (And.intro c7 (And.intro c6 (And.intro c7 (And.intro c6 (And.intro (st_set_self c6 [L.mp (x5 ++ [(L.int .i64 peer_1, L.int .i64 (if (100000 : Int) < (IntKind.wrap IntKind.i64 (0 + x1)) then 100000 else (IntKind.wrap IntKind.i64 (0 + x1))))]), L.own true 1 x6]) (And.intro (ex_find c21) (And.intro (st_set_self c6 [L.mp (x5 ++ [(L.int .i64 peer_1, L.int .i64 (if (100000 : Int) < (IntKind.wrap IntKind.i64 (0 + x1)) then 100000 else (IntKind.wrap IntKind.i64 (0 + x1))))]), L.own true 1 x6]) (And.intro c22 (And.intro (st_set_self c6 [L.mp (x5 ++ [(L.int .i64 peer_1, L.int .i64 (if (100000 : Int) < (IntKind.wrap IntKind.i64 (0 + x1)) then 100000 else (IntKind.wrap IntKind.i64 (0 + x1))))]), L.own true 1 x6]) (And.intro c23 (And.intro (st_set_self c6 [L.mp (x5 ++ [(L.int .i64 peer_1, L.int .i64 (if (100000 : Int) < (IntKind.wrap IntKind.i64 (0 + x1)) then 100000 else (IntKind.wrap IntKind.i64 (0 + x1))))]), L.own true 1 x6]) (And.intro (slices_DeleteFunc_int_score_Board_Blame_1.snd c24 (List.set (List.set st i4 [L.mp (x5 ++ [(L.int .i64 peer_1, L.int .i64 (if (100000 : Int) < (IntKind.wrap IntKind.i64 (0 + x1)) then 100000 else (IntKind.wrap IntKind.i64 (0 + x1))))]), L.own true 1 x6]) i4 [L.mp (x5 ++ [(L.int .i64 peer_1, L.int .i64 (if (100000 : Int) < (IntKind.wrap IntKind.i64 (0 + x1)) then 100000 else (IntKind.wrap IntKind.i64 (0 + x1))))]), L.gone])) (And.intro (st_set_self (st_set_self c6 [L.mp (x5 ++ [(L.int .i64 peer_1, L.int .i64 (if (100000 : Int) < (IntKind.wrap IntKind.i64 (0 + x1)) then 100000 else (IntKind.wrap IntKind.i64 (0 + x1))))]), L.own true 1 x6]) [L.mp (x5 ++ [(L.int .i64 peer_1, L.int .i64 (if (100000 : Int) < (IntKind.wrap IntKind.i64 (0 + x1)) then 100000 else (IntKind.wrap IntKind.i64 (0 + x1))))]), L.gone]) (And.intro (rfl : (0 : Nat) = 0) (And.intro (@rfl Nat (List.length x25)) (And.intro (st_set_self (st_set_self (st_set_self c6 [L.mp (x5 ++ [(L.int .i64 peer_1, L.int .i64 (if (100000 : Int) < (IntKind.wrap IntKind.i64 (0 + x1)) then 100000 else (IntKind.wrap IntKind.i64 (0 + x1))))]), L.own true 1 x6]) [L.mp (x5 ++ [(L.int .i64 peer_1, L.int .i64 (if (100000 : Int) < (IntKind.wrap IntKind.i64 (0 + x1)) then 100000 else (IntKind.wrap IntKind.i64 (0 + x1))))]), L.gone]) [L.mp (x5 ++ [(L.int .i64 peer_1, L.int .i64 (if (100000 : Int) < (IntKind.wrap IntKind.i64 (0 + x1)) then 100000 else (IntKind.wrap IntKind.i64 (0 + x1))))]), L.own true 1 x25]) (And.intro (st_set_self (st_set_self (st_set_self c6 [L.mp (x5 ++ [(L.int .i64 peer_1, L.int .i64 (if (100000 : Int) < (IntKind.wrap IntKind.i64 (0 + x1)) then 100000 else (IntKind.wrap IntKind.i64 (0 + x1))))]), L.own true 1 x6]) [L.mp (x5 ++ [(L.int .i64 peer_1, L.int .i64 (if (100000 : Int) < (IntKind.wrap IntKind.i64 (0 + x1)) then 100000 else (IntKind.wrap IntKind.i64 (0 + x1))))]), L.gone]) [L.mp (x5 ++ [(L.int .i64 peer_1, L.int .i64 (if (100000 : Int) < (IntKind.wrap IntKind.i64 (0 + x1)) then 100000 else (IntKind.wrap IntKind.i64 (0 + x1))))]), L.own true 1 x25]) (And.intro (rfl : (0 : Nat) = 0) (And.intro (@rfl Nat (List.length x25)) (And.intro (st_set_self (st_set_self (st_set_self c6 [L.mp (x5 ++ [(L.int .i64 peer_1, L.int .i64 (if (100000 : Int) < (IntKind.wrap IntKind.i64 (0 + x1)) then 100000 else (IntKind.wrap IntKind.i64 (0 + x1))))]), L.own true 1 x6]) [L.mp (x5 ++ [(L.int .i64 peer_1, L.int .i64 (if (100000 : Int) < (IntKind.wrap IntKind.i64 (0 + x1)) then 100000 else (IntKind.wrap IntKind.i64 (0 + x1))))]), L.gone]) [L.mp (x5 ++ [(L.int .i64 peer_1, L.int .i64 (if (100000 : Int) < (IntKind.wrap IntKind.i64 (0 + x1)) then 100000 else (IntKind.wrap IntKind.i64 (0 + x1))))]), L.own true 1 x25]) (And.intro (rfl : (0 : Nat) = 0) (And.intro c25 (And.intro c26 (And.intro (st_set_self (st_set_self (st_set_self (st_set_self c6 [L.mp (x5 ++ [(L.int .i64 peer_1, L.int .i64 (if (100000 : Int) < (IntKind.wrap IntKind.i64 (0 + x1)) then 100000 else (IntKind.wrap IntKind.i64 (0 + x1))))]), L.own true 1 x6]) [L.mp (x5 ++ [(L.int .i64 peer_1, L.int .i64 (if (100000 : Int) < (IntKind.wrap IntKind.i64 (0 + x1)) then 100000 else (IntKind.wrap IntKind.i64 (0 + x1))))]), L.gone]) [L.mp (x5 ++ [(L.int .i64 peer_1, L.int .i64 (if (100000 : Int) < (IntKind.wrap IntKind.i64 (0 + x1)) then 100000 else (IntKind.wrap IntKind.i64 (0 + x1))))]), L.own true 1 x25]) [L.mp (x5 ++ [(L.int .i64 peer_1, L.int .i64 (if (100000 : Int) < (IntKind.wrap IntKind.i64 (0 + x1)) then 100000 else (IntKind.wrap IntKind.i64 (0 + x1))))]), L.gone]) (And.intro (rfl : (0 : Nat) = 0) (And.intro (@rfl Nat (List.length (x25 ++ (List.take 1 [[L.int .i64 peer_1]])))) (And.intro (st_set_self (st_set_self (st_set_self (st_set_self (st_set_self c6 [L.mp (x5 ++ [(L.int .i64 peer_1, L.int .i64 (if (100000 : Int) < (IntKind.wrap IntKind.i64 (0 + x1)) then 100000 else (IntKind.wrap IntKind.i64 (0 + x1))))]), L.own true 1 x6]) [L.mp (x5 ++ [(L.int .i64 peer_1, L.int .i64 (if (100000 : Int) < (IntKind.wrap IntKind.i64 (0 + x1)) then 100000 else (IntKind.wrap IntKind.i64 (0 + x1))))]), L.gone]) [L.mp (x5 ++ [(L.int .i64 peer_1, L.int .i64 (if (100000 : Int) < (IntKind.wrap IntKind.i64 (0 + x1)) then 100000 else (IntKind.wrap IntKind.i64 (0 + x1))))]), L.own true 1 x25]) [L.mp (x5 ++ [(L.int .i64 peer_1, L.int .i64 (if (100000 : Int) < (IntKind.wrap IntKind.i64 (0 + x1)) then 100000 else (IntKind.wrap IntKind.i64 (0 + x1))))]), L.gone]) [L.mp (x5 ++ [(L.int .i64 peer_1, L.int .i64 (if (100000 : Int) < (IntKind.wrap IntKind.i64 (0 + x1)) then 100000 else (IntKind.wrap IntKind.i64 (0 + x1))))]), L.own true 1 (x25 ++ (List.take 1 [[L.int .i64 peer_1]]))]) (And.intro c27 (And.intro (st_set_self (st_set_self (st_set_self (st_set_self (st_set_self c6 [L.mp (x5 ++ [(L.int .i64 peer_1, L.int .i64 (if (100000 : Int) < (IntKind.wrap IntKind.i64 (0 + x1)) then 100000 else (IntKind.wrap IntKind.i64 (0 + x1))))]), L.own true 1 x6]) [L.mp (x5 ++ [(L.int .i64 peer_1, L.int .i64 (if (100000 : Int) < (IntKind.wrap IntKind.i64 (0 + x1)) then 100000 else (IntKind.wrap IntKind.i64 (0 + x1))))]), L.gone]) [L.mp (x5 ++ [(L.int .i64 peer_1, L.int .i64 (if (100000 : Int) < (IntKind.wrap IntKind.i64 (0 + x1)) then 100000 else (IntKind.wrap IntKind.i64 (0 + x1))))]), L.own true 1 x25]) [L.mp (x5 ++ [(L.int .i64 peer_1, L.int .i64 (if (100000 : Int) < (IntKind.wrap IntKind.i64 (0 + x1)) then 100000 else (IntKind.wrap IntKind.i64 (0 + x1))))]), L.gone]) [L.mp (x5 ++ [(L.int .i64 peer_1, L.int .i64 (if (100000 : Int) < (IntKind.wrap IntKind.i64 (0 + x1)) then 100000 else (IntKind.wrap IntKind.i64 (0 + x1))))]), L.own true 1 (x25 ++ (List.take 1 [[L.int .i64 peer_1]]))]) (And.intro c28 (And.intro (st_set_self (st_set_self (st_set_self (st_set_self (st_set_self c6 [L.mp (x5 ++ [(L.int .i64 peer_1, L.int .i64 (if (100000 : Int) < (IntKind.wrap IntKind.i64 (0 + x1)) then 100000 else (IntKind.wrap IntKind.i64 (0 + x1))))]), L.own true 1 x6]) [L.mp (x5 ++ [(L.int .i64 peer_1, L.int .i64 (if (100000 : Int) < (IntKind.wrap IntKind.i64 (0 + x1)) then 100000 else (IntKind.wrap IntKind.i64 (0 + x1))))]), L.gone]) [L.mp (x5 ++ [(L.int .i64 peer_1, L.int .i64 (if (100000 : Int) < (IntKind.wrap IntKind.i64 (0 + x1)) then 100000 else (IntKind.wrap IntKind.i64 (0 + x1))))]), L.own true 1 x25]) [L.mp (x5 ++ [(L.int .i64 peer_1, L.int .i64 (if (100000 : Int) < (IntKind.wrap IntKind.i64 (0 + x1)) then 100000 else (IntKind.wrap IntKind.i64 (0 + x1))))]), L.gone]) [L.mp (x5 ++ [(L.int .i64 peer_1, L.int .i64 (if (100000 : Int) < (IntKind.wrap IntKind.i64 (0 + x1)) then 100000 else (IntKind.wrap IntKind.i64 (0 + x1))))]), L.own true 1 (x25 ++ (List.take 1 [[L.int .i64 peer_1]]))]) (And.intro (slices_Delete_int.snd c29 (List.set (List.set (List.set (List.set (List.set (List.set st i4 [L.mp (x5 ++ [(L.int .i64 peer_1, L.int .i64 (if (100000 : Int) < (IntKind.wrap IntKind.i64 (0 + x1)) then 100000 else (IntKind.wrap IntKind.i64 (0 + x1))))]), L.own true 1 x6]) i4 [L.mp (x5 ++ [(L.int .i64 peer_1, L.int .i64 (if (100000 : Int) < (IntKind.wrap IntKind.i64 (0 + x1)) then 100000 else (IntKind.wrap IntKind.i64 (0 + x1))))]), L.gone]) i4 [L.mp (x5 ++ [(L.int .i64 peer_1, L.int .i64 (if (100000 : Int) < (IntKind.wrap IntKind.i64 (0 + x1)) then 100000 else (IntKind.wrap IntKind.i64 (0 + x1))))]), L.own true 1 x25]) i4 [L.mp (x5 ++ [(L.int .i64 peer_1, L.int .i64 (if (100000 : Int) < (IntKind.wrap IntKind.i64 (0 + x1)) then 100000 else (IntKind.wrap IntKind.i64 (0 + x1))))]), L.gone]) i4 [L.mp (x5 ++ [(L.int .i64 peer_1, L.int .i64 (if (100000 : Int) < (IntKind.wrap IntKind.i64 (0 + x1)) then 100000 else (IntKind.wrap IntKind.i64 (0 + x1))))]), L.own true 1 (x25 ++ (List.take 1 [[L.int .i64 peer_1]]))]) i4 [L.mp (x5 ++ [(L.int .i64 peer_1, L.int .i64 (if (100000 : Int) < (IntKind.wrap IntKind.i64 (0 + x1)) then 100000 else (IntKind.wrap IntKind.i64 (0 + x1))))]), L.gone])) (And.intro (st_set_self (st_set_self (st_set_self (st_set_self (st_set_self (st_set_self c6 [L.mp (x5 ++ [(L.int .i64 peer_1, L.int .i64 (if (100000 : Int) < (IntKind.wrap IntKind.i64 (0 + x1)) then 100000 else (IntKind.wrap IntKind.i64 (0 + x1))))]), L.own true 1 x6]) [L.mp (x5 ++ [(L.int .i64 peer_1, L.int .i64 (if (100000 : Int) < (IntKind.wrap IntKind.i64 (0 + x1)) then 100000 else (IntKind.wrap IntKind.i64 (0 + x1))))]), L.gone]) [L.mp (x5 ++ [(L.int .i64 peer_1, L.int .i64 (if (100000 : Int) < (IntKind.wrap IntKind.i64 (0 + x1)) then 100000 else (IntKind.wrap IntKind.i64 (0 + x1))))]), L.own true 1 x25]) [L.mp (x5 ++ [(L.int .i64 peer_1, L.int .i64 (if (100000 : Int) < (IntKind.wrap IntKind.i64 (0 + x1)) then 100000 else (IntKind.wrap IntKind.i64 (0 + x1))))]), L.gone]) [L.mp (x5 ++ [(L.int .i64 peer_1, L.int .i64 (if (100000 : Int) < (IntKind.wrap IntKind.i64 (0 + x1)) then 100000 else (IntKind.wrap IntKind.i64 (0 + x1))))]), L.own true 1 (x25 ++ (List.take 1 [[L.int .i64 peer_1]]))]) [L.mp (x5 ++ [(L.int .i64 peer_1, L.int .i64 (if (100000 : Int) < (IntKind.wrap IntKind.i64 (0 + x1)) then 100000 else (IntKind.wrap IntKind.i64 (0 + x1))))]), L.gone]) (And.intro (rfl : (0 : Nat) = 0) (@rfl Nat (List.length x26))))))))))))))))))))))))))))))))))))))))) (score_Board_Blame.p3_ok i4 peer_1 (List.set (List.set (List.set (List.set (List.set (List.set (List.set st i4 [L.mp (x5 ++ [(L.int .i64 peer_1, L.int .i64 (if (100000 : Int) < (IntKind.wrap IntKind.i64 (0 + x1)) then 100000 else (IntKind.wrap IntKind.i64 (0 + x1))))]), L.own true 1 x6]) i4 [L.mp (x5 ++ [(L.int .i64 peer_1, L.int .i64 (if (100000 : Int) < (IntKind.wrap IntKind.i64 (0 + x1)) then 100000 else (IntKind.wrap IntKind.i64 (0 + x1))))]), L.gone]) i4 [L.mp (x5 ++ [(L.int .i64 peer_1, L.int .i64 (if (100000 : Int) < (IntKind.wrap IntKind.i64 (0 + x1)) then 100000 else (IntKind.wrap IntKind.i64 (0 + x1))))]), L.own true 1 x25]) i4 [L.mp (x5 ++ [(L.int .i64 peer_1, L.int .i64 (if (100000 : Int) < (IntKind.wrap IntKind.i64 (0 + x1)) then 100000 else (IntKind.wrap IntKind.i64 (0 + x1))))]), L.gone]) i4 [L.mp (x5 ++ [(L.int .i64 peer_1, L.int .i64 (if (100000 : Int) < (IntKind.wrap IntKind.i64 (0 + x1)) then 100000 else (IntKind.wrap IntKind.i64 (0 + x1))))]), L.own true 1 (x25 ++ (List.take 1 [[L.int .i64 peer_1]]))]) i4 [L.mp (x5 ++ [(L.int .i64 peer_1, L.int .i64 (if (100000 : Int) < (IntKind.wrap IntKind.i64 (0 + x1)) then 100000 else (IntKind.wrap IntKind.i64 (0 + x1))))]), L.gone]) i4 [L.mp (x5 ++ [(L.int .i64 peer_1, L.int .i64 (if (100000 : Int) < (IntKind.wrap IntKind.i64 (0 + x1)) then 100000 else (IntKind.wrap IntKind.i64 (0 + x1))))]), L.own true 1 x26]) hE  h64) (by kernel_rfl) (by kernel_rfl)
            · exact At.qd fol 400 [.r [(0, {m := 2})], .r [], .c false, .r [(1, {rs := [.one (L.int .i64 x1)], m := 1})], .r [], .c false, .d {ds := [(3, {oc := [L.mp x5, L.own true 1 x6]}), (4, {m := 2}), (8, {oc := [L.mp x5, L.own true 1 x6]}), (9, {m := 2}), (10, {oc := [L.mp x5, L.own true 1 x6], yes := false}), (14, {oc := [L.mp x5, L.own true 1 x6], yes := false})], hv := 16384, Hs := [16384]}, .d {ds := [(3, {oc := [L.mp (x5 ++ [(L.int .i64 peer_1, L.int .i64 (if (100000 : Int) < (IntKind.wrap IntKind.i64 (0 + x1)) then 100000 else (IntKind.wrap IntKind.i64 (0 + x1))))]), L.own true 1 x6]}), (4, {m := 2}), (5, {oc := [L.mp (x5 ++ [(L.int .i64 peer_1, L.int .i64 (if (100000 : Int) < (IntKind.wrap IntKind.i64 (0 + x1)) then 100000 else (IntKind.wrap IntKind.i64 (0 + x1))))]), L.own true 1 x6], oe := [L.int .i64 x24]})], hv := 0, Hs := []}, .c true, .r [(4, {oc := [L.mp (x5 ++ [(L.int .i64 peer_1, L.int .i64 (if (100000 : Int) < (IntKind.wrap IntKind.i64 (0 + x1)) then 100000 else (IntKind.wrap IntKind.i64 (0 + x1))))]), L.own true 1 x6]}), (6, {oe := [L.mp (x5 ++ [(L.int .i64 peer_1, L.int .i64 (if (100000 : Int) < (IntKind.wrap IntKind.i64 (0 + x1)) then 100000 else (IntKind.wrap IntKind.i64 (0 + x1))))]), L.own true 1 x6], rs := [.row true 1 x25], st := List.set (List.set st i4 [L.mp (x5 ++ [(L.int .i64 peer_1, L.int .i64 (if (100000 : Int) < (IntKind.wrap IntKind.i64 (0 + x1)) then 100000 else (IntKind.wrap IntKind.i64 (0 + x1))))]), L.own true 1 x6]) i4 [L.mp (x5 ++ [(L.int .i64 peer_1, L.int .i64 (if (100000 : Int) < (IntKind.wrap IntKind.i64 (0 + x1)) then 100000 else (IntKind.wrap IntKind.i64 (0 + x1))))]), L.gone], m := 6, vm := 1}), (9, {oc := [L.mp (x5 ++ [(L.int .i64 peer_1, L.int .i64 (if (100000 : Int) < (IntKind.wrap IntKind.i64 (0 + x1)) then 100000 else (IntKind.wrap IntKind.i64 (0 + x1))))]), L.gone], mv := [44]})], .d {ds := [(4, {oc := [L.mp (x5 ++ [(L.int .i64 peer_1, L.int .i64 (if (100000 : Int) < (IntKind.wrap IntKind.i64 (0 + x1)) then 100000 else (IntKind.wrap IntKind.i64 (0 + x1))))]), L.own true 1 x25]}), (5, {m := 2}), (7, {oe := [L.mp (x5 ++ [(L.int .i64 peer_1, L.int .i64 (if (100000 : Int) < (IntKind.wrap IntKind.i64 (0 + x1)) then 100000 else (IntKind.wrap IntKind.i64 (0 + x1))))]), L.own true 1 x25], wm := 2}), (10, {oc := [L.mp (x5 ++ [(L.int .i64 peer_1, L.int .i64 (if (100000 : Int) < (IntKind.wrap IntKind.i64 (0 + x1)) then 100000 else (IntKind.wrap IntKind.i64 (0 + x1))))]), L.gone], mv := [54]})], hv := 1216, Hs := [64, 192, 1216]}, .r [(3, {oc := [L.mp (x5 ++ [(L.int .i64 peer_1, L.int .i64 (if (100000 : Int) < (IntKind.wrap IntKind.i64 (0 + x1)) then 100000 else (IntKind.wrap IntKind.i64 (0 + x1))))]), L.own true 1 (x25 ++ (List.take 1 [[L.int .i64 peer_1]]))]})], .c false, .s 2] [0, 4] [] (And.intro c1 (And.intro (score_Points.snd c2) (And.intro c3 (And.intro c6 (And.intro c6 (And.intro c7 (And.intro c6 (And.intro c7 (And.intro c6 (And.intro (st_set_self c6 [L.mp (x5 ++ [(L.int .i64 peer_1, L.int .i64 (if (100000 : Int) < (IntKind.wrap IntKind.i64 (0 + x1)) then 100000 else (IntKind.wrap IntKind.i64 (0 + x1))))]), L.own true 1 x6]) (And.intro (ex_find c21) (And.intro (st_set_self c6 [L.mp (x5 ++ [(L.int .i64 peer_1, L.int .i64 (if (100000 : Int) < (IntKind.wrap IntKind.i64 (0 + x1)) then 100000 else (IntKind.wrap IntKind.i64 (0 + x1))))]), L.own true 1 x6]) (And.intro c22 (And.intro (st_set_self c6 [L.mp (x5 ++ [(L.int .i64 peer_1, L.int .i64 (if (100000 : Int) < (IntKind.wrap IntKind.i64 (0 + x1)) then 100000 else (IntKind.wrap IntKind.i64 (0 + x1))))]), L.own true 1 x6]) (And.intro c23 (And.intro (st_set_self c6 [L.mp (x5 ++ [(L.int .i64 peer_1, L.int .i64 (if (100000 : Int) < (IntKind.wrap IntKind.i64 (0 + x1)) then 100000 else (IntKind.wrap IntKind.i64 (0 + x1))))]), L.own true 1 x6]) (And.intro (slices_DeleteFunc_int_score_Board_Blame_1.snd c24 (List.set (List.set st i4 [L.mp (x5 ++ [(L.int .i64 peer_1, L.int .i64 (if (100000 : Int) < (IntKind.wrap IntKind.i64 (0 + x1)) then 100000 else (IntKind.wrap IntKind.i64 (0 + x1))))]), L.own true 1 x6]) i4 [L.mp (x5 ++ [(L.int .i64 peer_1, L.int .i64 (if (100000 : Int) < (IntKind.wrap IntKind.i64 (0 + x1)) then 100000 else (IntKind.wrap IntKind.i64 (0 + x1))))]), L.gone])) (And.intro (st_set_self (st_set_self c6 [L.mp (x5 ++ [(L.int .i64 peer_1, L.int .i64 (if (100000 : Int) < (IntKind.wrap IntKind.i64 (0 + x1)) then 100000 else (IntKind.wrap IntKind.i64 (0 + x1))))]), L.own true 1 x6]) [L.mp (x5 ++ [(L.int .i64 peer_1, L.int .i64 (if (100000 : Int) < (IntKind.wrap IntKind.i64 (0 + x1)) then 100000 else (IntKind.wrap IntKind.i64 (0 + x1))))]), L.gone]) (And.intro (rfl : (0 : Nat) = 0) (And.intro (@rfl Nat (List.length x25)) (And.intro (st_set_self (st_set_self (st_set_self c6 [L.mp (x5 ++ [(L.int .i64 peer_1, L.int .i64 (if (100000 : Int) < (IntKind.wrap IntKind.i64 (0 + x1)) then 100000 else (IntKind.wrap IntKind.i64 (0 + x1))))]), L.own true 1 x6]) [L.mp (x5 ++ [(L.int .i64 peer_1, L.int .i64 (if (100000 : Int) < (IntKind.wrap IntKind.i64 (0 + x1)) then 100000 else (IntKind.wrap IntKind.i64 (0 + x1))))]), L.gone]) [L.mp (x5 ++ [(L.int .i64 peer_1, L.int .i64 (if (100000 : Int) < (IntKind.wrap IntKind.i64 (0 + x1)) then 100000 else (IntKind.wrap IntKind.i64 (0 + x1))))]), L.own true 1 x25]) (And.intro (st_set_self (st_set_self (st_set_self c6 [L.mp (x5 ++ [(L.int .i64 peer_1, L.int .i64 (if (100000 : Int) < (IntKind.wrap IntKind.i64 (0 + x1)) then 100000 else (IntKind.wrap IntKind.i64 (0 + x1))))]), L.own true 1 x6]) [L.mp (x5 ++ [(L.int .i64 peer_1, L.int .i64 (if (100000 : Int) < (IntKind.wrap IntKind.i64 (0 + x1)) then 100000 else (IntKind.wrap IntKind.i64 (0 + x1))))]), L.gone]) [L.mp (x5 ++ [(L.int .i64 peer_1, L.int .i64 (if (100000 : Int) < (IntKind.wrap IntKind.i64 (0 + x1)) then 100000 else (IntKind.wrap IntKind.i64 (0 + x1))))]), L.own true 1 x25]) (And.intro (rfl : (0 : Nat) = 0) (And.intro (@rfl Nat (List.length x25)) (And.intro (st_set_self (st_set_self (st_set_self c6 [L.mp (x5 ++ [(L.int .i64 peer_1, L.int .i64 (if (100000 : Int) < (IntKind.wrap IntKind.i64 (0 + x1)) then 100000 else (IntKind.wrap IntKind.i64 (0 + x1))))]), L.own true 1 x6]) [L.mp (x5 ++ [(L.int .i64 peer_1, L.int .i64 (if (100000 : Int) < (IntKind.wrap IntKind.i64 (0 + x1)) then 100000 else (IntKind.wrap IntKind.i64 (0 + x1))))]), L.gone]) [L.mp (x5 ++ [(L.int .i64 peer_1, L.int .i64 (if (100000 : Int) < (IntKind.wrap IntKind.i64 (0 + x1)) then 100000 else (IntKind.wrap IntKind.i64 (0 + x1))))]), L.own true 1 x25]) (And.intro (rfl : (0 : Nat) = 0) (And.intro c25 (And.intro c26 (And.intro (st_set_self (st_set_self (st_set_self (st_set_self c6 [L.mp (x5 ++ [(L.int .i64 peer_1, L.int .i64 (if (100000 : Int) < (IntKind.wrap IntKind.i64 (0 + x1)) then 100000 else (IntKind.wrap IntKind.i64 (0 + x1))))]), L.own true 1 x6]) [L.mp (x5 ++ [(L.int .i64 peer_1, L.int .i64 (if (100000 : Int) < (IntKind.wrap IntKind.i64 (0 + x1)) then 100000 else (IntKind.wrap IntKind.i64 (0 + x1))))]), L.gone]) [L.mp (x5 ++ [(L.int .i64 peer_1, L.int .i64 (if (100000 : Int) < (IntKind.wrap IntKind.i64 (0 + x1)) then 100000 else (IntKind.wrap IntKind.i64 (0 + x1))))]), L.own true 1 x25]) [L.mp (x5 ++ [(L.int .i64 peer_1, L.int .i64 (if (100000 : Int) < (IntKind.wrap IntKind.i64 (0 + x1)) then 100000 else (IntKind.wrap IntKind.i64 (0 + x1))))]), L.gone]) (And.intro (rfl : (0 : Nat) = 0) (And.intro (@rfl Nat (List.length (x25 ++ (List.take 1 [[L.int .i64 peer_1]])))) (And.intro (st_set_self (st_set_self (st_set_self (st_set_self (st_set_self c6 [L.mp (x5 ++ [(L.int .i64 peer_1, L.int .i64 (if (100000 : Int) < (IntKind.wrap IntKind.i64 (0 + x1)) then 100000 else (IntKind.wrap IntKind.i64 (0 + x1))))]), L.own true 1 x6]) [L.mp (x5 ++ [(L.int .i64 peer_1, L.int .i64 (if (100000 : Int) < (IntKind.wrap IntKind.i64 (0 + x1)) then 100000 else (IntKind.wrap IntKind.i64 (0 + x1))))]), L.gone]) [L.mp (x5 ++ [(L.int .i64 peer_1, L.int .i64 (if (100000 : Int) < (IntKind.wrap IntKind.i64 (0 + x1)) then 100000 else (IntKind.wrap IntKind.i64 (0 + x1))))]), L.own true 1 x25]) [L.mp (x5 ++ [(L.int .i64 peer_1, L.int .i64 (if (100000 : Int) < (IntKind.wrap IntKind.i64 (0 + x1)) then 100000 else (IntKind.wrap IntKind.i64 (0 + x1))))]), L.gone]) [L.mp (x5 ++ [(L.int .i64 peer_1, L.int .i64 (if (100000 : Int) < (IntKind.wrap IntKind.i64 (0 + x1)) then 100000 else (IntKind.wrap IntKind.i64 (0 + x1))))]), L.own true 1 (x25 ++ (List.take 1 [[L.int .i64 peer_1]]))]) c27)))))))))))))))))))))))))))))))) (score_Board_Blame.p3_ok i4 peer_1 (List.set (List.set (List.set (List.set (List.set st i4 [L.mp (x5 ++ [(L.int .i64 peer_1, L.int .i64 (if (100000 : Int) < (IntKind.wrap IntKind.i64 (0 + x1)) then 100000 else (IntKind.wrap IntKind.i64 (0 + x1))))]), L.own true 1 x6]) i4 [L.mp (x5 ++ [(L.int .i64 peer_1, L.int .i64 (if (100000 : Int) < (IntKind.wrap IntKind.i64 (0 + x1)) then 100000 else (IntKind.wrap IntKind.i64 (0 + x1))))]), L.gone]) i4 [L.mp (x5 ++ [(L.int .i64 peer_1, L.int .i64 (if (100000 : Int) < (IntKind.wrap IntKind.i64 (0 + x1)) then 100000 else (IntKind.wrap IntKind.i64 (0 + x1))))]), L.own true 1 x25]) i4 [L.mp (x5 ++ [(L.int .i64 peer_1, L.int .i64 (if (100000 : Int) < (IntKind.wrap IntKind.i64 (0 + x1)) then 100000 else (IntKind.wrap IntKind.i64 (0 + x1))))]), L.gone]) i4 [L.mp (x5 ++ [(L.int .i64 peer_1, L.int .i64 (if (100000 : Int) < (IntKind.wrap IntKind.i64 (0 + x1)) then 100000 else (IntKind.wrap IntKind.i64 (0 + x1))))]), L.own true 1 (x25 ++ (List.take 1 [[L.int .i64 peer_1]]))]) hE  h62) (by kernel_rfl) (by kernel_rfl)
          · exact At.qd fol 400 [.r [(0, {m := 2})], .r [], .c false, .r [(1, {rs := [.one (L.int .i64 x1)], m := 1})], .r [], .c false, .d {ds := [(3, {oc := [L.mp x5, L.own true 1 x6]}), (4, {m := 2}), (8, {oc := [L.mp x5, L.own true 1 x6]}), (9, {m := 2}), (10, {oc := [L.mp x5, L.own true 1 x6], yes := false}), (14, {oc := [L.mp x5, L.own true 1 x6], yes := false})], hv := 16384, Hs := [16384]}, .d {ds := [(3, {oc := [L.mp (x5 ++ [(L.int .i64 peer_1, L.int .i64 (if (100000 : Int) < (IntKind.wrap IntKind.i64 (0 + x1)) then 100000 else (IntKind.wrap IntKind.i64 (0 + x1))))]), L.own true 1 x6]}), (4, {m := 2}), (5, {oc := [L.mp (x5 ++ [(L.int .i64 peer_1, L.int .i64 (if (100000 : Int) < (IntKind.wrap IntKind.i64 (0 + x1)) then 100000 else (IntKind.wrap IntKind.i64 (0 + x1))))]), L.own true 1 x6], oe := [L.int .i64 x24]})], hv := 0, Hs := []}, .c false, .s 1] [0, 4] [] (And.intro c1 (And.intro (score_Points.snd c2) (And.intro c3 (And.intro c6 (And.intro c6 (And.intro c7 (And.intro c6 (And.intro c7 (And.intro c6 (And.intro (st_set_self c6 [L.mp (x5 ++ [(L.int .i64 peer_1, L.int .i64 (if (100000 : Int) < (IntKind.wrap IntKind.i64 (0 + x1)) then 100000 else (IntKind.wrap IntKind.i64 (0 + x1))))]), L.own true 1 x6]) (And.intro (ex_find c21) (And.intro (st_set_self c6 [L.mp (x5 ++ [(L.int .i64 peer_1, L.int .i64 (if (100000 : Int) < (IntKind.wrap IntKind.i64 (0 + x1)) then 100000 else (IntKind.wrap IntKind.i64 (0 + x1))))]), L.own true 1 x6]) c22)))))))))))) (score_Board_Blame.p4_ok i4 peer_1 (List.set st i4 [L.mp (x5 ++ [(L.int .i64 peer_1, L.int .i64 (if (100000 : Int) < (IntKind.wrap IntKind.i64 (0 + x1)) then 100000 else (IntKind.wrap IntKind.i64 (0 + x1))))]), L.own true 1 x6]) hE  h56) (by kernel_rfl) (by kernel_rfl)
        · obtain ⟨⟨x35, st36⟩, c33, h65⟩ := optE_inv h51; clear h51
          obtain rfl := some_inv h65
          exact At.fd fol hE 400 [.r [(0, {m := 2})], .r [], .c false, .r [(1, {rs := [.one (L.int .i64 x1)], m := 1})], .r [], .c false, .d {ds := [(3, {oc := [L.mp x5, L.own true 1 x6]}), (4, {m := 2}), (8, {oc := [L.mp x5, L.own true 1 x6]}), (9, {m := 2}), (10, {oc := [L.mp x5, L.own true 1 x6], yes := false}), (14, {oc := [L.mp x5, L.own true 1 x6], yes := false})], hv := 16384, Hs := [16384]}, .d {ds := [(3, {oc := [L.mp (x5 ++ [(L.int .i64 peer_1, L.int .i64 (if (100000 : Int) < (IntKind.wrap IntKind.i64 (0 + x1)) then 100000 else (IntKind.wrap IntKind.i64 (0 + x1))))]), L.own true 1 x6]}), (4, {m := 2}), (5, {oc := [L.mp (x5 ++ [(L.int .i64 peer_1, L.int .i64 (if (100000 : Int) < (IntKind.wrap IntKind.i64 (0 + x1)) then 100000 else (IntKind.wrap IntKind.i64 (0 + x1))))]), L.own true 1 x6], yes := false})], hv := 0, Hs := []}, .c false, .r [(1, {m := 2}), (2, {rs := [.one (L.bool x35)], st := st36})]] [] 0 [] (And.intro c1 (And.intro (score_Points.snd c2) (And.intro c3 (And.intro c6 (And.intro c6 (And.intro c7 (And.intro c6 (And.intro c7 (And.intro c6 (And.intro (st_set_self c6 [L.mp (x5 ++ [(L.int .i64 peer_1, L.int .i64 (if (100000 : Int) < (IntKind.wrap IntKind.i64 (0 + x1)) then 100000 else (IntKind.wrap IntKind.i64 (0 + x1))))]), L.own true 1 x6]) (And.intro c21 (And.intro (st_set_self c6 [L.mp (x5 ++ [(L.int .i64 peer_1, L.int .i64 (if (100000 : Int) < (IntKind.wrap IntKind.i64 (0 + x1)) then 100000 else (IntKind.wrap IntKind.i64 (0 + x1))))]), L.own true 1 x6]) (And.intro (rfl : false = false) (score_Board_Shuns.snd c33)))))))))))))) (by kernel_rfl) (by kernel_rfl)
theorem score_Board_Blame.snd {N : Nat} {b_0 : Option Nat} {peer_1 : Int} {faults_2 : List (List L)} {st : List (List L)} {r : Bool × (List (List L))} (h : score_Board_Blame N b_0 peer_1 faults_2 st = some r) : Snd Tryd.prog 12 [.one (L.ptr b_0), .one (L.int .i64 peer_1), .one (L.sl 1 faults_2)] st (score_Board_Blame.rs r) (r.2) :=
  Snd.of (fn := Tryd.f12) (c := score_Board_Blame.B) Tryd.func12 (by kernel_rfl) (by kernel_rfl) (of_decide_eq_true (by kernel_rfl)) fun g w R hE => score_Board_Blame.at0 b_0 peer_1 faults_2 st hE h
/-! (*trailhead/score.Board).Sum -/
noncomputable def score_Board_Sum.B : Code := Tryd.f14.body.getD .skip
noncomputable def score_Board_Sum.rs (r : Int × (List (List L))) : List CV := [.one (L.int .i64 r.1)]
noncomputable def score_Board_Sum (N : Nat) (b_0 : Option Nat) (peer_1 : Int) (st : List (List L)) : Option (Int × (List (List L))) :=
  if (Option.isNone b_0) = true then
    some (0, st)
  else
  optE b_0 fun i1 =>
  optE (st[i1]?) fun e => obj_score_Board e fun x2 x3 =>
  optM (mfind x2 (L.int .i64 peer_1)) (fun j4 e => dec_i64 [e] fun x5 =>
    some (x5, st))
  (
    some (0, st))
theorem score_Board_Sum.at0 (b_0 : Option Nat) (peer_1 : Int) (st : List (List L)) {N : Nat} {r : Int × (List (List L))} {g0 : G} {w0 : World} {R : Exit → Act → World → Prop} (hE : Ends Tryd.prog Tryd.f14 g0 w0 (score_Board_Sum.rs r) (r.2) R) (h : score_Board_Sum N b_0 peer_1 st = some r) : At g0 w0 (S.enter 13 [.one (L.ptr b_0), .one (L.int .i64 peer_1)] st) (exK Tryd.prog R [.c score_Board_Sum.B] .normal) := by
  unfold score_Board_Sum at h
  refine iteB h (fun c1 h1 => ?_) (fun c1 h2 => ?_) <;> clear h
  · obtain rfl := some_inv h1
    exact At.f fol hE 400 [.r [], .r [], .c true, .r []] [] 0 [] c1 (by kernel_rfl)
  · obtain ⟨i1, rfl, h3⟩ := optE_inv h2; clear h2
    obtain ⟨h6, c3, h4⟩ := optE_inv h3; clear h3
    obtain ⟨x2, x3, rfl, h5⟩ := obj_score_Board_inv h4; clear h4
    rcases optM_inv h5 with ⟨j4, h10, c4, h7⟩ | ⟨c4, h8⟩ <;> clear h5
    · obtain ⟨x5, h11, h9⟩ := dec_i64_inv h7; clear h7
      obtain rfl := single_inv h11
      obtain rfl := some_inv h9
      exact At.f fol hE 400 [.r [], .r [], .c false, .r [(3, {oc := [L.mp x2, L.own true 1 x3]}), (5, {oc := [L.mp x2, L.own true 1 x3], oe := [L.int .i64 x5]})]] [] 0 [] (And.intro c1 (And.intro c3 (And.intro (ex_find c4) c3))) (by kernel_rfl)
    · obtain rfl := some_inv h8
      exact At.f fol hE 400 [.r [], .r [], .c false, .r [(3, {oc := [L.mp x2, L.own true 1 x3]}), (5, {oc := [L.mp x2, L.own true 1 x3], yes := false})]] [] 0 [] (And.intro c1 (And.intro c3 (And.intro c4 c3))) (by kernel_rfl)
theorem score_Board_Sum.snd {N : Nat} {b_0 : Option Nat} {peer_1 : Int} {st : List (List L)} {r : Int × (List (List L))} (h : score_Board_Sum N b_0 peer_1 st = some r) : Snd Tryd.prog 14 [.one (L.ptr b_0), .one (L.int .i64 peer_1)] st (score_Board_Sum.rs r) (r.2) :=
  Snd.of (fn := Tryd.f14) (c := score_Board_Sum.B) Tryd.func14 (by kernel_rfl) (by kernel_rfl) (of_decide_eq_true (by kernel_rfl)) fun g w R hE => score_Board_Sum.at0 b_0 peer_1 st hE h
/-! trailhead/trailheadlaw20.alive -/
noncomputable def Tlaw20_alive.B : Code := Tryd.f8.body.getD .skip
noncomputable def Tlaw20_alive.rs (r : Bool × (List (List L))) : List CV := [.one (L.bool r.1)]
noncomputable def Tlaw20_alive (N : Nat) (st : List (List L)) : Option (Bool × (List (List L))) :=
  optE (score_New N st) fun (x1, st2) =>
  chk (4 ≤ (List.length [[L.int .i64 4], [L.int .i64 4], [L.int .i64 4], [L.int .i64 4]])) <|
  optE (score_Board_Blame N x1 1 (List.take 4 [[L.int .i64 4], [L.int .i64 4], [L.int .i64 4], [L.int .i64 4]]) st2) fun (x3, st4) =>
  if (!x3) = true then
    optE (score_Board_Sum N x1 1 st4) fun (x5, st6) =>
    if (x5 == 80) = true then
      chk (1 ≤ (List.length [[L.int .i64 4]])) <|
      optE (score_Board_Blame N x1 1 (List.take 1 [[L.int .i64 4]]) st6) fun (x7, st8) =>
      if x7 = true then
        optE (score_Board_Shuns N x1 1 st8) fun (x9, st10) =>
        if x9 = true then
          optE (score_Board_Sum N x1 1 st10) fun (x11, st12) =>
          some (x11 == 0, st12)
        else
        some (false, st10)
      else
      some (false, st8)
    else
    some (false, st6)
  else
  some (false, st4)
theorem Tlaw20_alive.at0 (st : List (List L)) {N : Nat} {r : Bool × (List (List L))} {g0 : G} {w0 : World} {R : Exit → Act → World → Prop} (hE : Ends Tryd.prog Tryd.f8 g0 w0 (Tlaw20_alive.rs r) (r.2) R) (h : Tlaw20_alive N st = some r) : At g0 w0 (S.enter 32 [] st) (exK Tryd.prog R [.c Tlaw20_alive.B] .normal) := by
  unfold Tlaw20_alive at h
  obtain ⟨⟨x1, st2⟩, c1, h1⟩ := optE_inv h; clear h
  obtain ⟨c2, h2⟩ := chk_inv h1; clear h1
  obtain ⟨⟨x3, st4⟩, c3, h3⟩ := optE_inv h2; clear h2
  refine iteB h3 (fun c4 h4 => ?_) (fun c4 h5 => ?_) <;> clear h3
  · obtain ⟨⟨x5, st6⟩, c5, h6⟩ := optE_inv h4; clear h4
    refine iteB h6 (fun c6 h7 => ?_) (fun c6 h8 => ?_) <;> clear h6
    · obtain ⟨c7, h9⟩ := chk_inv h7; clear h7
      obtain ⟨⟨x7, st8⟩, c8, h10⟩ := optE_inv h9; clear h9
      refine iteB h10 (fun c9 h11 => ?_) (fun c9 h12 => ?_) <;> clear h10
      · obtain ⟨⟨x9, st10⟩, c10, h13⟩ := optE_inv h11; clear h11
        refine iteB h13 (fun c11 h14 => ?_) (fun c11 h15 => ?_) <;> clear h13
        · obtain ⟨⟨x11, st12⟩, c12, h16⟩ := optE_inv h14; clear h14
          obtain rfl := some_inv h16
          exact At.f fol hE 400 [.r [], .r [(0, {rs := [.one (L.ptr x1)], st := st2})], .r [], .r [(6, {rs := [.one (L.bool x3)], st := st4, wm := 2, fz := [9]}), (10, {rs := [.one (L.int .i64 x5)], st := st6}), (17, {rs := [.one (L.bool x7)], st := st8, wm := 2, fz := [20]}), (21, {rs := [.one (L.bool x9)], st := st10}), (25, {rs := [.one (L.int .i64 x11)], st := st12})]] [] 0 [] (And.intro (score_New.snd c1) (And.intro (rfl : (0 : Nat) = 0) (And.intro c2 (And.intro (score_Board_Blame.snd c3) (And.intro (not_false (not_inv_t c4)) (And.intro (not_false (not_inv_t c4)) (And.intro (score_Board_Sum.snd c5) (And.intro (not_false (not_inv_t c4)) (And.intro (not_false (not_inv_t c4)) (And.intro c6 (And.intro c6 (And.intro c6 (And.intro c6 (And.intro (rfl : (0 : Nat) = 0) (And.intro c7 (And.intro (score_Board_Blame.snd c8) (And.intro c6 (And.intro c9 (And.intro c9 (And.intro (score_Board_Shuns.snd c10) (And.intro c9 (And.intro c11 (And.intro c11 (And.intro (score_Board_Sum.snd c12) (And.intro c11 c11))))))))))))))))))))))))) (by kernel_rfl)
        · obtain rfl := some_inv h15
          exact At.f fol hE 400 [.r [], .r [(0, {rs := [.one (L.ptr x1)], st := st2})], .r [], .r [(6, {rs := [.one (L.bool x3)], st := st4, wm := 2, fz := [9]}), (10, {rs := [.one (L.int .i64 x5)], st := st6}), (17, {rs := [.one (L.bool x7)], st := st8, wm := 2, fz := [20]}), (21, {rs := [.one (L.bool x9)], st := st10}), (24, {want := false}), (25, {want := false}), (26, {want := false}), (27, {yes := false})]] [] 0 [] (And.intro (score_New.snd c1) (And.intro (rfl : (0 : Nat) = 0) (And.intro c2 (And.intro (score_Board_Blame.snd c3) (And.intro (not_false (not_inv_t c4)) (And.intro (not_false (not_inv_t c4)) (And.intro (score_Board_Sum.snd c5) (And.intro (not_false (not_inv_t c4)) (And.intro (not_false (not_inv_t c4)) (And.intro c6 (And.intro c6 (And.intro c6 (And.intro c6 (And.intro (rfl : (0 : Nat) = 0) (And.intro c7 (And.intro (score_Board_Blame.snd c8) (And.intro c6 (And.intro c9 (And.intro c9 (And.intro (score_Board_Shuns.snd c10) (And.intro c9 (And.intro c11 (And.intro c11 (And.intro c11 c11)))))))))))))))))))))))) (by kernel_rfl)
      · obtain rfl := some_inv h12
        exact At.f fol hE 400 [.r [], .r [(0, {rs := [.one (L.ptr x1)], st := st2})], .r [], .r [(6, {rs := [.one (L.bool x3)], st := st4, wm := 2, fz := [9]}), (10, {rs := [.one (L.int .i64 x5)], st := st6}), (17, {rs := [.one (L.bool x7)], st := st8, wm := 2, fz := [20]}), (20, {want := false}), (21, {want := false}), (22, {yes := false}), (24, {want := false}), (25, {want := false}), (26, {want := false}), (27, {yes := false})]] [] 0 [] (And.intro (score_New.snd c1) (And.intro (rfl : (0 : Nat) = 0) (And.intro c2 (And.intro (score_Board_Blame.snd c3) (And.intro (not_false (not_inv_t c4)) (And.intro (not_false (not_inv_t c4)) (And.intro (score_Board_Sum.snd c5) (And.intro (not_false (not_inv_t c4)) (And.intro (not_false (not_inv_t c4)) (And.intro c6 (And.intro c6 (And.intro c6 (And.intro c6 (And.intro (rfl : (0 : Nat) = 0) (And.intro c7 (And.intro (score_Board_Blame.snd c8) (And.intro c6 (And.intro c9 (And.intro c9 (And.intro c9 (And.intro (rfl : false = false) (And.intro (rfl : false = false) (And.intro (rfl : false = false) (rfl : false = false)))))))))))))))))))))))) (by kernel_rfl)
    · obtain rfl := some_inv h8
      exact At.f fol hE 400 [.r [], .r [(0, {rs := [.one (L.ptr x1)], st := st2})], .r [], .r [(6, {rs := [.one (L.bool x3)], st := st4, wm := 2, fz := [9]}), (10, {rs := [.one (L.int .i64 x5)], st := st6}), (14, {want := false}), (15, {want := false}), (16, {want := false}), (17, {want := false, fz := [20]}), (18, {yes := false}), (20, {want := false}), (21, {want := false}), (22, {yes := false}), (24, {want := false}), (25, {want := false}), (26, {want := false}), (27, {yes := false})]] [] 0 [] (And.intro (score_New.snd c1) (And.intro (rfl : (0 : Nat) = 0) (And.intro c2 (And.intro (score_Board_Blame.snd c3) (And.intro (not_false (not_inv_t c4)) (And.intro (not_false (not_inv_t c4)) (And.intro (score_Board_Sum.snd c5) (And.intro (not_false (not_inv_t c4)) (And.intro (not_false (not_inv_t c4)) (And.intro c6 (And.intro c6 (And.intro c6 (And.intro c6 (And.intro c6 (And.intro (rfl : false = false) (And.intro (rfl : false = false) (And.intro (rfl : false = false) (And.intro (rfl : false = false) (And.intro (rfl : false = false) (And.intro (rfl : false = false) (rfl : false = false))))))))))))))))))))) (by kernel_rfl)
  · obtain rfl := some_inv h5
    exact At.f fol hE 400 [.r [], .r [(0, {rs := [.one (L.ptr x1)], st := st2})], .r [], .r [(6, {rs := [.one (L.bool x3)], st := st4, wm := 2, fz := [9]}), (9, {want := false}), (10, {want := false}), (11, {want := false}), (12, {yes := false}), (14, {want := false}), (15, {want := false}), (16, {want := false}), (17, {want := false, fz := [20]}), (18, {yes := false}), (20, {want := false}), (21, {want := false}), (22, {yes := false}), (24, {want := false}), (25, {want := false}), (26, {want := false}), (27, {yes := false})]] [] 0 [] (And.intro (score_New.snd c1) (And.intro (rfl : (0 : Nat) = 0) (And.intro c2 (And.intro (score_Board_Blame.snd c3) (And.intro (not_true (not_inv_f c4)) (And.intro (not_true (not_inv_f c4)) (And.intro (not_true (not_inv_f c4)) (And.intro (not_true (not_inv_f c4)) (And.intro (rfl : false = false) (And.intro (rfl : false = false) (And.intro (rfl : false = false) (And.intro (rfl : false = false) (And.intro (rfl : false = false) (And.intro (rfl : false = false) (And.intro (rfl : false = false) (And.intro (rfl : false = false) (And.intro (rfl : false = false) (And.intro (rfl : false = false) (And.intro (rfl : false = false) (rfl : false = false)))))))))))))))))))) (by kernel_rfl)
theorem Tlaw20_alive.snd {N : Nat}  {st : List (List L)} {r : Bool × (List (List L))} (h : Tlaw20_alive N st = some r) : Snd Tryd.prog 8 [] st (Tlaw20_alive.rs r) (r.2) :=
  Snd.of (fn := Tryd.f8) (c := Tlaw20_alive.B) Tryd.func8 (by kernel_rfl) (by kernel_rfl) (of_decide_eq_true (by kernel_rfl)) fun g w R hE => Tlaw20_alive.at0 st hE h
/-! trailhead/trailheadlaw20.great -/
noncomputable def Tlaw20_great.B : Code := Tryd.f9.body.getD .skip
noncomputable def Tlaw20_great.rs (r : Bool) : List CV := [.one (L.bool r)]
noncomputable def Tlaw20_great.p1 (N : Nat)  (script_0 : List (List L)) (c1_ : Int → Option Bool) : Int → Option Bool := fun v1 =>
  if (decide (v1 < ((List.length script_0 : Nat) : Int))) = true then
    chk (0 ≤ v1) <|
    optE (script_0[Int.toNat v1]?) fun e => dec_trailheadlaw20_Call e fun x2 x3 x4 =>
    if (decide (((List.length x4 : Nat) : Int) > 20)) = true then
      some true
    else
    c1_ (IntKind.wrap IntKind.i64 (v1 + 1))
  else
  some (decide (((List.length script_0 : Nat) : Int) > 100))
noncomputable def Tlaw20_great (N : Nat) (script_0 : List (List L)) : Option Bool :=
  loopN (Tlaw20_great.p1 N  script_0) N 0
noncomputable def Tlaw20_great.p1.S (script_0 : List (List L)) (v1 : Int) (st : List (List L)) : S := mkS 19 [(0, .one (.l (L.sl 3 script_0))), (5, .one (.l (L.sl 3 script_0))), (6, .one (.l (L.int .i64 ((List.length script_0 : Nat) : Int)))), (7, .one (.l (L.int .i64 v1)))] [] st
theorem Tlaw20_great.p1_ok (script_0 : List (List L)) (v1 : Int) (st : List (List L)) {N : Nat} {r : Bool} {g0 : G} {w0 : World} {R : Exit → Act → World → Prop}  {c1_ : Int → Option Bool}  {J1 : Act → World → Prop} (hE : Ends Tryd.prog Tryd.f9 g0 w0 (Tlaw20_great.rs r) st R)  (hc1 : ∀ (v1 : Int), c1_ v1 = some r → At g0 w0 (Tlaw20_great.p1.S script_0 v1 st) J1) (h : Tlaw20_great.p1 N  script_0 c1_ v1 = some r) : At g0 w0 (Tlaw20_great.p1.S script_0 v1 st) (exK Tryd.prog R (.c (csub Tlaw20_great.B [1, 0, 1, 0, 0]) :: .h J1 :: [.b 0, .c (csub Tlaw20_great.B [1, 1])]) .normal) := by
  unfold Tlaw20_great.p1 at h
  refine iteB h (fun c1 h1 => ?_) (fun c1 h2 => ?_) <;> clear h
  · obtain ⟨c2, h3⟩ := chk_inv h1; clear h1
    obtain ⟨h6, c3, h4⟩ := optE_inv h3; clear h3
    obtain ⟨x2, x3, x4, rfl, h5⟩ := dec_trailheadlaw20_Call_inv h4; clear h4
    refine iteB h5 (fun c4 h7 => ?_) (fun c4 h8 => ?_) <;> clear h5
    · obtain rfl := some_inv h7
      exact At.f fol hE 400 [.r [], .c true, .r [(1, {oe := [L.int .i64 x2, L.int .i64 x3, L.sl 1 x4]})], .r [], .c true, .r []] [] 0 [] (And.intro c1 (And.intro c2 (And.intro (of_decide_eq_true c1) (And.intro c3 c4)))) (by kernel_rfl)
    · exact At.n fol 400 [.r [], .c true, .r [(1, {oe := [L.int .i64 x2, L.int .i64 x3, L.sl 1 x4]})], .r [], .c false, .r []] [0, 5, 6, 7] [] (And.intro c1 (And.intro c2 (And.intro (of_decide_eq_true c1) (And.intro c3 c4)))) (hc1 (IntKind.wrap IntKind.i64 (v1 + 1)) h8) (by kernel_rfl)
  · obtain rfl := some_inv h2
    exact At.f fol hE 400 [.r [], .c false, .r []] [] 0 [] c1 (by kernel_rfl)
theorem Tlaw20_great.p1_loop (script_0 : List (List L)) (v1 : Int) (st : List (List L)) {N : Nat} {r : Bool} {g0 : G} {w0 : World} {R : Exit → Act → World → Prop}   (hE : Ends Tryd.prog Tryd.f9 g0 w0 (Tlaw20_great.rs r) st R)  (h : loopN (Tlaw20_great.p1 N  script_0) N v1 = some r) : At g0 w0 (Tlaw20_great.p1.S script_0 v1 st) (exK Tryd.prog R (.c (.loop (csub Tlaw20_great.B [1, 0, 1, 0, 0])) :: [.b 0, .c (csub Tlaw20_great.B [1, 1])]) .normal) :=
  At.loop N (At.loopN (fun y : Int => Tlaw20_great.p1.S script_0 y st) (fun c J hc y h => Tlaw20_great.p1_ok script_0 y st hE  (fun v1 hh => hc v1 hh) h) N v1 h)
theorem Tlaw20_great.at0 (script_0 : List (List L)) (st : List (List L)) {N : Nat} {r : Bool} {g0 : G} {w0 : World} {R : Exit → Act → World → Prop} (hE : Ends Tryd.prog Tryd.f9 g0 w0 (Tlaw20_great.rs r) st R) (h : Tlaw20_great N script_0 = some r) : At g0 w0 (S.enter 19 [.one (L.sl 3 script_0)] st) (exK Tryd.prog R [.c Tlaw20_great.B] .normal) := by
  unfold Tlaw20_great at h
  exact At.q fol 400 [.r [], .r []] [0, 5, 6, 7] [] trivial (Tlaw20_great.p1_loop script_0 0 st hE  h) (by kernel_rfl)
theorem Tlaw20_great.snd {N : Nat} {script_0 : List (List L)} {r : Bool} (h : Tlaw20_great N script_0 = some r) : SndQ Tryd.prog 9 [.one (L.sl 3 script_0)] (Tlaw20_great.rs r) := fun st =>
  Snd.of (fn := Tryd.f9) (c := Tlaw20_great.B) Tryd.func9 (by kernel_rfl) (by kernel_rfl) (of_decide_eq_true (by kernel_rfl)) fun g w R hE => Tlaw20_great.at0 script_0 st hE h
/-! (*trailhead/score.Board).Forget -/
noncomputable def score_Board_Forget.B : Code := Tryd.f11.body.getD .skip
noncomputable def score_Board_Forget.rs (r : (List (List L))) : List CV := []
noncomputable def score_Board_Forget (N : Nat) (b_0 : Option Nat) (peer_1 : Int) (st : List (List L)) : Option (List (List L)) :=
  if (!(Option.isNone b_0)) = true then
    optE b_0 fun i1 =>
    optE (st[i1]?) fun e => obj_score_Board e fun x2 x3 =>
    optM (mfind x2 (L.int .i64 peer_1)) (fun j4 e => dec_i64 [e] fun x5 =>
      some (List.set st i1 [L.mp (List.eraseIdx x2 j4), L.own true 1 x3]))
    (
      some (List.set st i1 [L.mp x2, L.own true 1 x3]))
  else
  some st
theorem score_Board_Forget.at0 (b_0 : Option Nat) (peer_1 : Int) (st : List (List L)) {N : Nat} {r : (List (List L))} {g0 : G} {w0 : World} {R : Exit → Act → World → Prop} (hE : Ends Tryd.prog Tryd.f11 g0 w0 (score_Board_Forget.rs r) (r) R) (h : score_Board_Forget N b_0 peer_1 st = some r) : At g0 w0 (S.enter 11 [.one (L.ptr b_0), .one (L.int .i64 peer_1)] st) (exK Tryd.prog R [.c score_Board_Forget.B] .normal) := by
  unfold score_Board_Forget at h
  refine iteB h (fun c1 h1 => ?_) (fun c1 h2 => ?_) <;> clear h
  · obtain ⟨i1, rfl, h3⟩ := optE_inv h1; clear h1
    obtain ⟨h6, c3, h4⟩ := optE_inv h3; clear h3
    obtain ⟨x2, x3, rfl, h5⟩ := obj_score_Board_inv h4; clear h4
    rcases optM_inv h5 with ⟨j4, h10, c4, h7⟩ | ⟨c4, h8⟩ <;> clear h5
    · obtain ⟨x5, h11, h9⟩ := dec_i64_inv h7; clear h7
      obtain rfl := single_inv h11
      obtain rfl := some_inv h9
      exact At.f fol hE 400 [.r [], .c true, .r [(3, {oc := [L.mp x2, L.own true 1 x3]}), (5, {oc := [L.mp x2, L.own true 1 x3], m := j4})]] [] 0 [] (And.intro c1 (And.intro c3 (And.intro (ex_at c4) c3))) (by kernel_rfl)
    · obtain rfl := some_inv h8
      exact At.f fol hE 400 [.r [], .c true, .r [(3, {oc := [L.mp x2, L.own true 1 x3]}), (5, {oc := [L.mp x2, L.own true 1 x3], yes := false})]] [] 0 [] (And.intro c1 (And.intro c3 (And.intro c4 c3))) (by kernel_rfl)
  · obtain rfl := some_inv h2
    exact At.f fol hE 400 [.r [], .c false] [] 0 [] c1 (by kernel_rfl)
theorem score_Board_Forget.snd {N : Nat} {b_0 : Option Nat} {peer_1 : Int} {st : List (List L)} {r : (List (List L))} (h : score_Board_Forget N b_0 peer_1 st = some r) : Snd Tryd.prog 11 [.one (L.ptr b_0), .one (L.int .i64 peer_1)] st (score_Board_Forget.rs r) (r) :=
  Snd.of (fn := Tryd.f11) (c := score_Board_Forget.B) Tryd.func11 (by kernel_rfl) (by kernel_rfl) (of_decide_eq_true (by kernel_rfl)) fun g w R hE => score_Board_Forget.at0 b_0 peer_1 st hE h
/-! trailhead/trailheadlaw20.faults -/
noncomputable def Tlaw20_faults.B : Code := Tryd.f13.body.getD .skip
noncomputable def Tlaw20_faults.rs (r : (List (List L))) : List CV := [.row true 1 r]
noncomputable def Tlaw20_faults.p1 (N : Nat)  (l_0 : List (List L)) (c1_ : ((List (List L)) × Int) → Option (List (List L))) : ((List (List L)) × Int) → Option (List (List L)) := fun (out_3, v1) =>
  if (decide (v1 < ((List.length l_0 : Nat) : Int))) = true then
    chk (0 ≤ v1) <|
    optE (l_0[Int.toNat v1]?) fun e => dec_i64 e fun x4 =>
    chk (1 ≤ (List.length [[L.int .i64 x4]])) <|
    chk (List.length (out_3 ++ (List.take 1 [[L.int .i64 x4]])) * 8 ≤ 140737488355328) <|
    c1_ (out_3 ++ (List.take 1 [[L.int .i64 x4]]), IntKind.wrap IntKind.i64 (v1 + 1))
  else
  some out_3
noncomputable def Tlaw20_faults (N : Nat) (l_0 : List (List L)) : Option (List (List L)) :=
  loopN (Tlaw20_faults.p1 N  l_0) N ([], 0)
noncomputable def Tlaw20_faults.p1.S (out_3 : List (List L)) (l_0 : List (List L)) (v1 : Int) (st : List (List L)) : S := mkS 18 [(3, .one (.h (.row 3 0) 1 0 (List.length out_3))), (6, .one (.l (L.sl 1 l_0))), (7, .one (.l (L.int .i64 ((List.length l_0 : Nat) : Int)))), (8, .one (.l (L.int .i64 v1)))] [(3, .row 0 true 1 out_3)] st
theorem Tlaw20_faults.p1_ok (out_3 : List (List L)) (l_0 : List (List L)) (v1 : Int) (st : List (List L)) {N : Nat} {r : (List (List L))} {g0 : G} {w0 : World} {R : Exit → Act → World → Prop}  {c1_ : ((List (List L)) × Int) → Option (List (List L))}  {J1 : Act → World → Prop} (hE : Ends Tryd.prog Tryd.f13 g0 w0 (Tlaw20_faults.rs r) st R)  (hc1 : ∀ (out_3 : List (List L)) (v1 : Int), c1_ (out_3, v1) = some r → At g0 w0 (Tlaw20_faults.p1.S out_3 l_0 v1 st) J1) (h : Tlaw20_faults.p1 N  l_0 c1_ (out_3, v1) = some r) : At g0 w0 (Tlaw20_faults.p1.S out_3 l_0 v1 st) (exK Tryd.prog R (.c (csub Tlaw20_faults.B [1, 1, 0, 1, 0, 0]) :: .h J1 :: [.b 0, .c (csub Tlaw20_faults.B [1, 1, 1])]) .normal) := by
  unfold Tlaw20_faults.p1 at h
  refine iteB h (fun c6 h1 => ?_) (fun c6 h2 => ?_) <;> clear h
  · obtain ⟨c7, h3⟩ := chk_inv h1; clear h1
    obtain ⟨h6, c8, h4⟩ := optE_inv h3; clear h3
    obtain ⟨x4, rfl, h5⟩ := dec_i64_inv h4; clear h4
    obtain ⟨c9, h7⟩ := chk_inv h5; clear h5
    obtain ⟨c10, h8⟩ := chk_inv h7; clear h7
    exact At.n fol 400 [.r [], .c true, .r [(1, {oe := [L.int .i64 x4]})], .r [(3, {wm := 2})], .r []] [3, 6, 7, 8] [3] (And.intro c6 (And.intro c7 (And.intro (of_decide_eq_true c6) (And.intro c8 (And.intro (rfl : (0 : Nat) = 0) (And.intro (@rfl Nat (List.length out_3)) (And.intro (rfl : (0 : Nat) = 0) (And.intro c9 c10)))))))) (hc1 (out_3 ++ (List.take 1 [[L.int .i64 x4]])) (IntKind.wrap IntKind.i64 (v1 + 1)) h8) (by kernel_rfl)
  · obtain rfl := some_inv h2
    exact At.f fol hE 400 [.r [], .c false, .r []] [] 0 [0] (And.intro c6 (And.intro (rfl : (0 : Nat) = 0) (@rfl Nat (List.length out_3)))) (by kernel_rfl)
theorem Tlaw20_faults.p1_loop (out_3 : List (List L)) (l_0 : List (List L)) (v1 : Int) (st : List (List L)) {N : Nat} {r : (List (List L))} {g0 : G} {w0 : World} {R : Exit → Act → World → Prop}   (hE : Ends Tryd.prog Tryd.f13 g0 w0 (Tlaw20_faults.rs r) st R)  (h : loopN (Tlaw20_faults.p1 N  l_0) N (out_3, v1) = some r) : At g0 w0 (Tlaw20_faults.p1.S out_3 l_0 v1 st) (exK Tryd.prog R (.c (.loop (csub Tlaw20_faults.B [1, 1, 0, 1, 0, 0])) :: [.b 0, .c (csub Tlaw20_faults.B [1, 1, 1])]) .normal) :=
  At.loop N (At.loopN (fun y : (List (List L)) × Int => Tlaw20_faults.p1.S y.1 l_0 y.2 st) (fun c J hc y h => Tlaw20_faults.p1_ok y.1 l_0 y.2 st hE  (fun out_3 v1 hh => hc (out_3, v1) hh) h) N (out_3, v1) h)
theorem Tlaw20_faults.at0 (l_0 : List (List L)) (st : List (List L)) {N : Nat} {r : (List (List L))} {g0 : G} {w0 : World} {R : Exit → Act → World → Prop} (hE : Ends Tryd.prog Tryd.f13 g0 w0 (Tlaw20_faults.rs r) st R) (h : Tlaw20_faults N l_0 = some r) : At g0 w0 (S.enter 18 [.one (L.sl 1 l_0)] st) (exK Tryd.prog R [.c Tlaw20_faults.B] .normal) := by
  unfold Tlaw20_faults at h
  exact At.q fol 400 [.r [(0, {m := 2})], .r [(0, {m := 1})], .r []] [3, 6, 7, 8] [3] trivial (Tlaw20_faults.p1_loop [] l_0 0 st hE  h) (by kernel_rfl)
theorem Tlaw20_faults.snd {N : Nat} {l_0 : List (List L)} {r : (List (List L))} (h : Tlaw20_faults N l_0 = some r) : SndQ Tryd.prog 13 [.one (L.sl 1 l_0)] (Tlaw20_faults.rs r) := fun st =>
  Snd.of (fn := Tryd.f13) (c := Tlaw20_faults.B) Tryd.func13 (by kernel_rfl) (by kernel_rfl) (of_decide_eq_true (by kernel_rfl)) fun g w R hE => Tlaw20_faults.at0 l_0 st hE h
/-! trailhead/trailheadlaw20.ScoreApart -/
noncomputable def Tlaw20_ScoreApart.B : Code := Tryd.f3.body.getD .skip
noncomputable def Tlaw20_ScoreApart.rs (r : Bool × (List (List L))) : List CV := [.one (L.bool r.1)]
noncomputable def Tlaw20_ScoreApart.p3 (N : Nat) (c1_ : (Bool × Bool × Int × (List (List L))) → Option (Bool × (List (List L)))) (peer_1 : Int) (x4 : Option Nat) (x6 : Option Nat) (blamed_70 : Bool) (others_71 : Bool) (script_0 : List (List L)) (v10 : Int) (st69 : List (List L)) : Option (Bool × (List (List L))) :=
  c1_ (blamed_70, others_71, IntKind.wrap IntKind.i64 (v10 + 1), st69)
noncomputable def Tlaw20_ScoreApart.p2 (N : Nat) (c1_ : (Bool × Bool × Int × (List (List L))) → Option (Bool × (List (List L)))) (peer_1 : Int) (x4 : Option Nat) (x6 : Option Nat) (blamed_52 : Bool) (others_53 : Bool) (script_0 : List (List L)) (v10 : Int) (st54 : List (List L)) : Option (Bool × (List (List L))) :=
  optE (score_Board_Sum N x4 peer_1 st54) fun (x55, st56) =>
  optE (score_Board_Sum N x6 peer_1 st56) fun (x57, st58) =>
  if (x55 != x57) = true then
    some (false, st58)
  else
  if (!blamed_52) = true then
    optE (score_Board_Shuns N x4 peer_1 st58) fun (x59, st60) =>
    if x59 = true then
      some (false, st60)
    else
    if (!others_53) = true then
      optE (score_Board_Shuns N x4 peer_1 st60) fun (x61, st62) =>
      optE (score_Board_Shuns N x6 peer_1 st62) fun (x63, st64) =>
      if (!(x61 == x63)) = true then
        some (false, st64)
      else
      Tlaw20_ScoreApart.p3 N c1_ peer_1 x4 x6 blamed_52 others_53 script_0 v10 st64
    else
    Tlaw20_ScoreApart.p3 N c1_ peer_1 x4 x6 blamed_52 others_53 script_0 v10 st60
  else
  if (!others_53) = true then
    optE (score_Board_Shuns N x4 peer_1 st58) fun (x65, st66) =>
    optE (score_Board_Shuns N x6 peer_1 st66) fun (x67, st68) =>
    if (!(x65 == x67)) = true then
      some (false, st68)
    else
    Tlaw20_ScoreApart.p3 N c1_ peer_1 x4 x6 blamed_52 others_53 script_0 v10 st68
  else
  Tlaw20_ScoreApart.p3 N c1_ peer_1 x4 x6 blamed_52 others_53 script_0 v10 st58
noncomputable def Tlaw20_ScoreApart.p1 (N : Nat)  (peer_1 : Int) (x4 : Option Nat) (x6 : Option Nat) (script_0 : List (List L)) (c1_ : (Bool × Bool × Int × (List (List L))) → Option (Bool × (List (List L)))) : (Bool × Bool × Int × (List (List L))) → Option (Bool × (List (List L))) := fun (blamed_8, others_9, v10, st41) =>
  if (decide (v10 < ((List.length script_0 : Nat) : Int))) = true then
    chk (0 ≤ v10) <|
    optE (script_0[Int.toNat v10]?) fun e => dec_trailheadlaw20_Call e fun x42 x43 x44 =>
    if (x42 == 1) = true then
      optE (score_Board_Forget N x4 x43 st41) fun st45 =>
      if (x43 == peer_1) = true then
        optE (score_Board_Forget N x6 peer_1 st45) fun st46 =>
        Tlaw20_ScoreApart.p3 N c1_ peer_1 x4 x6 blamed_8 others_9 script_0 v10 st46
      else
      Tlaw20_ScoreApart.p3 N c1_ peer_1 x4 x6 blamed_8 others_9 script_0 v10 st45
    else
    if (x42 != 0) = true then
      Tlaw20_ScoreApart.p3 N c1_ peer_1 x4 x6 blamed_8 others_9 script_0 v10 st41
    else
    optE (Tlaw20_faults N x44) fun x47 =>
    optE (score_Board_Blame N x4 x43 x47 st41) fun (x48, st49) =>
    if (x43 == peer_1) = true then
      optE (score_Board_Blame N x6 peer_1 x47 st49) fun (x50, st51) =>
      Tlaw20_ScoreApart.p2 N c1_ peer_1 x4 x6 true others_9 script_0 v10 st51
    else
    Tlaw20_ScoreApart.p2 N c1_ peer_1 x4 x6 blamed_8 true script_0 v10 st49
  else
  some (true, st41)
noncomputable def Tlaw20_ScoreApart (N : Nat) (script_0 : List (List L)) (peer_1 : Int) (st : List (List L)) : Option (Bool × (List (List L))) :=
  optE (Tlaw20_alive N st) fun (x1, st2) =>
  if (!x1) = true then
    some (false, st2)
  else
  optE (Tlaw20_great N script_0) fun x3 =>
  if x3 = true then
    some (true, st2)
  else
  optE (score_New N st2) fun (x4, st5) =>
  optE (score_New N st5) fun (x6, st7) =>
  loopN (Tlaw20_ScoreApart.p1 N  peer_1 x4 x6 script_0) N (false, false, 0, st7)
noncomputable def Tlaw20_ScoreApart.p3.S (peer_1 : Int) (x4 : Option Nat) (x6 : Option Nat) (blamed_70 : Bool) (others_71 : Bool) (script_0 : List (List L)) (v10 : Int) (st69 : List (List L)) : S := mkS 87 [(1, .one (.l (L.int .i64 peer_1))), (5, .one (.l (L.ptr x4))), (6, .one (.l (L.ptr x6))), (7, .one (.l (L.bool blamed_70))), (8, .one (.l (L.bool others_71))), (17, .one (.l (L.sl 3 script_0))), (18, .one (.l (L.int .i64 ((List.length script_0 : Nat) : Int)))), (19, .one (.l (L.int .i64 v10)))] [] st69
noncomputable def Tlaw20_ScoreApart.p2.S (peer_1 : Int) (x4 : Option Nat) (x6 : Option Nat) (blamed_52 : Bool) (others_53 : Bool) (script_0 : List (List L)) (v10 : Int) (st54 : List (List L)) : S := mkS 87 [(1, .one (.l (L.int .i64 peer_1))), (5, .one (.l (L.ptr x4))), (6, .one (.l (L.ptr x6))), (7, .one (.l (L.bool blamed_52))), (8, .one (.l (L.bool others_53))), (17, .one (.l (L.sl 3 script_0))), (18, .one (.l (L.int .i64 ((List.length script_0 : Nat) : Int)))), (19, .one (.l (L.int .i64 v10)))] [] st54
noncomputable def Tlaw20_ScoreApart.p1.S (peer_1 : Int) (x4 : Option Nat) (x6 : Option Nat) (blamed_8 : Bool) (others_9 : Bool) (script_0 : List (List L)) (v10 : Int) (st41 : List (List L)) : S := mkS 87 [(1, .one (.l (L.int .i64 peer_1))), (5, .one (.l (L.ptr x4))), (6, .one (.l (L.ptr x6))), (7, .one (.l (L.bool blamed_8))), (8, .one (.l (L.bool others_9))), (17, .one (.l (L.sl 3 script_0))), (18, .one (.l (L.int .i64 ((List.length script_0 : Nat) : Int)))), (19, .one (.l (L.int .i64 v10)))] [] st41
theorem Tlaw20_ScoreApart.p3_ok (peer_1 : Int) (x4 : Option Nat) (x6 : Option Nat) (blamed_70 : Bool) (others_71 : Bool) (script_0 : List (List L)) (v10 : Int) (st69 : List (List L)) {N : Nat} {r : Bool × (List (List L))} {g0 : G} {w0 : World} {R : Exit → Act → World → Prop} {c1_ : (Bool × Bool × Int × (List (List L))) → Option (Bool × (List (List L)))} {J1 : Act → World → Prop} (hE : Ends Tryd.prog Tryd.f3 g0 w0 (Tlaw20_ScoreApart.rs r) (r.2) R) (hc1 : ∀ (blamed_8 : Bool) (others_9 : Bool) (v10 : Int) (st41 : List (List L)), c1_ (blamed_8, others_9, v10, st41) = some r → At g0 w0 (Tlaw20_ScoreApart.p1.S peer_1 x4 x6 blamed_8 others_9 script_0 v10 st41) J1) (h : Tlaw20_ScoreApart.p3 N c1_ peer_1 x4 x6 blamed_70 others_71 script_0 v10 st69 = some r) : At g0 w0 (Tlaw20_ScoreApart.p3.S peer_1 x4 x6 blamed_70 others_71 script_0 v10 st69) (exK Tryd.prog R [.c (csub Tlaw20_ScoreApart.B [1, 1, 1, 1, 1, 0, 1, 0, 0, 1, 1, 1]), .h J1, .b 0, .c (csub Tlaw20_ScoreApart.B [1, 1, 1, 1, 1, 1])] .normal) := by
  unfold Tlaw20_ScoreApart.p3 at h
  exact At.n fol 400 [.r []] [1, 5, 6, 7, 8, 17, 18, 19] [] trivial (hc1 blamed_70 others_71 (IntKind.wrap IntKind.i64 (v10 + 1)) st69 h) (by kernel_rfl)
theorem Tlaw20_ScoreApart.p2_ok (peer_1 : Int) (x4 : Option Nat) (x6 : Option Nat) (blamed_52 : Bool) (others_53 : Bool) (script_0 : List (List L)) (v10 : Int) (st54 : List (List L)) {N : Nat} {r : Bool × (List (List L))} {g0 : G} {w0 : World} {R : Exit → Act → World → Prop} {c1_ : (Bool × Bool × Int × (List (List L))) → Option (Bool × (List (List L)))} {J1 : Act → World → Prop} (hE : Ends Tryd.prog Tryd.f3 g0 w0 (Tlaw20_ScoreApart.rs r) (r.2) R) (hc1 : ∀ (blamed_8 : Bool) (others_9 : Bool) (v10 : Int) (st41 : List (List L)), c1_ (blamed_8, others_9, v10, st41) = some r → At g0 w0 (Tlaw20_ScoreApart.p1.S peer_1 x4 x6 blamed_8 others_9 script_0 v10 st41) J1) (h : Tlaw20_ScoreApart.p2 N c1_ peer_1 x4 x6 blamed_52 others_53 script_0 v10 st54 = some r) : At g0 w0 (Tlaw20_ScoreApart.p2.S peer_1 x4 x6 blamed_52 others_53 script_0 v10 st54) (exK Tryd.prog R [.c (csub Tlaw20_ScoreApart.B [1, 1, 1, 1, 1, 0, 1, 0, 0, 1, 1, 0, 0, 1, 1, 1, 1, 1]), .b 1, .c (csub Tlaw20_ScoreApart.B [1, 1, 1, 1, 1, 0, 1, 0, 0, 1, 1, 1]), .h J1, .b 0, .c (csub Tlaw20_ScoreApart.B [1, 1, 1, 1, 1, 1])] .normal) := by
  unfold Tlaw20_ScoreApart.p2 at h
  obtain ⟨⟨x55, st56⟩, c45, h1⟩ := optE_inv h; clear h
  obtain ⟨⟨x57, st58⟩, c46, h2⟩ := optE_inv h1; clear h1
  refine iteB h2 (fun c47 h3 => ?_) (fun c47 h4 => ?_) <;> clear h2
  · obtain rfl := some_inv h3
    exact At.f fol hE 400 [.r [(2, {rs := [.one (L.int .i64 x55)], st := st56}), (5, {rs := [.one (L.int .i64 x57)], st := st58}), (8, {want := false}), (9, {want := false}), (10, {want := false}), (14, {want := false}), (17, {want := false}), (18, {want := false}), (19, {want := false}), (27, {want := false})], .c true, .r []] [] 0 [] (And.intro (score_Board_Sum.snd c45) (And.intro (score_Board_Sum.snd c46) (And.intro c47 (And.intro c47 (And.intro c47 (And.intro c47 (And.intro c47 (And.intro (rfl : true = true) (And.intro (rfl : true = true) (And.intro (rfl : true = true) (And.intro (rfl : true = true) (And.intro (rfl : true = true) (rfl : true = true))))))))))))) (by kernel_rfl)
  · refine iteB h4 (fun c48 h5 => ?_) (fun c48 h6 => ?_) <;> clear h4
    · obtain ⟨⟨x59, st60⟩, c49, h7⟩ := optE_inv h5; clear h5
      refine iteB h7 (fun c50 h8 => ?_) (fun c50 h9 => ?_) <;> clear h7
      · obtain rfl := some_inv h8
        exact At.f fol hE 400 [.r [(2, {rs := [.one (L.int .i64 x55)], st := st56}), (5, {rs := [.one (L.int .i64 x57)], st := st58}), (13, {rs := [.one (L.bool x59)], st := st60}), (15, {yes := false}), (17, {want := false}), (18, {want := false}), (19, {want := false}), (27, {want := false})], .c true, .r []] [] 0 [] (And.intro (score_Board_Sum.snd c45) (And.intro (score_Board_Sum.snd c46) (And.intro c47 (And.intro c47 (And.intro c47 (And.intro (not_false (not_inv_t c48)) (And.intro (not_false (not_inv_t c48)) (And.intro (not_false (not_inv_t c48)) (And.intro (score_Board_Shuns.snd c49) (And.intro c47 (And.intro (not_false (not_inv_t c48)) (And.intro c47 (And.intro c50 (And.intro c50 (And.intro c50 (And.intro c50 (And.intro c50 (rfl : true = true)))))))))))))))))) (by kernel_rfl)
      · refine iteB h9 (fun c51 h10 => ?_) (fun c51 h11 => ?_) <;> clear h9
        · obtain ⟨⟨x61, st62⟩, c52, h12⟩ := optE_inv h10; clear h10
          obtain ⟨⟨x63, st64⟩, c53, h13⟩ := optE_inv h12; clear h12
          refine iteB h13 (fun c54 h14 => ?_) (fun c54 h15 => ?_) <;> clear h13
          · obtain rfl := some_inv h14
            exact At.f fol hE 400 [.r [(2, {rs := [.one (L.int .i64 x55)], st := st56}), (5, {rs := [.one (L.int .i64 x57)], st := st58}), (13, {rs := [.one (L.bool x59)], st := st60}), (15, {yes := false}), (22, {rs := [.one (L.bool x61)], st := st62}), (25, {rs := [.one (L.bool x63)], st := st64}), (28, {yes := false})], .c true, .r []] [] 0 [] (And.intro (score_Board_Sum.snd c45) (And.intro (score_Board_Sum.snd c46) (And.intro c47 (And.intro c47 (And.intro c47 (And.intro (not_false (not_inv_t c48)) (And.intro (not_false (not_inv_t c48)) (And.intro (not_false (not_inv_t c48)) (And.intro (score_Board_Shuns.snd c49) (And.intro c47 (And.intro (not_false (not_inv_t c48)) (And.intro c47 (And.intro c50 (And.intro c50 (And.intro c50 (And.intro (not_false (not_inv_t c51)) (And.intro (not_false (not_inv_t c51)) (And.intro (not_false (not_inv_t c51)) (And.intro (score_Board_Shuns.snd c52) (And.intro (not_false (not_inv_t c51)) (And.intro (not_false (not_inv_t c51)) (And.intro (not_false (not_inv_t c51)) (And.intro (score_Board_Shuns.snd c53) (And.intro (not_false (not_inv_t c51)) (And.intro c50 (And.intro (not_false (not_inv_t c51)) (And.intro c50 c54))))))))))))))))))))))))))) (by kernel_rfl)
          · exact At.q fol 400 [.r [(2, {rs := [.one (L.int .i64 x55)], st := st56}), (5, {rs := [.one (L.int .i64 x57)], st := st58}), (13, {rs := [.one (L.bool x59)], st := st60}), (15, {yes := false}), (22, {rs := [.one (L.bool x61)], st := st62}), (25, {rs := [.one (L.bool x63)], st := st64}), (28, {yes := false})], .c false, .s 4] [1, 5, 6, 7, 8, 17, 18, 19] [] (And.intro (score_Board_Sum.snd c45) (And.intro (score_Board_Sum.snd c46) (And.intro c47 (And.intro c47 (And.intro c47 (And.intro (not_false (not_inv_t c48)) (And.intro (not_false (not_inv_t c48)) (And.intro (not_false (not_inv_t c48)) (And.intro (score_Board_Shuns.snd c49) (And.intro c47 (And.intro (not_false (not_inv_t c48)) (And.intro c47 (And.intro c50 (And.intro c50 (And.intro c50 (And.intro (not_false (not_inv_t c51)) (And.intro (not_false (not_inv_t c51)) (And.intro (not_false (not_inv_t c51)) (And.intro (score_Board_Shuns.snd c52) (And.intro (not_false (not_inv_t c51)) (And.intro (not_false (not_inv_t c51)) (And.intro (not_false (not_inv_t c51)) (And.intro (score_Board_Shuns.snd c53) (And.intro (not_false (not_inv_t c51)) (And.intro c50 (And.intro (not_false (not_inv_t c51)) (And.intro c50 c54))))))))))))))))))))))))))) (Tlaw20_ScoreApart.p3_ok peer_1 x4 x6 blamed_52 others_53 script_0 v10 st64 hE hc1 h15) (by kernel_rfl)
        · exact At.q fol 400 [.r [(2, {rs := [.one (L.int .i64 x55)], st := st56}), (5, {rs := [.one (L.int .i64 x57)], st := st58}), (13, {rs := [.one (L.bool x59)], st := st60}), (15, {yes := false}), (20, {want := false}), (21, {want := false}), (22, {want := false}), (23, {want := false}), (24, {want := false}), (25, {want := false}), (26, {want := false}), (27, {yes := false}), (28, {yes := false})], .c false, .s 4] [1, 5, 6, 7, 8, 17, 18, 19] [] (And.intro (score_Board_Sum.snd c45) (And.intro (score_Board_Sum.snd c46) (And.intro c47 (And.intro c47 (And.intro c47 (And.intro (not_false (not_inv_t c48)) (And.intro (not_false (not_inv_t c48)) (And.intro (not_false (not_inv_t c48)) (And.intro (score_Board_Shuns.snd c49) (And.intro c47 (And.intro (not_false (not_inv_t c48)) (And.intro c47 (And.intro c50 (And.intro c50 (And.intro c50 (And.intro (not_true (not_inv_f c51)) (And.intro (not_true (not_inv_f c51)) (And.intro (not_true (not_inv_f c51)) (And.intro (not_true (not_inv_f c51)) (And.intro (not_true (not_inv_f c51)) (And.intro (not_true (not_inv_f c51)) (And.intro (not_true (not_inv_f c51)) (And.intro c50 (And.intro (not_true (not_inv_f c51)) (And.intro c50 (rfl : false = false)))))))))))))))))))))))))) (Tlaw20_ScoreApart.p3_ok peer_1 x4 x6 blamed_52 others_53 script_0 v10 st60 hE hc1 h11) (by kernel_rfl)
    · refine iteB h6 (fun c55 h16 => ?_) (fun c55 h17 => ?_) <;> clear h6
      · obtain ⟨⟨x65, st66⟩, c56, h18⟩ := optE_inv h16; clear h16
        obtain ⟨⟨x67, st68⟩, c57, h19⟩ := optE_inv h18; clear h18
        refine iteB h19 (fun c58 h20 => ?_) (fun c58 h21 => ?_) <;> clear h19
        · obtain rfl := some_inv h20
          exact At.f fol hE 400 [.r [(2, {rs := [.one (L.int .i64 x55)], st := st56}), (5, {rs := [.one (L.int .i64 x57)], st := st58}), (11, {want := false}), (12, {want := false}), (13, {want := false}), (14, {yes := false}), (15, {yes := false}), (22, {rs := [.one (L.bool x65)], st := st66}), (25, {rs := [.one (L.bool x67)], st := st68}), (28, {yes := false})], .c true, .r []] [] 0 [] (And.intro (score_Board_Sum.snd c45) (And.intro (score_Board_Sum.snd c46) (And.intro c47 (And.intro c47 (And.intro c47 (And.intro (not_true (not_inv_f c48)) (And.intro (not_true (not_inv_f c48)) (And.intro (not_true (not_inv_f c48)) (And.intro c47 (And.intro (not_true (not_inv_f c48)) (And.intro c47 (And.intro (rfl : false = false) (And.intro (rfl : false = false) (And.intro (rfl : false = false) (And.intro (not_false (not_inv_t c55)) (And.intro (not_false (not_inv_t c55)) (And.intro (not_false (not_inv_t c55)) (And.intro (score_Board_Shuns.snd c56) (And.intro (not_false (not_inv_t c55)) (And.intro (not_false (not_inv_t c55)) (And.intro (not_false (not_inv_t c55)) (And.intro (score_Board_Shuns.snd c57) (And.intro (not_false (not_inv_t c55)) (And.intro (rfl : false = false) (And.intro (not_false (not_inv_t c55)) (And.intro (rfl : false = false) c58)))))))))))))))))))))))))) (by kernel_rfl)
        · exact At.q fol 400 [.r [(2, {rs := [.one (L.int .i64 x55)], st := st56}), (5, {rs := [.one (L.int .i64 x57)], st := st58}), (11, {want := false}), (12, {want := false}), (13, {want := false}), (14, {yes := false}), (15, {yes := false}), (22, {rs := [.one (L.bool x65)], st := st66}), (25, {rs := [.one (L.bool x67)], st := st68}), (28, {yes := false})], .c false, .s 4] [1, 5, 6, 7, 8, 17, 18, 19] [] (And.intro (score_Board_Sum.snd c45) (And.intro (score_Board_Sum.snd c46) (And.intro c47 (And.intro c47 (And.intro c47 (And.intro (not_true (not_inv_f c48)) (And.intro (not_true (not_inv_f c48)) (And.intro (not_true (not_inv_f c48)) (And.intro c47 (And.intro (not_true (not_inv_f c48)) (And.intro c47 (And.intro (rfl : false = false) (And.intro (rfl : false = false) (And.intro (rfl : false = false) (And.intro (not_false (not_inv_t c55)) (And.intro (not_false (not_inv_t c55)) (And.intro (not_false (not_inv_t c55)) (And.intro (score_Board_Shuns.snd c56) (And.intro (not_false (not_inv_t c55)) (And.intro (not_false (not_inv_t c55)) (And.intro (not_false (not_inv_t c55)) (And.intro (score_Board_Shuns.snd c57) (And.intro (not_false (not_inv_t c55)) (And.intro (rfl : false = false) (And.intro (not_false (not_inv_t c55)) (And.intro (rfl : false = false) c58)))))))))))))))))))))))))) (Tlaw20_ScoreApart.p3_ok peer_1 x4 x6 blamed_52 others_53 script_0 v10 st68 hE hc1 h21) (by kernel_rfl)
      · exact At.q fol 400 [.r [(2, {rs := [.one (L.int .i64 x55)], st := st56}), (5, {rs := [.one (L.int .i64 x57)], st := st58}), (11, {want := false}), (12, {want := false}), (13, {want := false}), (14, {yes := false}), (15, {yes := false}), (20, {want := false}), (21, {want := false}), (22, {want := false}), (23, {want := false}), (24, {want := false}), (25, {want := false}), (26, {want := false}), (27, {yes := false}), (28, {yes := false})], .c false, .s 4] [1, 5, 6, 7, 8, 17, 18, 19] [] (And.intro (score_Board_Sum.snd c45) (And.intro (score_Board_Sum.snd c46) (And.intro c47 (And.intro c47 (And.intro c47 (And.intro (not_true (not_inv_f c48)) (And.intro (not_true (not_inv_f c48)) (And.intro (not_true (not_inv_f c48)) (And.intro c47 (And.intro (not_true (not_inv_f c48)) (And.intro c47 (And.intro (rfl : false = false) (And.intro (rfl : false = false) (And.intro (rfl : false = false) (And.intro (not_true (not_inv_f c55)) (And.intro (not_true (not_inv_f c55)) (And.intro (not_true (not_inv_f c55)) (And.intro (not_true (not_inv_f c55)) (And.intro (not_true (not_inv_f c55)) (And.intro (not_true (not_inv_f c55)) (And.intro (not_true (not_inv_f c55)) (And.intro (rfl : false = false) (And.intro (not_true (not_inv_f c55)) (And.intro (rfl : false = false) (rfl : false = false))))))))))))))))))))))))) (Tlaw20_ScoreApart.p3_ok peer_1 x4 x6 blamed_52 others_53 script_0 v10 st58 hE hc1 h17) (by kernel_rfl)
theorem Tlaw20_ScoreApart.p1_ok (peer_1 : Int) (x4 : Option Nat) (x6 : Option Nat) (blamed_8 : Bool) (others_9 : Bool) (script_0 : List (List L)) (v10 : Int) (st41 : List (List L)) {N : Nat} {r : Bool × (List (List L))} {g0 : G} {w0 : World} {R : Exit → Act → World → Prop}  {c1_ : (Bool × Bool × Int × (List (List L))) → Option (Bool × (List (List L)))}  {J1 : Act → World → Prop} (hE : Ends Tryd.prog Tryd.f3 g0 w0 (Tlaw20_ScoreApart.rs r) (r.2) R)  (hc1 : ∀ (blamed_8 : Bool) (others_9 : Bool) (v10 : Int) (st41 : List (List L)), c1_ (blamed_8, others_9, v10, st41) = some r → At g0 w0 (Tlaw20_ScoreApart.p1.S peer_1 x4 x6 blamed_8 others_9 script_0 v10 st41) J1) (h : Tlaw20_ScoreApart.p1 N  peer_1 x4 x6 script_0 c1_ (blamed_8, others_9, v10, st41) = some r) : At g0 w0 (Tlaw20_ScoreApart.p1.S peer_1 x4 x6 blamed_8 others_9 script_0 v10 st41) (exK Tryd.prog R (.c (csub Tlaw20_ScoreApart.B [1, 1, 1, 1, 1, 0, 1, 0, 0]) :: .h J1 :: [.b 0, .c (csub Tlaw20_ScoreApart.B [1, 1, 1, 1, 1, 1])]) .normal) := by
  unfold Tlaw20_ScoreApart.p1 at h
  refine iteB h (fun c33 h22 => ?_) (fun c33 h23 => ?_) <;> clear h
  · obtain ⟨c34, h24⟩ := chk_inv h22; clear h22
    obtain ⟨h27, c35, h25⟩ := optE_inv h24; clear h24
    obtain ⟨x42, x43, x44, rfl, h26⟩ := dec_trailheadlaw20_Call_inv h25; clear h25
    refine iteB h26 (fun c36 h28 => ?_) (fun c36 h29 => ?_) <;> clear h26
    · obtain ⟨st45, c37, h30⟩ := optE_inv h28; clear h28
      refine iteB h30 (fun c38 h31 => ?_) (fun c38 h32 => ?_) <;> clear h30
      · obtain ⟨st46, c39, h33⟩ := optE_inv h31; clear h31
        exact At.q fol 400 [.r [], .c true, .r [(1, {oe := [L.int .i64 x42, L.int .i64 x43, L.sl 1 x44]})], .r [], .c true, .r [(3, {st := st45})], .r [], .c true, .r [(2, {st := st46})], .s 4] [1, 5, 6, 7, 8, 17, 18, 19] [] (And.intro c33 (And.intro c34 (And.intro (of_decide_eq_true c33) (And.intro c35 (And.intro c36 (And.intro (score_Board_Forget.snd c37) (And.intro c38 (score_Board_Forget.snd c39)))))))) (Tlaw20_ScoreApart.p3_ok peer_1 x4 x6 blamed_8 others_9 script_0 v10 st46 hE hc1 h33) (by kernel_rfl)
      · exact At.q fol 400 [.r [], .c true, .r [(1, {oe := [L.int .i64 x42, L.int .i64 x43, L.sl 1 x44]})], .r [], .c true, .r [(3, {st := st45})], .r [], .c false, .s 4] [1, 5, 6, 7, 8, 17, 18, 19] [] (And.intro c33 (And.intro c34 (And.intro (of_decide_eq_true c33) (And.intro c35 (And.intro c36 (And.intro (score_Board_Forget.snd c37) c38)))))) (Tlaw20_ScoreApart.p3_ok peer_1 x4 x6 blamed_8 others_9 script_0 v10 st45 hE hc1 h32) (by kernel_rfl)
    · refine iteB h29 (fun c40 h34 => ?_) (fun c40 h35 => ?_) <;> clear h29
      · exact At.q fol 400 [.r [], .c true, .r [(1, {oe := [L.int .i64 x42, L.int .i64 x43, L.sl 1 x44]})], .r [], .c false, .r [], .c true, .s 4] [1, 5, 6, 7, 8, 17, 18, 19] [] (And.intro c33 (And.intro c34 (And.intro (of_decide_eq_true c33) (And.intro c35 (And.intro c36 c40))))) (Tlaw20_ScoreApart.p3_ok peer_1 x4 x6 blamed_8 others_9 script_0 v10 st41 hE hc1 h34) (by kernel_rfl)
      · obtain ⟨x47, c41, h36⟩ := optE_inv h35; clear h35
        obtain ⟨⟨x48, st49⟩, c42, h37⟩ := optE_inv h36; clear h36
        refine iteB h37 (fun c43 h38 => ?_) (fun c43 h39 => ?_) <;> clear h37
        · obtain ⟨⟨x50, st51⟩, c44, h40⟩ := optE_inv h38; clear h38
          exact At.qd fol 400 [.r [], .c true, .r [(1, {oe := [L.int .i64 x42, L.int .i64 x43, L.sl 1 x44]})], .r [], .c false, .r [], .c false, .d {ds := [(5, {rs := [.row true 1 x47], ns := [45], m := 1}), (6, {rs := [.one (L.bool x48)], st := st49, fz := [45]})], hv := 96, Hs := [32, 96]}, .r [], .c true, .r [(4, {rs := [.row true 1 x47], ns := [55], m := 1}), (5, {rs := [.one (L.bool x50)], st := st51, fz := [55]})], .r [], .s 6] [1, 5, 6, 7, 8, 17, 18, 19] [] (And.intro c33 (And.intro c34 (And.intro (of_decide_eq_true c33) (And.intro c35 (And.intro c36 (And.intro c40 (And.intro (Tlaw20_faults.snd c41) (And.intro (rfl : (0 : Nat) = 0) (And.intro (@rfl Nat (List.length x47)) (And.intro (score_Board_Blame.snd c42) (And.intro c43 (And.intro (Tlaw20_faults.snd c41) (And.intro (rfl : (0 : Nat) = 0) (And.intro (@rfl Nat (List.length x47)) (score_Board_Blame.snd c44))))))))))))))) (Tlaw20_ScoreApart.p2_ok peer_1 x4 x6 true others_9 script_0 v10 st51 hE hc1 h40) (by kernel_rfl) (by kernel_rfl)
        · exact At.qd fol 400 [.r [], .c true, .r [(1, {oe := [L.int .i64 x42, L.int .i64 x43, L.sl 1 x44]})], .r [], .c false, .r [], .c false, .d {ds := [(5, {rs := [.row true 1 x47], ns := [45], m := 1}), (6, {rs := [.one (L.bool x48)], st := st49, fz := [45]})], hv := 96, Hs := [32, 96]}, .r [], .c false, .r [], .s 6] [1, 5, 6, 7, 8, 17, 18, 19] [] (And.intro c33 (And.intro c34 (And.intro (of_decide_eq_true c33) (And.intro c35 (And.intro c36 (And.intro c40 (And.intro (Tlaw20_faults.snd c41) (And.intro (rfl : (0 : Nat) = 0) (And.intro (@rfl Nat (List.length x47)) (And.intro (score_Board_Blame.snd c42) c43)))))))))) (Tlaw20_ScoreApart.p2_ok peer_1 x4 x6 blamed_8 true script_0 v10 st49 hE hc1 h39) (by kernel_rfl) (by kernel_rfl)
  · obtain rfl := some_inv h23
    exact At.f fol hE 400 [.r [], .c false, .r []] [] 0 [] c33 (by kernel_rfl)
theorem Tlaw20_ScoreApart.p1_loop (peer_1 : Int) (x4 : Option Nat) (x6 : Option Nat) (blamed_8 : Bool) (others_9 : Bool) (script_0 : List (List L)) (v10 : Int) (st41 : List (List L)) {N : Nat} {r : Bool × (List (List L))} {g0 : G} {w0 : World} {R : Exit → Act → World → Prop}   (hE : Ends Tryd.prog Tryd.f3 g0 w0 (Tlaw20_ScoreApart.rs r) (r.2) R)  (h : loopN (Tlaw20_ScoreApart.p1 N  peer_1 x4 x6 script_0) N (blamed_8, others_9, v10, st41) = some r) : At g0 w0 (Tlaw20_ScoreApart.p1.S peer_1 x4 x6 blamed_8 others_9 script_0 v10 st41) (exK Tryd.prog R (.c (.loop (csub Tlaw20_ScoreApart.B [1, 1, 1, 1, 1, 0, 1, 0, 0])) :: [.b 0, .c (csub Tlaw20_ScoreApart.B [1, 1, 1, 1, 1, 1])]) .normal) :=
  At.loop N (At.loopN (fun y : Bool × Bool × Int × (List (List L)) => Tlaw20_ScoreApart.p1.S peer_1 x4 x6 y.1 y.2.1 script_0 y.2.2.1 y.2.2.2) (fun c J hc y h => Tlaw20_ScoreApart.p1_ok peer_1 x4 x6 y.1 y.2.1 script_0 y.2.2.1 y.2.2.2 hE  (fun blamed_8 others_9 v10 st41 hh => hc (blamed_8, others_9, v10, st41) hh) h) N (blamed_8, others_9, v10, st41) h)
theorem Tlaw20_ScoreApart.at0 (script_0 : List (List L)) (peer_1 : Int) (st : List (List L)) {N : Nat} {r : Bool × (List (List L))} {g0 : G} {w0 : World} {R : Exit → Act → World → Prop} (hE : Ends Tryd.prog Tryd.f3 g0 w0 (Tlaw20_ScoreApart.rs r) (r.2) R) (h : Tlaw20_ScoreApart N script_0 peer_1 st = some r) : At g0 w0 (S.enter 87 [.one (L.sl 3 script_0), .one (L.int .i64 peer_1)] st) (exK Tryd.prog R [.c Tlaw20_ScoreApart.B] .normal) := by
  unfold Tlaw20_ScoreApart at h
  obtain ⟨⟨x1, st2⟩, c1, h41⟩ := optE_inv h; clear h
  refine iteB h41 (fun c2 h42 => ?_) (fun c2 h43 => ?_) <;> clear h41
  · obtain rfl := some_inv h42
    exact At.f fol hE 400 [.r [], .r [(0, {rs := [.one (L.bool x1)], st := st2})], .c true, .r []] [] 0 [] (And.intro (Tlaw20_alive.snd c1) c2) (by kernel_rfl)
  · obtain ⟨x3, c3, h44⟩ := optE_inv h43; clear h43
    refine iteB h44 (fun c4 h45 => ?_) (fun c4 h46 => ?_) <;> clear h44
    · obtain rfl := some_inv h45
      exact At.f fol hE 400 [.r [], .r [(0, {rs := [.one (L.bool x1)], st := st2})], .c false, .r [(1, {rs := [.one (L.bool x3)], m := 1})], .c true, .r []] [] 0 [] (And.intro (Tlaw20_alive.snd c1) (And.intro c2 (And.intro (Tlaw20_great.snd c3) c4))) (by kernel_rfl)
    · obtain ⟨⟨x4, st5⟩, c5, h47⟩ := optE_inv h46; clear h46
      obtain ⟨⟨x6, st7⟩, c6, h48⟩ := optE_inv h47; clear h47
      exact At.q fol 400 [.r [], .r [(0, {rs := [.one (L.bool x1)], st := st2})], .c false, .r [(1, {rs := [.one (L.bool x3)], m := 1})], .c false, .r [(0, {rs := [.one (L.ptr x4)], st := st5}), (1, {rs := [.one (L.ptr x6)], st := st7})], .r [], .r []] [1, 5, 6, 7, 8, 17, 18, 19] [] (And.intro (Tlaw20_alive.snd c1) (And.intro c2 (And.intro (Tlaw20_great.snd c3) (And.intro c4 (And.intro (score_New.snd c5) (score_New.snd c6)))))) (Tlaw20_ScoreApart.p1_loop peer_1 x4 x6 false false script_0 0 st7 hE  h48) (by kernel_rfl)
theorem Tlaw20_ScoreApart.snd {N : Nat} {script_0 : List (List L)} {peer_1 : Int} {st : List (List L)} {r : Bool × (List (List L))} (h : Tlaw20_ScoreApart N script_0 peer_1 st = some r) : Snd Tryd.prog 3 [.one (L.sl 3 script_0), .one (L.int .i64 peer_1)] st (Tlaw20_ScoreApart.rs r) (r.2) :=
  Snd.of (fn := Tryd.f3) (c := Tlaw20_ScoreApart.B) Tryd.func3 (by kernel_rfl) (by kernel_rfl) (of_decide_eq_true (by kernel_rfl)) fun g w R hE => Tlaw20_ScoreApart.at0 script_0 peer_1 st hE h
/-! trailhead/trailheadlaw20.ScorePoints -/
noncomputable def Tlaw20_ScorePoints.B : Code := Tryd.f4.body.getD .skip
noncomputable def Tlaw20_ScorePoints.rs (r : Bool × (List (List L))) : List CV := [.one (L.bool r.1)]
noncomputable def Tlaw20_ScorePoints.p3 (N : Nat) (c2_ : (Int × (List (List L))) → Option (Bool × (List (List L)))) (peer_1 : Int) (x44 : Option Nat) (list_0 : List (List L)) (v46 : Int) (st62 : List (List L)) : Option (Bool × (List (List L))) :=
  optE (score_Board_Forget N x44 peer_1 st62) fun st63 =>
  c2_ (IntKind.wrap IntKind.i64 (v46 + 1), st63)
noncomputable def Tlaw20_ScorePoints.p2 (N : Nat)  (peer_1 : Int) (x44 : Option Nat) (list_0 : List (List L)) (c2_ : (Int × (List (List L))) → Option (Bool × (List (List L)))) : (Int × (List (List L))) → Option (Bool × (List (List L))) := fun (v46, st57) =>
  if (decide (v46 < ((List.length list_0 : Nat) : Int))) = true then
    chk (0 ≤ v46) <|
    optE (list_0[Int.toNat v46]?) fun e => dec_i64 e fun x58 =>
    chk (1 ≤ (List.length [[L.int .i64 x58]])) <|
    optE (score_Points N (List.take 1 [[L.int .i64 x58]])) fun x59 =>
    if (decide (x59 < 100)) = true then
      optE (score_Board_Blame N x44 peer_1 (List.take 1 [[L.int .i64 x58]]) st57) fun (x60, st61) =>
      Tlaw20_ScorePoints.p3 N c2_ peer_1 x44 list_0 v46 st61
    else
    Tlaw20_ScorePoints.p3 N c2_ peer_1 x44 list_0 v46 st57
  else
  optE (score_Board_Shuns N x44 peer_1 st57) fun (x64, st65) =>
  if (!x64) = true then
    optE (score_Board_Sum N x44 peer_1 st65) fun (x66, st67) =>
    some (x66 == 0, st67)
  else
  some (false, st65)
noncomputable def Tlaw20_ScorePoints.p1 (N : Nat)  (list_0 : List (List L)) (peer_1 : Int) (st2 : List (List L)) (c1_ : (Int × (List (List L)) × Int) → Option (Bool × (List (List L)))) : (Int × (List (List L)) × Int) → Option (Bool × (List (List L))) := fun (n_3, back_36, v4) =>
  if (decide (v4 < ((List.length list_0 : Nat) : Int))) = true then
    chk (0 ≤ v4) <|
    optE (list_0[Int.toNat v4]?) fun e => dec_i64 e fun x37 =>
    chk (1 ≤ (List.length [[L.int .i64 x37]])) <|
    optE (score_Points N (List.take 1 [[L.int .i64 x37]])) fun x38 =>
    chk (0 ≤ (IntKind.wrap IntKind.i64 ((IntKind.wrap IntKind.i64 (((List.length list_0 : Nat) : Int) - 1)) - v4))) <|
    chk ((IntKind.wrap IntKind.i64 ((IntKind.wrap IntKind.i64 (((List.length list_0 : Nat) : Int) - 1)) - v4)) < ((List.length list_0 : Nat) : Int)) <|
    optE (list_0[Int.toNat (IntKind.wrap IntKind.i64 ((IntKind.wrap IntKind.i64 (((List.length list_0 : Nat) : Int) - 1)) - v4))]?) fun e => dec_i64 e fun x39 =>
    chk (1 ≤ (List.length [[L.int .i64 x39]])) <|
    chk (List.length (back_36 ++ (List.take 1 [[L.int .i64 x39]])) * 8 ≤ 140737488355328) <|
    c1_ (IntKind.wrap IntKind.i64 (n_3 + x38), back_36 ++ (List.take 1 [[L.int .i64 x39]]), IntKind.wrap IntKind.i64 (v4 + 1))
  else
  optE (Tlaw20_faults N list_0) fun x40 =>
  optE (score_Points N x40) fun x41 =>
  if (x41 != n_3) = true then
    some (false, st2)
  else
  optE (Tlaw20_faults N back_36) fun x42 =>
  chk (plainRow x42 = true) <|
  optE (score_Points N x42) fun x43 =>
  if (x43 != n_3) = true then
    some (false, st2)
  else
  optE (score_New N st2) fun (x44, st45) =>
  loopN (Tlaw20_ScorePoints.p2 N  peer_1 x44 list_0) N (0, st45)
noncomputable def Tlaw20_ScorePoints (N : Nat) (list_0 : List (List L)) (peer_1 : Int) (st : List (List L)) : Option (Bool × (List (List L))) :=
  optE (Tlaw20_alive N st) fun (x1, st2) =>
  if (!x1) = true then
    some (false, st2)
  else
  if (decide (((List.length list_0 : Nat) : Int) > 20)) = true then
    some (true, st2)
  else
  loopN (Tlaw20_ScorePoints.p1 N  list_0 peer_1 st2) N (0, [], 0)
noncomputable def Tlaw20_ScorePoints.p3.S (peer_1 : Int) (x44 : Option Nat) (list_0 : List (List L)) (v46 : Int) (st62 : List (List L)) : S := mkS 83 [(1, .one (.l (L.int .i64 peer_1))), (9, .one (.l (L.ptr x44))), (54, .one (.l (L.sl 1 list_0))), (55, .one (.l (L.int .i64 ((List.length list_0 : Nat) : Int)))), (56, .one (.l (L.int .i64 v46)))] [] st62
noncomputable def Tlaw20_ScorePoints.p2.S (peer_1 : Int) (x44 : Option Nat) (list_0 : List (List L)) (v46 : Int) (st57 : List (List L)) : S := mkS 83 [(1, .one (.l (L.int .i64 peer_1))), (9, .one (.l (L.ptr x44))), (54, .one (.l (L.sl 1 list_0))), (55, .one (.l (L.int .i64 ((List.length list_0 : Nat) : Int)))), (56, .one (.l (L.int .i64 v46)))] [] st57
noncomputable def Tlaw20_ScorePoints.p1.S (list_0 : List (List L)) (peer_1 : Int) (n_3 : Int) (back_36 : List (List L)) (v4 : Int) (st2 : List (List L)) : S := mkS 83 [(0, .one (.l (L.sl 1 list_0))), (1, .one (.l (L.int .i64 peer_1))), (5, .one (.l (L.int .i64 n_3))), (6, .one (.h (.row 6 0) 1 0 (List.length back_36))), (17, .one (.l (L.sl 1 list_0))), (18, .one (.l (L.int .i64 ((List.length list_0 : Nat) : Int)))), (19, .one (.l (L.int .i64 v4)))] [(6, .row 0 true 1 back_36)] st2
theorem Tlaw20_ScorePoints.p3_ok (peer_1 : Int) (x44 : Option Nat) (list_0 : List (List L)) (v46 : Int) (st62 : List (List L)) {N : Nat} {r : Bool × (List (List L))} {g0 : G} {w0 : World} {R : Exit → Act → World → Prop} {c2_ : (Int × (List (List L))) → Option (Bool × (List (List L)))} {J2 : Act → World → Prop} (hE : Ends Tryd.prog Tryd.f4 g0 w0 (Tlaw20_ScorePoints.rs r) (r.2) R) (hc2 : ∀ (v46 : Int) (st57 : List (List L)), c2_ (v46, st57) = some r → At g0 w0 (Tlaw20_ScorePoints.p2.S peer_1 x44 list_0 v46 st57) J2) (h : Tlaw20_ScorePoints.p3 N c2_ peer_1 x44 list_0 v46 st62 = some r) : At g0 w0 (Tlaw20_ScorePoints.p3.S peer_1 x44 list_0 v46 st62) (exK Tryd.prog R [.c (csub Tlaw20_ScorePoints.B [1, 1, 1, 1, 1, 1, 1, 1, 0, 1, 0, 0, 1, 1, 0, 0, 1, 1]), .b 3, .c (csub Tlaw20_ScorePoints.B [1, 1, 1, 1, 1, 1, 1, 1, 0, 1, 0, 0, 1, 1, 1]), .h J2, .b 2, .c (csub Tlaw20_ScorePoints.B [1, 1, 1, 1, 1, 1, 1, 1, 1])] .normal) := by
  unfold Tlaw20_ScorePoints.p3 at h
  obtain ⟨st63, c80, h1⟩ := optE_inv h; clear h
  exact At.n fol 400 [.r [(2, {st := st63})], .r []] [1, 9, 54, 55, 56] [] (score_Board_Forget.snd c80) (hc2 (IntKind.wrap IntKind.i64 (v46 + 1)) st63 h1) (by kernel_rfl)
theorem Tlaw20_ScorePoints.p2_ok (peer_1 : Int) (x44 : Option Nat) (list_0 : List (List L)) (v46 : Int) (st57 : List (List L)) {N : Nat} {r : Bool × (List (List L))} {g0 : G} {w0 : World} {R : Exit → Act → World → Prop}  {c2_ : (Int × (List (List L))) → Option (Bool × (List (List L)))}  {J2 : Act → World → Prop} (hE : Ends Tryd.prog Tryd.f4 g0 w0 (Tlaw20_ScorePoints.rs r) (r.2) R)  (hc2 : ∀ (v46 : Int) (st57 : List (List L)), c2_ (v46, st57) = some r → At g0 w0 (Tlaw20_ScorePoints.p2.S peer_1 x44 list_0 v46 st57) J2) (h : Tlaw20_ScorePoints.p2 N  peer_1 x44 list_0 c2_ (v46, st57) = some r) : At g0 w0 (Tlaw20_ScorePoints.p2.S peer_1 x44 list_0 v46 st57) (exK Tryd.prog R (.c (csub Tlaw20_ScorePoints.B [1, 1, 1, 1, 1, 1, 1, 1, 0, 1, 0, 0]) :: .h J2 :: [.b 2, .c (csub Tlaw20_ScorePoints.B [1, 1, 1, 1, 1, 1, 1, 1, 1])]) .normal) := by
  unfold Tlaw20_ScorePoints.p2 at h
  refine iteB h (fun c73 h2 => ?_) (fun c73 h3 => ?_) <;> clear h
  · obtain ⟨c74, h4⟩ := chk_inv h2; clear h2
    obtain ⟨h7, c75, h5⟩ := optE_inv h4; clear h4
    obtain ⟨x58, rfl, h6⟩ := dec_i64_inv h5; clear h5
    obtain ⟨c76, h8⟩ := chk_inv h6; clear h6
    obtain ⟨x59, c77, h9⟩ := optE_inv h8; clear h8
    refine iteB h9 (fun c78 h10 => ?_) (fun c78 h11 => ?_) <;> clear h9
    · obtain ⟨⟨x60, st61⟩, c79, h12⟩ := optE_inv h10; clear h10
      exact At.q fol 400 [.r [], .c true, .r [(1, {oe := [L.int .i64 x58]})], .r [(2, {rs := [.one (L.int .i64 x59)], m := 2, wm := 2})], .c true, .r [(4, {rs := [.one (L.bool x60)], st := st61, wm := 2, fz := [67]})], .s 6] [1, 9, 54, 55, 56] [] (And.intro c73 (And.intro c74 (And.intro (of_decide_eq_true c73) (And.intro c75 (And.intro (rfl : (0 : Nat) = 0) (And.intro c76 (And.intro (score_Points.snd c77) (And.intro c78 (And.intro (rfl : (0 : Nat) = 0) (And.intro c76 (score_Board_Blame.snd c79))))))))))) (Tlaw20_ScorePoints.p3_ok peer_1 x44 list_0 v46 st61 hE hc2 h12) (by kernel_rfl)
    · exact At.q fol 400 [.r [], .c true, .r [(1, {oe := [L.int .i64 x58]})], .r [(2, {rs := [.one (L.int .i64 x59)], m := 2, wm := 2})], .c false, .s 6] [1, 9, 54, 55, 56] [] (And.intro c73 (And.intro c74 (And.intro (of_decide_eq_true c73) (And.intro c75 (And.intro (rfl : (0 : Nat) = 0) (And.intro c76 (And.intro (score_Points.snd c77) c78))))))) (Tlaw20_ScorePoints.p3_ok peer_1 x44 list_0 v46 st57 hE hc2 h11) (by kernel_rfl)
  · obtain ⟨⟨x64, st65⟩, c81, h13⟩ := optE_inv h3; clear h3
    refine iteB h13 (fun c82 h14 => ?_) (fun c82 h15 => ?_) <;> clear h13
    · obtain ⟨⟨x66, st67⟩, c83, h16⟩ := optE_inv h14; clear h14
      obtain rfl := some_inv h16
      exact At.f fol hE 400 [.r [], .c false, .r [(2, {rs := [.one (L.bool x64)], st := st65}), (7, {rs := [.one (L.int .i64 x66)], st := st67})]] [] 0 [] (And.intro c73 (And.intro (score_Board_Shuns.snd c81) (And.intro (not_false (not_inv_t c82)) (And.intro (not_false (not_inv_t c82)) (And.intro (not_false (not_inv_t c82)) (And.intro (score_Board_Sum.snd c83) (And.intro (not_false (not_inv_t c82)) (not_false (not_inv_t c82))))))))) (by kernel_rfl)
    · obtain rfl := some_inv h15
      exact At.f fol hE 400 [.r [], .c false, .r [(2, {rs := [.one (L.bool x64)], st := st65}), (5, {want := false}), (6, {want := false}), (7, {want := false}), (8, {want := false}), (9, {yes := false})]] [] 0 [] (And.intro c73 (And.intro (score_Board_Shuns.snd c81) (And.intro (not_true (not_inv_f c82)) (And.intro (not_true (not_inv_f c82)) (And.intro (not_true (not_inv_f c82)) (And.intro (not_true (not_inv_f c82)) (not_true (not_inv_f c82)))))))) (by kernel_rfl)
theorem Tlaw20_ScorePoints.p2_loop (peer_1 : Int) (x44 : Option Nat) (list_0 : List (List L)) (v46 : Int) (st57 : List (List L)) {N : Nat} {r : Bool × (List (List L))} {g0 : G} {w0 : World} {R : Exit → Act → World → Prop}   (hE : Ends Tryd.prog Tryd.f4 g0 w0 (Tlaw20_ScorePoints.rs r) (r.2) R)  (h : loopN (Tlaw20_ScorePoints.p2 N  peer_1 x44 list_0) N (v46, st57) = some r) : At g0 w0 (Tlaw20_ScorePoints.p2.S peer_1 x44 list_0 v46 st57) (exK Tryd.prog R (.c (.loop (csub Tlaw20_ScorePoints.B [1, 1, 1, 1, 1, 1, 1, 1, 0, 1, 0, 0])) :: [.b 2, .c (csub Tlaw20_ScorePoints.B [1, 1, 1, 1, 1, 1, 1, 1, 1])]) .normal) :=
  At.loop N (At.loopN (fun y : Int × (List (List L)) => Tlaw20_ScorePoints.p2.S peer_1 x44 list_0 y.1 y.2) (fun c J hc y h => Tlaw20_ScorePoints.p2_ok peer_1 x44 list_0 y.1 y.2 hE  (fun v46 st57 hh => hc (v46, st57) hh) h) N (v46, st57) h)
theorem Tlaw20_ScorePoints.p1_ok (list_0 : List (List L)) (peer_1 : Int) (n_3 : Int) (back_36 : List (List L)) (v4 : Int) (st2 : List (List L)) {N : Nat} {r : Bool × (List (List L))} {g0 : G} {w0 : World} {R : Exit → Act → World → Prop}  {c1_ : (Int × (List (List L)) × Int) → Option (Bool × (List (List L)))}  {J1 : Act → World → Prop} (hE : Ends Tryd.prog Tryd.f4 g0 w0 (Tlaw20_ScorePoints.rs r) (r.2) R)  (hc1 : ∀ (n_3 : Int) (back_36 : List (List L)) (v4 : Int), c1_ (n_3, back_36, v4) = some r → At g0 w0 (Tlaw20_ScorePoints.p1.S list_0 peer_1 n_3 back_36 v4 st2) J1) (h : Tlaw20_ScorePoints.p1 N  list_0 peer_1 st2 c1_ (n_3, back_36, v4) = some r) : At g0 w0 (Tlaw20_ScorePoints.p1.S list_0 peer_1 n_3 back_36 v4 st2) (exK Tryd.prog R (.c (csub Tlaw20_ScorePoints.B [1, 1, 1, 1, 1, 0, 1, 0, 0]) :: .h J1 :: [.b 0, .c (csub Tlaw20_ScorePoints.B [1, 1, 1, 1, 1, 1])]) .normal) := by
  unfold Tlaw20_ScorePoints.p1 at h
  refine iteB h (fun c44 h17 => ?_) (fun c44 h18 => ?_) <;> clear h
  · obtain ⟨c45, h19⟩ := chk_inv h17; clear h17
    obtain ⟨h22, c46, h20⟩ := optE_inv h19; clear h19
    obtain ⟨x37, rfl, h21⟩ := dec_i64_inv h20; clear h20
    obtain ⟨c47, h23⟩ := chk_inv h21; clear h21
    obtain ⟨x38, c48, h24⟩ := optE_inv h23; clear h23
    obtain ⟨c49, h25⟩ := chk_inv h24; clear h24
    obtain ⟨c50, h26⟩ := chk_inv h25; clear h25
    obtain ⟨h29, c51, h27⟩ := optE_inv h26; clear h26
    obtain ⟨x39, rfl, h28⟩ := dec_i64_inv h27; clear h27
    obtain ⟨c52, h30⟩ := chk_inv h28; clear h28
    obtain ⟨c53, h31⟩ := chk_inv h30; clear h30
    exact At.n fol 400 [.r [], .c true, .r [(2, {oe := [L.int .i64 x37]})], .r [(3, {rs := [.one (L.int .i64 x38)], m := 2, wm := 2})], .r [(8, {oe := [L.int .i64 x39]}), (10, {wm := 2})], .r []] [0, 1, 5, 6, 17, 18, 19] [6] (And.intro c44 (And.intro c45 (And.intro (of_decide_eq_true c44) (And.intro c46 (And.intro (rfl : (0 : Nat) = 0) (And.intro c47 (And.intro (score_Points.snd c48) (And.intro c49 (And.intro c50 (And.intro c51 (And.intro (rfl : (0 : Nat) = 0) (And.intro (@rfl Nat (List.length back_36)) (And.intro (rfl : (0 : Nat) = 0) (And.intro c52 c53)))))))))))))) (hc1 (IntKind.wrap IntKind.i64 (n_3 + x38)) (back_36 ++ (List.take 1 [[L.int .i64 x39]])) (IntKind.wrap IntKind.i64 (v4 + 1)) h31) (by kernel_rfl)
  · obtain ⟨x40, c54, h32⟩ := optE_inv h18; clear h18
    obtain ⟨x41, c55, h33⟩ := optE_inv h32; clear h32
    refine iteB h33 (fun c56 h34 => ?_) (fun c56 h35 => ?_) <;> clear h33
    · obtain rfl := some_inv h34
      exact At.f fol hE 400 [.r [], .c false, .r [(1, {rs := [.row true 1 x40], ns := [42], m := 1}), (2, {rs := [.one (L.int .i64 x41)], m := 2}), (6, {want := false}), (7, {want := false}), (8, {want := false}), (9, {want := false}), (10, {want := false})], .c true, .r []] [] 0 [] (And.intro c44 (And.intro (Tlaw20_faults.snd c54) (And.intro (rfl : (0 : Nat) = 0) (And.intro (@rfl Nat (List.length x40)) (And.intro (score_Points.snd c55) (And.intro c56 (And.intro c56 (And.intro c56 (And.intro c56 (And.intro c56 (And.intro c56 (rfl : true = true)))))))))))) (by kernel_rfl)
    · obtain ⟨x42, c57, h36⟩ := optE_inv h35; clear h35
      obtain ⟨c58, h37⟩ := chk_inv h36; clear h36
      obtain ⟨x43, c59, h38⟩ := optE_inv h37; clear h37
      refine iteB h38 (fun c60 h39 => ?_) (fun c60 h40 => ?_) <;> clear h38
      · obtain rfl := some_inv h39
        exact At.f fol hE 400 [.r [], .c false, .r [(1, {rs := [.row true 1 x40], ns := [42], m := 1}), (2, {rs := [.one (L.int .i64 x41)], m := 2}), (7, {rs := [.row true 1 x42], ns := [48], m := 2}), (8, {rs := [.one (L.int .i64 x43)], m := 2}), (11, {yes := false})], .c true, .r []] [] 0 [] (And.intro c44 (And.intro (Tlaw20_faults.snd c54) (And.intro (rfl : (0 : Nat) = 0) (And.intro (@rfl Nat (List.length x40)) (And.intro (score_Points.snd c55) (And.intro c56 (And.intro c56 (And.intro (rfl : (0 : Nat) = 0) (And.intro (@rfl Nat (List.length back_36)) (And.intro c58 (And.intro (Tlaw20_faults.snd c57) (And.intro c56 (And.intro (rfl : (0 : Nat) = 0) (And.intro (@rfl Nat (List.length x42)) (And.intro (score_Points.snd c59) (And.intro c56 (And.intro c56 (And.intro c56 c60)))))))))))))))))) (by kernel_rfl)
      · obtain ⟨⟨x44, st45⟩, c61, h41⟩ := optE_inv h40; clear h40
        exact At.q fol 400 [.r [], .c false, .r [(1, {rs := [.row true 1 x40], ns := [42], m := 1}), (2, {rs := [.one (L.int .i64 x41)], m := 2}), (7, {rs := [.row true 1 x42], ns := [48], m := 2}), (8, {rs := [.one (L.int .i64 x43)], m := 2}), (11, {yes := false})], .c false, .r [(0, {rs := [.one (L.ptr x44)], st := st45})], .r []] [1, 9, 54, 55, 56] [] (And.intro c44 (And.intro (Tlaw20_faults.snd c54) (And.intro (rfl : (0 : Nat) = 0) (And.intro (@rfl Nat (List.length x40)) (And.intro (score_Points.snd c55) (And.intro c56 (And.intro c56 (And.intro (rfl : (0 : Nat) = 0) (And.intro (@rfl Nat (List.length back_36)) (And.intro c58 (And.intro (Tlaw20_faults.snd c57) (And.intro c56 (And.intro (rfl : (0 : Nat) = 0) (And.intro (@rfl Nat (List.length x42)) (And.intro (score_Points.snd c59) (And.intro c56 (And.intro c56 (And.intro c56 (And.intro c60 (score_New.snd c61)))))))))))))))))))) (Tlaw20_ScorePoints.p2_loop peer_1 x44 list_0 0 st45 hE  h41) (by kernel_rfl)
theorem Tlaw20_ScorePoints.p1_loop (list_0 : List (List L)) (peer_1 : Int) (n_3 : Int) (back_36 : List (List L)) (v4 : Int) (st2 : List (List L)) {N : Nat} {r : Bool × (List (List L))} {g0 : G} {w0 : World} {R : Exit → Act → World → Prop}   (hE : Ends Tryd.prog Tryd.f4 g0 w0 (Tlaw20_ScorePoints.rs r) (r.2) R)  (h : loopN (Tlaw20_ScorePoints.p1 N  list_0 peer_1 st2) N (n_3, back_36, v4) = some r) : At g0 w0 (Tlaw20_ScorePoints.p1.S list_0 peer_1 n_3 back_36 v4 st2) (exK Tryd.prog R (.c (.loop (csub Tlaw20_ScorePoints.B [1, 1, 1, 1, 1, 0, 1, 0, 0])) :: [.b 0, .c (csub Tlaw20_ScorePoints.B [1, 1, 1, 1, 1, 1])]) .normal) :=
  At.loop N (At.loopN (fun y : Int × (List (List L)) × Int => Tlaw20_ScorePoints.p1.S list_0 peer_1 y.1 y.2.1 y.2.2 st2) (fun c J hc y h => Tlaw20_ScorePoints.p1_ok list_0 peer_1 y.1 y.2.1 y.2.2 st2 hE  (fun n_3 back_36 v4 hh => hc (n_3, back_36, v4) hh) h) N (n_3, back_36, v4) h)
theorem Tlaw20_ScorePoints.at0 (list_0 : List (List L)) (peer_1 : Int) (st : List (List L)) {N : Nat} {r : Bool × (List (List L))} {g0 : G} {w0 : World} {R : Exit → Act → World → Prop} (hE : Ends Tryd.prog Tryd.f4 g0 w0 (Tlaw20_ScorePoints.rs r) (r.2) R) (h : Tlaw20_ScorePoints N list_0 peer_1 st = some r) : At g0 w0 (S.enter 83 [.one (L.sl 1 list_0), .one (L.int .i64 peer_1)] st) (exK Tryd.prog R [.c Tlaw20_ScorePoints.B] .normal) := by
  unfold Tlaw20_ScorePoints at h
  obtain ⟨⟨x1, st2⟩, c1, h42⟩ := optE_inv h; clear h
  refine iteB h42 (fun c2 h43 => ?_) (fun c2 h44 => ?_) <;> clear h42
  · obtain rfl := some_inv h43
    exact At.f fol hE 400 [.r [], .r [(0, {rs := [.one (L.bool x1)], st := st2})], .c true, .r []] [] 0 [] (And.intro (Tlaw20_alive.snd c1) c2) (by kernel_rfl)
  · refine iteB h44 (fun c3 h45 => ?_) (fun c3 h46 => ?_) <;> clear h44
    · obtain rfl := some_inv h45
      exact At.f fol hE 400 [.r [], .r [(0, {rs := [.one (L.bool x1)], st := st2})], .c false, .r [], .c true, .r []] [] 0 [] (And.intro (Tlaw20_alive.snd c1) (And.intro c2 c3)) (by kernel_rfl)
    · exact At.q fol 400 [.r [], .r [(0, {rs := [.one (L.bool x1)], st := st2})], .c false, .r [], .c false, .r [], .r [(0, {m := 1})], .r []] [0, 1, 5, 6, 17, 18, 19] [6] (And.intro (Tlaw20_alive.snd c1) (And.intro c2 c3)) (Tlaw20_ScorePoints.p1_loop list_0 peer_1 0 [] 0 st2 hE  h46) (by kernel_rfl)
theorem Tlaw20_ScorePoints.snd {N : Nat} {list_0 : List (List L)} {peer_1 : Int} {st : List (List L)} {r : Bool × (List (List L))} (h : Tlaw20_ScorePoints N list_0 peer_1 st = some r) : Snd Tryd.prog 4 [.one (L.sl 1 list_0), .one (L.int .i64 peer_1)] st (Tlaw20_ScorePoints.rs r) (r.2) :=
  Snd.of (fn := Tryd.f4) (c := Tlaw20_ScorePoints.B) Tryd.func4 (by kernel_rfl) (by kernel_rfl) (of_decide_eq_true (by kernel_rfl)) fun g w R hE => Tlaw20_ScorePoints.at0 list_0 peer_1 st hE h
/-! (*trailhead/score.Board).Shunned -/
noncomputable def score_Board_Shunned.B : Code := Tryd.f17.body.getD .skip
noncomputable def score_Board_Shunned.rs (r : (List (List L)) × (List (List L))) : List CV := [.row true 1 r.1]
noncomputable def score_Board_Shunned (N : Nat) (b_0 : Option Nat) (st : List (List L)) : Option ((List (List L)) × (List (List L))) :=
  if (Option.isNone b_0) = true then
    some ([], st)
  else
  optE b_0 fun i1 =>
  optE (st[i1]?) fun e => obj_score_Board e fun x2 x3 =>
  optE (slices_Clone_int N x3) fun x4 =>
  chk (plainRow x4 = true) <|
  some (x4, st)
theorem score_Board_Shunned.at0 (b_0 : Option Nat) (st : List (List L)) {N : Nat} {r : (List (List L)) × (List (List L))} {g0 : G} {w0 : World} {R : Exit → Act → World → Prop} (hE : Ends Tryd.prog Tryd.f17 g0 w0 (score_Board_Shunned.rs r) (r.2) R) (h : score_Board_Shunned N b_0 st = some r) : At g0 w0 (S.enter 10 [.one (L.ptr b_0)] st) (exK Tryd.prog R [.c score_Board_Shunned.B] .normal) := by
  unfold score_Board_Shunned at h
  refine iteB h (fun c1 h1 => ?_) (fun c1 h2 => ?_) <;> clear h
  · obtain rfl := some_inv h1
    exact At.f fol hE 400 [.r [(0, {m := 2})], .r [], .c true, .r [(0, {m := 2})]] [] 0 [0] c1 (by kernel_rfl)
  · obtain ⟨i1, rfl, h3⟩ := optE_inv h2; clear h2
    obtain ⟨h6, c3, h4⟩ := optE_inv h3; clear h3
    obtain ⟨x2, x3, rfl, h5⟩ := obj_score_Board_inv h4; clear h4
    obtain ⟨x4, c4, h7⟩ := optE_inv h5; clear h5
    obtain ⟨c5, h8⟩ := chk_inv h7; clear h7
    obtain rfl := some_inv h8
    exact At.f fol hE 400 [.r [(0, {m := 2})], .r [], .c false, .r [(3, {oc := [L.mp x2, L.own true 1 x3]}), (4, {oc := [L.mp x2, L.own true 1 x3], rs := [.row true 1 x4], ns := [9], m := 2})]] [] 0 [0] (And.intro c1 (And.intro c3 (And.intro (rfl : (0 : Nat) = 0) (And.intro (@rfl Nat (List.length x3)) (And.intro c3 (And.intro c5 (And.intro (slices_Clone_int.snd c4) (And.intro (rfl : (0 : Nat) = 0) (@rfl Nat (List.length x4)))))))))) (by kernel_rfl)
theorem score_Board_Shunned.snd {N : Nat} {b_0 : Option Nat} {st : List (List L)} {r : (List (List L)) × (List (List L))} (h : score_Board_Shunned N b_0 st = some r) : Snd Tryd.prog 17 [.one (L.ptr b_0)] st (score_Board_Shunned.rs r) (r.2) :=
  Snd.of (fn := Tryd.f17) (c := score_Board_Shunned.B) Tryd.func17 (by kernel_rfl) (by kernel_rfl) (of_decide_eq_true (by kernel_rfl)) fun g w R hE => score_Board_Shunned.at0 b_0 st hE h
/-! trailhead/trailheadlaw20.ScoreRow -/
noncomputable def Tlaw20_ScoreRow.B : Code := Tryd.f5.body.getD .skip
noncomputable def Tlaw20_ScoreRow.rs (r : Bool × (List (List L))) : List CV := [.one (L.bool r.1)]
noncomputable def Tlaw20_ScoreRow.p3 (N : Nat) (c2_ : Int → Option (Bool × (List (List L)))) (c1_ : (Int × (List (List L))) → Option (Bool × (List (List L)))) (x3 : Option Nat) (x20 : List (List L)) (v23 : Int) (peers_0 : List (List L)) (v5 : Int) (x22 : Int) (x17 : Int) (st21 : List (List L)) (c3_ : Int → Option (Bool × (List (List L)))) : Int → Option (Bool × (List (List L))) := fun k_24 =>
  if (decide (k_24 < v23)) = true then
    chk (0 ≤ k_24) <|
    chk (k_24 < ((List.length x20 : Nat) : Int)) <|
    optE (x20[0 + (Int.toNat k_24)]?) fun e => dec_i64 e fun x25 =>
    chk (0 ≤ v23) <|
    chk (v23 < ((List.length x20 : Nat) : Int)) <|
    optE (x20[0 + (Int.toNat v23)]?) fun e => dec_i64 e fun x26 =>
    if (x25 == x26) = true then
      some (false, st21)
    else
    c3_ (IntKind.wrap IntKind.i64 (k_24 + 1))
  else
  c2_ (IntKind.wrap IntKind.i64 (v23 + 1))
noncomputable def Tlaw20_ScoreRow.p2 (N : Nat) (c1_ : (Int × (List (List L))) → Option (Bool × (List (List L)))) (x3 : Option Nat) (x20 : List (List L)) (peers_0 : List (List L)) (v5 : Int) (x22 : Int) (x17 : Int) (st21 : List (List L)) (c2_ : Int → Option (Bool × (List (List L)))) : Int → Option (Bool × (List (List L))) := fun v23 =>
  if (decide (v23 < ((List.length x20 : Nat) : Int))) = true then
    loopN (Tlaw20_ScoreRow.p3 N c2_ c1_ x3 x20 v23 peers_0 v5 x22 x17 st21) N 0
  else
  c1_ (IntKind.wrap IntKind.i64 (v5 + 1), st21)
noncomputable def Tlaw20_ScoreRow.p1 (N : Nat)  (x3 : Option Nat) (peers_0 : List (List L)) (c1_ : (Int × (List (List L))) → Option (Bool × (List (List L)))) : (Int × (List (List L))) → Option (Bool × (List (List L))) := fun (v5, st16) =>
  if (decide (v5 < ((List.length peers_0 : Nat) : Int))) = true then
    chk (0 ≤ v5) <|
    optE (peers_0[Int.toNat v5]?) fun e => dec_i64 e fun x17 =>
    chk (1 ≤ (List.length [[L.int .i64 2]])) <|
    optE (score_Board_Blame N x3 x17 (List.take 1 [[L.int .i64 2]]) st16) fun (x18, st19) =>
    if (!x18) = true then
      some (false, st19)
    else
    optE (score_Board_Shunned N x3 st19) fun (x20, st21) =>
    if (decide (((List.length x20 : Nat) : Int) > 16)) = true then
      some (false, st21)
    else
    chk (0 ≤ (IntKind.wrap IntKind.i64 (((List.length x20 : Nat) : Int) - 1))) <|
    chk ((IntKind.wrap IntKind.i64 (((List.length x20 : Nat) : Int) - 1)) < ((List.length x20 : Nat) : Int)) <|
    optE (x20[0 + (Int.toNat (IntKind.wrap IntKind.i64 (((List.length x20 : Nat) : Int) - 1)))]?) fun e => dec_i64 e fun x22 =>
    if (x22 != x17) = true then
      some (false, st21)
    else
    loopN (Tlaw20_ScoreRow.p2 N c1_ x3 x20 peers_0 v5 x22 x17 st21) N 0
  else
  some (true, st16)
noncomputable def Tlaw20_ScoreRow (N : Nat) (peers_0 : List (List L)) (st : List (List L)) : Option (Bool × (List (List L))) :=
  optE (Tlaw20_alive N st) fun (x1, st2) =>
  if (!x1) = true then
    some (false, st2)
  else
  if (decide (((List.length peers_0 : Nat) : Int) > 100)) = true then
    some (true, st2)
  else
  optE (score_New N st2) fun (x3, st4) =>
  loopN (Tlaw20_ScoreRow.p1 N  x3 peers_0) N (0, st4)
noncomputable def Tlaw20_ScoreRow.p3.S (x3 : Option Nat) (x20 : List (List L)) (v23 : Int) (k_24 : Int) (peers_0 : List (List L)) (v5 : Int) (x22 : Int) (x17 : Int) (st21 : List (List L)) : S := mkS 62 [(3, .one (.l (L.ptr x3))), (6, .one (.h (.row 27 0) 1 0 (List.length x20))), (7, .one (.l (L.int .i64 v23))), (8, .one (.l (L.int .i64 k_24))), (15, .one (.l (L.sl 1 peers_0))), (16, .one (.l (L.int .i64 ((List.length peers_0 : Nat) : Int)))), (17, .one (.l (L.int .i64 v5))), (32, .one (.h (.row 27 0) 1 0 (List.length x20))), (33, .one (.h (.row 27 0) 1 0 (List.length x20))), (34, .one (.l (L.int .i64 ((List.length x20 : Nat) : Int)))), (35, .one (.l (L.int .i64 (IntKind.wrap IntKind.i64 (((List.length x20 : Nat) : Int) - 1))))), (36, .one (.eadr (.row 27 0) 1 (0 + (Int.toNat (IntKind.wrap IntKind.i64 (((List.length x20 : Nat) : Int) - 1)))) 0)), (37, .one (.l (L.int .i64 x22))), (38, .one (.l (L.int .i64 x17))), (39, .one (.l (L.bool (x22 != x17)))), (42, .one (.l (L.int .i64 ((List.length x20 : Nat) : Int)))), (43, .one (.l (L.int .i64 v23)))] [(27, .row 0 true 1 x20)] st21
noncomputable def Tlaw20_ScoreRow.p2.S (x3 : Option Nat) (x20 : List (List L)) (peers_0 : List (List L)) (v5 : Int) (x22 : Int) (x17 : Int) (v23 : Int) (st21 : List (List L)) : S := mkS 62 [(3, .one (.l (L.ptr x3))), (6, .one (.h (.row 27 0) 1 0 (List.length x20))), (15, .one (.l (L.sl 1 peers_0))), (16, .one (.l (L.int .i64 ((List.length peers_0 : Nat) : Int)))), (17, .one (.l (L.int .i64 v5))), (32, .one (.h (.row 27 0) 1 0 (List.length x20))), (33, .one (.h (.row 27 0) 1 0 (List.length x20))), (34, .one (.l (L.int .i64 ((List.length x20 : Nat) : Int)))), (35, .one (.l (L.int .i64 (IntKind.wrap IntKind.i64 (((List.length x20 : Nat) : Int) - 1))))), (36, .one (.eadr (.row 27 0) 1 (0 + (Int.toNat (IntKind.wrap IntKind.i64 (((List.length x20 : Nat) : Int) - 1)))) 0)), (37, .one (.l (L.int .i64 x22))), (38, .one (.l (L.int .i64 x17))), (39, .one (.l (L.bool (x22 != x17)))), (42, .one (.l (L.int .i64 ((List.length x20 : Nat) : Int)))), (43, .one (.l (L.int .i64 v23)))] [(27, .row 0 true 1 x20)] st21
noncomputable def Tlaw20_ScoreRow.p1.S (x3 : Option Nat) (peers_0 : List (List L)) (v5 : Int) (st16 : List (List L)) : S := mkS 62 [(3, .one (.l (L.ptr x3))), (15, .one (.l (L.sl 1 peers_0))), (16, .one (.l (L.int .i64 ((List.length peers_0 : Nat) : Int)))), (17, .one (.l (L.int .i64 v5)))] [] st16
theorem Tlaw20_ScoreRow.p3_ok (x3 : Option Nat) (x20 : List (List L)) (v23 : Int) (k_24 : Int) (peers_0 : List (List L)) (v5 : Int) (x22 : Int) (x17 : Int) (st21 : List (List L)) {N : Nat} {r : Bool × (List (List L))} {g0 : G} {w0 : World} {R : Exit → Act → World → Prop} {c2_ : Int → Option (Bool × (List (List L)))} {c1_ : (Int × (List (List L))) → Option (Bool × (List (List L)))} {c3_ : Int → Option (Bool × (List (List L)))} {J2 : Act → World → Prop} {J1 : Act → World → Prop} {J3 : Act → World → Prop} (hE : Ends Tryd.prog Tryd.f5 g0 w0 (Tlaw20_ScoreRow.rs r) (r.2) R) (hc2 : ∀ (v23 : Int), c2_ v23 = some r → At g0 w0 (Tlaw20_ScoreRow.p2.S x3 x20 peers_0 v5 x22 x17 v23 st21) J2) (hc1 : ∀ (v5 : Int) (st16 : List (List L)), c1_ (v5, st16) = some r → At g0 w0 (Tlaw20_ScoreRow.p1.S x3 peers_0 v5 st16) J1) (hc3 : ∀ (k_24 : Int), c3_ k_24 = some r → At g0 w0 (Tlaw20_ScoreRow.p3.S x3 x20 v23 k_24 peers_0 v5 x22 x17 st21) J3) (h : Tlaw20_ScoreRow.p3 N c2_ c1_ x3 x20 v23 peers_0 v5 x22 x17 st21 c3_ k_24 = some r) : At g0 w0 (Tlaw20_ScoreRow.p3.S x3 x20 v23 k_24 peers_0 v5 x22 x17 st21) (exK Tryd.prog R (.c (csub Tlaw20_ScoreRow.B [1, 1, 1, 1, 0, 1, 0, 0, 1, 1, 0, 0, 1, 1, 1, 1, 1, 0, 0, 1, 1, 0, 0, 1, 1, 0, 0]) :: .h J3 :: [.b 4, .b 3, .c (csub Tlaw20_ScoreRow.B [1, 1, 1, 1, 0, 1, 0, 0, 1, 1, 0, 0, 1, 1, 1, 1, 1, 0, 0, 1, 1, 1]), .h J2, .b 2, .b 1, .c (csub Tlaw20_ScoreRow.B [1, 1, 1, 1, 0, 1, 0, 0, 1, 1, 1]), .h J1, .b 0, .c (csub Tlaw20_ScoreRow.B [1, 1, 1, 1, 1])]) .normal) := by
  unfold Tlaw20_ScoreRow.p3 at h
  refine iteB h (fun c39 h1 => ?_) (fun c39 h2 => ?_) <;> clear h
  · obtain ⟨c40, h3⟩ := chk_inv h1; clear h1
    obtain ⟨c41, h4⟩ := chk_inv h3; clear h3
    obtain ⟨h7, c42, h5⟩ := optE_inv h4; clear h4
    obtain ⟨x25, rfl, h6⟩ := dec_i64_inv h5; clear h5
    obtain ⟨c43, h8⟩ := chk_inv h6; clear h6
    obtain ⟨c44, h9⟩ := chk_inv h8; clear h8
    obtain ⟨h12, c45, h10⟩ := optE_inv h9; clear h9
    obtain ⟨x26, rfl, h11⟩ := dec_i64_inv h10; clear h10
    refine iteB h11 (fun c46 h13 => ?_) (fun c46 h14 => ?_) <;> clear h11
    · obtain rfl := some_inv h13
      exact At.fd fol hE 400 [.r [], .c true, .d {ds := [(3, {oe := [L.int .i64 x25]}), (7, {oe := [L.int .i64 x26]})], hv := 0, Hs := []}, .c true, .r []] [] 0 [] (And.intro c39 (And.intro c40 (And.intro c41 (And.intro c42 (And.intro c43 (And.intro c44 (And.intro c45 c46))))))) (by kernel_rfl) (by kernel_rfl)
    · exact At.nd fol 400 [.r [], .c true, .d {ds := [(3, {oe := [L.int .i64 x25]}), (7, {oe := [L.int .i64 x26]})], hv := 0, Hs := []}, .c false, .r []] [3, 6, 7, 8, 15, 16, 17, 32, 33, 34, 35, 36, 37, 38, 39, 42, 43] [27] (And.intro c39 (And.intro c40 (And.intro c41 (And.intro c42 (And.intro c43 (And.intro c44 (And.intro c45 c46))))))) (hc3 (IntKind.wrap IntKind.i64 (k_24 + 1)) h14) (by kernel_rfl) (by kernel_rfl)
  · exact At.n fol 400 [.r [], .c false, .r []] [3, 6, 15, 16, 17, 32, 33, 34, 35, 36, 37, 38, 39, 42, 43] [27] c39 (hc2 (IntKind.wrap IntKind.i64 (v23 + 1)) h2) (by kernel_rfl)
theorem Tlaw20_ScoreRow.p3_loop (x3 : Option Nat) (x20 : List (List L)) (v23 : Int) (k_24 : Int) (peers_0 : List (List L)) (v5 : Int) (x22 : Int) (x17 : Int) (st21 : List (List L)) {N : Nat} {r : Bool × (List (List L))} {g0 : G} {w0 : World} {R : Exit → Act → World → Prop} {c2_ : Int → Option (Bool × (List (List L)))} {c1_ : (Int × (List (List L))) → Option (Bool × (List (List L)))} {J2 : Act → World → Prop} {J1 : Act → World → Prop} (hE : Ends Tryd.prog Tryd.f5 g0 w0 (Tlaw20_ScoreRow.rs r) (r.2) R) (hc2 : ∀ (v23 : Int), c2_ v23 = some r → At g0 w0 (Tlaw20_ScoreRow.p2.S x3 x20 peers_0 v5 x22 x17 v23 st21) J2) (hc1 : ∀ (v5 : Int) (st16 : List (List L)), c1_ (v5, st16) = some r → At g0 w0 (Tlaw20_ScoreRow.p1.S x3 peers_0 v5 st16) J1) (h : loopN (Tlaw20_ScoreRow.p3 N c2_ c1_ x3 x20 v23 peers_0 v5 x22 x17 st21) N k_24 = some r) : At g0 w0 (Tlaw20_ScoreRow.p3.S x3 x20 v23 k_24 peers_0 v5 x22 x17 st21) (exK Tryd.prog R (.c (.loop (csub Tlaw20_ScoreRow.B [1, 1, 1, 1, 0, 1, 0, 0, 1, 1, 0, 0, 1, 1, 1, 1, 1, 0, 0, 1, 1, 0, 0, 1, 1, 0, 0])) :: [.b 4, .b 3, .c (csub Tlaw20_ScoreRow.B [1, 1, 1, 1, 0, 1, 0, 0, 1, 1, 0, 0, 1, 1, 1, 1, 1, 0, 0, 1, 1, 1]), .h J2, .b 2, .b 1, .c (csub Tlaw20_ScoreRow.B [1, 1, 1, 1, 0, 1, 0, 0, 1, 1, 1]), .h J1, .b 0, .c (csub Tlaw20_ScoreRow.B [1, 1, 1, 1, 1])]) .normal) :=
  At.loop N (At.loopN (fun y : Int => Tlaw20_ScoreRow.p3.S x3 x20 v23 y peers_0 v5 x22 x17 st21) (fun c J hc y h => Tlaw20_ScoreRow.p3_ok x3 x20 v23 y peers_0 v5 x22 x17 st21 hE hc2 hc1 (fun k_24 hh => hc k_24 hh) h) N k_24 h)
theorem Tlaw20_ScoreRow.p2_ok (x3 : Option Nat) (x20 : List (List L)) (peers_0 : List (List L)) (v5 : Int) (x22 : Int) (x17 : Int) (v23 : Int) (st21 : List (List L)) {N : Nat} {r : Bool × (List (List L))} {g0 : G} {w0 : World} {R : Exit → Act → World → Prop} {c1_ : (Int × (List (List L))) → Option (Bool × (List (List L)))} {c2_ : Int → Option (Bool × (List (List L)))} {J1 : Act → World → Prop} {J2 : Act → World → Prop} (hE : Ends Tryd.prog Tryd.f5 g0 w0 (Tlaw20_ScoreRow.rs r) (r.2) R) (hc1 : ∀ (v5 : Int) (st16 : List (List L)), c1_ (v5, st16) = some r → At g0 w0 (Tlaw20_ScoreRow.p1.S x3 peers_0 v5 st16) J1) (hc2 : ∀ (v23 : Int), c2_ v23 = some r → At g0 w0 (Tlaw20_ScoreRow.p2.S x3 x20 peers_0 v5 x22 x17 v23 st21) J2) (h : Tlaw20_ScoreRow.p2 N c1_ x3 x20 peers_0 v5 x22 x17 st21 c2_ v23 = some r) : At g0 w0 (Tlaw20_ScoreRow.p2.S x3 x20 peers_0 v5 x22 x17 v23 st21) (exK Tryd.prog R (.c (csub Tlaw20_ScoreRow.B [1, 1, 1, 1, 0, 1, 0, 0, 1, 1, 0, 0, 1, 1, 1, 1, 1, 0, 0]) :: .h J2 :: [.b 2, .b 1, .c (csub Tlaw20_ScoreRow.B [1, 1, 1, 1, 0, 1, 0, 0, 1, 1, 1]), .h J1, .b 0, .c (csub Tlaw20_ScoreRow.B [1, 1, 1, 1, 1])]) .normal) := by
  unfold Tlaw20_ScoreRow.p2 at h
  refine iteB h (fun c38 h15 => ?_) (fun c38 h16 => ?_) <;> clear h
  · exact At.q fol 400 [.r [], .c true, .r [], .r []] [3, 6, 7, 8, 15, 16, 17, 32, 33, 34, 35, 36, 37, 38, 39, 42, 43] [27] c38 (Tlaw20_ScoreRow.p3_loop x3 x20 v23 0 peers_0 v5 x22 x17 st21 hE hc2 hc1 h15) (by kernel_rfl)
  · exact At.n fol 400 [.r [], .c false, .r []] [3, 15, 16, 17] [] c38 (hc1 (IntKind.wrap IntKind.i64 (v5 + 1)) st21 h16) (by kernel_rfl)
theorem Tlaw20_ScoreRow.p2_loop (x3 : Option Nat) (x20 : List (List L)) (peers_0 : List (List L)) (v5 : Int) (x22 : Int) (x17 : Int) (v23 : Int) (st21 : List (List L)) {N : Nat} {r : Bool × (List (List L))} {g0 : G} {w0 : World} {R : Exit → Act → World → Prop} {c1_ : (Int × (List (List L))) → Option (Bool × (List (List L)))} {J1 : Act → World → Prop} (hE : Ends Tryd.prog Tryd.f5 g0 w0 (Tlaw20_ScoreRow.rs r) (r.2) R) (hc1 : ∀ (v5 : Int) (st16 : List (List L)), c1_ (v5, st16) = some r → At g0 w0 (Tlaw20_ScoreRow.p1.S x3 peers_0 v5 st16) J1) (h : loopN (Tlaw20_ScoreRow.p2 N c1_ x3 x20 peers_0 v5 x22 x17 st21) N v23 = some r) : At g0 w0 (Tlaw20_ScoreRow.p2.S x3 x20 peers_0 v5 x22 x17 v23 st21) (exK Tryd.prog R (.c (.loop (csub Tlaw20_ScoreRow.B [1, 1, 1, 1, 0, 1, 0, 0, 1, 1, 0, 0, 1, 1, 1, 1, 1, 0, 0])) :: [.b 2, .b 1, .c (csub Tlaw20_ScoreRow.B [1, 1, 1, 1, 0, 1, 0, 0, 1, 1, 1]), .h J1, .b 0, .c (csub Tlaw20_ScoreRow.B [1, 1, 1, 1, 1])]) .normal) :=
  At.loop N (At.loopN (fun y : Int => Tlaw20_ScoreRow.p2.S x3 x20 peers_0 v5 x22 x17 y st21) (fun c J hc y h => Tlaw20_ScoreRow.p2_ok x3 x20 peers_0 v5 x22 x17 y st21 hE hc1 (fun v23 hh => hc v23 hh) h) N v23 h)
theorem Tlaw20_ScoreRow.p1_ok (x3 : Option Nat) (peers_0 : List (List L)) (v5 : Int) (st16 : List (List L)) {N : Nat} {r : Bool × (List (List L))} {g0 : G} {w0 : World} {R : Exit → Act → World → Prop}  {c1_ : (Int × (List (List L))) → Option (Bool × (List (List L)))}  {J1 : Act → World → Prop} (hE : Ends Tryd.prog Tryd.f5 g0 w0 (Tlaw20_ScoreRow.rs r) (r.2) R)  (hc1 : ∀ (v5 : Int) (st16 : List (List L)), c1_ (v5, st16) = some r → At g0 w0 (Tlaw20_ScoreRow.p1.S x3 peers_0 v5 st16) J1) (h : Tlaw20_ScoreRow.p1 N  x3 peers_0 c1_ (v5, st16) = some r) : At g0 w0 (Tlaw20_ScoreRow.p1.S x3 peers_0 v5 st16) (exK Tryd.prog R (.c (csub Tlaw20_ScoreRow.B [1, 1, 1, 1, 0, 1, 0, 0]) :: .h J1 :: [.b 0, .c (csub Tlaw20_ScoreRow.B [1, 1, 1, 1, 1])]) .normal) := by
  unfold Tlaw20_ScoreRow.p1 at h
  refine iteB h (fun c26 h17 => ?_) (fun c26 h18 => ?_) <;> clear h
  · obtain ⟨c27, h19⟩ := chk_inv h17; clear h17
    obtain ⟨h22, c28, h20⟩ := optE_inv h19; clear h19
    obtain ⟨x17, rfl, h21⟩ := dec_i64_inv h20; clear h20
    obtain ⟨c29, h23⟩ := chk_inv h21; clear h21
    obtain ⟨⟨x18, st19⟩, c30, h24⟩ := optE_inv h23; clear h23
    refine iteB h24 (fun c31 h25 => ?_) (fun c31 h26 => ?_) <;> clear h24
    · obtain rfl := some_inv h25
      exact At.f fol hE 400 [.r [], .c true, .r [(1, {oe := [L.int .i64 x17]})], .r [(3, {rs := [.one (L.bool x18)], st := st19, wm := 2, fz := [23]})], .c true, .r []] [] 0 [] (And.intro c26 (And.intro c27 (And.intro (of_decide_eq_true c26) (And.intro c28 (And.intro (rfl : (0 : Nat) = 0) (And.intro c29 (And.intro (score_Board_Blame.snd c30) c31))))))) (by kernel_rfl)
    · obtain ⟨⟨x20, st21⟩, c32, h27⟩ := optE_inv h26; clear h26
      refine iteB h27 (fun c33 h28 => ?_) (fun c33 h29 => ?_) <;> clear h27
      · obtain rfl := some_inv h28
        exact At.f fol hE 400 [.r [], .c true, .r [(1, {oe := [L.int .i64 x17]})], .r [(3, {rs := [.one (L.bool x18)], st := st19, wm := 2, fz := [23]})], .c false, .r [(1, {rs := [.row true 1 x20], st := st21, ns := [27]})], .r [(4, {want := false}), (5, {want := false}), (6, {want := false}), (7, {want := false}), (8, {want := false}), (9, {want := false}), (10, {want := false}), (11, {want := false})], .c true, .r []] [] 0 [] (And.intro c26 (And.intro c27 (And.intro (of_decide_eq_true c26) (And.intro c28 (And.intro (rfl : (0 : Nat) = 0) (And.intro c29 (And.intro (score_Board_Blame.snd c30) (And.intro c31 (And.intro (score_Board_Shunned.snd c32) (And.intro c33 (And.intro c33 (And.intro c33 (And.intro c33 (And.intro c33 (And.intro c33 (And.intro c33 (And.intro c33 (And.intro c33 (rfl : true = true))))))))))))))))))) (by kernel_rfl)
      · obtain ⟨c34, h30⟩ := chk_inv h29; clear h29
        obtain ⟨c35, h31⟩ := chk_inv h30; clear h30
        obtain ⟨h34, c36, h32⟩ := optE_inv h31; clear h31
        obtain ⟨x22, rfl, h33⟩ := dec_i64_inv h32; clear h32
        refine iteB h33 (fun c37 h35 => ?_) (fun c37 h36 => ?_) <;> clear h33
        · obtain rfl := some_inv h35
          exact At.f fol hE 400 [.r [], .c true, .r [(1, {oe := [L.int .i64 x17]})], .r [(3, {rs := [.one (L.bool x18)], st := st19, wm := 2, fz := [23]})], .c false, .r [(1, {rs := [.row true 1 x20], st := st21, ns := [27]})], .r [(9, {oe := [L.int .i64 x22]}), (12, {yes := false})], .c true, .r []] [] 0 [] (And.intro c26 (And.intro c27 (And.intro (of_decide_eq_true c26) (And.intro c28 (And.intro (rfl : (0 : Nat) = 0) (And.intro c29 (And.intro (score_Board_Blame.snd c30) (And.intro c31 (And.intro (score_Board_Shunned.snd c32) (And.intro c33 (And.intro c33 (And.intro c33 (And.intro c33 (And.intro c33 (And.intro c34 (And.intro c35 (And.intro c33 (And.intro c36 (And.intro c33 (And.intro c33 (And.intro c33 c37))))))))))))))))))))) (by kernel_rfl)
        · exact At.q fol 400 [.r [], .c true, .r [(1, {oe := [L.int .i64 x17]})], .r [(3, {rs := [.one (L.bool x18)], st := st19, wm := 2, fz := [23]})], .c false, .r [(1, {rs := [.row true 1 x20], st := st21, ns := [27]})], .r [(9, {oe := [L.int .i64 x22]}), (12, {yes := false})], .c false, .r []] [3, 6, 15, 16, 17, 32, 33, 34, 35, 36, 37, 38, 39, 42, 43] [27] (And.intro c26 (And.intro c27 (And.intro (of_decide_eq_true c26) (And.intro c28 (And.intro (rfl : (0 : Nat) = 0) (And.intro c29 (And.intro (score_Board_Blame.snd c30) (And.intro c31 (And.intro (score_Board_Shunned.snd c32) (And.intro c33 (And.intro c33 (And.intro c33 (And.intro c33 (And.intro c33 (And.intro c34 (And.intro c35 (And.intro c33 (And.intro c36 (And.intro c33 (And.intro c33 (And.intro c33 c37))))))))))))))))))))) (Tlaw20_ScoreRow.p2_loop x3 x20 peers_0 v5 x22 x17 0 st21 hE hc1 h36) (by kernel_rfl)
  · obtain rfl := some_inv h18
    exact At.f fol hE 400 [.r [], .c false, .r []] [] 0 [] c26 (by kernel_rfl)
theorem Tlaw20_ScoreRow.p1_loop (x3 : Option Nat) (peers_0 : List (List L)) (v5 : Int) (st16 : List (List L)) {N : Nat} {r : Bool × (List (List L))} {g0 : G} {w0 : World} {R : Exit → Act → World → Prop}   (hE : Ends Tryd.prog Tryd.f5 g0 w0 (Tlaw20_ScoreRow.rs r) (r.2) R)  (h : loopN (Tlaw20_ScoreRow.p1 N  x3 peers_0) N (v5, st16) = some r) : At g0 w0 (Tlaw20_ScoreRow.p1.S x3 peers_0 v5 st16) (exK Tryd.prog R (.c (.loop (csub Tlaw20_ScoreRow.B [1, 1, 1, 1, 0, 1, 0, 0])) :: [.b 0, .c (csub Tlaw20_ScoreRow.B [1, 1, 1, 1, 1])]) .normal) :=
  At.loop N (At.loopN (fun y : Int × (List (List L)) => Tlaw20_ScoreRow.p1.S x3 peers_0 y.1 y.2) (fun c J hc y h => Tlaw20_ScoreRow.p1_ok x3 peers_0 y.1 y.2 hE  (fun v5 st16 hh => hc (v5, st16) hh) h) N (v5, st16) h)
theorem Tlaw20_ScoreRow.at0 (peers_0 : List (List L)) (st : List (List L)) {N : Nat} {r : Bool × (List (List L))} {g0 : G} {w0 : World} {R : Exit → Act → World → Prop} (hE : Ends Tryd.prog Tryd.f5 g0 w0 (Tlaw20_ScoreRow.rs r) (r.2) R) (h : Tlaw20_ScoreRow N peers_0 st = some r) : At g0 w0 (S.enter 62 [.one (L.sl 1 peers_0)] st) (exK Tryd.prog R [.c Tlaw20_ScoreRow.B] .normal) := by
  unfold Tlaw20_ScoreRow at h
  obtain ⟨⟨x1, st2⟩, c1, h37⟩ := optE_inv h; clear h
  refine iteB h37 (fun c2 h38 => ?_) (fun c2 h39 => ?_) <;> clear h37
  · obtain rfl := some_inv h38
    exact At.f fol hE 400 [.r [], .r [(0, {rs := [.one (L.bool x1)], st := st2})], .c true, .r []] [] 0 [] (And.intro (Tlaw20_alive.snd c1) c2) (by kernel_rfl)
  · refine iteB h39 (fun c3 h40 => ?_) (fun c3 h41 => ?_) <;> clear h39
    · obtain rfl := some_inv h40
      exact At.f fol hE 400 [.r [], .r [(0, {rs := [.one (L.bool x1)], st := st2})], .c false, .r [], .c true, .r []] [] 0 [] (And.intro (Tlaw20_alive.snd c1) (And.intro c2 c3)) (by kernel_rfl)
    · obtain ⟨⟨x3, st4⟩, c4, h42⟩ := optE_inv h41; clear h41
      exact At.q fol 400 [.r [], .r [(0, {rs := [.one (L.bool x1)], st := st2})], .c false, .r [], .c false, .r [(0, {rs := [.one (L.ptr x3)], st := st4})], .r []] [3, 15, 16, 17] [] (And.intro (Tlaw20_alive.snd c1) (And.intro c2 (And.intro c3 (score_New.snd c4)))) (Tlaw20_ScoreRow.p1_loop x3 peers_0 0 st4 hE  h42) (by kernel_rfl)
theorem Tlaw20_ScoreRow.snd {N : Nat} {peers_0 : List (List L)} {st : List (List L)} {r : Bool × (List (List L))} (h : Tlaw20_ScoreRow N peers_0 st = some r) : Snd Tryd.prog 5 [.one (L.sl 1 peers_0)] st (Tlaw20_ScoreRow.rs r) (r.2) :=
  Snd.of (fn := Tryd.f5) (c := Tlaw20_ScoreRow.B) Tryd.func5 (by kernel_rfl) (by kernel_rfl) (of_decide_eq_true (by kernel_rfl)) fun g w R hE => Tlaw20_ScoreRow.at0 peers_0 st hE h
/-! trailhead/trailheadref20.Points -/
noncomputable def Tref20_Points.B : Code := Tryd.f18.body.getD .skip
noncomputable def Tref20_Points.rs (r : Int) : List CV := [.one (L.int .i64 r)]
noncomputable def Tref20_Points (N : Nat) (f_0 : Int) : Option Int :=
  if (decide (f_0 < 1)) = true then
    some 0
  else
  if (decide (f_0 > 7)) = true then
    some 0
  else
  chk (0 ≤ (IntKind.wrap IntKind.i64 (f_0 - 1))) <|
  chk ((IntKind.wrap IntKind.i64 (f_0 - 1)) < 7) <|
  some (List.getD [100, 100, 100, 20, 100, 50, 10] (Int.toNat (IntKind.wrap IntKind.i64 (f_0 - 1))) 0)
theorem Tref20_Points.at0 (f_0 : Int) (st : List (List L)) {N : Nat} {r : Int} {g0 : G} {w0 : World} {R : Exit → Act → World → Prop} (hE : Ends Tryd.prog Tryd.f18 g0 w0 (Tref20_Points.rs r) st R) (h : Tref20_Points N f_0 = some r) : At g0 w0 (S.enter 13 [.one (L.int .i64 f_0)] st) (exK Tryd.prog R [.c Tref20_Points.B] .normal) := by
  unfold Tref20_Points at h
  refine iteB h (fun c1 h1 => ?_) (fun c1 h2 => ?_) <;> clear h
  · obtain rfl := some_inv h1
    exact At.f fol hE 400 [.r [], .r [(3, {want := false}), (4, {want := false})], .c true, .r []] [] 0 [] (And.intro c1 (And.intro c1 (And.intro c1 (rfl : true = true)))) (by kernel_rfl)
  · refine iteB h2 (fun c2 h3 => ?_) (fun c2 h4 => ?_) <;> clear h2
    · obtain rfl := some_inv h3
      exact At.f fol hE 400 [.r [], .r [(5, {yes := false})], .c true, .r []] [] 0 [] (And.intro c1 (And.intro c1 (And.intro c1 c2))) (by kernel_rfl)
    · obtain ⟨c3, h5⟩ := chk_inv h4; clear h4
      obtain ⟨c4, h6⟩ := chk_inv h5; clear h5
      obtain rfl := some_inv h6
      exact At.f fol hE 400 [.r [], .r [(5, {yes := false})], .c false, .r [(0, {m := 3})]] [] 0 [] (And.intro c1 (And.intro c1 (And.intro c1 (And.intro c2 (And.intro c3 c4))))) (by kernel_rfl)
theorem Tref20_Points.snd {N : Nat} {f_0 : Int} {r : Int} (h : Tref20_Points N f_0 = some r) : SndQ Tryd.prog 18 [.one (L.int .i64 f_0)] (Tref20_Points.rs r) := fun st =>
  Snd.of (fn := Tryd.f18) (c := Tref20_Points.B) Tryd.func18 (by kernel_rfl) (by kernel_rfl) (of_decide_eq_true (by kernel_rfl)) fun g w R hE => Tref20_Points.at0 f_0 st hE h
/-! (*trailhead/trailheadref20.Board).Shuns -/
noncomputable def Tref20_Board_Shuns.B : Code := Tryd.f22.body.getD .skip
noncomputable def Tref20_Board_Shuns.rs (r : Bool × (List (List L))) : List CV := [.one (L.bool r.1)]
noncomputable def Tref20_Board_Shuns.p1 (N : Nat)  (peer_1 : Int) (i1 : Nat) (x4 : List (List L)) (st : List (List L)) (c1_ : Int → Option (Bool × (List (List L)))) : Int → Option (Bool × (List (List L))) := fun v5 =>
  if (decide (v5 < ((List.length x4 : Nat) : Int))) = true then
    chk (0 ≤ v5) <|
    optE (st[i1]?) fun e => obj_trailheadref20_Board e fun x6 x7 x8 =>
    optE (x8[0 + (Int.toNat v5)]?) fun e => dec_i64 e fun x9 =>
    if (x9 == peer_1) = true then
      some (true, st)
    else
    c1_ (IntKind.wrap IntKind.i64 (v5 + 1))
  else
  some (false, st)
noncomputable def Tref20_Board_Shuns (N : Nat) (b_0 : Option Nat) (peer_1 : Int) (st : List (List L)) : Option (Bool × (List (List L))) :=
  optE b_0 fun i1 =>
  optE (st[i1]?) fun e => obj_trailheadref20_Board e fun x2 x3 x4 =>
  loopN (Tref20_Board_Shuns.p1 N  peer_1 i1 x4 st) N 0
noncomputable def Tref20_Board_Shuns.p1.S (peer_1 : Int) (i1 : Nat) (x4 : List (List L)) (v5 : Int) (st : List (List L)) : S := mkS 20 [(1, .one (.l (L.int .i64 peer_1))), (10, .one (.h (.mem (.obj i1) 2 0) 1 0 (List.length x4))), (11, .one (.l (L.int .i64 ((List.length x4 : Nat) : Int)))), (12, .one (.l (L.int .i64 v5)))] [] st
theorem Tref20_Board_Shuns.p1_ok (peer_1 : Int) (i1 : Nat) (x4 : List (List L)) (v5 : Int) (st : List (List L)) {N : Nat} {r : Bool × (List (List L))} {g0 : G} {w0 : World} {R : Exit → Act → World → Prop}  {c1_ : Int → Option (Bool × (List (List L)))}  {J1 : Act → World → Prop} (hE : Ends Tryd.prog Tryd.f22 g0 w0 (Tref20_Board_Shuns.rs r) (r.2) R)  (hc1 : ∀ (v5 : Int), c1_ v5 = some r → At g0 w0 (Tref20_Board_Shuns.p1.S peer_1 i1 x4 v5 st) J1) (h : Tref20_Board_Shuns.p1 N  peer_1 i1 x4 st c1_ v5 = some r) : At g0 w0 (Tref20_Board_Shuns.p1.S peer_1 i1 x4 v5 st) (exK Tryd.prog R (.c (csub Tref20_Board_Shuns.B [1, 0, 1, 0, 0]) :: .h J1 :: [.b 0, .c (csub Tref20_Board_Shuns.B [1, 1])]) .normal) := by
  unfold Tref20_Board_Shuns.p1 at h
  refine iteB h (fun c3 h1 => ?_) (fun c3 h2 => ?_) <;> clear h
  · obtain ⟨c4, h3⟩ := chk_inv h1; clear h1
    obtain ⟨h6, c5, h4⟩ := optE_inv h3; clear h3
    obtain ⟨x6, x7, x8, rfl, h5⟩ := obj_trailheadref20_Board_inv h4; clear h4
    obtain ⟨h9, c6, h7⟩ := optE_inv h5; clear h5
    obtain ⟨x9, rfl, h8⟩ := dec_i64_inv h7; clear h7
    refine iteB h8 (fun c7 h10 => ?_) (fun c7 h11 => ?_) <;> clear h8
    · obtain rfl := some_inv h10
      exact At.f fol hE 400 [.r [], .c true, .r [(1, {oc := [L.own true 1 x6, L.own true 1 x7, L.own true 1 x8], oe := [L.int .i64 x9]})], .r [], .c true, .r []] [] 0 [] (And.intro c3 (And.intro c4 (And.intro (of_decide_eq_true c3) (And.intro c6 (And.intro c5 c7))))) (by kernel_rfl)
    · exact At.n fol 400 [.r [], .c true, .r [(1, {oc := [L.own true 1 x6, L.own true 1 x7, L.own true 1 x8], oe := [L.int .i64 x9]})], .r [], .c false, .r []] [1, 10, 11, 12] [] (And.intro c3 (And.intro c4 (And.intro (of_decide_eq_true c3) (And.intro c6 (And.intro c5 c7))))) (hc1 (IntKind.wrap IntKind.i64 (v5 + 1)) h11) (by kernel_rfl)
  · obtain rfl := some_inv h2
    exact At.f fol hE 400 [.r [], .c false, .r []] [] 0 [] c3 (by kernel_rfl)
theorem Tref20_Board_Shuns.p1_loop (peer_1 : Int) (i1 : Nat) (x4 : List (List L)) (v5 : Int) (st : List (List L)) {N : Nat} {r : Bool × (List (List L))} {g0 : G} {w0 : World} {R : Exit → Act → World → Prop}   (hE : Ends Tryd.prog Tryd.f22 g0 w0 (Tref20_Board_Shuns.rs r) (r.2) R)  (h : loopN (Tref20_Board_Shuns.p1 N  peer_1 i1 x4 st) N v5 = some r) : At g0 w0 (Tref20_Board_Shuns.p1.S peer_1 i1 x4 v5 st) (exK Tryd.prog R (.c (.loop (csub Tref20_Board_Shuns.B [1, 0, 1, 0, 0])) :: [.b 0, .c (csub Tref20_Board_Shuns.B [1, 1])]) .normal) :=
  At.loop N (At.loopN (fun y : Int => Tref20_Board_Shuns.p1.S peer_1 i1 x4 y st) (fun c J hc y h => Tref20_Board_Shuns.p1_ok peer_1 i1 x4 y st hE  (fun v5 hh => hc v5 hh) h) N v5 h)
theorem Tref20_Board_Shuns.at0 (b_0 : Option Nat) (peer_1 : Int) (st : List (List L)) {N : Nat} {r : Bool × (List (List L))} {g0 : G} {w0 : World} {R : Exit → Act → World → Prop} (hE : Ends Tryd.prog Tryd.f22 g0 w0 (Tref20_Board_Shuns.rs r) (r.2) R) (h : Tref20_Board_Shuns N b_0 peer_1 st = some r) : At g0 w0 (S.enter 20 [.one (L.ptr b_0), .one (L.int .i64 peer_1)] st) (exK Tryd.prog R [.c Tref20_Board_Shuns.B] .normal) := by
  unfold Tref20_Board_Shuns at h
  obtain ⟨i1, rfl, h12⟩ := optE_inv h; clear h
  obtain ⟨h15, c2, h13⟩ := optE_inv h12; clear h12
  obtain ⟨x2, x3, x4, rfl, h14⟩ := obj_trailheadref20_Board_inv h13; clear h13
  exact At.q fol 400 [.r [], .r [(3, {oc := [L.own true 1 x2, L.own true 1 x3, L.own true 1 x4]})]] [1, 10, 11, 12] [] c2 (Tref20_Board_Shuns.p1_loop peer_1 i1 x4 0 st hE  h14) (by kernel_rfl)
theorem Tref20_Board_Shuns.snd {N : Nat} {b_0 : Option Nat} {peer_1 : Int} {st : List (List L)} {r : Bool × (List (List L))} (h : Tref20_Board_Shuns N b_0 peer_1 st = some r) : Snd Tryd.prog 22 [.one (L.ptr b_0), .one (L.int .i64 peer_1)] st (Tref20_Board_Shuns.rs r) (r.2) :=
  Snd.of (fn := Tryd.f22) (c := Tref20_Board_Shuns.B) Tryd.func22 (by kernel_rfl) (by kernel_rfl) (of_decide_eq_true (by kernel_rfl)) fun g w R hE => Tref20_Board_Shuns.at0 b_0 peer_1 st hE h
/-! (*trailhead/trailheadref20.Board).at -/
noncomputable def Tref20_Board_at.B : Code := Tryd.f31.body.getD .skip
noncomputable def Tref20_Board_at.rs (r : Int × (List (List L))) : List CV := [.one (L.int .i64 r.1)]
noncomputable def Tref20_Board_at.p1 (N : Nat)  (peer_1 : Int) (i1 : Nat) (x2 : List (List L)) (st : List (List L)) (c1_ : Int → Option (Int × (List (List L)))) : Int → Option (Int × (List (List L))) := fun v5 =>
  if (decide (v5 < ((List.length x2 : Nat) : Int))) = true then
    chk (0 ≤ v5) <|
    optE (st[i1]?) fun e => obj_trailheadref20_Board e fun x6 x7 x8 =>
    optE (x6[0 + (Int.toNat v5)]?) fun e => dec_i64 e fun x9 =>
    if (x9 == peer_1) = true then
      some (v5, st)
    else
    c1_ (IntKind.wrap IntKind.i64 (v5 + 1))
  else
  some ((-1), st)
noncomputable def Tref20_Board_at (N : Nat) (b_0 : Option Nat) (peer_1 : Int) (st : List (List L)) : Option (Int × (List (List L))) :=
  optE b_0 fun i1 =>
  optE (st[i1]?) fun e => obj_trailheadref20_Board e fun x2 x3 x4 =>
  loopN (Tref20_Board_at.p1 N  peer_1 i1 x2 st) N 0
noncomputable def Tref20_Board_at.p1.S (peer_1 : Int) (i1 : Nat) (x2 : List (List L)) (v5 : Int) (st : List (List L)) : S := mkS 22 [(1, .one (.l (L.int .i64 peer_1))), (10, .one (.h (.mem (.obj i1) 0 0) 1 0 (List.length x2))), (11, .one (.l (L.int .i64 ((List.length x2 : Nat) : Int)))), (12, .one (.l (L.int .i64 v5)))] [] st
theorem Tref20_Board_at.p1_ok (peer_1 : Int) (i1 : Nat) (x2 : List (List L)) (v5 : Int) (st : List (List L)) {N : Nat} {r : Int × (List (List L))} {g0 : G} {w0 : World} {R : Exit → Act → World → Prop}  {c1_ : Int → Option (Int × (List (List L)))}  {J1 : Act → World → Prop} (hE : Ends Tryd.prog Tryd.f31 g0 w0 (Tref20_Board_at.rs r) (r.2) R)  (hc1 : ∀ (v5 : Int), c1_ v5 = some r → At g0 w0 (Tref20_Board_at.p1.S peer_1 i1 x2 v5 st) J1) (h : Tref20_Board_at.p1 N  peer_1 i1 x2 st c1_ v5 = some r) : At g0 w0 (Tref20_Board_at.p1.S peer_1 i1 x2 v5 st) (exK Tryd.prog R (.c (csub Tref20_Board_at.B [1, 0, 1, 0, 0]) :: .h J1 :: [.b 0, .c (csub Tref20_Board_at.B [1, 1])]) .normal) := by
  unfold Tref20_Board_at.p1 at h
  refine iteB h (fun c3 h1 => ?_) (fun c3 h2 => ?_) <;> clear h
  · obtain ⟨c4, h3⟩ := chk_inv h1; clear h1
    obtain ⟨h6, c5, h4⟩ := optE_inv h3; clear h3
    obtain ⟨x6, x7, x8, rfl, h5⟩ := obj_trailheadref20_Board_inv h4; clear h4
    obtain ⟨h9, c6, h7⟩ := optE_inv h5; clear h5
    obtain ⟨x9, rfl, h8⟩ := dec_i64_inv h7; clear h7
    refine iteB h8 (fun c7 h10 => ?_) (fun c7 h11 => ?_) <;> clear h8
    · obtain rfl := some_inv h10
      exact At.f fol hE 400 [.r [], .c true, .r [(2, {oc := [L.own true 1 x6, L.own true 1 x7, L.own true 1 x8], oe := [L.int .i64 x9]})], .r [], .c true, .r []] [] 0 [] (And.intro c3 (And.intro c4 (And.intro (of_decide_eq_true c3) (And.intro c6 (And.intro c5 c7))))) (by kernel_rfl)
    · exact At.n fol 400 [.r [], .c true, .r [(2, {oc := [L.own true 1 x6, L.own true 1 x7, L.own true 1 x8], oe := [L.int .i64 x9]})], .r [], .c false, .r []] [1, 10, 11, 12] [] (And.intro c3 (And.intro c4 (And.intro (of_decide_eq_true c3) (And.intro c6 (And.intro c5 c7))))) (hc1 (IntKind.wrap IntKind.i64 (v5 + 1)) h11) (by kernel_rfl)
  · obtain rfl := some_inv h2
    exact At.f fol hE 400 [.r [], .c false, .r []] [] 0 [] c3 (by kernel_rfl)
theorem Tref20_Board_at.p1_loop (peer_1 : Int) (i1 : Nat) (x2 : List (List L)) (v5 : Int) (st : List (List L)) {N : Nat} {r : Int × (List (List L))} {g0 : G} {w0 : World} {R : Exit → Act → World → Prop}   (hE : Ends Tryd.prog Tryd.f31 g0 w0 (Tref20_Board_at.rs r) (r.2) R)  (h : loopN (Tref20_Board_at.p1 N  peer_1 i1 x2 st) N v5 = some r) : At g0 w0 (Tref20_Board_at.p1.S peer_1 i1 x2 v5 st) (exK Tryd.prog R (.c (.loop (csub Tref20_Board_at.B [1, 0, 1, 0, 0])) :: [.b 0, .c (csub Tref20_Board_at.B [1, 1])]) .normal) :=
  At.loop N (At.loopN (fun y : Int => Tref20_Board_at.p1.S peer_1 i1 x2 y st) (fun c J hc y h => Tref20_Board_at.p1_ok peer_1 i1 x2 y st hE  (fun v5 hh => hc v5 hh) h) N v5 h)
theorem Tref20_Board_at.at0 (b_0 : Option Nat) (peer_1 : Int) (st : List (List L)) {N : Nat} {r : Int × (List (List L))} {g0 : G} {w0 : World} {R : Exit → Act → World → Prop} (hE : Ends Tryd.prog Tryd.f31 g0 w0 (Tref20_Board_at.rs r) (r.2) R) (h : Tref20_Board_at N b_0 peer_1 st = some r) : At g0 w0 (S.enter 22 [.one (L.ptr b_0), .one (L.int .i64 peer_1)] st) (exK Tryd.prog R [.c Tref20_Board_at.B] .normal) := by
  unfold Tref20_Board_at at h
  obtain ⟨i1, rfl, h12⟩ := optE_inv h; clear h
  obtain ⟨h15, c2, h13⟩ := optE_inv h12; clear h12
  obtain ⟨x2, x3, x4, rfl, h14⟩ := obj_trailheadref20_Board_inv h13; clear h13
  exact At.q fol 400 [.r [], .r [(3, {oc := [L.own true 1 x2, L.own true 1 x3, L.own true 1 x4]})]] [1, 10, 11, 12] [] c2 (Tref20_Board_at.p1_loop peer_1 i1 x2 0 st hE  h14) (by kernel_rfl)
theorem Tref20_Board_at.snd {N : Nat} {b_0 : Option Nat} {peer_1 : Int} {st : List (List L)} {r : Int × (List (List L))} (h : Tref20_Board_at N b_0 peer_1 st = some r) : Snd Tryd.prog 31 [.one (L.ptr b_0), .one (L.int .i64 peer_1)] st (Tref20_Board_at.rs r) (r.2) :=
  Snd.of (fn := Tryd.f31) (c := Tref20_Board_at.B) Tryd.func31 (by kernel_rfl) (by kernel_rfl) (of_decide_eq_true (by kernel_rfl)) fun g w R hE => Tref20_Board_at.at0 b_0 peer_1 st hE h
/-! (*trailhead/trailheadref20.Board).Blame -/
noncomputable def Tref20_Board_Blame.B : Code := Tryd.f19.body.getD .skip
noncomputable def Tref20_Board_Blame.rs (r : Bool × (List (List L))) : List CV := [.one (L.bool r.1)]
noncomputable def Tref20_Board_Blame.p4 (N : Nat) (c3_ : ((List (List L)) × Int) → Option (Bool × (List (List L)))) (i17 : Nat) (peer_1 : Int) (row_37 : List (List L)) (x20 : List (List L)) (v23 : Int) (st16 : List (List L)) (x18 : List (List L)) (x19 : List (List L)) (x15 : Int) (x21 : Int) (n_1 : Int) : Option (Bool × (List (List L))) :=
  c3_ (row_37, IntKind.wrap IntKind.i64 (v23 + 1))
noncomputable def Tref20_Board_Blame.p5 (N : Nat)  (i17 : Nat) (peer_1 : Int) (st41 : List (List L)) : Option (Bool × (List (List L))) :=
  optE (Tref20_Board_Shuns N (some i17) peer_1 st41) fun (x42, st43) =>
  some (x42, st43)
noncomputable def Tref20_Board_Blame.p3 (N : Nat)  (i17 : Nat) (peer_1 : Int) (x20 : List (List L)) (st16 : List (List L)) (x18 : List (List L)) (x19 : List (List L)) (x15 : Int) (x21 : Int) (n_1 : Int) (c3_ : ((List (List L)) × Int) → Option (Bool × (List (List L)))) : ((List (List L)) × Int) → Option (Bool × (List (List L))) := fun (row_32, v23) =>
  if (decide (v23 < ((List.length x20 : Nat) : Int))) = true then
    chk (0 ≤ v23) <|
    optE ((List.set (List.set st16 i17 [L.own true 1 x18, L.own true 1 (List.set x19 (0 + (Int.toNat x15)) [L.int .i64 (IntKind.wrap IntKind.i64 (x21 + n_1))]), L.own true 1 x20]) i17 [L.own true 1 x18, L.own true 1 (List.set (List.set x19 (0 + (Int.toNat x15)) [L.int .i64 (IntKind.wrap IntKind.i64 (x21 + n_1))]) (0 + (Int.toNat x15)) [L.int .i64 0]), L.own true 1 x20])[i17]?) fun e => obj_trailheadref20_Board e fun x33 x34 x35 =>
    optE (x35[0 + (Int.toNat v23)]?) fun e => dec_i64 e fun x36 =>
    if (x36 != peer_1) = true then
      chk (1 ≤ (List.length [[L.int .i64 x36]])) <|
      chk (List.length (row_32 ++ (List.take 1 [[L.int .i64 x36]])) * 8 ≤ 140737488355328) <|
      Tref20_Board_Blame.p4 N c3_ i17 peer_1 (row_32 ++ (List.take 1 [[L.int .i64 x36]])) x20 v23 st16 x18 x19 x15 x21 n_1
    else
    Tref20_Board_Blame.p4 N c3_ i17 peer_1 row_32 x20 v23 st16 x18 x19 x15 x21 n_1
  else
  chk (1 ≤ (List.length [[L.int .i64 peer_1]])) <|
  chk (List.length (row_32 ++ (List.take 1 [[L.int .i64 peer_1]])) * 8 ≤ 140737488355328) <|
  chk (0 ≤ (if (0 : Int) > (IntKind.wrap IntKind.i64 (((List.length (row_32 ++ (List.take 1 [[L.int .i64 peer_1]])) : Nat) : Int) - 16)) then 0 else (IntKind.wrap IntKind.i64 (((List.length (row_32 ++ (List.take 1 [[L.int .i64 peer_1]])) : Nat) : Int) - 16)))) <|
  chk ((Int.toNat (if (0 : Int) > (IntKind.wrap IntKind.i64 (((List.length (row_32 ++ (List.take 1 [[L.int .i64 peer_1]])) : Nat) : Int) - 16)) then 0 else (IntKind.wrap IntKind.i64 (((List.length (row_32 ++ (List.take 1 [[L.int .i64 peer_1]])) : Nat) : Int) - 16)))) ≤ (List.length (row_32 ++ (List.take 1 [[L.int .i64 peer_1]])))) <|
  optE ((List.set (List.set st16 i17 [L.own true 1 x18, L.own true 1 (List.set x19 (0 + (Int.toNat x15)) [L.int .i64 (IntKind.wrap IntKind.i64 (x21 + n_1))]), L.own true 1 x20]) i17 [L.own true 1 x18, L.own true 1 (List.set (List.set x19 (0 + (Int.toNat x15)) [L.int .i64 (IntKind.wrap IntKind.i64 (x21 + n_1))]) (0 + (Int.toNat x15)) [L.int .i64 0]), L.own true 1 x20])[i17]?) fun e => obj_trailheadref20_Board e fun x38 x39 x40 =>
  chk (((0 + (Int.toNat (if (0 : Int) > (IntKind.wrap IntKind.i64 (((List.length (row_32 ++ (List.take 1 [[L.int .i64 peer_1]])) : Nat) : Int) - 16)) then 0 else (IntKind.wrap IntKind.i64 (((List.length (row_32 ++ (List.take 1 [[L.int .i64 peer_1]])) : Nat) : Int) - 16))))) + ((List.length (row_32 ++ (List.take 1 [[L.int .i64 peer_1]]))) - (Int.toNat (if (0 : Int) > (IntKind.wrap IntKind.i64 (((List.length (row_32 ++ (List.take 1 [[L.int .i64 peer_1]])) : Nat) : Int) - 16)) then 0 else (IntKind.wrap IntKind.i64 (((List.length (row_32 ++ (List.take 1 [[L.int .i64 peer_1]])) : Nat) : Int) - 16)))))) ≤ (List.length (row_32 ++ (List.take 1 [[L.int .i64 peer_1]])))) <|
  Tref20_Board_Blame.p5 N  i17 peer_1 (List.set (List.set (List.set st16 i17 [L.own true 1 x18, L.own true 1 (List.set x19 (0 + (Int.toNat x15)) [L.int .i64 (IntKind.wrap IntKind.i64 (x21 + n_1))]), L.own true 1 x20]) i17 [L.own true 1 x18, L.own true 1 (List.set (List.set x19 (0 + (Int.toNat x15)) [L.int .i64 (IntKind.wrap IntKind.i64 (x21 + n_1))]) (0 + (Int.toNat x15)) [L.int .i64 0]), L.own true 1 x20]) i17 [L.own true 1 x38, L.own true 1 x39, L.own true 1 (List.take ((List.length (row_32 ++ (List.take 1 [[L.int .i64 peer_1]]))) - (Int.toNat (if (0 : Int) > (IntKind.wrap IntKind.i64 (((List.length (row_32 ++ (List.take 1 [[L.int .i64 peer_1]])) : Nat) : Int) - 16)) then 0 else (IntKind.wrap IntKind.i64 (((List.length (row_32 ++ (List.take 1 [[L.int .i64 peer_1]])) : Nat) : Int) - 16))))) (List.drop (0 + (Int.toNat (if (0 : Int) > (IntKind.wrap IntKind.i64 (((List.length (row_32 ++ (List.take 1 [[L.int .i64 peer_1]])) : Nat) : Int) - 16)) then 0 else (IntKind.wrap IntKind.i64 (((List.length (row_32 ++ (List.take 1 [[L.int .i64 peer_1]])) : Nat) : Int) - 16))))) (row_32 ++ (List.take 1 [[L.int .i64 peer_1]]))))])
noncomputable def Tref20_Board_Blame.p2 (N : Nat)  (b_13 : Option Nat) (peer_1 : Int) (n_1 : Int) (st14 : List (List L)) : Option (Bool × (List (List L))) :=
  optE (Tref20_Board_at N b_13 peer_1 st14) fun (x15, st16) =>
  optE b_13 fun i17 =>
  optE (st16[i17]?) fun e => obj_trailheadref20_Board e fun x18 x19 x20 =>
  chk (0 ≤ x15) <|
  chk (x15 < ((List.length x19 : Nat) : Int)) <|
  optE (x19[0 + (Int.toNat x15)]?) fun e => dec_i64 e fun x21 =>
  chk (x15 < ((List.length (List.set x19 (0 + (Int.toNat x15)) [L.int .i64 (IntKind.wrap IntKind.i64 (x21 + n_1))]) : Nat) : Int)) <|
  optE ((List.set x19 (0 + (Int.toNat x15)) [L.int .i64 (IntKind.wrap IntKind.i64 (x21 + n_1))])[0 + (Int.toNat x15)]?) fun e => dec_i64 e fun x22 =>
  if (decide (x22 ≥ 100)) = true then
    loopN (Tref20_Board_Blame.p3 N  i17 peer_1 x20 st16 x18 x19 x15 x21 n_1) N ([], 0)
  else
  Tref20_Board_Blame.p5 N  i17 peer_1 (List.set st16 i17 [L.own true 1 x18, L.own true 1 (List.set x19 (0 + (Int.toNat x15)) [L.int .i64 (IntKind.wrap IntKind.i64 (x21 + n_1))]), L.own true 1 x20])
noncomputable def Tref20_Board_Blame.p1 (N : Nat)  (b_0 : Option Nat) (peer_1 : Int) (faults_2 : List (List L)) (st : List (List L)) (c1_ : (Int × Int) → Option (Bool × (List (List L)))) : (Int × Int) → Option (Bool × (List (List L))) := fun (n_1, v2) =>
  if (decide (v2 < ((List.length faults_2 : Nat) : Int))) = true then
    chk (0 ≤ v2) <|
    optE (faults_2[Int.toNat v2]?) fun e => dec_i64 e fun x3 =>
    optE (Tref20_Points N x3) fun x4 =>
    c1_ (IntKind.wrap IntKind.i64 (n_1 + x4), IntKind.wrap IntKind.i64 (v2 + 1))
  else
  if (n_1 == 0) = true then
    optE (Tref20_Board_Shuns N b_0 peer_1 st) fun (x5, st6) =>
    some (x5, st6)
  else
  optE (Tref20_Board_at N b_0 peer_1 st) fun (x7, st8) =>
  if (decide (x7 < 0)) = true then
    optE b_0 fun i9 =>
    optE (st8[i9]?) fun e => obj_trailheadref20_Board e fun x10 x11 x12 =>
    chk (1 ≤ (List.length [[L.int .i64 peer_1]])) <|
    chk (List.length (x10 ++ (List.take 1 [[L.int .i64 peer_1]])) * 8 ≤ 140737488355328) <|
    chk (1 ≤ (List.length [[L.int .i64 0]])) <|
    chk (List.length (x11 ++ (List.take 1 [[L.int .i64 0]])) * 8 ≤ 140737488355328) <|
    Tref20_Board_Blame.p2 N  (some i9) peer_1 n_1 (List.set (List.set (List.set (List.set st8 i9 [L.gone, L.own true 1 x11, L.own true 1 x12]) i9 [L.own true 1 (x10 ++ (List.take 1 [[L.int .i64 peer_1]])), L.own true 1 x11, L.own true 1 x12]) i9 [L.own true 1 (x10 ++ (List.take 1 [[L.int .i64 peer_1]])), L.gone, L.own true 1 x12]) i9 [L.own true 1 (x10 ++ (List.take 1 [[L.int .i64 peer_1]])), L.own true 1 (x11 ++ (List.take 1 [[L.int .i64 0]])), L.own true 1 x12])
  else
  Tref20_Board_Blame.p2 N  b_0 peer_1 n_1 st8
noncomputable def Tref20_Board_Blame (N : Nat) (b_0 : Option Nat) (peer_1 : Int) (faults_2 : List (List L)) (st : List (List L)) : Option (Bool × (List (List L))) :=
  loopN (Tref20_Board_Blame.p1 N  b_0 peer_1 faults_2 st) N (0, 0)
noncomputable def Tref20_Board_Blame.p4.S (i17 : Nat) (peer_1 : Int) (row_37 : List (List L)) (x20 : List (List L)) (v23 : Int) (st16 : List (List L)) (x18 : List (List L)) (x19 : List (List L)) (x15 : Int) (x21 : Int) (n_1 : Int) : S := mkS 118 [(0, .one (.l (L.ptr (some i17)))), (1, .one (.l (L.int .i64 peer_1))), (11, .one (.h (.row 11 0) 1 0 (List.length row_37))), (88, .one (.h (.mem (.obj i17) 2 0) 1 0 (List.length x20))), (89, .one (.l (L.int .i64 ((List.length x20 : Nat) : Int)))), (90, .one (.l (L.int .i64 v23)))] [(11, .row 0 true 1 row_37)] (List.set (List.set st16 i17 [L.own true 1 x18, L.own true 1 (List.set x19 (0 + (Int.toNat x15)) [L.int .i64 (IntKind.wrap IntKind.i64 (x21 + n_1))]), L.own true 1 x20]) i17 [L.own true 1 x18, L.own true 1 (List.set (List.set x19 (0 + (Int.toNat x15)) [L.int .i64 (IntKind.wrap IntKind.i64 (x21 + n_1))]) (0 + (Int.toNat x15)) [L.int .i64 0]), L.own true 1 x20])
noncomputable def Tref20_Board_Blame.p5.S (i17 : Nat) (peer_1 : Int) (st41 : List (List L)) : S := mkS 118 [(0, .one (.l (L.ptr (some i17)))), (1, .one (.l (L.int .i64 peer_1)))] [] st41
noncomputable def Tref20_Board_Blame.p3.S (i17 : Nat) (peer_1 : Int) (row_32 : List (List L)) (x20 : List (List L)) (v23 : Int) (st16 : List (List L)) (x18 : List (List L)) (x19 : List (List L)) (x15 : Int) (x21 : Int) (n_1 : Int) : S := mkS 118 [(0, .one (.l (L.ptr (some i17)))), (1, .one (.l (L.int .i64 peer_1))), (11, .one (.h (.row 11 0) 1 0 (List.length row_32))), (88, .one (.h (.mem (.obj i17) 2 0) 1 0 (List.length x20))), (89, .one (.l (L.int .i64 ((List.length x20 : Nat) : Int)))), (90, .one (.l (L.int .i64 v23)))] [(11, .row 0 true 1 row_32)] (List.set (List.set st16 i17 [L.own true 1 x18, L.own true 1 (List.set x19 (0 + (Int.toNat x15)) [L.int .i64 (IntKind.wrap IntKind.i64 (x21 + n_1))]), L.own true 1 x20]) i17 [L.own true 1 x18, L.own true 1 (List.set (List.set x19 (0 + (Int.toNat x15)) [L.int .i64 (IntKind.wrap IntKind.i64 (x21 + n_1))]) (0 + (Int.toNat x15)) [L.int .i64 0]), L.own true 1 x20])
noncomputable def Tref20_Board_Blame.p2.S (b_13 : Option Nat) (peer_1 : Int) (n_1 : Int) (st14 : List (List L)) : S := mkS 118 [(0, .one (.l (L.ptr b_13))), (1, .one (.l (L.int .i64 peer_1))), (7, .one (.l (L.int .i64 n_1)))] [] st14
noncomputable def Tref20_Board_Blame.p1.S (b_0 : Option Nat) (peer_1 : Int) (n_1 : Int) (faults_2 : List (List L)) (v2 : Int) (st : List (List L)) : S := mkS 118 [(0, .one (.l (L.ptr b_0))), (1, .one (.l (L.int .i64 peer_1))), (7, .one (.l (L.int .i64 n_1))), (14, .one (.l (L.sl 1 faults_2))), (15, .one (.l (L.int .i64 ((List.length faults_2 : Nat) : Int)))), (16, .one (.l (L.int .i64 v2)))] [] st
theorem Tref20_Board_Blame.p4_ok (i17 : Nat) (peer_1 : Int) (row_37 : List (List L)) (x20 : List (List L)) (v23 : Int) (st16 : List (List L)) (x18 : List (List L)) (x19 : List (List L)) (x15 : Int) (x21 : Int) (n_1 : Int) {N : Nat} {r : Bool × (List (List L))} {g0 : G} {w0 : World} {R : Exit → Act → World → Prop} {c3_ : ((List (List L)) × Int) → Option (Bool × (List (List L)))} {J3 : Act → World → Prop} (hE : Ends Tryd.prog Tryd.f19 g0 w0 (Tref20_Board_Blame.rs r) (r.2) R) (hc3 : ∀ (row_32 : List (List L)) (v23 : Int), c3_ (row_32, v23) = some r → At g0 w0 (Tref20_Board_Blame.p3.S i17 peer_1 row_32 x20 v23 st16 x18 x19 x15 x21 n_1) J3) (h : Tref20_Board_Blame.p4 N c3_ i17 peer_1 row_37 x20 v23 st16 x18 x19 x15 x21 n_1 = some r) : At g0 w0 (Tref20_Board_Blame.p4.S i17 peer_1 row_37 x20 v23 st16 x18 x19 x15 x21 n_1) (exK Tryd.prog R [.c (csub Tref20_Board_Blame.B [1, 1, 1, 1, 1, 1, 1, 0, 1, 0, 1, 1, 0, 1, 0, 0, 1, 1, 1]), .h J3, .b 2, .c (csub Tref20_Board_Blame.B [1, 1, 1, 1, 1, 1, 1, 0, 1, 0, 1, 1, 1]), .c (csub Tref20_Board_Blame.B [1, 1, 1, 1, 1, 1, 1, 1])] .normal) := by
  unfold Tref20_Board_Blame.p4 at h
  exact At.n fol 400 [.r []] [0, 1, 11, 88, 89, 90] [11] trivial (hc3 row_37 (IntKind.wrap IntKind.i64 (v23 + 1)) h) (by kernel_rfl)
theorem Tref20_Board_Blame.p5_ok (i17 : Nat) (peer_1 : Int) (st41 : List (List L)) {N : Nat} {r : Bool × (List (List L))} {g0 : G} {w0 : World} {R : Exit → Act → World → Prop}   (hE : Ends Tryd.prog Tryd.f19 g0 w0 (Tref20_Board_Blame.rs r) (r.2) R)  (h : Tref20_Board_Blame.p5 N  i17 peer_1 st41 = some r) : At g0 w0 (Tref20_Board_Blame.p5.S i17 peer_1 st41) (exK Tryd.prog R [.c (csub Tref20_Board_Blame.B [1, 1, 1, 1, 1, 1, 1, 1])] .normal) := by
  unfold Tref20_Board_Blame.p5 at h
  obtain ⟨⟨x42, st43⟩, c50, h1⟩ := optE_inv h; clear h
  obtain rfl := some_inv h1
  exact At.f fol hE 400 [.r [(2, {rs := [.one (L.bool x42)], st := st43})]] [] 0 [] (Tref20_Board_Shuns.snd c50) (by kernel_rfl)
theorem Tref20_Board_Blame.p3_ok (i17 : Nat) (peer_1 : Int) (row_32 : List (List L)) (x20 : List (List L)) (v23 : Int) (st16 : List (List L)) (x18 : List (List L)) (x19 : List (List L)) (x15 : Int) (x21 : Int) (n_1 : Int) {N : Nat} {r : Bool × (List (List L))} {g0 : G} {w0 : World} {R : Exit → Act → World → Prop}  {c3_ : ((List (List L)) × Int) → Option (Bool × (List (List L)))}  {J3 : Act → World → Prop} (hE : Ends Tryd.prog Tryd.f19 g0 w0 (Tref20_Board_Blame.rs r) (r.2) R)  (hc3 : ∀ (row_32 : List (List L)) (v23 : Int), c3_ (row_32, v23) = some r → At g0 w0 (Tref20_Board_Blame.p3.S i17 peer_1 row_32 x20 v23 st16 x18 x19 x15 x21 n_1) J3) (h : Tref20_Board_Blame.p3 N  i17 peer_1 x20 st16 x18 x19 x15 x21 n_1 c3_ (row_32, v23) = some r) : At g0 w0 (Tref20_Board_Blame.p3.S i17 peer_1 row_32 x20 v23 st16 x18 x19 x15 x21 n_1) (exK Tryd.prog R (.c (csub Tref20_Board_Blame.B [1, 1, 1, 1, 1, 1, 1, 0, 1, 0, 1, 1, 0, 1, 0, 0]) :: .h J3 :: [.b 2, .c (csub Tref20_Board_Blame.B [1, 1, 1, 1, 1, 1, 1, 0, 1, 0, 1, 1, 1]), .c (csub Tref20_Board_Blame.B [1, 1, 1, 1, 1, 1, 1, 1])]) .normal) := by
  unfold Tref20_Board_Blame.p3 at h
  refine iteB h (fun c37 h2 => ?_) (fun c37 h3 => ?_) <;> clear h
  · obtain ⟨c38, h4⟩ := chk_inv h2; clear h2
    obtain ⟨h7, c39, h5⟩ := optE_inv h4; clear h4
    obtain ⟨x33, x34, x35, rfl, h6⟩ := obj_trailheadref20_Board_inv h5; clear h5
    obtain ⟨h10, c40, h8⟩ := optE_inv h6; clear h6
    obtain ⟨x36, rfl, h9⟩ := dec_i64_inv h8; clear h8
    refine iteB h9 (fun c41 h11 => ?_) (fun c41 h12 => ?_) <;> clear h9
    · obtain ⟨c42, h13⟩ := chk_inv h11; clear h11
      obtain ⟨c43, h14⟩ := chk_inv h13; clear h13
      exact At.q fol 400 [.r [], .c true, .r [(1, {oc := [L.own true 1 x33, L.own true 1 x34, L.own true 1 x35], oe := [L.int .i64 x36]})], .r [], .c true, .r [(3, {wm := 2})], .s 5] [0, 1, 11, 88, 89, 90] [11] (And.intro c37 (And.intro c38 (And.intro (of_decide_eq_true c37) (And.intro c40 (And.intro c39 (And.intro c41 (And.intro (rfl : (0 : Nat) = 0) (And.intro (@rfl Nat (List.length row_32)) (And.intro (rfl : (0 : Nat) = 0) (And.intro c42 c43)))))))))) (Tref20_Board_Blame.p4_ok i17 peer_1 (row_32 ++ (List.take 1 [[L.int .i64 x36]])) x20 v23 st16 x18 x19 x15 x21 n_1 hE hc3 h14) (by kernel_rfl)
    · exact At.q fol 400 [.r [], .c true, .r [(1, {oc := [L.own true 1 x33, L.own true 1 x34, L.own true 1 x35], oe := [L.int .i64 x36]})], .r [], .c false, .s 5] [0, 1, 11, 88, 89, 90] [11] (And.intro c37 (And.intro c38 (And.intro (of_decide_eq_true c37) (And.intro c40 (And.intro c39 c41))))) (Tref20_Board_Blame.p4_ok i17 peer_1 row_32 x20 v23 st16 x18 x19 x15 x21 n_1 hE hc3 h12) (by kernel_rfl)
  · obtain ⟨c44, h15⟩ := chk_inv h3; clear h3
    obtain ⟨c45, h16⟩ := chk_inv h15; clear h15
    obtain ⟨c46, h17⟩ := chk_inv h16; clear h16
    obtain ⟨c47, h18⟩ := chk_inv h17; clear h17
    obtain ⟨h21, c48, h19⟩ := optE_inv h18; clear h18
    obtain ⟨x38, x39, x40, rfl, h20⟩ := obj_trailheadref20_Board_inv h19; clear h19
    obtain ⟨c49, h22⟩ := chk_inv h20; clear h20
    exact At.q fol 400 [.r [], .c false, .r [(3, {wm := 2})], .r [(9, {oc := [L.own true 1 x38, L.own true 1 x39, L.own true 1 x40], wm := 3, mv := [11]})], .s 1] [0, 1] [] (And.intro c37 (And.intro (rfl : (0 : Nat) = 0) (And.intro (@rfl Nat (List.length row_32)) (And.intro (rfl : (0 : Nat) = 0) (And.intro c44 (And.intro c45 (And.intro c46 (And.intro c47 (And.intro (Nat.le_refl (List.length (row_32 ++ (List.take 1 [[L.int .i64 peer_1]])))) (And.intro c48 c49)))))))))) (Tref20_Board_Blame.p5_ok i17 peer_1 (List.set (List.set (List.set st16 i17 [L.own true 1 x18, L.own true 1 (List.set x19 (0 + (Int.toNat x15)) [L.int .i64 (IntKind.wrap IntKind.i64 (x21 + n_1))]), L.own true 1 x20]) i17 [L.own true 1 x18, L.own true 1 (List.set (List.set x19 (0 + (Int.toNat x15)) [L.int .i64 (IntKind.wrap IntKind.i64 (x21 + n_1))]) (0 + (Int.toNat x15)) [L.int .i64 0]), L.own true 1 x20]) i17 [L.own true 1 x38, L.own true 1 x39, L.own true 1 (List.take ((List.length (row_32 ++ (List.take 1 [[L.int .i64 peer_1]]))) - (Int.toNat (if (0 : Int) > (IntKind.wrap IntKind.i64 (((List.length (row_32 ++ (List.take 1 [[L.int .i64 peer_1]])) : Nat) : Int) - 16)) then 0 else (IntKind.wrap IntKind.i64 (((List.length (row_32 ++ (List.take 1 [[L.int .i64 peer_1]])) : Nat) : Int) - 16))))) (List.drop (0 + (Int.toNat (if (0 : Int) > (IntKind.wrap IntKind.i64 (((List.length (row_32 ++ (List.take 1 [[L.int .i64 peer_1]])) : Nat) : Int) - 16)) then 0 else (IntKind.wrap IntKind.i64 (((List.length (row_32 ++ (List.take 1 [[L.int .i64 peer_1]])) : Nat) : Int) - 16))))) (row_32 ++ (List.take 1 [[L.int .i64 peer_1]]))))]) hE  h22) (by kernel_rfl)
theorem Tref20_Board_Blame.p3_loop (i17 : Nat) (peer_1 : Int) (row_32 : List (List L)) (x20 : List (List L)) (v23 : Int) (st16 : List (List L)) (x18 : List (List L)) (x19 : List (List L)) (x15 : Int) (x21 : Int) (n_1 : Int) {N : Nat} {r : Bool × (List (List L))} {g0 : G} {w0 : World} {R : Exit → Act → World → Prop}   (hE : Ends Tryd.prog Tryd.f19 g0 w0 (Tref20_Board_Blame.rs r) (r.2) R)  (h : loopN (Tref20_Board_Blame.p3 N  i17 peer_1 x20 st16 x18 x19 x15 x21 n_1) N (row_32, v23) = some r) : At g0 w0 (Tref20_Board_Blame.p3.S i17 peer_1 row_32 x20 v23 st16 x18 x19 x15 x21 n_1) (exK Tryd.prog R (.c (.loop (csub Tref20_Board_Blame.B [1, 1, 1, 1, 1, 1, 1, 0, 1, 0, 1, 1, 0, 1, 0, 0])) :: [.b 2, .c (csub Tref20_Board_Blame.B [1, 1, 1, 1, 1, 1, 1, 0, 1, 0, 1, 1, 1]), .c (csub Tref20_Board_Blame.B [1, 1, 1, 1, 1, 1, 1, 1])]) .normal) :=
  At.loop N (At.loopN (fun y : (List (List L)) × Int => Tref20_Board_Blame.p3.S i17 peer_1 y.1 x20 y.2 st16 x18 x19 x15 x21 n_1) (fun c J hc y h => Tref20_Board_Blame.p3_ok i17 peer_1 y.1 x20 y.2 st16 x18 x19 x15 x21 n_1 hE  (fun row_32 v23 hh => hc (row_32, v23) hh) h) N (row_32, v23) h)
theorem Tref20_Board_Blame.p2_ok (b_13 : Option Nat) (peer_1 : Int) (n_1 : Int) (st14 : List (List L)) {N : Nat} {r : Bool × (List (List L))} {g0 : G} {w0 : World} {R : Exit → Act → World → Prop}   (hE : Ends Tryd.prog Tryd.f19 g0 w0 (Tref20_Board_Blame.rs r) (r.2) R)  (h : Tref20_Board_Blame.p2 N  b_13 peer_1 n_1 st14 = some r) : At g0 w0 (Tref20_Board_Blame.p2.S b_13 peer_1 n_1 st14) (exK Tryd.prog R [.c (csub Tref20_Board_Blame.B [1, 1, 1, 1, 1])] .normal) := by
  unfold Tref20_Board_Blame.p2 at h
  obtain ⟨⟨x15, st16⟩, c15, h23⟩ := optE_inv h; clear h
  obtain ⟨i17, rfl, h24⟩ := optE_inv h23; clear h23
  obtain ⟨h27, c17, h25⟩ := optE_inv h24; clear h24
  obtain ⟨x18, x19, x20, rfl, h26⟩ := obj_trailheadref20_Board_inv h25; clear h25
  obtain ⟨c18, h28⟩ := chk_inv h26; clear h26
  obtain ⟨c19, h29⟩ := chk_inv h28; clear h28
  obtain ⟨h32, c20, h30⟩ := optE_inv h29; clear h29
  obtain ⟨x21, rfl, h31⟩ := dec_i64_inv h30; clear h30
  obtain ⟨c21, h33⟩ := chk_inv h31; clear h31
  obtain ⟨h36, c22, h34⟩ := optE_inv h33; clear h33
  obtain ⟨x22, rfl, h35⟩ := dec_i64_inv h34; clear h34
  refine iteB h35 (fun c23 h37 => ?_) (fun c23 h38 => ?_) <;> clear h35
  · exact At.qd fol 400 [.r [(2, {rs := [.one (L.int .i64 x15)], st := st16})], .d {ds := [(3, {oc := [L.own true 1 x18, L.own true 1 x19, L.own true 1 x20]}), (8, {oc := [L.own true 1 x18, L.own true 1 x19, L.own true 1 x20]}), (11, {oc := [L.own true 1 x18, L.own true 1 x19, L.own true 1 x20], oe := [L.int .i64 x21]}), (15, {oc := [L.own true 1 x18, L.own true 1 x19, L.own true 1 x20]})], hv := 32768, Hs := [32768]}, .r [(3, {oc := [L.own true 1 x18, L.own true 1 (List.set x19 (0 + (Int.toNat x15)) [L.int .i64 (IntKind.wrap IntKind.i64 (x21 + n_1))]), L.own true 1 x20]}), (6, {oc := [L.own true 1 x18, L.own true 1 (List.set x19 (0 + (Int.toNat x15)) [L.int .i64 (IntKind.wrap IntKind.i64 (x21 + n_1))]), L.own true 1 x20], oe := [L.int .i64 x22]})], .c true, .r [(3, {oc := [L.own true 1 x18, L.own true 1 (List.set x19 (0 + (Int.toNat x15)) [L.int .i64 (IntKind.wrap IntKind.i64 (x21 + n_1))]), L.own true 1 x20]}), (6, {oc := [L.own true 1 x18, L.own true 1 (List.set x19 (0 + (Int.toNat x15)) [L.int .i64 (IntKind.wrap IntKind.i64 (x21 + n_1))]), L.own true 1 x20]})], .r [(0, {m := 1})], .r [(3, {oc := [L.own true 1 x18, L.own true 1 (List.set (List.set x19 (0 + (Int.toNat x15)) [L.int .i64 (IntKind.wrap IntKind.i64 (x21 + n_1))]) (0 + (Int.toNat x15)) [L.int .i64 0]), L.own true 1 x20]})]] [0, 1, 11, 88, 89, 90] [11] (And.intro (Tref20_Board_at.snd c15) (And.intro c17 (And.intro c17 (And.intro c18 (And.intro c19 (And.intro c20 (And.intro c17 (And.intro c18 (And.intro c19 (And.intro c17 (And.intro (st_set_self c17 [L.own true 1 x18, L.own true 1 (List.set x19 (0 + (Int.toNat x15)) [L.int .i64 (IntKind.wrap IntKind.i64 (x21 + n_1))]), L.own true 1 x20]) (And.intro c18 (And.intro c21 (And.intro c22 (And.intro (st_set_self c17 [L.own true 1 x18, L.own true 1 (List.set x19 (0 + (Int.toNat x15)) [L.int .i64 (IntKind.wrap IntKind.i64 (x21 + n_1))]), L.own true 1 x20]) (And.intro c23 (And.intro (st_set_self c17 [L.own true 1 x18, L.own true 1 (List.set x19 (0 + (Int.toNat x15)) [L.int .i64 (IntKind.wrap IntKind.i64 (x21 + n_1))]), L.own true 1 x20]) (And.intro c18 (And.intro c21 (And.intro (st_set_self c17 [L.own true 1 x18, L.own true 1 (List.set x19 (0 + (Int.toNat x15)) [L.int .i64 (IntKind.wrap IntKind.i64 (x21 + n_1))]), L.own true 1 x20]) (st_set_self (st_set_self c17 [L.own true 1 x18, L.own true 1 (List.set x19 (0 + (Int.toNat x15)) [L.int .i64 (IntKind.wrap IntKind.i64 (x21 + n_1))]), L.own true 1 x20]) [L.own true 1 x18, L.own true 1 (List.set (List.set x19 (0 + (Int.toNat x15)) [L.int .i64 (IntKind.wrap IntKind.i64 (x21 + n_1))]) (0 + (Int.toNat x15)) [L.int .i64 0]), L.own true 1 x20]))))))))))))))))))))) (Tref20_Board_Blame.p3_loop i17 peer_1 [] x20 0 st16 x18 x19 x15 x21 n_1 hE  h37) (by kernel_rfl) (by kernel_rfl)
  · exact At.qd fol 400 [.r [(2, {rs := [.one (L.int .i64 x15)], st := st16})], .d {ds := [(3, {oc := [L.own true 1 x18, L.own true 1 x19, L.own true 1 x20]}), (8, {oc := [L.own true 1 x18, L.own true 1 x19, L.own true 1 x20]}), (11, {oc := [L.own true 1 x18, L.own true 1 x19, L.own true 1 x20], oe := [L.int .i64 x21]}), (15, {oc := [L.own true 1 x18, L.own true 1 x19, L.own true 1 x20]})], hv := 32768, Hs := [32768]}, .r [(3, {oc := [L.own true 1 x18, L.own true 1 (List.set x19 (0 + (Int.toNat x15)) [L.int .i64 (IntKind.wrap IntKind.i64 (x21 + n_1))]), L.own true 1 x20]}), (6, {oc := [L.own true 1 x18, L.own true 1 (List.set x19 (0 + (Int.toNat x15)) [L.int .i64 (IntKind.wrap IntKind.i64 (x21 + n_1))]), L.own true 1 x20], oe := [L.int .i64 x22]})], .c false, .s 1] [0, 1] [] (And.intro (Tref20_Board_at.snd c15) (And.intro c17 (And.intro c17 (And.intro c18 (And.intro c19 (And.intro c20 (And.intro c17 (And.intro c18 (And.intro c19 (And.intro c17 (And.intro (st_set_self c17 [L.own true 1 x18, L.own true 1 (List.set x19 (0 + (Int.toNat x15)) [L.int .i64 (IntKind.wrap IntKind.i64 (x21 + n_1))]), L.own true 1 x20]) (And.intro c18 (And.intro c21 (And.intro c22 (And.intro (st_set_self c17 [L.own true 1 x18, L.own true 1 (List.set x19 (0 + (Int.toNat x15)) [L.int .i64 (IntKind.wrap IntKind.i64 (x21 + n_1))]), L.own true 1 x20]) c23))))))))))))))) (Tref20_Board_Blame.p5_ok i17 peer_1 (List.set st16 i17 [L.own true 1 x18, L.own true 1 (List.set x19 (0 + (Int.toNat x15)) [L.int .i64 (IntKind.wrap IntKind.i64 (x21 + n_1))]), L.own true 1 x20]) hE  h38) (by kernel_rfl) (by kernel_rfl)
theorem Tref20_Board_Blame.p1_ok (b_0 : Option Nat) (peer_1 : Int) (n_1 : Int) (faults_2 : List (List L)) (v2 : Int) (st : List (List L)) {N : Nat} {r : Bool × (List (List L))} {g0 : G} {w0 : World} {R : Exit → Act → World → Prop}  {c1_ : (Int × Int) → Option (Bool × (List (List L)))}  {J1 : Act → World → Prop} (hE : Ends Tryd.prog Tryd.f19 g0 w0 (Tref20_Board_Blame.rs r) (r.2) R)  (hc1 : ∀ (n_1 : Int) (v2 : Int), c1_ (n_1, v2) = some r → At g0 w0 (Tref20_Board_Blame.p1.S b_0 peer_1 n_1 faults_2 v2 st) J1) (h : Tref20_Board_Blame.p1 N  b_0 peer_1 faults_2 st c1_ (n_1, v2) = some r) : At g0 w0 (Tref20_Board_Blame.p1.S b_0 peer_1 n_1 faults_2 v2 st) (exK Tryd.prog R (.c (csub Tref20_Board_Blame.B [1, 1, 0, 1, 0, 0]) :: .h J1 :: [.b 0, .c (csub Tref20_Board_Blame.B [1, 1, 1])]) .normal) := by
  unfold Tref20_Board_Blame.p1 at h
  refine iteB h (fun c1 h39 => ?_) (fun c1 h40 => ?_) <;> clear h
  · obtain ⟨c2, h41⟩ := chk_inv h39; clear h39
    obtain ⟨h44, c3, h42⟩ := optE_inv h41; clear h41
    obtain ⟨x3, rfl, h43⟩ := dec_i64_inv h42; clear h42
    obtain ⟨x4, c4, h45⟩ := optE_inv h43; clear h43
    exact At.n fol 400 [.r [], .c true, .r [(1, {oe := [L.int .i64 x3]})], .r [(2, {rs := [.one (L.int .i64 x4)], m := 1})], .r []] [0, 1, 7, 14, 15, 16] [] (And.intro c1 (And.intro c2 (And.intro (of_decide_eq_true c1) (And.intro c3 (Tref20_Points.snd c4))))) (hc1 (IntKind.wrap IntKind.i64 (n_1 + x4)) (IntKind.wrap IntKind.i64 (v2 + 1)) h45) (by kernel_rfl)
  · refine iteB h40 (fun c5 h46 => ?_) (fun c5 h47 => ?_) <;> clear h40
    · obtain ⟨⟨x5, st6⟩, c6, h48⟩ := optE_inv h46; clear h46
      obtain rfl := some_inv h48
      exact At.f fol hE 400 [.r [], .c false, .r [], .c true, .r [(2, {rs := [.one (L.bool x5)], st := st6})]] [] 0 [] (And.intro c1 (And.intro c5 (Tref20_Board_Shuns.snd c6))) (by kernel_rfl)
    · obtain ⟨⟨x7, st8⟩, c7, h49⟩ := optE_inv h47; clear h47
      refine iteB h49 (fun c8 h50 => ?_) (fun c8 h51 => ?_) <;> clear h49
      · obtain ⟨i9, rfl, h52⟩ := optE_inv h50; clear h50
        obtain ⟨h55, c10, h53⟩ := optE_inv h52; clear h52
        obtain ⟨x10, x11, x12, rfl, h54⟩ := obj_trailheadref20_Board_inv h53; clear h53
        obtain ⟨c11, h56⟩ := chk_inv h54; clear h54
        obtain ⟨c12, h57⟩ := chk_inv h56; clear h56
        obtain ⟨c13, h58⟩ := chk_inv h57; clear h57
        obtain ⟨c14, h59⟩ := chk_inv h58; clear h58
        exact At.q fol 400 [.r [], .c false, .r [], .c false, .r [(2, {rs := [.one (L.int .i64 x7)], st := st8})], .c true, .r [(4, {oc := [L.own true 1 x10, L.own true 1 x11, L.own true 1 x12]}), (7, {oe := [L.own true 1 x10, L.own true 1 x11, L.own true 1 x12], wm := 2}), (10, {oc := [L.gone, L.own true 1 x11, L.own true 1 x12], mv := [41]})], .r [(4, {oc := [L.own true 1 (x10 ++ (List.take 1 [[L.int .i64 peer_1]])), L.own true 1 x11, L.own true 1 x12]}), (6, {oe := [L.own true 1 (x10 ++ (List.take 1 [[L.int .i64 peer_1]])), L.own true 1 x11, L.own true 1 x12], wm := 2}), (9, {oc := [L.own true 1 (x10 ++ (List.take 1 [[L.int .i64 peer_1]])), L.gone, L.own true 1 x12], mv := [50]})], .s 1] [0, 1, 7] [] (And.intro c1 (And.intro c5 (And.intro (Tref20_Board_at.snd c7) (And.intro c8 (And.intro c10 (And.intro (rfl : (0 : Nat) = 0) (And.intro (@rfl Nat (List.length x10)) (And.intro c10 (And.intro (rfl : (0 : Nat) = 0) (And.intro c11 (And.intro c12 (And.intro (st_set_self c10 [L.gone, L.own true 1 x11, L.own true 1 x12]) (And.intro (rfl : (0 : Nat) = 0) (And.intro (@rfl Nat (List.length (x10 ++ (List.take 1 [[L.int .i64 peer_1]])))) (And.intro (st_set_self (st_set_self c10 [L.gone, L.own true 1 x11, L.own true 1 x12]) [L.own true 1 (x10 ++ (List.take 1 [[L.int .i64 peer_1]])), L.own true 1 x11, L.own true 1 x12]) (And.intro (rfl : (0 : Nat) = 0) (And.intro (@rfl Nat (List.length x11)) (And.intro (st_set_self (st_set_self c10 [L.gone, L.own true 1 x11, L.own true 1 x12]) [L.own true 1 (x10 ++ (List.take 1 [[L.int .i64 peer_1]])), L.own true 1 x11, L.own true 1 x12]) (And.intro (rfl : (0 : Nat) = 0) (And.intro c13 (And.intro c14 (And.intro (st_set_self (st_set_self (st_set_self c10 [L.gone, L.own true 1 x11, L.own true 1 x12]) [L.own true 1 (x10 ++ (List.take 1 [[L.int .i64 peer_1]])), L.own true 1 x11, L.own true 1 x12]) [L.own true 1 (x10 ++ (List.take 1 [[L.int .i64 peer_1]])), L.gone, L.own true 1 x12]) (And.intro (rfl : (0 : Nat) = 0) (@rfl Nat (List.length (x11 ++ (List.take 1 [[L.int .i64 0]]))))))))))))))))))))))))))) (Tref20_Board_Blame.p2_ok (some i9) peer_1 n_1 (List.set (List.set (List.set (List.set st8 i9 [L.gone, L.own true 1 x11, L.own true 1 x12]) i9 [L.own true 1 (x10 ++ (List.take 1 [[L.int .i64 peer_1]])), L.own true 1 x11, L.own true 1 x12]) i9 [L.own true 1 (x10 ++ (List.take 1 [[L.int .i64 peer_1]])), L.gone, L.own true 1 x12]) i9 [L.own true 1 (x10 ++ (List.take 1 [[L.int .i64 peer_1]])), L.own true 1 (x11 ++ (List.take 1 [[L.int .i64 0]])), L.own true 1 x12]) hE  h59) (by kernel_rfl)
      · exact At.q fol 400 [.r [], .c false, .r [], .c false, .r [(2, {rs := [.one (L.int .i64 x7)], st := st8})], .c false, .s 1] [0, 1, 7] [] (And.intro c1 (And.intro c5 (And.intro (Tref20_Board_at.snd c7) c8))) (Tref20_Board_Blame.p2_ok b_0 peer_1 n_1 st8 hE  h51) (by kernel_rfl)
theorem Tref20_Board_Blame.p1_loop (b_0 : Option Nat) (peer_1 : Int) (n_1 : Int) (faults_2 : List (List L)) (v2 : Int) (st : List (List L)) {N : Nat} {r : Bool × (List (List L))} {g0 : G} {w0 : World} {R : Exit → Act → World → Prop}   (hE : Ends Tryd.prog Tryd.f19 g0 w0 (Tref20_Board_Blame.rs r) (r.2) R)  (h : loopN (Tref20_Board_Blame.p1 N  b_0 peer_1 faults_2 st) N (n_1, v2) = some r) : At g0 w0 (Tref20_Board_Blame.p1.S b_0 peer_1 n_1 faults_2 v2 st) (exK Tryd.prog R (.c (.loop (csub Tref20_Board_Blame.B [1, 1, 0, 1, 0, 0])) :: [.b 0, .c (csub Tref20_Board_Blame.B [1, 1, 1])]) .normal) :=
  At.loop N (At.loopN (fun y : Int × Int => Tref20_Board_Blame.p1.S b_0 peer_1 y.1 faults_2 y.2 st) (fun c J hc y h => Tref20_Board_Blame.p1_ok b_0 peer_1 y.1 faults_2 y.2 st hE  (fun n_1 v2 hh => hc (n_1, v2) hh) h) N (n_1, v2) h)
theorem Tref20_Board_Blame.at0 (b_0 : Option Nat) (peer_1 : Int) (faults_2 : List (List L)) (st : List (List L)) {N : Nat} {r : Bool × (List (List L))} {g0 : G} {w0 : World} {R : Exit → Act → World → Prop} (hE : Ends Tryd.prog Tryd.f19 g0 w0 (Tref20_Board_Blame.rs r) (r.2) R) (h : Tref20_Board_Blame N b_0 peer_1 faults_2 st = some r) : At g0 w0 (S.enter 118 [.one (L.ptr b_0), .one (L.int .i64 peer_1), .one (L.sl 1 faults_2)] st) (exK Tryd.prog R [.c Tref20_Board_Blame.B] .normal) := by
  unfold Tref20_Board_Blame at h
  exact At.q fol 400 [.r [], .r [], .r []] [0, 1, 7, 14, 15, 16] [] trivial (Tref20_Board_Blame.p1_loop b_0 peer_1 0 faults_2 0 st hE  h) (by kernel_rfl)
theorem Tref20_Board_Blame.snd {N : Nat} {b_0 : Option Nat} {peer_1 : Int} {faults_2 : List (List L)} {st : List (List L)} {r : Bool × (List (List L))} (h : Tref20_Board_Blame N b_0 peer_1 faults_2 st = some r) : Snd Tryd.prog 19 [.one (L.ptr b_0), .one (L.int .i64 peer_1), .one (L.sl 1 faults_2)] st (Tref20_Board_Blame.rs r) (r.2) :=
  Snd.of (fn := Tryd.f19) (c := Tref20_Board_Blame.B) Tryd.func19 (by kernel_rfl) (by kernel_rfl) (of_decide_eq_true (by kernel_rfl)) fun g w R hE => Tref20_Board_Blame.at0 b_0 peer_1 faults_2 st hE h
/-! (*trailhead/trailheadref20.Board).Forget -/
noncomputable def Tref20_Board_Forget.B : Code := Tryd.f20.body.getD .skip
noncomputable def Tref20_Board_Forget.rs (r : (List (List L))) : List CV := []
noncomputable def Tref20_Board_Forget (N : Nat) (b_0 : Option Nat) (peer_1 : Int) (st : List (List L)) : Option (List (List L)) :=
  optE (Tref20_Board_at N b_0 peer_1 st) fun (x1, st2) =>
  if (decide (x1 ≥ 0)) = true then
    optE b_0 fun i3 =>
    optE (st2[i3]?) fun e => obj_trailheadref20_Board e fun x4 x5 x6 =>
    chk (0 ≤ x1) <|
    chk (x1 < ((List.length x5 : Nat) : Int)) <|
    some (List.set st2 i3 [L.own true 1 x4, L.own true 1 (List.set x5 (0 + (Int.toNat x1)) [L.int .i64 0]), L.own true 1 x6])
  else
  some st2
theorem Tref20_Board_Forget.at0 (b_0 : Option Nat) (peer_1 : Int) (st : List (List L)) {N : Nat} {r : (List (List L))} {g0 : G} {w0 : World} {R : Exit → Act → World → Prop} (hE : Ends Tryd.prog Tryd.f20 g0 w0 (Tref20_Board_Forget.rs r) (r) R) (h : Tref20_Board_Forget N b_0 peer_1 st = some r) : At g0 w0 (S.enter 16 [.one (L.ptr b_0), .one (L.int .i64 peer_1)] st) (exK Tryd.prog R [.c Tref20_Board_Forget.B] .normal) := by
  unfold Tref20_Board_Forget at h
  obtain ⟨⟨x1, st2⟩, c1, h1⟩ := optE_inv h; clear h
  refine iteB h1 (fun c2 h2 => ?_) (fun c2 h3 => ?_) <;> clear h1
  · obtain ⟨i3, rfl, h4⟩ := optE_inv h2; clear h2
    obtain ⟨h7, c4, h5⟩ := optE_inv h4; clear h4
    obtain ⟨x4, x5, x6, rfl, h6⟩ := obj_trailheadref20_Board_inv h5; clear h5
    obtain ⟨c5, h8⟩ := chk_inv h6; clear h6
    obtain ⟨c6, h9⟩ := chk_inv h8; clear h8
    obtain rfl := some_inv h9
    exact At.f fol hE 400 [.r [(2, {rs := [.one (L.int .i64 x1)], st := st2})], .r [], .c true, .r [(3, {oc := [L.own true 1 x4, L.own true 1 x5, L.own true 1 x6]}), (6, {oc := [L.own true 1 x4, L.own true 1 x5, L.own true 1 x6]})]] [] 0 [] (And.intro (Tref20_Board_at.snd c1) (And.intro c2 (And.intro c4 (And.intro c5 (And.intro c6 c4))))) (by kernel_rfl)
  · obtain rfl := some_inv h3
    exact At.f fol hE 400 [.r [(2, {rs := [.one (L.int .i64 x1)], st := st2})], .r [], .c false] [] 0 [] (And.intro (Tref20_Board_at.snd c1) c2) (by kernel_rfl)
theorem Tref20_Board_Forget.snd {N : Nat} {b_0 : Option Nat} {peer_1 : Int} {st : List (List L)} {r : (List (List L))} (h : Tref20_Board_Forget N b_0 peer_1 st = some r) : Snd Tryd.prog 20 [.one (L.ptr b_0), .one (L.int .i64 peer_1)] st (Tref20_Board_Forget.rs r) (r) :=
  Snd.of (fn := Tryd.f20) (c := Tref20_Board_Forget.B) Tryd.func20 (by kernel_rfl) (by kernel_rfl) (of_decide_eq_true (by kernel_rfl)) fun g w R hE => Tref20_Board_Forget.at0 b_0 peer_1 st hE h
/-! (*trailhead/trailheadref20.Board).Sum -/
noncomputable def Tref20_Board_Sum.B : Code := Tryd.f21.body.getD .skip
noncomputable def Tref20_Board_Sum.rs (r : Int × (List (List L))) : List CV := [.one (L.int .i64 r.1)]
noncomputable def Tref20_Board_Sum (N : Nat) (b_0 : Option Nat) (peer_1 : Int) (st : List (List L)) : Option (Int × (List (List L))) :=
  optE (Tref20_Board_at N b_0 peer_1 st) fun (x1, st2) =>
  if (decide (x1 < 0)) = true then
    some (0, st2)
  else
  optE b_0 fun i3 =>
  optE (st2[i3]?) fun e => obj_trailheadref20_Board e fun x4 x5 x6 =>
  chk (0 ≤ x1) <|
  chk (x1 < ((List.length x5 : Nat) : Int)) <|
  optE (x5[0 + (Int.toNat x1)]?) fun e => dec_i64 e fun x7 =>
  some (x7, st2)
theorem Tref20_Board_Sum.at0 (b_0 : Option Nat) (peer_1 : Int) (st : List (List L)) {N : Nat} {r : Int × (List (List L))} {g0 : G} {w0 : World} {R : Exit → Act → World → Prop} (hE : Ends Tryd.prog Tryd.f21 g0 w0 (Tref20_Board_Sum.rs r) (r.2) R) (h : Tref20_Board_Sum N b_0 peer_1 st = some r) : At g0 w0 (S.enter 18 [.one (L.ptr b_0), .one (L.int .i64 peer_1)] st) (exK Tryd.prog R [.c Tref20_Board_Sum.B] .normal) := by
  unfold Tref20_Board_Sum at h
  obtain ⟨⟨x1, st2⟩, c1, h1⟩ := optE_inv h; clear h
  refine iteB h1 (fun c2 h2 => ?_) (fun c2 h3 => ?_) <;> clear h1
  · obtain rfl := some_inv h2
    exact At.f fol hE 400 [.r [], .r [(2, {rs := [.one (L.int .i64 x1)], st := st2})], .r [], .c true, .r []] [] 0 [] (And.intro (Tref20_Board_at.snd c1) c2) (by kernel_rfl)
  · obtain ⟨i3, rfl, h4⟩ := optE_inv h3; clear h3
    obtain ⟨h7, c4, h5⟩ := optE_inv h4; clear h4
    obtain ⟨x4, x5, x6, rfl, h6⟩ := obj_trailheadref20_Board_inv h5; clear h5
    obtain ⟨c5, h8⟩ := chk_inv h6; clear h6
    obtain ⟨c6, h9⟩ := chk_inv h8; clear h8
    obtain ⟨h12, c7, h10⟩ := optE_inv h9; clear h9
    obtain ⟨x7, rfl, h11⟩ := dec_i64_inv h10; clear h10
    obtain rfl := some_inv h11
    exact At.f fol hE 400 [.r [], .r [(2, {rs := [.one (L.int .i64 x1)], st := st2})], .r [], .c false, .r [(3, {oc := [L.own true 1 x4, L.own true 1 x5, L.own true 1 x6]}), (6, {oc := [L.own true 1 x4, L.own true 1 x5, L.own true 1 x6], oe := [L.int .i64 x7]})]] [] 0 [] (And.intro (Tref20_Board_at.snd c1) (And.intro c2 (And.intro c4 (And.intro c5 (And.intro c6 (And.intro c7 c4)))))) (by kernel_rfl)
theorem Tref20_Board_Sum.snd {N : Nat} {b_0 : Option Nat} {peer_1 : Int} {st : List (List L)} {r : Int × (List (List L))} (h : Tref20_Board_Sum N b_0 peer_1 st = some r) : Snd Tryd.prog 21 [.one (L.ptr b_0), .one (L.int .i64 peer_1)] st (Tref20_Board_Sum.rs r) (r.2) :=
  Snd.of (fn := Tryd.f21) (c := Tref20_Board_Sum.B) Tryd.func21 (by kernel_rfl) (by kernel_rfl) (of_decide_eq_true (by kernel_rfl)) fun g w R hE => Tref20_Board_Sum.at0 b_0 peer_1 st hE h
end Go.Dn.F
