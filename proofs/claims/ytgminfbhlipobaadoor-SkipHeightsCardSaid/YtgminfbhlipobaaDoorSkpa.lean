/- Contracts of functions of the program, as shallow functions, and their proofs. -/
import Derived.Test.YtgminfbhlipobaaDoorProg
import Derived.Test.YtgminfbhlipobaaDoorKc
set_option linter.all false
set_option maxRecDepth 100000
namespace Go.Dn.F
open Go.Proofs
noncomputable def glob_digest_steps : List Int := [1116352408, 1899447441, 3049323471, 3921009573, 961987163, 1508970993, 2453635748, 2870763221, 3624381080, 310598401, 607225278, 1426881987, 1925078388, 2162078206, 2614888103, 3248222580, 3835390401, 4022224774, 264347078, 604807628, 770255983, 1249150122, 1555081692, 1996064986, 2554220882, 2821834349, 2952996808, 3210313671, 3336571891, 3584528711, 113926993, 338241895, 666307205, 773529912, 1294757372, 1396182291, 1695183700, 1986661051, 2177026350, 2456956037, 2730485921, 2820302411, 3259730800, 3345764771, 3516065817, 3600352804, 4094571909, 275423344, 430227734, 506948616, 659060556, 883997877, 958139571, 1322822218, 1537002063, 1747873779, 1955562222, 2024104815, 2227730452, 2361852424, 2428436474, 2756734187, 3204031479, 3329325298]
noncomputable def glob_digest_starts : List Int := [1779033703, 3144134277, 1013904242, 2773480762, 1359893119, 2600822924, 528734635, 1541459225]
noncomputable def glob_score_points : List Int := [0, 100, 100, 100, 20, 100, 50, 10]
noncomputable instance glob : Globs := ⟨fun k => match k with
  | 1 => some [L.arr .u32 8 glob_digest_starts]
  | 2 => some [L.arr .u32 64 glob_digest_steps]
  | _ => none⟩
theorem fol : Tryd.prog.follows .mixedOrders = true := by kernel_rfl
noncomputable def dec_api_Gate {α : Type} (l : List L) (k : Int → Int → Option α) : Option α := match l with
  | [L.int .i64 x0, L.int .i64 x1] => k x0 x1
  | _ => none
theorem dec_api_Gate_inv {α : Type} {l : List L} {k : Int → Int → Option α} {r : α} (h : dec_api_Gate l k = some r) : ∃ x0 x1, l = [L.int .i64 x0, L.int .i64 x1] ∧ k x0 x1 = some r := by
  unfold dec_api_Gate at h; split at h
  · exact ⟨_, _, rfl, h⟩
  · cases h
noncomputable def dec_api_Check {α : Type} (l : List L) (k : Int → (List Int) → Option α) : Option α := match l with
  | [L.int .i64 x0, L.arr .u8 32 x1] => k x0 x1
  | _ => none
theorem dec_api_Check_inv {α : Type} {l : List L} {k : Int → (List Int) → Option α} {r : α} (h : dec_api_Check l k = some r) : ∃ x0 x1, l = [L.int .i64 x0, L.arr .u8 32 x1] ∧ k x0 x1 = some r := by
  unfold dec_api_Check at h; split at h
  · exact ⟨_, _, rfl, h⟩
  · cases h
noncomputable def dec_i64 {α : Type} (l : List L) (k : Int → Option α) : Option α := match l with
  | [L.int .i64 x0] => k x0
  | _ => none
theorem dec_i64_inv {α : Type} {l : List L} {k : Int → Option α} {r : α} (h : dec_i64 l k = some r) : ∃ x0, l = [L.int .i64 x0] ∧ k x0 = some r := by
  unfold dec_i64 at h; split at h
  · exact ⟨_, rfl, h⟩
  · cases h
noncomputable def dec_o1 {α : Type} (l : List L) (k : (List (List L)) → Option α) : Option α := match l with
  | [L.own true 1 x0] => k x0
  | _ => none
theorem dec_o1_inv {α : Type} {l : List L} {k : (List (List L)) → Option α} {r : α} (h : dec_o1 l k = some r) : ∃ x0, l = [L.own true 1 x0] ∧ k x0 = some r := by
  unfold dec_o1 at h; split at h
  · exact ⟨_, rfl, h⟩
  · cases h
noncomputable def dec_u8x32 {α : Type} (l : List L) (k : (List Int) → Option α) : Option α := match l with
  | [L.arr .u8 32 x0] => k x0
  | _ => none
theorem dec_u8x32_inv {α : Type} {l : List L} {k : (List Int) → Option α} {r : α} (h : dec_u8x32 l k = some r) : ∃ x0, l = [L.arr .u8 32 x0] ∧ k x0 = some r := by
  unfold dec_u8x32 at h; split at h
  · exact ⟨_, rfl, h⟩
  · cases h
noncomputable def dec_t {α : Type} (l : List L) (k : ByteArray → Option α) : Option α := match l with
  | [L.str x0] => k x0
  | _ => none
theorem dec_t_inv {α : Type} {l : List L} {k : ByteArray → Option α} {r : α} (h : dec_t l k = some r) : ∃ x0, l = [L.str x0] ∧ k x0 = some r := by
  unfold dec_t at h; split at h
  · exact ⟨_, rfl, h⟩
  · cases h
noncomputable def obj_digest_Hasher {α : Type} (l : List L) (k : (List Int) → (List (List L)) → Int → Option α) : Option α := match l with
  | [L.arr .u32 8 x0, L.own false 1 x1, L.int .u64 x2] => k x0 x1 x2
  | _ => none
theorem obj_digest_Hasher_inv {α : Type} {l : List L} {k : (List Int) → (List (List L)) → Int → Option α} {r : α} (h : obj_digest_Hasher l k = some r) : ∃ x0 x1 x2, l = [L.arr .u32 8 x0, L.own false 1 x1, L.int .u64 x2] ∧ k x0 x1 x2 = some r := by
  unfold obj_digest_Hasher at h; split at h
  · exact ⟨_, _, _, rfl, h⟩
  · cases h
noncomputable def dec_u8 {α : Type} (l : List L) (k : Int → Option α) : Option α := match l with
  | [L.int .u8 x0] => k x0
  | _ => none
theorem dec_u8_inv {α : Type} {l : List L} {k : Int → Option α} {r : α} (h : dec_u8 l k = some r) : ∃ x0, l = [L.int .u8 x0] ∧ k x0 = some r := by
  unfold dec_u8 at h; split at h
  · exact ⟨_, rfl, h⟩
  · cases h
noncomputable def obj_arena_Arena {α : Type} (l : List L) (k : Int → Int → Int → Int → Bool → (List (List L)) → (List (List L)) → (List Int) → (List Int) → Int → (List Int) → (List Int) → Int → Int → Int → (List (List L)) → (List (List L)) → (List (L × L)) → Int → Option α) : Option α := match l with
  | [L.int .i64 x0, L.int .i64 x1, L.int .i64 x2, L.int .i64 x3, L.bool x4, L.sl 2 x5, L.sl 33 x6, L.arr .u64 4 x7, L.arr .u64 4 x8, L.int .i64 x9, L.arr .u8 32 x10, L.arr .u8 32 x11, L.int .i64 x12, L.int .i64 x13, L.int .i64 x14, L.own true 106 x15, L.own true 38 x16, L.mp x17, L.int .i64 x18] => k x0 x1 x2 x3 x4 x5 x6 x7 x8 x9 x10 x11 x12 x13 x14 x15 x16 x17 x18
  | _ => none
theorem obj_arena_Arena_inv {α : Type} {l : List L} {k : Int → Int → Int → Int → Bool → (List (List L)) → (List (List L)) → (List Int) → (List Int) → Int → (List Int) → (List Int) → Int → Int → Int → (List (List L)) → (List (List L)) → (List (L × L)) → Int → Option α} {r : α} (h : obj_arena_Arena l k = some r) : ∃ x0 x1 x2 x3 x4 x5 x6 x7 x8 x9 x10 x11 x12 x13 x14 x15 x16 x17 x18, l = [L.int .i64 x0, L.int .i64 x1, L.int .i64 x2, L.int .i64 x3, L.bool x4, L.sl 2 x5, L.sl 33 x6, L.arr .u64 4 x7, L.arr .u64 4 x8, L.int .i64 x9, L.arr .u8 32 x10, L.arr .u8 32 x11, L.int .i64 x12, L.int .i64 x13, L.int .i64 x14, L.own true 106 x15, L.own true 38 x16, L.mp x17, L.int .i64 x18] ∧ k x0 x1 x2 x3 x4 x5 x6 x7 x8 x9 x10 x11 x12 x13 x14 x15 x16 x17 x18 = some r := by
  unfold obj_arena_Arena at h; split at h
  · exact ⟨_, _, _, _, _, _, _, _, _, _, _, _, _, _, _, _, _, _, _, rfl, h⟩
  · cases h
noncomputable def dec_arena_Entry {α : Type} (l : List L) (k : Int → (List Int) → (List Int) → Int → Int → Int → (List Int) → Int → Int → (List Int) → Option α) : Option α := match l with
  | [L.int .i64 x0, L.arr .u8 32 x1, L.arr .u8 32 x2, L.int .i64 x3, L.int .i64 x4, L.int .i64 x5, L.arr .u8 32 x6, L.int .i64 x7, L.int .i64 x8, L.arr .u64 4 x9] => k x0 x1 x2 x3 x4 x5 x6 x7 x8 x9
  | _ => none
theorem dec_arena_Entry_inv {α : Type} {l : List L} {k : Int → (List Int) → (List Int) → Int → Int → Int → (List Int) → Int → Int → (List Int) → Option α} {r : α} (h : dec_arena_Entry l k = some r) : ∃ x0 x1 x2 x3 x4 x5 x6 x7 x8 x9, l = [L.int .i64 x0, L.arr .u8 32 x1, L.arr .u8 32 x2, L.int .i64 x3, L.int .i64 x4, L.int .i64 x5, L.arr .u8 32 x6, L.int .i64 x7, L.int .i64 x8, L.arr .u64 4 x9] ∧ k x0 x1 x2 x3 x4 x5 x6 x7 x8 x9 = some r := by
  unfold dec_arena_Entry at h; split at h
  · exact ⟨_, _, _, _, _, _, _, _, _, _, rfl, h⟩
  · cases h
noncomputable def dec_u64x4 {α : Type} (l : List L) (k : (List Int) → Option α) : Option α := match l with
  | [L.arr .u64 4 x0] => k x0
  | _ => none
theorem dec_u64x4_inv {α : Type} {l : List L} {k : (List Int) → Option α} {r : α} (h : dec_u64x4 l k = some r) : ∃ x0, l = [L.arr .u64 4 x0] ∧ k x0 = some r := by
  unfold dec_u64x4 at h; split at h
  · exact ⟨_, rfl, h⟩
  · cases h
noncomputable def obj_skip_Tree {α : Type} (l : List L) (k : (Option Nat) → (List (List L)) → Option α) : Option α := match l with
  | [L.ptr x0, L.own true 1 x1] => k x0 x1
  | _ => none
theorem obj_skip_Tree_inv {α : Type} {l : List L} {k : (Option Nat) → (List (List L)) → Option α} {r : α} (h : obj_skip_Tree l k = some r) : ∃ x0 x1, l = [L.ptr x0, L.own true 1 x1] ∧ k x0 x1 = some r := by
  unfold obj_skip_Tree at h; split at h
  · exact ⟨_, _, rfl, h⟩
  · cases h
noncomputable def slices_Clone_int.B : Code := Tryd.f30.body.getD .skip
noncomputable def slices_Clone_int.rs (r : List (List L)) : List CV := [.row true 1 r]
noncomputable def slices_Clone_int (N : Nat) (s_0 : List (List L)) : Option (List (List L)) := chk (List.length s_0 * 8 ≤ 140737488355328) (some s_0)
theorem slices_Clone_int.snd {N : Nat} {s_0 : List (List L)} {r : List (List L)} (h : slices_Clone_int N s_0 = some r) : SndQ Tryd.prog 30 [.one (.sl 1 s_0)] (slices_Clone_int.rs r) := fun st =>
  Snd.of (fn := Tryd.f30) (c := slices_Clone_int.B) Tryd.func30 (by kernel_rfl) (by kernel_rfl) (of_decide_eq_true (by kernel_rfl)) fun g w R hE => by
    unfold slices_Clone_int at h
    obtain ⟨c1, h⟩ := chk_inv h
    obtain rfl := some_inv h
    refine At.q (s' := mkS 8 [(0, .one (.l (.sl 1 s_0)))] [] st) (ks' := [.c (.seq (.region 1 #[{ dst := some 3, op := .move (.tmp 0), type := 27, pos := opPos (csub slices_Clone_int.B [1, 0]) 0, after := #[], guard := none }, { dst := some 4, op := .binOp .eql 27 (.tmp 3) (.const (.slice none 0 0)) 27, type := 4, pos := opPos (csub slices_Clone_int.B [1, 0]) 1, after := #[⟨0, .data⟩], guard := none }] false) (csub slices_Clone_int.B [1, 0, 1])), .c (csub slices_Clone_int.B [1, 1])]) fol 400 [.r [(0, {m := 2})], .s 2] [0] [] trivial ?_ (by kernel_rfl)
    refine At.nilcmp (T := 27) (E := 3) (sz := 1) (xs := s_0) (stepZ_ok _) rfl rfl rfl rfl rfl rfl Tryd.underlying27 (by kernel_rfl) (of_decide_eq_true (by kernel_rfl)) fun b hb => ?_
    cases b with
    | true =>
      obtain rfl := hb rfl
      exact At.f fol hE 400 [.c true, .r [(0, {m := 2})]] [] 0 [0] (rfl : true = true) (by kernel_rfl)
    | false =>
      exact At.f fol hE 400 [.c false, .r []] [] 0 [0] (And.intro (rfl : false = false) (And.intro (rfl : (0 : Nat) = 0) (And.intro (@rfl Nat (List.length ([] : List (List L)))) (And.intro c1 (And.intro (rfl : (0 : Nat) = 0) (@rfl Nat (List.length s_0))))))) (by kernel_rfl)
theorem bits_Add64.snd {N : Nat} {x y z : Int} {r : Int × Int} (h : bits_Add64 N x y z = some r) : ExtI Tryd.prog 73 [(.u64, x), (.u64, y), (.u64, z)] [(.u64, r.1), (.u64, r.2)] := bits_Add64_ext Tryd.func73 (by kernel_rfl) (by kernel_rfl) (by kernel_rfl) (by kernel_rfl) h
theorem bits_Sub64.snd {N : Nat} {x y z : Int} {r : Int × Int} (h : bits_Sub64 N x y z = some r) : ExtI Tryd.prog 80 [(.u64, x), (.u64, y), (.u64, z)] [(.u64, r.1), (.u64, r.2)] := bits_Sub64_ext Tryd.func80 (by kernel_rfl) (by kernel_rfl) (by kernel_rfl) (by kernel_rfl) h
/-! trailhead/compact.Good -/
noncomputable def compact_Good.B : Code := Tryd.f53.body.getD .skip
noncomputable def compact_Good.rs (r : Bool) : List CV := [.one (L.bool r)]
noncomputable def compact_Good (N : Nat) (bits_0 : Int) : Option Bool :=
  if (decide (bits_0 ≥ 0)) = true then
    some (decide (bits_0 ≤ 4294967295))
  else
  some false
theorem compact_Good.at0 (bits_0 : Int) (st : List (List L)) {N : Nat} {r : Bool} {g0 : G} {w0 : World} {R : Exit → Act → World → Prop} (hE : Ends Tryd.prog Tryd.f53 g0 w0 (compact_Good.rs r) st R) (h : compact_Good N bits_0 = some r) : At g0 w0 (S.enter 9 [.one (L.int .i64 bits_0)] st) (exK Tryd.prog R [.c compact_Good.B] .normal) := by
  unfold compact_Good at h
  refine iteB h (fun c1 h1 => ?_) (fun c1 h2 => ?_) <;> clear h
  · obtain rfl := some_inv h1
    exact At.f fol hE 400 [.r [], .r []] [] 0 [] (And.intro c1 (And.intro c1 c1)) (by kernel_rfl)
  · obtain rfl := some_inv h2
    exact At.f fol hE 400 [.r [], .r [(3, {want := false}), (4, {want := false}), (5, {yes := false})]] [] 0 [] (And.intro c1 (And.intro c1 c1)) (by kernel_rfl)
theorem compact_Good.snd {N : Nat} {bits_0 : Int} {r : Bool} (h : compact_Good N bits_0 = some r) : SndQ Tryd.prog 53 [.one (L.int .i64 bits_0)] (compact_Good.rs r) := fun st =>
  Snd.of (fn := Tryd.f53) (c := compact_Good.B) Tryd.func53 (by kernel_rfl) (by kernel_rfl) (of_decide_eq_true (by kernel_rfl)) fun g w R hE => compact_Good.at0 bits_0 st hE h
/-! trailhead/whole.Of -/
noncomputable def whole_Of.B : Code := Tryd.f64.body.getD .skip
noncomputable def whole_Of.rs (r : (List Int)) : List CV := [.agg [L.arr .u64 4 r]]
noncomputable def whole_Of (N : Nat) (n_0 : Int) : Option (List Int) :=
  some [n_0, 0, 0, 0]
theorem whole_Of.at0 (n_0 : Int) (st : List (List L)) {N : Nat} {r : (List Int)} {g0 : G} {w0 : World} {R : Exit → Act → World → Prop} (hE : Ends Tryd.prog Tryd.f64 g0 w0 (whole_Of.rs r) st R) (h : whole_Of N n_0 = some r) : At g0 w0 (S.enter 5 [.one (L.int .u64 n_0)] st) (exK Tryd.prog R [.c whole_Of.B] .normal) := by
  unfold whole_Of at h
  obtain rfl := some_inv h
  exact At.f fol hE 400 [.r [], .r [(1, {m := 3})]] [] 0 [] trivial (by kernel_rfl)
theorem whole_Of.snd {N : Nat} {n_0 : Int} {r : (List Int)} (h : whole_Of N n_0 = some r) : SndQ Tryd.prog 64 [.one (L.int .u64 n_0)] (whole_Of.rs r) := fun st =>
  Snd.of (fn := Tryd.f64) (c := whole_Of.B) Tryd.func64 (by kernel_rfl) (by kernel_rfl) (of_decide_eq_true (by kernel_rfl)) fun g w R hE => whole_Of.at0 n_0 st hE h
/-! trailhead/whole.Down -/
noncomputable def whole_Down.B : Code := Tryd.f65.body.getD .skip
noncomputable def whole_Down.rs (r : (List Int)) : List CV := [.agg [L.arr .u64 4 r]]
noncomputable def whole_Down.p2 (N : Nat) (c1_ : (Int × (List Int)) → Option (List Int)) (n_1 : Int) (v1 : Int) (a_0_0 : List Int) (out_4 : List Int) : Option (List Int) :=
  c1_ (IntKind.wrap IntKind.i64 (v1 + 1), out_4)
noncomputable def whole_Down.p1 (N : Nat)  (n_1 : Int) (a_0_0 : List Int) (c1_ : (Int × (List Int)) → Option (List Int)) : (Int × (List Int)) → Option (List Int) := fun (v1, out_3) =>
  if (decide (v1 < (IntKind.wrap IntKind.i64 (4 - (IntKind.wrap IntKind.i64 (Int.tdiv (if (0 : Int) > n_1 then 0 else n_1) 64)))))) = true then
    chk (0 ≤ (IntKind.wrap IntKind.i64 (v1 + (IntKind.wrap IntKind.i64 (Int.tdiv (if (0 : Int) > n_1 then 0 else n_1) 64))))) <|
    chk ((IntKind.wrap IntKind.i64 (v1 + (IntKind.wrap IntKind.i64 (Int.tdiv (if (0 : Int) > n_1 then 0 else n_1) 64)))) < 4) <|
    chk (0 ≤ (Int.tmod (if (0 : Int) > n_1 then 0 else n_1) 64)) <|
    chk (0 ≤ v1) <|
    chk (v1 < 4) <|
    if (decide ((IntKind.wrap IntKind.i64 ((IntKind.wrap IntKind.i64 (v1 + (IntKind.wrap IntKind.i64 (Int.tdiv (if (0 : Int) > n_1 then 0 else n_1) 64)))) + 1)) < 4)) = true then
      chk (0 ≤ (IntKind.wrap IntKind.i64 ((IntKind.wrap IntKind.i64 (v1 + (IntKind.wrap IntKind.i64 (Int.tdiv (if (0 : Int) > n_1 then 0 else n_1) 64)))) + 1))) <|
      chk (0 ≤ (IntKind.wrap IntKind.i64 (64 - (Int.tmod (if (0 : Int) > n_1 then 0 else n_1) 64)))) <|
      whole_Down.p2 N c1_ n_1 v1 a_0_0 (List.set (List.set out_3 (Int.toNat v1) (shrOf .u64 (List.getD a_0_0 (Int.toNat (IntKind.wrap IntKind.i64 (v1 + (IntKind.wrap IntKind.i64 (Int.tdiv (if (0 : Int) > n_1 then 0 else n_1) 64))))) 0) (Int.tmod (if (0 : Int) > n_1 then 0 else n_1) 64))) (Int.toNat v1) (bitsOf .or .u64 (List.getD (List.set out_3 (Int.toNat v1) (shrOf .u64 (List.getD a_0_0 (Int.toNat (IntKind.wrap IntKind.i64 (v1 + (IntKind.wrap IntKind.i64 (Int.tdiv (if (0 : Int) > n_1 then 0 else n_1) 64))))) 0) (Int.tmod (if (0 : Int) > n_1 then 0 else n_1) 64))) (Int.toNat v1) 0) (shlOf .u64 (List.getD a_0_0 (Int.toNat (IntKind.wrap IntKind.i64 ((IntKind.wrap IntKind.i64 (v1 + (IntKind.wrap IntKind.i64 (Int.tdiv (if (0 : Int) > n_1 then 0 else n_1) 64)))) + 1))) 0) (IntKind.wrap IntKind.i64 (64 - (Int.tmod (if (0 : Int) > n_1 then 0 else n_1) 64))))))
    else
    whole_Down.p2 N c1_ n_1 v1 a_0_0 (List.set out_3 (Int.toNat v1) (shrOf .u64 (List.getD a_0_0 (Int.toNat (IntKind.wrap IntKind.i64 (v1 + (IntKind.wrap IntKind.i64 (Int.tdiv (if (0 : Int) > n_1 then 0 else n_1) 64))))) 0) (Int.tmod (if (0 : Int) > n_1 then 0 else n_1) 64)))
  else
  some out_3
noncomputable def whole_Down (N : Nat) (a_0_0 : List Int) (n_1 : Int) : Option (List Int) :=
  if (decide (n_1 ≥ 256)) = true then
    some (List.replicate 4 0)
  else
  loopN (whole_Down.p1 N  n_1 a_0_0) N (0, List.replicate 4 0)
noncomputable def whole_Down.p2.S (n_1 : Int) (v1 : Int) (a_0_0 : List Int) (out_4 : List Int) (st : List (List L)) : S := mkS 53 [(2, .one (.adr (.site 2) 0)), (4, .one (.adr (.site 4) 0)), (5, .one (.adr (.site 5) 0)), (6, .one (.l (L.int .i64 (IntKind.wrap IntKind.i64 (Int.tdiv (if (0 : Int) > n_1 then 0 else n_1) 64))))), (7, .one (.l (L.int .i64 (Int.tmod (if (0 : Int) > n_1 then 0 else n_1) 64)))), (19, .one (.l (L.int .i64 (IntKind.wrap IntKind.i64 (4 - (IntKind.wrap IntKind.i64 (Int.tdiv (if (0 : Int) > n_1 then 0 else n_1) 64))))))), (20, .one (.l (L.int .i64 v1)))] [(2, .cells [L.arr .u64 4 a_0_0]), (4, .cells [L.arr .u64 4 (List.replicate 4 0)]), (5, .cells [L.arr .u64 4 out_4])] st
noncomputable def whole_Down.p1.S (n_1 : Int) (v1 : Int) (a_0_0 : List Int) (out_3 : List Int) (st : List (List L)) : S := mkS 53 [(2, .one (.adr (.site 2) 0)), (4, .one (.adr (.site 4) 0)), (5, .one (.adr (.site 5) 0)), (6, .one (.l (L.int .i64 (IntKind.wrap IntKind.i64 (Int.tdiv (if (0 : Int) > n_1 then 0 else n_1) 64))))), (7, .one (.l (L.int .i64 (Int.tmod (if (0 : Int) > n_1 then 0 else n_1) 64)))), (19, .one (.l (L.int .i64 (IntKind.wrap IntKind.i64 (4 - (IntKind.wrap IntKind.i64 (Int.tdiv (if (0 : Int) > n_1 then 0 else n_1) 64))))))), (20, .one (.l (L.int .i64 v1)))] [(2, .cells [L.arr .u64 4 a_0_0]), (4, .cells [L.arr .u64 4 (List.replicate 4 0)]), (5, .cells [L.arr .u64 4 out_3])] st
theorem whole_Down.p2_ok (n_1 : Int) (v1 : Int) (a_0_0 : List Int) (out_4 : List Int) (st : List (List L)) {N : Nat} {r : (List Int)} {g0 : G} {w0 : World} {R : Exit → Act → World → Prop} {c1_ : (Int × (List Int)) → Option (List Int)} {J1 : Act → World → Prop} (hE : Ends Tryd.prog Tryd.f65 g0 w0 (whole_Down.rs r) st R) (hc1 : ∀ (v1 : Int) (out_3 : List Int), c1_ (v1, out_3) = some r → At g0 w0 (whole_Down.p1.S n_1 v1 a_0_0 out_3 st) J1) (h : whole_Down.p2 N c1_ n_1 v1 a_0_0 out_4 = some r) : At g0 w0 (whole_Down.p2.S n_1 v1 a_0_0 out_4 st) (exK Tryd.prog R [.c (csub whole_Down.B [1, 1, 1, 1, 0, 1, 0, 0, 1, 1, 1]), .h J1, .b 0, .c (csub whole_Down.B [1, 1, 1, 1, 1])] .normal) := by
  unfold whole_Down.p2 at h
  exact At.n fol 400 [.r []] [2, 4, 5, 6, 7, 19, 20] [2, 4, 5] trivial (hc1 (IntKind.wrap IntKind.i64 (v1 + 1)) out_4 h) (by kernel_rfl)
theorem whole_Down.p1_ok (n_1 : Int) (v1 : Int) (a_0_0 : List Int) (out_3 : List Int) (st : List (List L)) {N : Nat} {r : (List Int)} {g0 : G} {w0 : World} {R : Exit → Act → World → Prop}  {c1_ : (Int × (List Int)) → Option (List Int)}  {J1 : Act → World → Prop} (hE : Ends Tryd.prog Tryd.f65 g0 w0 (whole_Down.rs r) st R)  (hc1 : ∀ (v1 : Int) (out_3 : List Int), c1_ (v1, out_3) = some r → At g0 w0 (whole_Down.p1.S n_1 v1 a_0_0 out_3 st) J1) (h : whole_Down.p1 N  n_1 a_0_0 c1_ (v1, out_3) = some r) : At g0 w0 (whole_Down.p1.S n_1 v1 a_0_0 out_3 st) (exK Tryd.prog R (.c (csub whole_Down.B [1, 1, 1, 1, 0, 1, 0, 0]) :: .h J1 :: [.b 0, .c (csub whole_Down.B [1, 1, 1, 1, 1])]) .normal) := by
  unfold whole_Down.p1 at h
  refine iteB h (fun c11 h1 => ?_) (fun c11 h2 => ?_) <;> clear h
  · obtain ⟨c12, h3⟩ := chk_inv h1; clear h1
    obtain ⟨c13, h4⟩ := chk_inv h3; clear h3
    obtain ⟨c14, h5⟩ := chk_inv h4; clear h4
    obtain ⟨c15, h6⟩ := chk_inv h5; clear h5
    obtain ⟨c16, h7⟩ := chk_inv h6; clear h6
    refine iteB h7 (fun c17 h8 => ?_) (fun c17 h9 => ?_) <;> clear h7
    · obtain ⟨c18, h10⟩ := chk_inv h8; clear h8
      obtain ⟨c19, h11⟩ := chk_inv h10; clear h10
      exact At.qd fol 400 [.r [], .c true, .r [], .r [], .r [], .c true, .d {ds := [], hv := 16384, Hs := [16384]}, .s 4] [2, 4, 5, 6, 7, 19, 20] [2, 4, 5] (And.intro c11 (And.intro c12 (And.intro c13 (And.intro c14 (And.intro c15 (And.intro c16 (And.intro c17 (And.intro c15 (And.intro c16 (And.intro c18 (And.intro (of_decide_eq_true c17) (And.intro c19 (And.intro c15 c16))))))))))))) (whole_Down.p2_ok n_1 v1 a_0_0 (List.set (List.set out_3 (Int.toNat v1) (shrOf .u64 (List.getD a_0_0 (Int.toNat (IntKind.wrap IntKind.i64 (v1 + (IntKind.wrap IntKind.i64 (Int.tdiv (if (0 : Int) > n_1 then 0 else n_1) 64))))) 0) (Int.tmod (if (0 : Int) > n_1 then 0 else n_1) 64))) (Int.toNat v1) (bitsOf .or .u64 (List.getD (List.set out_3 (Int.toNat v1) (shrOf .u64 (List.getD a_0_0 (Int.toNat (IntKind.wrap IntKind.i64 (v1 + (IntKind.wrap IntKind.i64 (Int.tdiv (if (0 : Int) > n_1 then 0 else n_1) 64))))) 0) (Int.tmod (if (0 : Int) > n_1 then 0 else n_1) 64))) (Int.toNat v1) 0) (shlOf .u64 (List.getD a_0_0 (Int.toNat (IntKind.wrap IntKind.i64 ((IntKind.wrap IntKind.i64 (v1 + (IntKind.wrap IntKind.i64 (Int.tdiv (if (0 : Int) > n_1 then 0 else n_1) 64)))) + 1))) 0) (IntKind.wrap IntKind.i64 (64 - (Int.tmod (if (0 : Int) > n_1 then 0 else n_1) 64)))))) st hE hc1 h11) (by kernel_rfl) (by kernel_rfl)
    · exact At.q fol 400 [.r [], .c true, .r [], .r [], .r [], .c false, .s 4] [2, 4, 5, 6, 7, 19, 20] [2, 4, 5] (And.intro c11 (And.intro c12 (And.intro c13 (And.intro c14 (And.intro c15 (And.intro c16 c17)))))) (whole_Down.p2_ok n_1 v1 a_0_0 (List.set out_3 (Int.toNat v1) (shrOf .u64 (List.getD a_0_0 (Int.toNat (IntKind.wrap IntKind.i64 (v1 + (IntKind.wrap IntKind.i64 (Int.tdiv (if (0 : Int) > n_1 then 0 else n_1) 64))))) 0) (Int.tmod (if (0 : Int) > n_1 then 0 else n_1) 64))) st hE hc1 h9) (by kernel_rfl)
  · obtain rfl := some_inv h2
    exact At.f fol hE 400 [.r [], .c false, .r []] [] 0 [] c11 (by kernel_rfl)
theorem whole_Down.p1_loop (n_1 : Int) (v1 : Int) (a_0_0 : List Int) (out_3 : List Int) (st : List (List L)) {N : Nat} {r : (List Int)} {g0 : G} {w0 : World} {R : Exit → Act → World → Prop}   (hE : Ends Tryd.prog Tryd.f65 g0 w0 (whole_Down.rs r) st R)  (h : loopN (whole_Down.p1 N  n_1 a_0_0) N (v1, out_3) = some r) : At g0 w0 (whole_Down.p1.S n_1 v1 a_0_0 out_3 st) (exK Tryd.prog R (.c (.loop (csub whole_Down.B [1, 1, 1, 1, 0, 1, 0, 0])) :: [.b 0, .c (csub whole_Down.B [1, 1, 1, 1, 1])]) .normal) :=
  At.loop N (At.loopN (fun y : Int × (List Int) => whole_Down.p1.S n_1 y.1 a_0_0 y.2 st) (fun c J hc y h => whole_Down.p1_ok n_1 y.1 a_0_0 y.2 st hE  (fun v1 out_3 hh => hc (v1, out_3) hh) h) N (v1, out_3) h)
theorem whole_Down.at0 (a_0_0 : List Int) (n_1 : Int) (st : List (List L)) {N : Nat} {r : (List Int)} {g0 : G} {w0 : World} {R : Exit → Act → World → Prop} (hE : Ends Tryd.prog Tryd.f65 g0 w0 (whole_Down.rs r) st R) (h : whole_Down N a_0_0 n_1 = some r) : At g0 w0 (S.enter 53 [.agg [L.arr .u64 4 a_0_0], .one (L.int .i64 n_1)] st) (exK Tryd.prog R [.c whole_Down.B] .normal) := by
  unfold whole_Down at h
  refine iteB h (fun c1 h12 => ?_) (fun c1 h13 => ?_) <;> clear h
  · obtain rfl := some_inv h12
    exact At.f fol hE 400 [.r [], .r [], .c true, .r []] [] 0 [] c1 (by kernel_rfl)
  · exact At.q fol 400 [.r [], .r [], .c false, .r [], .r [], .r []] [2, 4, 5, 6, 7, 19, 20] [2, 4, 5] (And.intro c1 (And.intro (by decide : (64 : Int) ≠ 0) (by decide : (64 : Int) ≠ 0))) (whole_Down.p1_loop n_1 0 a_0_0 (List.replicate 4 0) st hE  h13) (by kernel_rfl)
theorem whole_Down.snd {N : Nat} {a_0_0 : List Int} {n_1 : Int} {r : (List Int)} (h : whole_Down N a_0_0 n_1 = some r) : SndQ Tryd.prog 65 [.agg [L.arr .u64 4 a_0_0], .one (L.int .i64 n_1)] (whole_Down.rs r) := fun st =>
  Snd.of (fn := Tryd.f65) (c := whole_Down.B) Tryd.func65 (by kernel_rfl) (by kernel_rfl) (of_decide_eq_true (by kernel_rfl)) fun g w R hE => whole_Down.at0 a_0_0 n_1 st hE h
/-! trailhead/whole.Up -/
noncomputable def whole_Up.B : Code := Tryd.f66.body.getD .skip
noncomputable def whole_Up.rs (r : (List Int)) : List CV := [.agg [L.arr .u64 4 r]]
noncomputable def whole_Up.p2 (N : Nat) (c1_ : (Int × (List Int)) → Option (List Int)) (n_1 : Int) (i_1 : Int) (a_0_0 : List Int) (out_4 : List Int) : Option (List Int) :=
  c1_ (IntKind.wrap IntKind.i64 (i_1 + 1), out_4)
noncomputable def whole_Up.p1 (N : Nat)  (n_1 : Int) (a_0_0 : List Int) (c1_ : (Int × (List Int)) → Option (List Int)) : (Int × (List Int)) → Option (List Int) := fun (i_1, out_3) =>
  if (decide (i_1 < 4)) = true then
    chk (0 ≤ (IntKind.wrap IntKind.i64 (i_1 - (IntKind.wrap IntKind.i64 (Int.tdiv (if (0 : Int) > n_1 then 0 else n_1) 64))))) <|
    chk ((IntKind.wrap IntKind.i64 (i_1 - (IntKind.wrap IntKind.i64 (Int.tdiv (if (0 : Int) > n_1 then 0 else n_1) 64)))) < 4) <|
    chk (0 ≤ (Int.tmod (if (0 : Int) > n_1 then 0 else n_1) 64)) <|
    chk (0 ≤ i_1) <|
    if (decide (i_1 > (IntKind.wrap IntKind.i64 (Int.tdiv (if (0 : Int) > n_1 then 0 else n_1) 64)))) = true then
      chk (0 ≤ (IntKind.wrap IntKind.i64 ((IntKind.wrap IntKind.i64 (i_1 - (IntKind.wrap IntKind.i64 (Int.tdiv (if (0 : Int) > n_1 then 0 else n_1) 64)))) - 1))) <|
      chk ((IntKind.wrap IntKind.i64 ((IntKind.wrap IntKind.i64 (i_1 - (IntKind.wrap IntKind.i64 (Int.tdiv (if (0 : Int) > n_1 then 0 else n_1) 64)))) - 1)) < 4) <|
      chk (0 ≤ (IntKind.wrap IntKind.i64 (64 - (Int.tmod (if (0 : Int) > n_1 then 0 else n_1) 64)))) <|
      whole_Up.p2 N c1_ n_1 i_1 a_0_0 (List.set (List.set out_3 (Int.toNat i_1) (shlOf .u64 (List.getD a_0_0 (Int.toNat (IntKind.wrap IntKind.i64 (i_1 - (IntKind.wrap IntKind.i64 (Int.tdiv (if (0 : Int) > n_1 then 0 else n_1) 64))))) 0) (Int.tmod (if (0 : Int) > n_1 then 0 else n_1) 64))) (Int.toNat i_1) (bitsOf .or .u64 (List.getD (List.set out_3 (Int.toNat i_1) (shlOf .u64 (List.getD a_0_0 (Int.toNat (IntKind.wrap IntKind.i64 (i_1 - (IntKind.wrap IntKind.i64 (Int.tdiv (if (0 : Int) > n_1 then 0 else n_1) 64))))) 0) (Int.tmod (if (0 : Int) > n_1 then 0 else n_1) 64))) (Int.toNat i_1) 0) (shrOf .u64 (List.getD a_0_0 (Int.toNat (IntKind.wrap IntKind.i64 ((IntKind.wrap IntKind.i64 (i_1 - (IntKind.wrap IntKind.i64 (Int.tdiv (if (0 : Int) > n_1 then 0 else n_1) 64)))) - 1))) 0) (IntKind.wrap IntKind.i64 (64 - (Int.tmod (if (0 : Int) > n_1 then 0 else n_1) 64))))))
    else
    whole_Up.p2 N c1_ n_1 i_1 a_0_0 (List.set out_3 (Int.toNat i_1) (shlOf .u64 (List.getD a_0_0 (Int.toNat (IntKind.wrap IntKind.i64 (i_1 - (IntKind.wrap IntKind.i64 (Int.tdiv (if (0 : Int) > n_1 then 0 else n_1) 64))))) 0) (Int.tmod (if (0 : Int) > n_1 then 0 else n_1) 64)))
  else
  some out_3
noncomputable def whole_Up (N : Nat) (a_0_0 : List Int) (n_1 : Int) : Option (List Int) :=
  if (decide (n_1 ≥ 256)) = true then
    some (List.replicate 4 0)
  else
  loopN (whole_Up.p1 N  n_1 a_0_0) N (IntKind.wrap IntKind.i64 (Int.tdiv (if (0 : Int) > n_1 then 0 else n_1) 64), List.replicate 4 0)
noncomputable def whole_Up.p2.S (n_1 : Int) (i_1 : Int) (a_0_0 : List Int) (out_4 : List Int) (st : List (List L)) : S := mkS 50 [(2, .one (.adr (.site 2) 0)), (4, .one (.adr (.site 4) 0)), (5, .one (.adr (.site 5) 0)), (6, .one (.l (L.int .i64 (IntKind.wrap IntKind.i64 (Int.tdiv (if (0 : Int) > n_1 then 0 else n_1) 64))))), (7, .one (.l (L.int .i64 (Int.tmod (if (0 : Int) > n_1 then 0 else n_1) 64)))), (8, .one (.l (L.int .i64 i_1)))] [(2, .cells [L.arr .u64 4 a_0_0]), (4, .cells [L.arr .u64 4 (List.replicate 4 0)]), (5, .cells [L.arr .u64 4 out_4])] st
noncomputable def whole_Up.p1.S (n_1 : Int) (i_1 : Int) (a_0_0 : List Int) (out_3 : List Int) (st : List (List L)) : S := mkS 50 [(2, .one (.adr (.site 2) 0)), (4, .one (.adr (.site 4) 0)), (5, .one (.adr (.site 5) 0)), (6, .one (.l (L.int .i64 (IntKind.wrap IntKind.i64 (Int.tdiv (if (0 : Int) > n_1 then 0 else n_1) 64))))), (7, .one (.l (L.int .i64 (Int.tmod (if (0 : Int) > n_1 then 0 else n_1) 64)))), (8, .one (.l (L.int .i64 i_1)))] [(2, .cells [L.arr .u64 4 a_0_0]), (4, .cells [L.arr .u64 4 (List.replicate 4 0)]), (5, .cells [L.arr .u64 4 out_3])] st
theorem whole_Up.p2_ok (n_1 : Int) (i_1 : Int) (a_0_0 : List Int) (out_4 : List Int) (st : List (List L)) {N : Nat} {r : (List Int)} {g0 : G} {w0 : World} {R : Exit → Act → World → Prop} {c1_ : (Int × (List Int)) → Option (List Int)} {J1 : Act → World → Prop} (hE : Ends Tryd.prog Tryd.f66 g0 w0 (whole_Up.rs r) st R) (hc1 : ∀ (i_1 : Int) (out_3 : List Int), c1_ (i_1, out_3) = some r → At g0 w0 (whole_Up.p1.S n_1 i_1 a_0_0 out_3 st) J1) (h : whole_Up.p2 N c1_ n_1 i_1 a_0_0 out_4 = some r) : At g0 w0 (whole_Up.p2.S n_1 i_1 a_0_0 out_4 st) (exK Tryd.prog R [.c (csub whole_Up.B [1, 1, 1, 1, 0, 1, 0, 0, 1, 1]), .h J1, .b 0, .c (csub whole_Up.B [1, 1, 1, 1, 1])] .normal) := by
  unfold whole_Up.p2 at h
  exact At.n fol 400 [.r []] [2, 4, 5, 6, 7, 8] [2, 4, 5] trivial (hc1 (IntKind.wrap IntKind.i64 (i_1 + 1)) out_4 h) (by kernel_rfl)
theorem whole_Up.p1_ok (n_1 : Int) (i_1 : Int) (a_0_0 : List Int) (out_3 : List Int) (st : List (List L)) {N : Nat} {r : (List Int)} {g0 : G} {w0 : World} {R : Exit → Act → World → Prop}  {c1_ : (Int × (List Int)) → Option (List Int)}  {J1 : Act → World → Prop} (hE : Ends Tryd.prog Tryd.f66 g0 w0 (whole_Up.rs r) st R)  (hc1 : ∀ (i_1 : Int) (out_3 : List Int), c1_ (i_1, out_3) = some r → At g0 w0 (whole_Up.p1.S n_1 i_1 a_0_0 out_3 st) J1) (h : whole_Up.p1 N  n_1 a_0_0 c1_ (i_1, out_3) = some r) : At g0 w0 (whole_Up.p1.S n_1 i_1 a_0_0 out_3 st) (exK Tryd.prog R (.c (csub whole_Up.B [1, 1, 1, 1, 0, 1, 0, 0]) :: .h J1 :: [.b 0, .c (csub whole_Up.B [1, 1, 1, 1, 1])]) .normal) := by
  unfold whole_Up.p1 at h
  refine iteB h (fun c11 h1 => ?_) (fun c11 h2 => ?_) <;> clear h
  · obtain ⟨c12, h3⟩ := chk_inv h1; clear h1
    obtain ⟨c13, h4⟩ := chk_inv h3; clear h3
    obtain ⟨c14, h5⟩ := chk_inv h4; clear h4
    obtain ⟨c15, h6⟩ := chk_inv h5; clear h5
    refine iteB h6 (fun c16 h7 => ?_) (fun c16 h8 => ?_) <;> clear h6
    · obtain ⟨c17, h9⟩ := chk_inv h7; clear h7
      obtain ⟨c18, h10⟩ := chk_inv h9; clear h9
      obtain ⟨c19, h11⟩ := chk_inv h10; clear h10
      exact At.qd fol 400 [.r [], .c true, .r [], .r [], .c true, .d {ds := [], hv := 16384, Hs := [16384]}, .s 4] [2, 4, 5, 6, 7, 8] [2, 4, 5] (And.intro c11 (And.intro c12 (And.intro c13 (And.intro c14 (And.intro c15 (And.intro (of_decide_eq_true c11) (And.intro c16 (And.intro c15 (And.intro (of_decide_eq_true c11) (And.intro c17 (And.intro c18 (And.intro c19 (And.intro c15 (of_decide_eq_true c11)))))))))))))) (whole_Up.p2_ok n_1 i_1 a_0_0 (List.set (List.set out_3 (Int.toNat i_1) (shlOf .u64 (List.getD a_0_0 (Int.toNat (IntKind.wrap IntKind.i64 (i_1 - (IntKind.wrap IntKind.i64 (Int.tdiv (if (0 : Int) > n_1 then 0 else n_1) 64))))) 0) (Int.tmod (if (0 : Int) > n_1 then 0 else n_1) 64))) (Int.toNat i_1) (bitsOf .or .u64 (List.getD (List.set out_3 (Int.toNat i_1) (shlOf .u64 (List.getD a_0_0 (Int.toNat (IntKind.wrap IntKind.i64 (i_1 - (IntKind.wrap IntKind.i64 (Int.tdiv (if (0 : Int) > n_1 then 0 else n_1) 64))))) 0) (Int.tmod (if (0 : Int) > n_1 then 0 else n_1) 64))) (Int.toNat i_1) 0) (shrOf .u64 (List.getD a_0_0 (Int.toNat (IntKind.wrap IntKind.i64 ((IntKind.wrap IntKind.i64 (i_1 - (IntKind.wrap IntKind.i64 (Int.tdiv (if (0 : Int) > n_1 then 0 else n_1) 64)))) - 1))) 0) (IntKind.wrap IntKind.i64 (64 - (Int.tmod (if (0 : Int) > n_1 then 0 else n_1) 64)))))) st hE hc1 h11) (by kernel_rfl) (by kernel_rfl)
    · exact At.q fol 400 [.r [], .c true, .r [], .r [], .c false, .s 4] [2, 4, 5, 6, 7, 8] [2, 4, 5] (And.intro c11 (And.intro c12 (And.intro c13 (And.intro c14 (And.intro c15 (And.intro (of_decide_eq_true c11) c16)))))) (whole_Up.p2_ok n_1 i_1 a_0_0 (List.set out_3 (Int.toNat i_1) (shlOf .u64 (List.getD a_0_0 (Int.toNat (IntKind.wrap IntKind.i64 (i_1 - (IntKind.wrap IntKind.i64 (Int.tdiv (if (0 : Int) > n_1 then 0 else n_1) 64))))) 0) (Int.tmod (if (0 : Int) > n_1 then 0 else n_1) 64))) st hE hc1 h8) (by kernel_rfl)
  · obtain rfl := some_inv h2
    exact At.f fol hE 400 [.r [], .c false, .r []] [] 0 [] c11 (by kernel_rfl)
theorem whole_Up.p1_loop (n_1 : Int) (i_1 : Int) (a_0_0 : List Int) (out_3 : List Int) (st : List (List L)) {N : Nat} {r : (List Int)} {g0 : G} {w0 : World} {R : Exit → Act → World → Prop}   (hE : Ends Tryd.prog Tryd.f66 g0 w0 (whole_Up.rs r) st R)  (h : loopN (whole_Up.p1 N  n_1 a_0_0) N (i_1, out_3) = some r) : At g0 w0 (whole_Up.p1.S n_1 i_1 a_0_0 out_3 st) (exK Tryd.prog R (.c (.loop (csub whole_Up.B [1, 1, 1, 1, 0, 1, 0, 0])) :: [.b 0, .c (csub whole_Up.B [1, 1, 1, 1, 1])]) .normal) :=
  At.loop N (At.loopN (fun y : Int × (List Int) => whole_Up.p1.S n_1 y.1 a_0_0 y.2 st) (fun c J hc y h => whole_Up.p1_ok n_1 y.1 a_0_0 y.2 st hE  (fun i_1 out_3 hh => hc (i_1, out_3) hh) h) N (i_1, out_3) h)
theorem whole_Up.at0 (a_0_0 : List Int) (n_1 : Int) (st : List (List L)) {N : Nat} {r : (List Int)} {g0 : G} {w0 : World} {R : Exit → Act → World → Prop} (hE : Ends Tryd.prog Tryd.f66 g0 w0 (whole_Up.rs r) st R) (h : whole_Up N a_0_0 n_1 = some r) : At g0 w0 (S.enter 50 [.agg [L.arr .u64 4 a_0_0], .one (L.int .i64 n_1)] st) (exK Tryd.prog R [.c whole_Up.B] .normal) := by
  unfold whole_Up at h
  refine iteB h (fun c1 h12 => ?_) (fun c1 h13 => ?_) <;> clear h
  · obtain rfl := some_inv h12
    exact At.f fol hE 400 [.r [], .r [], .c true, .r []] [] 0 [] c1 (by kernel_rfl)
  · exact At.q fol 400 [.r [], .r [], .c false, .r [], .r [], .r []] [2, 4, 5, 6, 7, 8] [2, 4, 5] (And.intro c1 (And.intro (by decide : (64 : Int) ≠ 0) (by decide : (64 : Int) ≠ 0))) (whole_Up.p1_loop n_1 (IntKind.wrap IntKind.i64 (Int.tdiv (if (0 : Int) > n_1 then 0 else n_1) 64)) a_0_0 (List.replicate 4 0) st hE  h13) (by kernel_rfl)
theorem whole_Up.snd {N : Nat} {a_0_0 : List Int} {n_1 : Int} {r : (List Int)} (h : whole_Up N a_0_0 n_1 = some r) : SndQ Tryd.prog 66 [.agg [L.arr .u64 4 a_0_0], .one (L.int .i64 n_1)] (whole_Up.rs r) := fun st =>
  Snd.of (fn := Tryd.f66) (c := whole_Up.B) Tryd.func66 (by kernel_rfl) (by kernel_rfl) (of_decide_eq_true (by kernel_rfl)) fun g w R hE => whole_Up.at0 a_0_0 n_1 st hE h
/-! trailhead/compact.Decode -/
noncomputable def compact_Decode.B : Code := Tryd.f54.body.getD .skip
noncomputable def compact_Decode.rs (r : (List Int) × Bool × Bool) : List CV := [.agg [L.arr .u64 4 r.1], .one (L.bool r.2.1), .one (L.bool r.2.2)]
noncomputable def compact_Decode.p1 (N : Nat)  (bits_0 : Int) (n_5 : List Int) : Option ((List Int) × Bool × Bool) :=
  if ((bitsOf .and .i64 bits_0 8388607) != 0) = true then
    if (decide ((shrOf .i64 bits_0 24) > 34)) = true then
      some (n_5, (bitsOf .and .i64 bits_0 8388608) != 0, true)
    else
    if (decide ((bitsOf .and .i64 bits_0 8388607) > 255)) = true then
      if (decide ((shrOf .i64 bits_0 24) > 33)) = true then
        some (n_5, (bitsOf .and .i64 bits_0 8388608) != 0, true)
      else
      if (decide ((bitsOf .and .i64 bits_0 8388607) > 65535)) = true then
        some (n_5, (bitsOf .and .i64 bits_0 8388608) != 0, decide ((shrOf .i64 bits_0 24) > 32))
      else
      some (n_5, (bitsOf .and .i64 bits_0 8388608) != 0, false)
    else
    if (decide ((bitsOf .and .i64 bits_0 8388607) > 65535)) = true then
      some (n_5, (bitsOf .and .i64 bits_0 8388608) != 0, decide ((shrOf .i64 bits_0 24) > 32))
    else
    some (n_5, (bitsOf .and .i64 bits_0 8388608) != 0, false)
  else
  some (n_5, false, false)
noncomputable def compact_Decode (N : Nat) (bits_0 : Int) : Option ((List Int) × Bool × Bool) :=
  optE (compact_Good N bits_0) fun x1 =>
  if (!x1) = true then
    some (List.replicate 4 0, false, false)
  else
  optE (whole_Of N (IntKind.wrap IntKind.u64 (bitsOf .and .i64 bits_0 8388607))) fun x2 =>
  if (decide ((shrOf .i64 bits_0 24) ≤ 3)) = true then
    optE (whole_Down N x2 (IntKind.wrap IntKind.i64 (8 * (IntKind.wrap IntKind.i64 (3 - (shrOf .i64 bits_0 24)))))) fun x3 =>
    compact_Decode.p1 N  bits_0 x3
  else
  optE (whole_Up N x2 (IntKind.wrap IntKind.i64 (8 * (IntKind.wrap IntKind.i64 ((shrOf .i64 bits_0 24) - 3))))) fun x4 =>
  compact_Decode.p1 N  bits_0 x4
noncomputable def compact_Decode.p1.S (bits_0 : Int) (n_5 : List Int) (st : List (List L)) : S := mkS 65 [(0, .one (.l (L.int .i64 bits_0))), (2, .one (.adr (.site 2) 0)), (5, .one (.l (L.int .i64 (shrOf .i64 bits_0 24)))), (6, .one (.l (L.int .i64 (bitsOf .and .i64 bits_0 8388607)))), (7, .one (.adr (.site 7) 0))] [(2, .cells [L.arr .u64 4 (List.replicate 4 0)]), (7, .cells [L.arr .u64 4 n_5])] st
theorem compact_Decode.p1_ok (bits_0 : Int) (n_5 : List Int) (st : List (List L)) {N : Nat} {r : (List Int) × Bool × Bool} {g0 : G} {w0 : World} {R : Exit → Act → World → Prop}   (hE : Ends Tryd.prog Tryd.f54 g0 w0 (compact_Decode.rs r) st R)  (h : compact_Decode.p1 N  bits_0 n_5 = some r) : At g0 w0 (compact_Decode.p1.S bits_0 n_5 st) (exK Tryd.prog R [.c (csub compact_Decode.B [1, 1, 1, 1, 1])] .normal) := by
  unfold compact_Decode.p1 at h
  refine iteB h (fun c7 h1 => ?_) (fun c7 h2 => ?_) <;> clear h
  · refine iteB h1 (fun c8 h3 => ?_) (fun c8 h4 => ?_) <;> clear h1
    · obtain rfl := some_inv h3
      exact At.f fol hE 400 [.r [], .r [(6, {want := false}), (7, {want := false}), (8, {want := false}), (11, {want := false}), (14, {want := false}), (15, {want := false}), (16, {want := false}), (19, {want := false})], .r []] [] 0 [] (And.intro c7 (And.intro c7 (And.intro c7 (And.intro c7 (And.intro c7 (And.intro c7 (And.intro c7 (And.intro c8 (And.intro c8 (And.intro c8 (And.intro c8 (And.intro c7 (And.intro c8 (And.intro c7 (And.intro (rfl : true = true) (And.intro (rfl : true = true) (And.intro (rfl : true = true) (And.intro (rfl : true = true) (And.intro c7 (And.intro (rfl : true = true) c7)))))))))))))))))))) (by kernel_rfl)
    · refine iteB h4 (fun c9 h5 => ?_) (fun c9 h6 => ?_) <;> clear h4
      · refine iteB h5 (fun c10 h7 => ?_) (fun c10 h8 => ?_) <;> clear h5
        · obtain rfl := some_inv h7
          exact At.f fol hE 400 [.r [], .r [(12, {yes := false}), (14, {want := false}), (15, {want := false}), (16, {want := false}), (19, {want := false})], .r []] [] 0 [] (And.intro c7 (And.intro c7 (And.intro c7 (And.intro c7 (And.intro c7 (And.intro c7 (And.intro c7 (And.intro c8 (And.intro c8 (And.intro c8 (And.intro c9 (And.intro c9 (And.intro c8 (And.intro c9 (And.intro c7 (And.intro c8 (And.intro c7 (And.intro c10 (And.intro c10 (And.intro c10 (And.intro c10 (And.intro c7 (And.intro c10 c7))))))))))))))))))))))) (by kernel_rfl)
        · refine iteB h8 (fun c11 h9 => ?_) (fun c11 h10 => ?_) <;> clear h8
          · obtain rfl := some_inv h9
            exact At.f fol hE 400 [.r [], .r [(12, {yes := false}), (20, {yes := false})], .r []] [] 0 [] (And.intro c7 (And.intro c7 (And.intro c7 (And.intro c7 (And.intro c7 (And.intro c7 (And.intro c7 (And.intro c8 (And.intro c8 (And.intro c8 (And.intro c9 (And.intro c9 (And.intro c8 (And.intro c9 (And.intro c7 (And.intro c8 (And.intro c7 (And.intro c10 (And.intro c10 (And.intro c10 (And.intro c11 (And.intro c11 (And.intro c10 (And.intro c11 (And.intro c7 (And.intro c10 c7)))))))))))))))))))))))))) (by kernel_rfl)
          · obtain rfl := some_inv h10
            exact At.f fol hE 400 [.r [], .r [(12, {yes := false}), (17, {want := false}), (18, {want := false}), (19, {yes := false}), (20, {yes := false})], .r []] [] 0 [] (And.intro c7 (And.intro c7 (And.intro c7 (And.intro c7 (And.intro c7 (And.intro c7 (And.intro c7 (And.intro c8 (And.intro c8 (And.intro c8 (And.intro c9 (And.intro c9 (And.intro c8 (And.intro c9 (And.intro c7 (And.intro c8 (And.intro c7 (And.intro c10 (And.intro c10 (And.intro c10 (And.intro c11 (And.intro c11 (And.intro c10 (And.intro c11 (And.intro c7 (And.intro c10 c7)))))))))))))))))))))))))) (by kernel_rfl)
      · refine iteB h6 (fun c12 h11 => ?_) (fun c12 h12 => ?_) <;> clear h6
        · obtain rfl := some_inv h11
          exact At.f fol hE 400 [.r [], .r [(9, {want := false}), (10, {want := false}), (11, {yes := false}), (12, {yes := false}), (20, {yes := false})], .r []] [] 0 [] (And.intro c7 (And.intro c7 (And.intro c7 (And.intro c7 (And.intro c7 (And.intro c7 (And.intro c7 (And.intro c8 (And.intro c8 (And.intro c8 (And.intro c9 (And.intro c9 (And.intro c8 (And.intro c9 (And.intro c7 (And.intro c8 (And.intro c7 (And.intro (rfl : false = false) (And.intro (rfl : false = false) (And.intro (rfl : false = false) (And.intro c12 (And.intro c12 (And.intro (rfl : false = false) (And.intro c12 (And.intro c7 (And.intro (rfl : false = false) c7)))))))))))))))))))))))))) (by kernel_rfl)
        · obtain rfl := some_inv h12
          exact At.f fol hE 400 [.r [], .r [(9, {want := false}), (10, {want := false}), (11, {yes := false}), (12, {yes := false}), (17, {want := false}), (18, {want := false}), (19, {yes := false}), (20, {yes := false})], .r []] [] 0 [] (And.intro c7 (And.intro c7 (And.intro c7 (And.intro c7 (And.intro c7 (And.intro c7 (And.intro c7 (And.intro c8 (And.intro c8 (And.intro c8 (And.intro c9 (And.intro c9 (And.intro c8 (And.intro c9 (And.intro c7 (And.intro c8 (And.intro c7 (And.intro (rfl : false = false) (And.intro (rfl : false = false) (And.intro (rfl : false = false) (And.intro c12 (And.intro c12 (And.intro (rfl : false = false) (And.intro c12 (And.intro c7 (And.intro (rfl : false = false) c7)))))))))))))))))))))))))) (by kernel_rfl)
  · obtain rfl := some_inv h2
    exact At.f fol hE 400 [.r [(3, {want := false}), (4, {want := false}), (5, {want := false}), (6, {yes := false})], .r [(3, {want := false}), (4, {want := false}), (5, {want := false}), (12, {want := false}), (13, {want := false}), (20, {want := false}), (21, {yes := false})], .r []] [] 0 [] (And.intro c7 (And.intro c7 (And.intro c7 (And.intro c7 (And.intro c7 (And.intro c7 (And.intro c7 (And.intro c7 (And.intro c7 (And.intro c7 c7)))))))))) (by kernel_rfl)
theorem compact_Decode.at0 (bits_0 : Int) (st : List (List L)) {N : Nat} {r : (List Int) × Bool × Bool} {g0 : G} {w0 : World} {R : Exit → Act → World → Prop} (hE : Ends Tryd.prog Tryd.f54 g0 w0 (compact_Decode.rs r) st R) (h : compact_Decode N bits_0 = some r) : At g0 w0 (S.enter 65 [.one (L.int .i64 bits_0)] st) (exK Tryd.prog R [.c compact_Decode.B] .normal) := by
  unfold compact_Decode at h
  obtain ⟨x1, c1, h13⟩ := optE_inv h; clear h
  refine iteB h13 (fun c2 h14 => ?_) (fun c2 h15 => ?_) <;> clear h13
  · obtain rfl := some_inv h14
    exact At.f fol hE 400 [.r [], .r [(1, {rs := [.one (L.bool x1)], m := 1})], .c true, .r []] [] 0 [] (And.intro (compact_Good.snd c1) c2) (by kernel_rfl)
  · obtain ⟨x2, c3, h16⟩ := optE_inv h15; clear h15
    refine iteB h16 (fun c4 h17 => ?_) (fun c4 h18 => ?_) <;> clear h16
    · obtain ⟨x3, c5, h19⟩ := optE_inv h17; clear h17
      exact At.q fol 400 [.r [], .r [(1, {rs := [.one (L.bool x1)], m := 1})], .c false, .r [], .r [(2, {rs := [.agg [L.arr .u64 4 x2]], m := 1})], .r [], .c true, .r [(4, {rs := [.agg [L.arr .u64 4 x3]], m := 1})], .s 1] [0, 2, 5, 6, 7] [2, 7] (And.intro (compact_Good.snd c1) (And.intro c2 (And.intro (by decide : (0 : Int) ≤ 24) (And.intro (whole_Of.snd c3) (And.intro c4 (whole_Down.snd c5)))))) (compact_Decode.p1_ok bits_0 x3 st hE  h19) (by kernel_rfl)
    · obtain ⟨x4, c6, h20⟩ := optE_inv h18; clear h18
      exact At.q fol 400 [.r [], .r [(1, {rs := [.one (L.bool x1)], m := 1})], .c false, .r [], .r [(2, {rs := [.agg [L.arr .u64 4 x2]], m := 1})], .r [], .c false, .r [(4, {rs := [.agg [L.arr .u64 4 x4]], m := 1})], .s 1] [0, 2, 5, 6, 7] [2, 7] (And.intro (compact_Good.snd c1) (And.intro c2 (And.intro (by decide : (0 : Int) ≤ 24) (And.intro (whole_Of.snd c3) (And.intro c4 (whole_Up.snd c6)))))) (compact_Decode.p1_ok bits_0 x4 st hE  h20) (by kernel_rfl)
theorem compact_Decode.snd {N : Nat} {bits_0 : Int} {r : (List Int) × Bool × Bool} (h : compact_Decode N bits_0 = some r) : SndQ Tryd.prog 54 [.one (L.int .i64 bits_0)] (compact_Decode.rs r) := fun st =>
  Snd.of (fn := Tryd.f54) (c := compact_Decode.B) Tryd.func54 (by kernel_rfl) (by kernel_rfl) (of_decide_eq_true (by kernel_rfl)) fun g w R hE => compact_Decode.at0 bits_0 st hE h
/-! trailhead/whole.Zero -/
noncomputable def whole_Zero.B : Code := Tryd.f55.body.getD .skip
noncomputable def whole_Zero.rs (r : Bool) : List CV := [.one (L.bool r)]
noncomputable def whole_Zero (N : Nat) (a_0_0 : List Int) : Option Bool :=
  some (a_0_0 == (List.replicate 4 0))
theorem whole_Zero.at0 (a_0_0 : List Int) (st : List (List L)) {N : Nat} {r : Bool} {g0 : G} {w0 : World} {R : Exit → Act → World → Prop} (hE : Ends Tryd.prog Tryd.f55 g0 w0 (whole_Zero.rs r) st R) (h : whole_Zero N a_0_0 = some r) : At g0 w0 (S.enter 6 [.agg [L.arr .u64 4 a_0_0]] st) (exK Tryd.prog R [.c whole_Zero.B] .normal) := by
  unfold whole_Zero at h
  obtain rfl := some_inv h
  exact At.f fol hE 400 [.r [], .r []] [] 0 [] trivial (by kernel_rfl)
theorem whole_Zero.snd {N : Nat} {a_0_0 : List Int} {r : Bool} (h : whole_Zero N a_0_0 = some r) : SndQ Tryd.prog 55 [.agg [L.arr .u64 4 a_0_0]] (whole_Zero.rs r) := fun st =>
  Snd.of (fn := Tryd.f55) (c := whole_Zero.B) Tryd.func55 (by kernel_rfl) (by kernel_rfl) (of_decide_eq_true (by kernel_rfl)) fun g w R hE => whole_Zero.at0 a_0_0 st hE h
/-! trailhead/whole.Compare -/
noncomputable def whole_Compare.B : Code := Tryd.f72.body.getD .skip
noncomputable def whole_Compare.rs (r : Int) : List CV := [.one (L.int .i64 r)]
noncomputable def whole_Compare.p1 (N : Nat)  (a_0_0 : List Int) (b_1_0 : List Int) (c1_ : Int → Option Int) : Int → Option Int := fun i_1 =>
  if (decide (i_1 ≥ 0)) = true then
    chk (0 ≤ i_1) <|
    chk (i_1 < 4) <|
    if (decide ((List.getD a_0_0 (Int.toNat i_1) 0) < (List.getD b_1_0 (Int.toNat i_1) 0))) = true then
      some (-1)
    else
    if (decide ((List.getD a_0_0 (Int.toNat i_1) 0) > (List.getD b_1_0 (Int.toNat i_1) 0))) = true then
      some 1
    else
    c1_ (IntKind.wrap IntKind.i64 (i_1 - 1))
  else
  some 0
noncomputable def whole_Compare (N : Nat) (a_0_0 : List Int) (b_1_0 : List Int) : Option Int :=
  loopN (whole_Compare.p1 N  a_0_0 b_1_0) N 3
noncomputable def whole_Compare.p1.S (i_1 : Int) (a_0_0 : List Int) (b_1_0 : List Int) (st : List (List L)) : S := mkS 26 [(2, .one (.adr (.site 2) 0)), (3, .one (.adr (.site 3) 0)), (5, .one (.l (L.int .i64 i_1)))] [(2, .cells [L.arr .u64 4 a_0_0]), (3, .cells [L.arr .u64 4 b_1_0])] st
theorem whole_Compare.p1_ok (i_1 : Int) (a_0_0 : List Int) (b_1_0 : List Int) (st : List (List L)) {N : Nat} {r : Int} {g0 : G} {w0 : World} {R : Exit → Act → World → Prop}  {c1_ : Int → Option Int}  {J1 : Act → World → Prop} (hE : Ends Tryd.prog Tryd.f72 g0 w0 (whole_Compare.rs r) st R)  (hc1 : ∀ (i_1 : Int), c1_ i_1 = some r → At g0 w0 (whole_Compare.p1.S i_1 a_0_0 b_1_0 st) J1) (h : whole_Compare.p1 N  a_0_0 b_1_0 c1_ i_1 = some r) : At g0 w0 (whole_Compare.p1.S i_1 a_0_0 b_1_0 st) (exK Tryd.prog R (.c (csub whole_Compare.B [1, 0, 1, 0, 0]) :: .h J1 :: [.b 0, .c (csub whole_Compare.B [1, 1])]) .normal) := by
  unfold whole_Compare.p1 at h
  refine iteB h (fun c1 h1 => ?_) (fun c1 h2 => ?_) <;> clear h
  · obtain ⟨c2, h3⟩ := chk_inv h1; clear h1
    obtain ⟨c3, h4⟩ := chk_inv h3; clear h3
    refine iteB h4 (fun c4 h5 => ?_) (fun c4 h6 => ?_) <;> clear h4
    · obtain rfl := some_inv h5
      exact At.fd fol hE 400 [.r [], .c true, .d {ds := [], hv := 0, Hs := []}, .c true, .r []] [] 0 [] (And.intro c1 (And.intro c2 (And.intro c3 (And.intro c2 (And.intro c3 c4))))) (by kernel_rfl) (by kernel_rfl)
    · refine iteB h6 (fun c5 h7 => ?_) (fun c5 h8 => ?_) <;> clear h6
      · obtain rfl := some_inv h7
        exact At.fd fol hE 400 [.r [], .c true, .d {ds := [], hv := 0, Hs := []}, .c false, .d {ds := [], hv := 0, Hs := []}, .c true, .r []] [] 0 [] (And.intro c1 (And.intro c2 (And.intro c3 (And.intro c2 (And.intro c3 (And.intro c4 (And.intro c2 (And.intro c3 (And.intro c2 (And.intro c3 c5)))))))))) (by kernel_rfl) (by kernel_rfl)
      · exact At.nd fol 400 [.r [], .c true, .d {ds := [], hv := 0, Hs := []}, .c false, .d {ds := [], hv := 0, Hs := []}, .c false, .r []] [2, 3, 5] [2, 3] (And.intro c1 (And.intro c2 (And.intro c3 (And.intro c2 (And.intro c3 (And.intro c4 (And.intro c2 (And.intro c3 (And.intro c2 (And.intro c3 c5)))))))))) (hc1 (IntKind.wrap IntKind.i64 (i_1 - 1)) h8) (by kernel_rfl) (by kernel_rfl)
  · obtain rfl := some_inv h2
    exact At.f fol hE 400 [.r [], .c false, .r []] [] 0 [] c1 (by kernel_rfl)
theorem whole_Compare.p1_loop (i_1 : Int) (a_0_0 : List Int) (b_1_0 : List Int) (st : List (List L)) {N : Nat} {r : Int} {g0 : G} {w0 : World} {R : Exit → Act → World → Prop}   (hE : Ends Tryd.prog Tryd.f72 g0 w0 (whole_Compare.rs r) st R)  (h : loopN (whole_Compare.p1 N  a_0_0 b_1_0) N i_1 = some r) : At g0 w0 (whole_Compare.p1.S i_1 a_0_0 b_1_0 st) (exK Tryd.prog R (.c (.loop (csub whole_Compare.B [1, 0, 1, 0, 0])) :: [.b 0, .c (csub whole_Compare.B [1, 1])]) .normal) :=
  At.loop N (At.loopN (fun y : Int => whole_Compare.p1.S y a_0_0 b_1_0 st) (fun c J hc y h => whole_Compare.p1_ok y a_0_0 b_1_0 st hE  (fun i_1 hh => hc i_1 hh) h) N i_1 h)
theorem whole_Compare.at0 (a_0_0 : List Int) (b_1_0 : List Int) (st : List (List L)) {N : Nat} {r : Int} {g0 : G} {w0 : World} {R : Exit → Act → World → Prop} (hE : Ends Tryd.prog Tryd.f72 g0 w0 (whole_Compare.rs r) st R) (h : whole_Compare N a_0_0 b_1_0 = some r) : At g0 w0 (S.enter 26 [.agg [L.arr .u64 4 a_0_0], .agg [L.arr .u64 4 b_1_0]] st) (exK Tryd.prog R [.c whole_Compare.B] .normal) := by
  unfold whole_Compare at h
  exact At.q fol 400 [.r [], .r []] [2, 3, 5] [2, 3] trivial (whole_Compare.p1_loop 3 a_0_0 b_1_0 st hE  h) (by kernel_rfl)
theorem whole_Compare.snd {N : Nat} {a_0_0 : List Int} {b_1_0 : List Int} {r : Int} (h : whole_Compare N a_0_0 b_1_0 = some r) : SndQ Tryd.prog 72 [.agg [L.arr .u64 4 a_0_0], .agg [L.arr .u64 4 b_1_0]] (whole_Compare.rs r) := fun st =>
  Snd.of (fn := Tryd.f72) (c := whole_Compare.B) Tryd.func72 (by kernel_rfl) (by kernel_rfl) (of_decide_eq_true (by kernel_rfl)) fun g w R hE => whole_Compare.at0 a_0_0 b_1_0 st hE h
/-! trailhead/whole.Less -/
noncomputable def whole_Less.B : Code := Tryd.f63.body.getD .skip
noncomputable def whole_Less.rs (r : Bool) : List CV := [.one (L.bool r)]
noncomputable def whole_Less (N : Nat) (a_0_0 : List Int) (b_1_0 : List Int) : Option Bool :=
  optE (whole_Compare N a_0_0 b_1_0) fun x1 =>
  some (decide (x1 < 0))
theorem whole_Less.at0 (a_0_0 : List Int) (b_1_0 : List Int) (st : List (List L)) {N : Nat} {r : Bool} {g0 : G} {w0 : World} {R : Exit → Act → World → Prop} (hE : Ends Tryd.prog Tryd.f63 g0 w0 (whole_Less.rs r) st R) (h : whole_Less N a_0_0 b_1_0 = some r) : At g0 w0 (S.enter 9 [.agg [L.arr .u64 4 a_0_0], .agg [L.arr .u64 4 b_1_0]] st) (exK Tryd.prog R [.c whole_Less.B] .normal) := by
  unfold whole_Less at h
  obtain ⟨x1, c1, h1⟩ := optE_inv h; clear h
  obtain rfl := some_inv h1
  exact At.f fol hE 400 [.r [], .r [(2, {rs := [.one (L.int .i64 x1)], m := 1})]] [] 0 [] (whole_Compare.snd c1) (by kernel_rfl)
theorem whole_Less.snd {N : Nat} {a_0_0 : List Int} {b_1_0 : List Int} {r : Bool} (h : whole_Less N a_0_0 b_1_0 = some r) : SndQ Tryd.prog 63 [.agg [L.arr .u64 4 a_0_0], .agg [L.arr .u64 4 b_1_0]] (whole_Less.rs r) := fun st =>
  Snd.of (fn := Tryd.f63) (c := whole_Less.B) Tryd.func63 (by kernel_rfl) (by kernel_rfl) (of_decide_eq_true (by kernel_rfl)) fun g w R hE => whole_Less.at0 a_0_0 b_1_0 st hE h
/-! trailhead/compact.Target -/
noncomputable def compact_Target.B : Code := Tryd.f52.body.getD .skip
noncomputable def compact_Target.rs (r : (List Int) × Bool) : List CV := [.agg [L.arr .u64 4 r.1], .one (L.bool r.2)]
noncomputable def compact_Target (N : Nat) (bits_0 : Int) (limit_1 : Int) : Option ((List Int) × Bool) :=
  optE (compact_Decode N bits_0) fun (x1, x2, x3) =>
  optE (compact_Decode N limit_1) fun (x4, x5, x6) =>
  if x2 = true then
    some (List.replicate 4 0, false)
  else
  if x3 = true then
    some (List.replicate 4 0, false)
  else
  if x5 = true then
    some (List.replicate 4 0, false)
  else
  if x6 = true then
    some (List.replicate 4 0, false)
  else
  optE (whole_Zero N x1) fun x7 =>
  if x7 = true then
    some (List.replicate 4 0, false)
  else
  optE (whole_Less N x4 x1) fun x8 =>
  if x8 = true then
    some (List.replicate 4 0, false)
  else
  some (x1, true)
theorem compact_Target.at0 (bits_0 : Int) (limit_1 : Int) (st : List (List L)) {N : Nat} {r : (List Int) × Bool} {g0 : G} {w0 : World} {R : Exit → Act → World → Prop} (hE : Ends Tryd.prog Tryd.f52 g0 w0 (compact_Target.rs r) st R) (h : compact_Target N bits_0 limit_1 = some r) : At g0 w0 (S.enter 45 [.one (L.int .i64 bits_0), .one (L.int .i64 limit_1)] st) (exK Tryd.prog R [.c compact_Target.B] .normal) := by
  unfold compact_Target at h
  obtain ⟨⟨x1, x2, x3⟩, c1, h1⟩ := optE_inv h; clear h
  obtain ⟨⟨x4, x5, x6⟩, c2, h2⟩ := optE_inv h1; clear h1
  refine iteB h2 (fun c3 h3 => ?_) (fun c3 h4 => ?_) <;> clear h2
  · obtain rfl := some_inv h3
    exact At.f fol hE 400 [.r [], .r [(1, {rs := [.agg [L.arr .u64 4 x1], .one (L.bool x2), .one (L.bool x3)], m := 1})], .r [(1, {rs := [.agg [L.arr .u64 4 x4], .one (L.bool x5), .one (L.bool x6)], m := 1})], .r [(2, {want := false}), (5, {want := false}), (8, {want := false}), (11, {want := false}), (12, {want := false}), (15, {want := false}), (16, {want := false}), (17, {want := false})], .c true, .r []] [] 0 [] (And.intro (compact_Decode.snd c1) (And.intro (compact_Decode.snd c2) (And.intro c3 (And.intro c3 (And.intro (rfl : true = true) (And.intro (rfl : true = true) (And.intro (rfl : true = true) (And.intro (rfl : true = true) (And.intro (rfl : true = true) (And.intro (rfl : true = true) (And.intro (rfl : true = true) (And.intro (rfl : true = true) (And.intro (rfl : true = true) (And.intro (rfl : true = true) (And.intro (rfl : true = true) (rfl : true = true)))))))))))))))) (by kernel_rfl)
  · refine iteB h4 (fun c4 h5 => ?_) (fun c4 h6 => ?_) <;> clear h4
    · obtain rfl := some_inv h5
      exact At.f fol hE 400 [.r [], .r [(1, {rs := [.agg [L.arr .u64 4 x1], .one (L.bool x2), .one (L.bool x3)], m := 1})], .r [(1, {rs := [.agg [L.arr .u64 4 x4], .one (L.bool x5), .one (L.bool x6)], m := 1})], .r [(3, {yes := false}), (5, {want := false}), (8, {want := false}), (11, {want := false}), (12, {want := false}), (15, {want := false}), (16, {want := false}), (17, {want := false})], .c true, .r []] [] 0 [] (And.intro (compact_Decode.snd c1) (And.intro (compact_Decode.snd c2) (And.intro c3 (And.intro c3 (And.intro c4 (And.intro c4 (And.intro (rfl : true = true) (And.intro (rfl : true = true) (And.intro (rfl : true = true) (And.intro (rfl : true = true) (And.intro (rfl : true = true) (And.intro (rfl : true = true) (And.intro (rfl : true = true) (And.intro (rfl : true = true) (And.intro (rfl : true = true) (rfl : true = true)))))))))))))))) (by kernel_rfl)
    · refine iteB h6 (fun c5 h7 => ?_) (fun c5 h8 => ?_) <;> clear h6
      · obtain rfl := some_inv h7
        exact At.f fol hE 400 [.r [], .r [(1, {rs := [.agg [L.arr .u64 4 x1], .one (L.bool x2), .one (L.bool x3)], m := 1})], .r [(1, {rs := [.agg [L.arr .u64 4 x4], .one (L.bool x5), .one (L.bool x6)], m := 1})], .r [(3, {yes := false}), (6, {yes := false}), (8, {want := false}), (11, {want := false}), (12, {want := false}), (15, {want := false}), (16, {want := false}), (17, {want := false})], .c true, .r []] [] 0 [] (And.intro (compact_Decode.snd c1) (And.intro (compact_Decode.snd c2) (And.intro c3 (And.intro c3 (And.intro c4 (And.intro c4 (And.intro c5 (And.intro c5 (And.intro (rfl : true = true) (And.intro (rfl : true = true) (And.intro (rfl : true = true) (And.intro (rfl : true = true) (And.intro (rfl : true = true) (And.intro (rfl : true = true) (And.intro (rfl : true = true) (rfl : true = true)))))))))))))))) (by kernel_rfl)
      · refine iteB h8 (fun c6 h9 => ?_) (fun c6 h10 => ?_) <;> clear h8
        · obtain rfl := some_inv h9
          exact At.f fol hE 400 [.r [], .r [(1, {rs := [.agg [L.arr .u64 4 x1], .one (L.bool x2), .one (L.bool x3)], m := 1})], .r [(1, {rs := [.agg [L.arr .u64 4 x4], .one (L.bool x5), .one (L.bool x6)], m := 1})], .r [(3, {yes := false}), (6, {yes := false}), (9, {yes := false}), (11, {want := false}), (12, {want := false}), (15, {want := false}), (16, {want := false}), (17, {want := false})], .c true, .r []] [] 0 [] (And.intro (compact_Decode.snd c1) (And.intro (compact_Decode.snd c2) (And.intro c3 (And.intro c3 (And.intro c4 (And.intro c4 (And.intro c5 (And.intro c5 (And.intro c6 (And.intro c6 (And.intro c6 (And.intro (rfl : true = true) (And.intro (rfl : true = true) (And.intro (rfl : true = true) (And.intro (rfl : true = true) (rfl : true = true)))))))))))))))) (by kernel_rfl)
        · obtain ⟨x7, c7, h11⟩ := optE_inv h10; clear h10
          refine iteB h11 (fun c8 h12 => ?_) (fun c8 h13 => ?_) <;> clear h11
          · obtain rfl := some_inv h12
            exact At.f fol hE 400 [.r [], .r [(1, {rs := [.agg [L.arr .u64 4 x1], .one (L.bool x2), .one (L.bool x3)], m := 1})], .r [(1, {rs := [.agg [L.arr .u64 4 x4], .one (L.bool x5), .one (L.bool x6)], m := 1})], .r [(3, {yes := false}), (6, {yes := false}), (9, {yes := false}), (12, {rs := [.one (L.bool x7)], m := 1}), (13, {yes := false}), (15, {want := false}), (16, {want := false}), (17, {want := false})], .c true, .r []] [] 0 [] (And.intro (compact_Decode.snd c1) (And.intro (compact_Decode.snd c2) (And.intro c3 (And.intro c3 (And.intro c4 (And.intro c4 (And.intro c5 (And.intro c5 (And.intro c6 (And.intro c6 (And.intro (whole_Zero.snd c7) (And.intro c6 (And.intro c8 (And.intro c8 (And.intro c8 (And.intro c8 (rfl : true = true))))))))))))))))) (by kernel_rfl)
          · obtain ⟨x8, c9, h14⟩ := optE_inv h13; clear h13
            refine iteB h14 (fun c10 h15 => ?_) (fun c10 h16 => ?_) <;> clear h14
            · obtain rfl := some_inv h15
              exact At.f fol hE 400 [.r [], .r [(1, {rs := [.agg [L.arr .u64 4 x1], .one (L.bool x2), .one (L.bool x3)], m := 1})], .r [(1, {rs := [.agg [L.arr .u64 4 x4], .one (L.bool x5), .one (L.bool x6)], m := 1})], .r [(3, {yes := false}), (6, {yes := false}), (9, {yes := false}), (12, {rs := [.one (L.bool x7)], m := 1}), (13, {yes := false}), (17, {rs := [.one (L.bool x8)], m := 1}), (18, {yes := false})], .c true, .r []] [] 0 [] (And.intro (compact_Decode.snd c1) (And.intro (compact_Decode.snd c2) (And.intro c3 (And.intro c3 (And.intro c4 (And.intro c4 (And.intro c5 (And.intro c5 (And.intro c6 (And.intro c6 (And.intro (whole_Zero.snd c7) (And.intro c6 (And.intro c8 (And.intro c8 (And.intro c8 (And.intro (whole_Less.snd c9) (And.intro c8 c10))))))))))))))))) (by kernel_rfl)
            · obtain rfl := some_inv h16
              exact At.f fol hE 400 [.r [], .r [(1, {rs := [.agg [L.arr .u64 4 x1], .one (L.bool x2), .one (L.bool x3)], m := 1})], .r [(1, {rs := [.agg [L.arr .u64 4 x4], .one (L.bool x5), .one (L.bool x6)], m := 1})], .r [(3, {yes := false}), (6, {yes := false}), (9, {yes := false}), (12, {rs := [.one (L.bool x7)], m := 1}), (13, {yes := false}), (17, {rs := [.one (L.bool x8)], m := 1}), (18, {yes := false})], .c false, .r []] [] 0 [] (And.intro (compact_Decode.snd c1) (And.intro (compact_Decode.snd c2) (And.intro c3 (And.intro c3 (And.intro c4 (And.intro c4 (And.intro c5 (And.intro c5 (And.intro c6 (And.intro c6 (And.intro (whole_Zero.snd c7) (And.intro c6 (And.intro c8 (And.intro c8 (And.intro c8 (And.intro (whole_Less.snd c9) (And.intro c8 c10))))))))))))))))) (by kernel_rfl)
theorem compact_Target.snd {N : Nat} {bits_0 : Int} {limit_1 : Int} {r : (List Int) × Bool} (h : compact_Target N bits_0 limit_1 = some r) : SndQ Tryd.prog 52 [.one (L.int .i64 bits_0), .one (L.int .i64 limit_1)] (compact_Target.rs r) := fun st =>
  Snd.of (fn := Tryd.f52) (c := compact_Target.B) Tryd.func52 (by kernel_rfl) (by kernel_rfl) (of_decide_eq_true (by kernel_rfl)) fun g w R hE => compact_Target.at0 bits_0 limit_1 st hE h
/-! trailhead/pace.Good -/
noncomputable def pace_Good.B : Code := Tryd.f46.body.getD .skip
noncomputable def pace_Good.rs (r : Bool) : List CV := [.one (L.bool r)]
noncomputable def pace_Good (N : Nat) (p_0_0 : Int) (p_0_1 : Int) (p_0_2 : Int) (p_0_3 : Int) (p_0_4 : Bool) (p_0_5 : List (List L)) (p_0_6 : List (List L)) (p_0_7 : List Int) (p_0_8 : List Int) (p_0_9 : Int) (p_0_10 : List Int) (p_0_11 : List Int) (p_0_12 : Int) (p_0_13 : Int) (p_0_14 : Int) : Option Bool :=
  optE (compact_Target N p_0_0 p_0_0) fun (x1, x2) =>
  if x2 = true then
    if (decide (p_0_1 ≥ 2)) = true then
      if (decide (p_0_1 ≤ 64)) = true then
        if (decide (p_0_2 ≥ 1)) = true then
          if (decide (p_0_2 ≤ 10000)) = true then
            if (decide (p_0_3 ≥ 0)) = true then
              some (decide (p_0_3 < 4294967296))
            else
            some false
          else
          some false
        else
        some false
      else
      some false
    else
    some false
  else
  some false
theorem pace_Good.at0 (p_0_0 : Int) (p_0_1 : Int) (p_0_2 : Int) (p_0_3 : Int) (p_0_4 : Bool) (p_0_5 : List (List L)) (p_0_6 : List (List L)) (p_0_7 : List Int) (p_0_8 : List Int) (p_0_9 : Int) (p_0_10 : List Int) (p_0_11 : List Int) (p_0_12 : Int) (p_0_13 : Int) (p_0_14 : Int) (st : List (List L)) {N : Nat} {r : Bool} {g0 : G} {w0 : World} {R : Exit → Act → World → Prop} (hE : Ends Tryd.prog Tryd.f46 g0 w0 (pace_Good.rs r) st R) (h : pace_Good N p_0_0 p_0_1 p_0_2 p_0_3 p_0_4 p_0_5 p_0_6 p_0_7 p_0_8 p_0_9 p_0_10 p_0_11 p_0_12 p_0_13 p_0_14 = some r) : At g0 w0 (S.enter 44 [.agg [L.int .i64 p_0_0, L.int .i64 p_0_1, L.int .i64 p_0_2, L.int .i64 p_0_3, L.bool p_0_4, L.sl 2 p_0_5, L.sl 33 p_0_6, L.arr .u64 4 p_0_7, L.arr .u64 4 p_0_8, L.int .i64 p_0_9, L.arr .u8 32 p_0_10, L.arr .u8 32 p_0_11, L.int .i64 p_0_12, L.int .i64 p_0_13, L.int .i64 p_0_14]] st) (exK Tryd.prog R [.c pace_Good.B] .normal) := by
  unfold pace_Good at h
  obtain ⟨⟨x1, x2⟩, c1, h1⟩ := optE_inv h; clear h
  refine iteB h1 (fun c2 h2 => ?_) (fun c2 h3 => ?_) <;> clear h1
  · refine iteB h2 (fun c3 h4 => ?_) (fun c3 h5 => ?_) <;> clear h2
    · refine iteB h4 (fun c4 h6 => ?_) (fun c4 h7 => ?_) <;> clear h4
      · refine iteB h6 (fun c5 h8 => ?_) (fun c5 h9 => ?_) <;> clear h6
        · refine iteB h8 (fun c6 h10 => ?_) (fun c6 h11 => ?_) <;> clear h8
          · refine iteB h10 (fun c7 h12 => ?_) (fun c7 h13 => ?_) <;> clear h10
            · obtain rfl := some_inv h12
              exact At.f fol hE 400 [.r [], .r [(4, {rs := [.agg [L.arr .u64 4 x1], .one (L.bool x2)], m := 1})], .r []] [] 0 [] (And.intro (compact_Target.snd c1) (And.intro c2 (And.intro c2 (And.intro c2 (And.intro c2 (And.intro c3 (And.intro c3 (And.intro c3 (And.intro c3 (And.intro c4 (And.intro c4 (And.intro c4 (And.intro c4 (And.intro c5 (And.intro c5 (And.intro c5 (And.intro c5 (And.intro c6 (And.intro c6 (And.intro c6 (And.intro c6 (And.intro c7 (And.intro c7 (And.intro c7 c7)))))))))))))))))))))))) (by kernel_rfl)
            · obtain rfl := some_inv h13
              exact At.f fol hE 400 [.r [], .r [(4, {rs := [.agg [L.arr .u64 4 x1], .one (L.bool x2)], m := 1})], .r [(27, {want := false}), (28, {want := false}), (29, {want := false}), (30, {yes := false})]] [] 0 [] (And.intro (compact_Target.snd c1) (And.intro c2 (And.intro c2 (And.intro c2 (And.intro c2 (And.intro c3 (And.intro c3 (And.intro c3 (And.intro c3 (And.intro c4 (And.intro c4 (And.intro c4 (And.intro c4 (And.intro c5 (And.intro c5 (And.intro c5 (And.intro c5 (And.intro c6 (And.intro c6 (And.intro c6 (And.intro c6 (And.intro c7 (And.intro c7 (And.intro c7 c7)))))))))))))))))))))))) (by kernel_rfl)
          · obtain rfl := some_inv h11
            exact At.f fol hE 400 [.r [], .r [(4, {rs := [.agg [L.arr .u64 4 x1], .one (L.bool x2)], m := 1})], .r [(22, {want := false}), (23, {want := false}), (24, {want := false}), (25, {yes := false}), (27, {want := false}), (28, {want := false}), (29, {want := false}), (30, {yes := false})]] [] 0 [] (And.intro (compact_Target.snd c1) (And.intro c2 (And.intro c2 (And.intro c2 (And.intro c2 (And.intro c3 (And.intro c3 (And.intro c3 (And.intro c3 (And.intro c4 (And.intro c4 (And.intro c4 (And.intro c4 (And.intro c5 (And.intro c5 (And.intro c5 (And.intro c5 (And.intro c6 (And.intro c6 (And.intro c6 (And.intro c6 (And.intro (rfl : false = false) (And.intro (rfl : false = false) (And.intro (rfl : false = false) (rfl : false = false))))))))))))))))))))))))) (by kernel_rfl)
        · obtain rfl := some_inv h9
          exact At.f fol hE 400 [.r [], .r [(4, {rs := [.agg [L.arr .u64 4 x1], .one (L.bool x2)], m := 1})], .r [(17, {want := false}), (18, {want := false}), (19, {want := false}), (20, {yes := false}), (22, {want := false}), (23, {want := false}), (24, {want := false}), (25, {yes := false}), (27, {want := false}), (28, {want := false}), (29, {want := false}), (30, {yes := false})]] [] 0 [] (And.intro (compact_Target.snd c1) (And.intro c2 (And.intro c2 (And.intro c2 (And.intro c2 (And.intro c3 (And.intro c3 (And.intro c3 (And.intro c3 (And.intro c4 (And.intro c4 (And.intro c4 (And.intro c4 (And.intro c5 (And.intro c5 (And.intro c5 (And.intro c5 (And.intro (rfl : false = false) (And.intro (rfl : false = false) (And.intro (rfl : false = false) (And.intro (rfl : false = false) (And.intro (rfl : false = false) (And.intro (rfl : false = false) (And.intro (rfl : false = false) (rfl : false = false))))))))))))))))))))))))) (by kernel_rfl)
      · obtain rfl := some_inv h7
        exact At.f fol hE 400 [.r [], .r [(4, {rs := [.agg [L.arr .u64 4 x1], .one (L.bool x2)], m := 1})], .r [(12, {want := false}), (13, {want := false}), (14, {want := false}), (15, {yes := false}), (17, {want := false}), (18, {want := false}), (19, {want := false}), (20, {yes := false}), (22, {want := false}), (23, {want := false}), (24, {want := false}), (25, {yes := false}), (27, {want := false}), (28, {want := false}), (29, {want := false}), (30, {yes := false})]] [] 0 [] (And.intro (compact_Target.snd c1) (And.intro c2 (And.intro c2 (And.intro c2 (And.intro c2 (And.intro c3 (And.intro c3 (And.intro c3 (And.intro c3 (And.intro c4 (And.intro c4 (And.intro c4 (And.intro c4 (And.intro (rfl : false = false) (And.intro (rfl : false = false) (And.intro (rfl : false = false) (And.intro (rfl : false = false) (And.intro (rfl : false = false) (And.intro (rfl : false = false) (And.intro (rfl : false = false) (And.intro (rfl : false = false) (And.intro (rfl : false = false) (And.intro (rfl : false = false) (And.intro (rfl : false = false) (rfl : false = false))))))))))))))))))))))))) (by kernel_rfl)
    · obtain rfl := some_inv h5
      exact At.f fol hE 400 [.r [], .r [(4, {rs := [.agg [L.arr .u64 4 x1], .one (L.bool x2)], m := 1})], .r [(7, {want := false}), (8, {want := false}), (9, {want := false}), (10, {yes := false}), (12, {want := false}), (13, {want := false}), (14, {want := false}), (15, {yes := false}), (17, {want := false}), (18, {want := false}), (19, {want := false}), (20, {yes := false}), (22, {want := false}), (23, {want := false}), (24, {want := false}), (25, {yes := false}), (27, {want := false}), (28, {want := false}), (29, {want := false}), (30, {yes := false})]] [] 0 [] (And.intro (compact_Target.snd c1) (And.intro c2 (And.intro c2 (And.intro c2 (And.intro c2 (And.intro c3 (And.intro c3 (And.intro c3 (And.intro c3 (And.intro (rfl : false = false) (And.intro (rfl : false = false) (And.intro (rfl : false = false) (And.intro (rfl : false = false) (And.intro (rfl : false = false) (And.intro (rfl : false = false) (And.intro (rfl : false = false) (And.intro (rfl : false = false) (And.intro (rfl : false = false) (And.intro (rfl : false = false) (And.intro (rfl : false = false) (And.intro (rfl : false = false) (And.intro (rfl : false = false) (And.intro (rfl : false = false) (And.intro (rfl : false = false) (rfl : false = false))))))))))))))))))))))))) (by kernel_rfl)
  · obtain rfl := some_inv h3
    exact At.f fol hE 400 [.r [], .r [(4, {rs := [.agg [L.arr .u64 4 x1], .one (L.bool x2)], m := 1})], .r [(2, {want := false}), (3, {want := false}), (4, {want := false}), (5, {yes := false}), (7, {want := false}), (8, {want := false}), (9, {want := false}), (10, {yes := false}), (12, {want := false}), (13, {want := false}), (14, {want := false}), (15, {yes := false}), (17, {want := false}), (18, {want := false}), (19, {want := false}), (20, {yes := false}), (22, {want := false}), (23, {want := false}), (24, {want := false}), (25, {yes := false}), (27, {want := false}), (28, {want := false}), (29, {want := false}), (30, {yes := false})]] [] 0 [] (And.intro (compact_Target.snd c1) (And.intro c2 (And.intro c2 (And.intro c2 (And.intro c2 (And.intro (rfl : false = false) (And.intro (rfl : false = false) (And.intro (rfl : false = false) (And.intro (rfl : false = false) (And.intro (rfl : false = false) (And.intro (rfl : false = false) (And.intro (rfl : false = false) (And.intro (rfl : false = false) (And.intro (rfl : false = false) (And.intro (rfl : false = false) (And.intro (rfl : false = false) (And.intro (rfl : false = false) (And.intro (rfl : false = false) (And.intro (rfl : false = false) (And.intro (rfl : false = false) (And.intro (rfl : false = false) (And.intro (rfl : false = false) (And.intro (rfl : false = false) (And.intro (rfl : false = false) (rfl : false = false))))))))))))))))))))))))) (by kernel_rfl)
theorem pace_Good.snd {N : Nat} {p_0_0 : Int} {p_0_1 : Int} {p_0_2 : Int} {p_0_3 : Int} {p_0_4 : Bool} {p_0_5 : List (List L)} {p_0_6 : List (List L)} {p_0_7 : List Int} {p_0_8 : List Int} {p_0_9 : Int} {p_0_10 : List Int} {p_0_11 : List Int} {p_0_12 : Int} {p_0_13 : Int} {p_0_14 : Int} {r : Bool} (h : pace_Good N p_0_0 p_0_1 p_0_2 p_0_3 p_0_4 p_0_5 p_0_6 p_0_7 p_0_8 p_0_9 p_0_10 p_0_11 p_0_12 p_0_13 p_0_14 = some r) : SndQ Tryd.prog 46 [.agg [L.int .i64 p_0_0, L.int .i64 p_0_1, L.int .i64 p_0_2, L.int .i64 p_0_3, L.bool p_0_4, L.sl 2 p_0_5, L.sl 33 p_0_6, L.arr .u64 4 p_0_7, L.arr .u64 4 p_0_8, L.int .i64 p_0_9, L.arr .u8 32 p_0_10, L.arr .u8 32 p_0_11, L.int .i64 p_0_12, L.int .i64 p_0_13, L.int .i64 p_0_14]] (pace_Good.rs r) := fun st =>
  Snd.of (fn := Tryd.f46) (c := pace_Good.B) Tryd.func46 (by kernel_rfl) (by kernel_rfl) (of_decide_eq_true (by kernel_rfl)) fun g w R hE => pace_Good.at0 p_0_0 p_0_1 p_0_2 p_0_3 p_0_4 p_0_5 p_0_6 p_0_7 p_0_8 p_0_9 p_0_10 p_0_11 p_0_12 p_0_13 p_0_14 st hE h
/-! trailhead/header.Good -/
noncomputable def header_Good.B : Code := Tryd.f47.body.getD .skip
noncomputable def header_Good.rs (r : Bool) : List CV := [.one (L.bool r)]
noncomputable def header_Good (N : Nat) (h_0_0 : Int) (h_0_1 : List Int) (h_0_2 : List Int) (h_0_3 : Int) (h_0_4 : Int) (h_0_5 : Int) : Option Bool :=
  if (decide (h_0_0 ≥ (-2147483648))) = true then
    if (decide (h_0_0 < 2147483648)) = true then
      if (decide (h_0_3 ≥ 0)) = true then
        if (decide (h_0_3 < 4294967296)) = true then
          optE (compact_Good N h_0_4) fun x1 =>
          if x1 = true then
            if (decide (h_0_5 ≥ 0)) = true then
              some (decide (h_0_5 < 4294967296))
            else
            some false
          else
          some false
        else
        some false
      else
      some false
    else
    some false
  else
  some false
theorem header_Good.at0 (h_0_0 : Int) (h_0_1 : List Int) (h_0_2 : List Int) (h_0_3 : Int) (h_0_4 : Int) (h_0_5 : Int) (st : List (List L)) {N : Nat} {r : Bool} {g0 : G} {w0 : World} {R : Exit → Act → World → Prop} (hE : Ends Tryd.prog Tryd.f47 g0 w0 (header_Good.rs r) st R) (h : header_Good N h_0_0 h_0_1 h_0_2 h_0_3 h_0_4 h_0_5 = some r) : At g0 w0 (S.enter 36 [.agg [L.int .i64 h_0_0, L.arr .u8 32 h_0_1, L.arr .u8 32 h_0_2, L.int .i64 h_0_3, L.int .i64 h_0_4, L.int .i64 h_0_5]] st) (exK Tryd.prog R [.c header_Good.B] .normal) := by
  unfold header_Good at h
  refine iteB h (fun c1 h1 => ?_) (fun c1 h2 => ?_) <;> clear h
  · refine iteB h1 (fun c2 h3 => ?_) (fun c2 h4 => ?_) <;> clear h1
    · refine iteB h3 (fun c3 h5 => ?_) (fun c3 h6 => ?_) <;> clear h3
      · refine iteB h5 (fun c4 h7 => ?_) (fun c4 h8 => ?_) <;> clear h5
        · obtain ⟨x1, c5, h9⟩ := optE_inv h7; clear h7
          refine iteB h9 (fun c6 h10 => ?_) (fun c6 h11 => ?_) <;> clear h9
          · refine iteB h10 (fun c7 h12 => ?_) (fun c7 h13 => ?_) <;> clear h10
            · obtain rfl := some_inv h12
              exact At.f fol hE 400 [.r [], .r [(21, {rs := [.one (L.bool x1)], m := 1})]] [] 0 [] (And.intro c1 (And.intro c1 (And.intro c1 (And.intro c1 (And.intro c2 (And.intro c2 (And.intro c2 (And.intro c2 (And.intro c3 (And.intro c3 (And.intro c3 (And.intro c3 (And.intro c4 (And.intro c4 (And.intro c4 (And.intro (compact_Good.snd c5) (And.intro c4 (And.intro c6 (And.intro c6 (And.intro c6 (And.intro c6 (And.intro c7 (And.intro c7 (And.intro c7 c7)))))))))))))))))))))))) (by kernel_rfl)
            · obtain rfl := some_inv h13
              exact At.f fol hE 400 [.r [], .r [(21, {rs := [.one (L.bool x1)], m := 1}), (29, {want := false}), (30, {want := false}), (31, {want := false}), (32, {yes := false})]] [] 0 [] (And.intro c1 (And.intro c1 (And.intro c1 (And.intro c1 (And.intro c2 (And.intro c2 (And.intro c2 (And.intro c2 (And.intro c3 (And.intro c3 (And.intro c3 (And.intro c3 (And.intro c4 (And.intro c4 (And.intro c4 (And.intro (compact_Good.snd c5) (And.intro c4 (And.intro c6 (And.intro c6 (And.intro c6 (And.intro c6 (And.intro c7 (And.intro c7 (And.intro c7 c7)))))))))))))))))))))))) (by kernel_rfl)
          · obtain rfl := some_inv h11
            exact At.f fol hE 400 [.r [], .r [(21, {rs := [.one (L.bool x1)], m := 1}), (24, {want := false}), (25, {want := false}), (26, {want := false}), (27, {yes := false}), (29, {want := false}), (30, {want := false}), (31, {want := false}), (32, {yes := false})]] [] 0 [] (And.intro c1 (And.intro c1 (And.intro c1 (And.intro c1 (And.intro c2 (And.intro c2 (And.intro c2 (And.intro c2 (And.intro c3 (And.intro c3 (And.intro c3 (And.intro c3 (And.intro c4 (And.intro c4 (And.intro c4 (And.intro (compact_Good.snd c5) (And.intro c4 (And.intro c6 (And.intro c6 (And.intro c6 (And.intro c6 (And.intro (rfl : false = false) (And.intro (rfl : false = false) (And.intro (rfl : false = false) (rfl : false = false))))))))))))))))))))))))) (by kernel_rfl)
        · obtain rfl := some_inv h8
          exact At.f fol hE 400 [.r [], .r [(19, {want := false}), (20, {want := false}), (21, {want := false}), (22, {yes := false}), (24, {want := false}), (25, {want := false}), (26, {want := false}), (27, {yes := false}), (29, {want := false}), (30, {want := false}), (31, {want := false}), (32, {yes := false})]] [] 0 [] (And.intro c1 (And.intro c1 (And.intro c1 (And.intro c1 (And.intro c2 (And.intro c2 (And.intro c2 (And.intro c2 (And.intro c3 (And.intro c3 (And.intro c3 (And.intro c3 (And.intro c4 (And.intro c4 (And.intro c4 (And.intro c4 (And.intro (rfl : false = false) (And.intro (rfl : false = false) (And.intro (rfl : false = false) (And.intro (rfl : false = false) (And.intro (rfl : false = false) (And.intro (rfl : false = false) (And.intro (rfl : false = false) (rfl : false = false)))))))))))))))))))))))) (by kernel_rfl)
      · obtain rfl := some_inv h6
        exact At.f fol hE 400 [.r [], .r [(14, {want := false}), (15, {want := false}), (16, {want := false}), (17, {yes := false}), (19, {want := false}), (20, {want := false}), (21, {want := false}), (22, {yes := false}), (24, {want := false}), (25, {want := false}), (26, {want := false}), (27, {yes := false}), (29, {want := false}), (30, {want := false}), (31, {want := false}), (32, {yes := false})]] [] 0 [] (And.intro c1 (And.intro c1 (And.intro c1 (And.intro c1 (And.intro c2 (And.intro c2 (And.intro c2 (And.intro c2 (And.intro c3 (And.intro c3 (And.intro c3 (And.intro c3 (And.intro (rfl : false = false) (And.intro (rfl : false = false) (And.intro (rfl : false = false) (And.intro (rfl : false = false) (And.intro (rfl : false = false) (And.intro (rfl : false = false) (And.intro (rfl : false = false) (And.intro (rfl : false = false) (And.intro (rfl : false = false) (And.intro (rfl : false = false) (And.intro (rfl : false = false) (rfl : false = false)))))))))))))))))))))))) (by kernel_rfl)
    · obtain rfl := some_inv h4
      exact At.f fol hE 400 [.r [], .r [(9, {want := false}), (10, {want := false}), (11, {want := false}), (12, {yes := false}), (14, {want := false}), (15, {want := false}), (16, {want := false}), (17, {yes := false}), (19, {want := false}), (20, {want := false}), (21, {want := false}), (22, {yes := false}), (24, {want := false}), (25, {want := false}), (26, {want := false}), (27, {yes := false}), (29, {want := false}), (30, {want := false}), (31, {want := false}), (32, {yes := false})]] [] 0 [] (And.intro c1 (And.intro c1 (And.intro c1 (And.intro c1 (And.intro c2 (And.intro c2 (And.intro c2 (And.intro c2 (And.intro (rfl : false = false) (And.intro (rfl : false = false) (And.intro (rfl : false = false) (And.intro (rfl : false = false) (And.intro (rfl : false = false) (And.intro (rfl : false = false) (And.intro (rfl : false = false) (And.intro (rfl : false = false) (And.intro (rfl : false = false) (And.intro (rfl : false = false) (And.intro (rfl : false = false) (And.intro (rfl : false = false) (And.intro (rfl : false = false) (And.intro (rfl : false = false) (And.intro (rfl : false = false) (rfl : false = false)))))))))))))))))))))))) (by kernel_rfl)
  · obtain rfl := some_inv h2
    exact At.f fol hE 400 [.r [], .r [(4, {want := false}), (5, {want := false}), (6, {want := false}), (7, {yes := false}), (9, {want := false}), (10, {want := false}), (11, {want := false}), (12, {yes := false}), (14, {want := false}), (15, {want := false}), (16, {want := false}), (17, {yes := false}), (19, {want := false}), (20, {want := false}), (21, {want := false}), (22, {yes := false}), (24, {want := false}), (25, {want := false}), (26, {want := false}), (27, {yes := false}), (29, {want := false}), (30, {want := false}), (31, {want := false}), (32, {yes := false})]] [] 0 [] (And.intro c1 (And.intro c1 (And.intro c1 (And.intro c1 (And.intro (rfl : false = false) (And.intro (rfl : false = false) (And.intro (rfl : false = false) (And.intro (rfl : false = false) (And.intro (rfl : false = false) (And.intro (rfl : false = false) (And.intro (rfl : false = false) (And.intro (rfl : false = false) (And.intro (rfl : false = false) (And.intro (rfl : false = false) (And.intro (rfl : false = false) (And.intro (rfl : false = false) (And.intro (rfl : false = false) (And.intro (rfl : false = false) (And.intro (rfl : false = false) (And.intro (rfl : false = false) (And.intro (rfl : false = false) (And.intro (rfl : false = false) (And.intro (rfl : false = false) (rfl : false = false)))))))))))))))))))))))) (by kernel_rfl)
theorem header_Good.snd {N : Nat} {h_0_0 : Int} {h_0_1 : List Int} {h_0_2 : List Int} {h_0_3 : Int} {h_0_4 : Int} {h_0_5 : Int} {r : Bool} (h : header_Good N h_0_0 h_0_1 h_0_2 h_0_3 h_0_4 h_0_5 = some r) : SndQ Tryd.prog 47 [.agg [L.int .i64 h_0_0, L.arr .u8 32 h_0_1, L.arr .u8 32 h_0_2, L.int .i64 h_0_3, L.int .i64 h_0_4, L.int .i64 h_0_5]] (header_Good.rs r) := fun st =>
  Snd.of (fn := Tryd.f47) (c := header_Good.B) Tryd.func47 (by kernel_rfl) (by kernel_rfl) (of_decide_eq_true (by kernel_rfl)) fun g w R hE => header_Good.at0 h_0_0 h_0_1 h_0_2 h_0_3 h_0_4 h_0_5 st hE h
/-! trailhead/rule.Good -/
noncomputable def rule_Good.B : Code := Tryd.f42.body.getD .skip
noncomputable def rule_Good.rs (r : Bool) : List CV := [.one (L.bool r)]
noncomputable def rule_Good.p2 (N : Nat)  (p_0_6 : List (List L)) (p_0_0 : Int) (p_0_1 : Int) (p_0_2 : Int) (p_0_3 : Int) (p_0_4 : Bool) (p_0_5 : List (List L)) (p_0_7 : List Int) (p_0_8 : List Int) (p_0_9 : Int) (p_0_10 : List Int) (p_0_11 : List Int) (p_0_12 : Int) (p_0_13 : Int) (p_0_14 : Int) (c2_ : Int → Option Bool) : Int → Option Bool := fun v8 =>
  if (decide (v8 < ((List.length p_0_6 : Nat) : Int))) = true then
    chk (0 ≤ v8) <|
    optE (p_0_6[Int.toNat v8]?) fun e => dec_api_Check e fun x9 x10 =>
    if (decide (x9 < 1)) = true then
      some false
    else
    if (decide (v8 > 0)) = true then
      chk (0 ≤ (IntKind.wrap IntKind.i64 (v8 - 1))) <|
      chk ((IntKind.wrap IntKind.i64 (v8 - 1)) < ((List.length p_0_6 : Nat) : Int)) <|
      optE (p_0_6[Int.toNat (IntKind.wrap IntKind.i64 (v8 - 1))]?) fun e => dec_api_Check e fun x11 x12 =>
      if (decide (x9 ≤ x11)) = true then
        some false
      else
      c2_ (IntKind.wrap IntKind.i64 (v8 + 1))
    else
    c2_ (IntKind.wrap IntKind.i64 (v8 + 1))
  else
  some true
noncomputable def rule_Good.p1 (N : Nat)  (p_0_5 : List (List L)) (p_0_0 : Int) (p_0_1 : Int) (p_0_2 : Int) (p_0_3 : Int) (p_0_4 : Bool) (p_0_6 : List (List L)) (p_0_7 : List Int) (p_0_8 : List Int) (p_0_9 : Int) (p_0_10 : List Int) (p_0_11 : List Int) (p_0_12 : Int) (p_0_13 : Int) (p_0_14 : Int) (c1_ : Int → Option Bool) : Int → Option Bool := fun v3 =>
  if (decide (v3 < ((List.length p_0_5 : Nat) : Int))) = true then
    chk (0 ≤ v3) <|
    optE (p_0_5[Int.toNat v3]?) fun e => dec_api_Gate e fun x4 x5 =>
    if (decide (x4 < 0)) = true then
      some false
    else
    if (decide (v3 > 0)) = true then
      chk (0 ≤ (IntKind.wrap IntKind.i64 (v3 - 1))) <|
      chk ((IntKind.wrap IntKind.i64 (v3 - 1)) < ((List.length p_0_5 : Nat) : Int)) <|
      optE (p_0_5[Int.toNat (IntKind.wrap IntKind.i64 (v3 - 1))]?) fun e => dec_api_Gate e fun x6 x7 =>
      if (decide (x4 ≤ x6)) = true then
        some false
      else
      c1_ (IntKind.wrap IntKind.i64 (v3 + 1))
    else
    c1_ (IntKind.wrap IntKind.i64 (v3 + 1))
  else
  loopN (rule_Good.p2 N  p_0_6 p_0_0 p_0_1 p_0_2 p_0_3 p_0_4 p_0_5 p_0_7 p_0_8 p_0_9 p_0_10 p_0_11 p_0_12 p_0_13 p_0_14) N 0
noncomputable def rule_Good (N : Nat) (p_0_0 : Int) (p_0_1 : Int) (p_0_2 : Int) (p_0_3 : Int) (p_0_4 : Bool) (p_0_5 : List (List L)) (p_0_6 : List (List L)) (p_0_7 : List Int) (p_0_8 : List Int) (p_0_9 : Int) (p_0_10 : List Int) (p_0_11 : List Int) (p_0_12 : Int) (p_0_13 : Int) (p_0_14 : Int) : Option Bool :=
  optE (pace_Good N p_0_0 p_0_1 p_0_2 p_0_3 p_0_4 p_0_5 p_0_6 p_0_7 p_0_8 p_0_9 p_0_10 p_0_11 p_0_12 p_0_13 p_0_14) fun x1 =>
  if (!x1) = true then
    some false
  else
  optE (header_Good N p_0_9 p_0_10 p_0_11 p_0_12 p_0_13 p_0_14) fun x2 =>
  if (!x2) = true then
    some false
  else
  loopN (rule_Good.p1 N  p_0_5 p_0_0 p_0_1 p_0_2 p_0_3 p_0_4 p_0_6 p_0_7 p_0_8 p_0_9 p_0_10 p_0_11 p_0_12 p_0_13 p_0_14) N 0
noncomputable def rule_Good.p2.S (p_0_6 : List (List L)) (v8 : Int) (p_0_0 : Int) (p_0_1 : Int) (p_0_2 : Int) (p_0_3 : Int) (p_0_4 : Bool) (p_0_5 : List (List L)) (p_0_7 : List Int) (p_0_8 : List Int) (p_0_9 : Int) (p_0_10 : List Int) (p_0_11 : List Int) (p_0_12 : Int) (p_0_13 : Int) (p_0_14 : Int) (st : List (List L)) : S := mkS 72 [(1, .one (.adr (.site 1) 0)), (45, .one (.l (L.sl 33 p_0_6))), (46, .one (.l (L.int .i64 ((List.length p_0_6 : Nat) : Int)))), (47, .one (.l (L.int .i64 v8)))] [(1, .cells [L.int .i64 p_0_0, L.int .i64 p_0_1, L.int .i64 p_0_2, L.int .i64 p_0_3, L.bool p_0_4, L.sl 2 p_0_5, L.sl 33 p_0_6, L.arr .u64 4 p_0_7, L.arr .u64 4 p_0_8, L.int .i64 p_0_9, L.arr .u8 32 p_0_10, L.arr .u8 32 p_0_11, L.int .i64 p_0_12, L.int .i64 p_0_13, L.int .i64 p_0_14])] st
noncomputable def rule_Good.p1.S (p_0_5 : List (List L)) (v3 : Int) (p_0_0 : Int) (p_0_1 : Int) (p_0_2 : Int) (p_0_3 : Int) (p_0_4 : Bool) (p_0_6 : List (List L)) (p_0_7 : List Int) (p_0_8 : List Int) (p_0_9 : Int) (p_0_10 : List Int) (p_0_11 : List Int) (p_0_12 : Int) (p_0_13 : Int) (p_0_14 : Int) (st : List (List L)) : S := mkS 72 [(1, .one (.adr (.site 1) 0)), (17, .one (.l (L.sl 2 p_0_5))), (18, .one (.l (L.int .i64 ((List.length p_0_5 : Nat) : Int)))), (19, .one (.l (L.int .i64 v3)))] [(1, .cells [L.int .i64 p_0_0, L.int .i64 p_0_1, L.int .i64 p_0_2, L.int .i64 p_0_3, L.bool p_0_4, L.sl 2 p_0_5, L.sl 33 p_0_6, L.arr .u64 4 p_0_7, L.arr .u64 4 p_0_8, L.int .i64 p_0_9, L.arr .u8 32 p_0_10, L.arr .u8 32 p_0_11, L.int .i64 p_0_12, L.int .i64 p_0_13, L.int .i64 p_0_14])] st
theorem rule_Good.p2_ok (p_0_6 : List (List L)) (v8 : Int) (p_0_0 : Int) (p_0_1 : Int) (p_0_2 : Int) (p_0_3 : Int) (p_0_4 : Bool) (p_0_5 : List (List L)) (p_0_7 : List Int) (p_0_8 : List Int) (p_0_9 : Int) (p_0_10 : List Int) (p_0_11 : List Int) (p_0_12 : Int) (p_0_13 : Int) (p_0_14 : Int) (st : List (List L)) {N : Nat} {r : Bool} {g0 : G} {w0 : World} {R : Exit → Act → World → Prop}  {c2_ : Int → Option Bool}  {J2 : Act → World → Prop} (hE : Ends Tryd.prog Tryd.f42 g0 w0 (rule_Good.rs r) st R)  (hc2 : ∀ (v8 : Int), c2_ v8 = some r → At g0 w0 (rule_Good.p2.S p_0_6 v8 p_0_0 p_0_1 p_0_2 p_0_3 p_0_4 p_0_5 p_0_7 p_0_8 p_0_9 p_0_10 p_0_11 p_0_12 p_0_13 p_0_14 st) J2) (h : rule_Good.p2 N  p_0_6 p_0_0 p_0_1 p_0_2 p_0_3 p_0_4 p_0_5 p_0_7 p_0_8 p_0_9 p_0_10 p_0_11 p_0_12 p_0_13 p_0_14 c2_ v8 = some r) : At g0 w0 (rule_Good.p2.S p_0_6 v8 p_0_0 p_0_1 p_0_2 p_0_3 p_0_4 p_0_5 p_0_7 p_0_8 p_0_9 p_0_10 p_0_11 p_0_12 p_0_13 p_0_14 st) (exK Tryd.prog R (.c (csub rule_Good.B [1, 1, 1, 0, 1, 0, 0]) :: .h J2 :: [.b 2, .c (csub rule_Good.B [1, 1, 1, 1])]) .normal) := by
  unfold rule_Good.p2 at h
  refine iteB h (fun c14 h1 => ?_) (fun c14 h2 => ?_) <;> clear h
  · obtain ⟨c15, h3⟩ := chk_inv h1; clear h1
    obtain ⟨h6, c16, h4⟩ := optE_inv h3; clear h3
    obtain ⟨x9, x10, rfl, h5⟩ := dec_api_Check_inv h4; clear h4
    refine iteB h5 (fun c17 h7 => ?_) (fun c17 h8 => ?_) <;> clear h5
    · obtain rfl := some_inv h7
      exact At.fd fol hE 400 [.r [], .c true, .r [(2, {oe := [L.int .i64 x9, L.arr .u8 32 x10]})], .d {ds := [(4, {want := false}), (5, {want := false}), (6, {want := false}), (17, {want := false})], hv := 0, Hs := []}, .c true, .r []] [] 0 [] (And.intro c14 (And.intro c15 (And.intro (of_decide_eq_true c14) (And.intro c16 (And.intro c17 (And.intro c17 (And.intro c17 (And.intro c17 (And.intro c17 (rfl : true = true)))))))))) (by kernel_rfl) (by kernel_rfl)
    · refine iteB h8 (fun c18 h9 => ?_) (fun c18 h10 => ?_) <;> clear h8
      · obtain ⟨c19, h11⟩ := chk_inv h9; clear h9
        obtain ⟨c20, h12⟩ := chk_inv h11; clear h11
        obtain ⟨h15, c21, h13⟩ := optE_inv h12; clear h12
        obtain ⟨x11, x12, rfl, h14⟩ := dec_api_Check_inv h13; clear h13
        refine iteB h14 (fun c22 h16 => ?_) (fun c22 h17 => ?_) <;> clear h14
        · obtain rfl := some_inv h16
          exact At.fd fol hE 400 [.r [], .c true, .r [(2, {oe := [L.int .i64 x9, L.arr .u8 32 x10]})], .d {ds := [(15, {oe := [L.int .i64 x11, L.arr .u8 32 x12]}), (18, {yes := false})], hv := 0, Hs := []}, .c true, .r []] [] 0 [] (And.intro c14 (And.intro c15 (And.intro (of_decide_eq_true c14) (And.intro c16 (And.intro c17 (And.intro c17 (And.intro c17 (And.intro c18 (And.intro c18 (And.intro c18 (And.intro c18 (And.intro c18 (And.intro c18 (And.intro c18 (And.intro c19 (And.intro c20 (And.intro c18 (And.intro c18 (And.intro c21 (And.intro c18 (And.intro c17 (And.intro c18 (And.intro c17 c22))))))))))))))))))))))) (by kernel_rfl) (by kernel_rfl)
        · exact At.nd fol 400 [.r [], .c true, .r [(2, {oe := [L.int .i64 x9, L.arr .u8 32 x10]})], .d {ds := [(15, {oe := [L.int .i64 x11, L.arr .u8 32 x12]}), (18, {yes := false})], hv := 0, Hs := []}, .c false, .r []] [1, 45, 46, 47] [1] (And.intro c14 (And.intro c15 (And.intro (of_decide_eq_true c14) (And.intro c16 (And.intro c17 (And.intro c17 (And.intro c17 (And.intro c18 (And.intro c18 (And.intro c18 (And.intro c18 (And.intro c18 (And.intro c18 (And.intro c18 (And.intro c19 (And.intro c20 (And.intro c18 (And.intro c18 (And.intro c21 (And.intro c18 (And.intro c17 (And.intro c18 (And.intro c17 c22))))))))))))))))))))))) (hc2 (IntKind.wrap IntKind.i64 (v8 + 1)) h17) (by kernel_rfl) (by kernel_rfl)
      · exact At.nd fol 400 [.r [], .c true, .r [(2, {oe := [L.int .i64 x9, L.arr .u8 32 x10]})], .d {ds := [(7, {want := false}), (8, {want := false}), (9, {want := false}), (10, {want := false}), (11, {want := false}), (12, {want := false}), (13, {want := false}), (14, {want := false}), (15, {want := false}), (16, {want := false}), (17, {yes := false}), (18, {yes := false})], hv := 0, Hs := []}, .c false, .r []] [1, 45, 46, 47] [1] (And.intro c14 (And.intro c15 (And.intro (of_decide_eq_true c14) (And.intro c16 (And.intro c17 (And.intro c17 (And.intro c17 (And.intro c18 (And.intro c18 (And.intro c18 (And.intro c18 (And.intro c18 (And.intro c18 (And.intro c18 (And.intro c18 (And.intro c18 (And.intro c18 (And.intro c17 (And.intro c18 (And.intro c17 (rfl : false = false))))))))))))))))))))) (hc2 (IntKind.wrap IntKind.i64 (v8 + 1)) h10) (by kernel_rfl) (by kernel_rfl)
  · obtain rfl := some_inv h2
    exact At.f fol hE 400 [.r [], .c false, .r []] [] 0 [] c14 (by kernel_rfl)
theorem rule_Good.p2_loop (p_0_6 : List (List L)) (v8 : Int) (p_0_0 : Int) (p_0_1 : Int) (p_0_2 : Int) (p_0_3 : Int) (p_0_4 : Bool) (p_0_5 : List (List L)) (p_0_7 : List Int) (p_0_8 : List Int) (p_0_9 : Int) (p_0_10 : List Int) (p_0_11 : List Int) (p_0_12 : Int) (p_0_13 : Int) (p_0_14 : Int) (st : List (List L)) {N : Nat} {r : Bool} {g0 : G} {w0 : World} {R : Exit → Act → World → Prop}   (hE : Ends Tryd.prog Tryd.f42 g0 w0 (rule_Good.rs r) st R)  (h : loopN (rule_Good.p2 N  p_0_6 p_0_0 p_0_1 p_0_2 p_0_3 p_0_4 p_0_5 p_0_7 p_0_8 p_0_9 p_0_10 p_0_11 p_0_12 p_0_13 p_0_14) N v8 = some r) : At g0 w0 (rule_Good.p2.S p_0_6 v8 p_0_0 p_0_1 p_0_2 p_0_3 p_0_4 p_0_5 p_0_7 p_0_8 p_0_9 p_0_10 p_0_11 p_0_12 p_0_13 p_0_14 st) (exK Tryd.prog R (.c (.loop (csub rule_Good.B [1, 1, 1, 0, 1, 0, 0])) :: [.b 2, .c (csub rule_Good.B [1, 1, 1, 1])]) .normal) :=
  At.loop N (At.loopN (fun y : Int => rule_Good.p2.S p_0_6 y p_0_0 p_0_1 p_0_2 p_0_3 p_0_4 p_0_5 p_0_7 p_0_8 p_0_9 p_0_10 p_0_11 p_0_12 p_0_13 p_0_14 st) (fun c J hc y h => rule_Good.p2_ok p_0_6 y p_0_0 p_0_1 p_0_2 p_0_3 p_0_4 p_0_5 p_0_7 p_0_8 p_0_9 p_0_10 p_0_11 p_0_12 p_0_13 p_0_14 st hE  (fun v8 hh => hc v8 hh) h) N v8 h)
theorem rule_Good.p1_ok (p_0_5 : List (List L)) (v3 : Int) (p_0_0 : Int) (p_0_1 : Int) (p_0_2 : Int) (p_0_3 : Int) (p_0_4 : Bool) (p_0_6 : List (List L)) (p_0_7 : List Int) (p_0_8 : List Int) (p_0_9 : Int) (p_0_10 : List Int) (p_0_11 : List Int) (p_0_12 : Int) (p_0_13 : Int) (p_0_14 : Int) (st : List (List L)) {N : Nat} {r : Bool} {g0 : G} {w0 : World} {R : Exit → Act → World → Prop}  {c1_ : Int → Option Bool}  {J1 : Act → World → Prop} (hE : Ends Tryd.prog Tryd.f42 g0 w0 (rule_Good.rs r) st R)  (hc1 : ∀ (v3 : Int), c1_ v3 = some r → At g0 w0 (rule_Good.p1.S p_0_5 v3 p_0_0 p_0_1 p_0_2 p_0_3 p_0_4 p_0_6 p_0_7 p_0_8 p_0_9 p_0_10 p_0_11 p_0_12 p_0_13 p_0_14 st) J1) (h : rule_Good.p1 N  p_0_5 p_0_0 p_0_1 p_0_2 p_0_3 p_0_4 p_0_6 p_0_7 p_0_8 p_0_9 p_0_10 p_0_11 p_0_12 p_0_13 p_0_14 c1_ v3 = some r) : At g0 w0 (rule_Good.p1.S p_0_5 v3 p_0_0 p_0_1 p_0_2 p_0_3 p_0_4 p_0_6 p_0_7 p_0_8 p_0_9 p_0_10 p_0_11 p_0_12 p_0_13 p_0_14 st) (exK Tryd.prog R (.c (csub rule_Good.B [1, 1, 0, 1, 0, 0]) :: .h J1 :: [.b 0, .c (csub rule_Good.B [1, 1, 1])]) .normal) := by
  unfold rule_Good.p1 at h
  refine iteB h (fun c5 h18 => ?_) (fun c5 h19 => ?_) <;> clear h
  · obtain ⟨c6, h20⟩ := chk_inv h18; clear h18
    obtain ⟨h23, c7, h21⟩ := optE_inv h20; clear h20
    obtain ⟨x4, x5, rfl, h22⟩ := dec_api_Gate_inv h21; clear h21
    refine iteB h22 (fun c8 h24 => ?_) (fun c8 h25 => ?_) <;> clear h22
    · obtain rfl := some_inv h24
      exact At.fd fol hE 400 [.r [], .c true, .r [(2, {oe := [L.int .i64 x4, L.int .i64 x5]})], .d {ds := [(4, {want := false}), (5, {want := false}), (6, {want := false}), (17, {want := false})], hv := 0, Hs := []}, .c true, .r []] [] 0 [] (And.intro c5 (And.intro c6 (And.intro (of_decide_eq_true c5) (And.intro c7 (And.intro c8 (And.intro c8 (And.intro c8 (And.intro c8 (And.intro c8 (rfl : true = true)))))))))) (by kernel_rfl) (by kernel_rfl)
    · refine iteB h25 (fun c9 h26 => ?_) (fun c9 h27 => ?_) <;> clear h25
      · obtain ⟨c10, h28⟩ := chk_inv h26; clear h26
        obtain ⟨c11, h29⟩ := chk_inv h28; clear h28
        obtain ⟨h32, c12, h30⟩ := optE_inv h29; clear h29
        obtain ⟨x6, x7, rfl, h31⟩ := dec_api_Gate_inv h30; clear h30
        refine iteB h31 (fun c13 h33 => ?_) (fun c13 h34 => ?_) <;> clear h31
        · obtain rfl := some_inv h33
          exact At.fd fol hE 400 [.r [], .c true, .r [(2, {oe := [L.int .i64 x4, L.int .i64 x5]})], .d {ds := [(15, {oe := [L.int .i64 x6, L.int .i64 x7]}), (18, {yes := false})], hv := 0, Hs := []}, .c true, .r []] [] 0 [] (And.intro c5 (And.intro c6 (And.intro (of_decide_eq_true c5) (And.intro c7 (And.intro c8 (And.intro c8 (And.intro c8 (And.intro c9 (And.intro c9 (And.intro c9 (And.intro c9 (And.intro c9 (And.intro c9 (And.intro c9 (And.intro c10 (And.intro c11 (And.intro c9 (And.intro c9 (And.intro c12 (And.intro c9 (And.intro c8 (And.intro c9 (And.intro c8 c13))))))))))))))))))))))) (by kernel_rfl) (by kernel_rfl)
        · exact At.nd fol 400 [.r [], .c true, .r [(2, {oe := [L.int .i64 x4, L.int .i64 x5]})], .d {ds := [(15, {oe := [L.int .i64 x6, L.int .i64 x7]}), (18, {yes := false})], hv := 0, Hs := []}, .c false, .r []] [1, 17, 18, 19] [1] (And.intro c5 (And.intro c6 (And.intro (of_decide_eq_true c5) (And.intro c7 (And.intro c8 (And.intro c8 (And.intro c8 (And.intro c9 (And.intro c9 (And.intro c9 (And.intro c9 (And.intro c9 (And.intro c9 (And.intro c9 (And.intro c10 (And.intro c11 (And.intro c9 (And.intro c9 (And.intro c12 (And.intro c9 (And.intro c8 (And.intro c9 (And.intro c8 c13))))))))))))))))))))))) (hc1 (IntKind.wrap IntKind.i64 (v3 + 1)) h34) (by kernel_rfl) (by kernel_rfl)
      · exact At.nd fol 400 [.r [], .c true, .r [(2, {oe := [L.int .i64 x4, L.int .i64 x5]})], .d {ds := [(7, {want := false}), (8, {want := false}), (9, {want := false}), (10, {want := false}), (11, {want := false}), (12, {want := false}), (13, {want := false}), (14, {want := false}), (15, {want := false}), (16, {want := false}), (17, {yes := false}), (18, {yes := false})], hv := 0, Hs := []}, .c false, .r []] [1, 17, 18, 19] [1] (And.intro c5 (And.intro c6 (And.intro (of_decide_eq_true c5) (And.intro c7 (And.intro c8 (And.intro c8 (And.intro c8 (And.intro c9 (And.intro c9 (And.intro c9 (And.intro c9 (And.intro c9 (And.intro c9 (And.intro c9 (And.intro c9 (And.intro c9 (And.intro c9 (And.intro c8 (And.intro c9 (And.intro c8 (rfl : false = false))))))))))))))))))))) (hc1 (IntKind.wrap IntKind.i64 (v3 + 1)) h27) (by kernel_rfl) (by kernel_rfl)
  · exact At.q fol 400 [.r [], .c false, .r []] [1, 45, 46, 47] [1] c5 (rule_Good.p2_loop p_0_6 0 p_0_0 p_0_1 p_0_2 p_0_3 p_0_4 p_0_5 p_0_7 p_0_8 p_0_9 p_0_10 p_0_11 p_0_12 p_0_13 p_0_14 st hE  h19) (by kernel_rfl)
theorem rule_Good.p1_loop (p_0_5 : List (List L)) (v3 : Int) (p_0_0 : Int) (p_0_1 : Int) (p_0_2 : Int) (p_0_3 : Int) (p_0_4 : Bool) (p_0_6 : List (List L)) (p_0_7 : List Int) (p_0_8 : List Int) (p_0_9 : Int) (p_0_10 : List Int) (p_0_11 : List Int) (p_0_12 : Int) (p_0_13 : Int) (p_0_14 : Int) (st : List (List L)) {N : Nat} {r : Bool} {g0 : G} {w0 : World} {R : Exit → Act → World → Prop}   (hE : Ends Tryd.prog Tryd.f42 g0 w0 (rule_Good.rs r) st R)  (h : loopN (rule_Good.p1 N  p_0_5 p_0_0 p_0_1 p_0_2 p_0_3 p_0_4 p_0_6 p_0_7 p_0_8 p_0_9 p_0_10 p_0_11 p_0_12 p_0_13 p_0_14) N v3 = some r) : At g0 w0 (rule_Good.p1.S p_0_5 v3 p_0_0 p_0_1 p_0_2 p_0_3 p_0_4 p_0_6 p_0_7 p_0_8 p_0_9 p_0_10 p_0_11 p_0_12 p_0_13 p_0_14 st) (exK Tryd.prog R (.c (.loop (csub rule_Good.B [1, 1, 0, 1, 0, 0])) :: [.b 0, .c (csub rule_Good.B [1, 1, 1])]) .normal) :=
  At.loop N (At.loopN (fun y : Int => rule_Good.p1.S p_0_5 y p_0_0 p_0_1 p_0_2 p_0_3 p_0_4 p_0_6 p_0_7 p_0_8 p_0_9 p_0_10 p_0_11 p_0_12 p_0_13 p_0_14 st) (fun c J hc y h => rule_Good.p1_ok p_0_5 y p_0_0 p_0_1 p_0_2 p_0_3 p_0_4 p_0_6 p_0_7 p_0_8 p_0_9 p_0_10 p_0_11 p_0_12 p_0_13 p_0_14 st hE  (fun v3 hh => hc v3 hh) h) N v3 h)
theorem rule_Good.at0 (p_0_0 : Int) (p_0_1 : Int) (p_0_2 : Int) (p_0_3 : Int) (p_0_4 : Bool) (p_0_5 : List (List L)) (p_0_6 : List (List L)) (p_0_7 : List Int) (p_0_8 : List Int) (p_0_9 : Int) (p_0_10 : List Int) (p_0_11 : List Int) (p_0_12 : Int) (p_0_13 : Int) (p_0_14 : Int) (st : List (List L)) {N : Nat} {r : Bool} {g0 : G} {w0 : World} {R : Exit → Act → World → Prop} (hE : Ends Tryd.prog Tryd.f42 g0 w0 (rule_Good.rs r) st R) (h : rule_Good N p_0_0 p_0_1 p_0_2 p_0_3 p_0_4 p_0_5 p_0_6 p_0_7 p_0_8 p_0_9 p_0_10 p_0_11 p_0_12 p_0_13 p_0_14 = some r) : At g0 w0 (S.enter 72 [.agg [L.int .i64 p_0_0, L.int .i64 p_0_1, L.int .i64 p_0_2, L.int .i64 p_0_3, L.bool p_0_4, L.sl 2 p_0_5, L.sl 33 p_0_6, L.arr .u64 4 p_0_7, L.arr .u64 4 p_0_8, L.int .i64 p_0_9, L.arr .u8 32 p_0_10, L.arr .u8 32 p_0_11, L.int .i64 p_0_12, L.int .i64 p_0_13, L.int .i64 p_0_14]] st) (exK Tryd.prog R [.c rule_Good.B] .normal) := by
  unfold rule_Good at h
  obtain ⟨x1, c1, h35⟩ := optE_inv h; clear h
  refine iteB h35 (fun c2 h36 => ?_) (fun c2 h37 => ?_) <;> clear h35
  · obtain rfl := some_inv h36
    exact At.f fol hE 400 [.r [], .r [(1, {rs := [.one (L.bool x1)], m := 1}), (4, {want := false}), (5, {want := false}), (6, {want := false}), (7, {want := false})], .c true, .r []] [] 0 [] (And.intro (pace_Good.snd c1) (And.intro (not_false (not_inv_t c2)) (And.intro (not_false (not_inv_t c2)) (And.intro (not_false (not_inv_t c2)) (And.intro (not_false (not_inv_t c2)) (And.intro (not_false (not_inv_t c2)) (rfl : true = true))))))) (by kernel_rfl)
  · obtain ⟨x2, c3, h38⟩ := optE_inv h37; clear h37
    refine iteB h38 (fun c4 h39 => ?_) (fun c4 h40 => ?_) <;> clear h38
    · obtain rfl := some_inv h39
      exact At.f fol hE 400 [.r [], .r [(1, {rs := [.one (L.bool x1)], m := 1}), (6, {rs := [.one (L.bool x2)], m := 1}), (8, {yes := false})], .c true, .r []] [] 0 [] (And.intro (pace_Good.snd c1) (And.intro (not_true (not_inv_f c2)) (And.intro (not_true (not_inv_f c2)) (And.intro (not_true (not_inv_f c2)) (And.intro (header_Good.snd c3) (And.intro (not_true (not_inv_f c2)) (And.intro (not_true (not_inv_f c2)) c4))))))) (by kernel_rfl)
    · exact At.q fol 400 [.r [], .r [(1, {rs := [.one (L.bool x1)], m := 1}), (6, {rs := [.one (L.bool x2)], m := 1}), (8, {yes := false})], .c false, .r []] [1, 17, 18, 19] [1] (And.intro (pace_Good.snd c1) (And.intro (not_true (not_inv_f c2)) (And.intro (not_true (not_inv_f c2)) (And.intro (not_true (not_inv_f c2)) (And.intro (header_Good.snd c3) (And.intro (not_true (not_inv_f c2)) (And.intro (not_true (not_inv_f c2)) c4))))))) (rule_Good.p1_loop p_0_5 0 p_0_0 p_0_1 p_0_2 p_0_3 p_0_4 p_0_6 p_0_7 p_0_8 p_0_9 p_0_10 p_0_11 p_0_12 p_0_13 p_0_14 st hE  h40) (by kernel_rfl)
theorem rule_Good.snd {N : Nat} {p_0_0 : Int} {p_0_1 : Int} {p_0_2 : Int} {p_0_3 : Int} {p_0_4 : Bool} {p_0_5 : List (List L)} {p_0_6 : List (List L)} {p_0_7 : List Int} {p_0_8 : List Int} {p_0_9 : Int} {p_0_10 : List Int} {p_0_11 : List Int} {p_0_12 : Int} {p_0_13 : Int} {p_0_14 : Int} {r : Bool} (h : rule_Good N p_0_0 p_0_1 p_0_2 p_0_3 p_0_4 p_0_5 p_0_6 p_0_7 p_0_8 p_0_9 p_0_10 p_0_11 p_0_12 p_0_13 p_0_14 = some r) : SndQ Tryd.prog 42 [.agg [L.int .i64 p_0_0, L.int .i64 p_0_1, L.int .i64 p_0_2, L.int .i64 p_0_3, L.bool p_0_4, L.sl 2 p_0_5, L.sl 33 p_0_6, L.arr .u64 4 p_0_7, L.arr .u64 4 p_0_8, L.int .i64 p_0_9, L.arr .u8 32 p_0_10, L.arr .u8 32 p_0_11, L.int .i64 p_0_12, L.int .i64 p_0_13, L.int .i64 p_0_14]] (rule_Good.rs r) := fun st =>
  Snd.of (fn := Tryd.f42) (c := rule_Good.B) Tryd.func42 (by kernel_rfl) (by kernel_rfl) (of_decide_eq_true (by kernel_rfl)) fun g w R hE => rule_Good.at0 p_0_0 p_0_1 p_0_2 p_0_3 p_0_4 p_0_5 p_0_6 p_0_7 p_0_8 p_0_9 p_0_10 p_0_11 p_0_12 p_0_13 p_0_14 st hE h
/-! (*trailhead/scroll.Pen).Put -/
noncomputable def scroll_Pen_Put.B : Code := Tryd.f81.body.getD .skip
noncomputable def scroll_Pen_Put.rs (r : (List (List L))) : List CV := []
noncomputable def scroll_Pen_Put.p2 (N : Nat) (c1_ : ((Option Nat) × Int × (List (List L))) → Option (List (List L))) (size_1 : Int) (x12 : Int) (list_2 : List (List L)) (v1 : Int) (c2_ : ((Option Nat) × Int × (List (List L))) → Option (List (List L))) : ((Option Nat) × Int × (List (List L))) → Option (List (List L)) := fun (p_16, v13, st17) =>
  if (decide (v13 < (if (8 : Int) < (if (1 : Int) > size_1 then 1 else size_1) then 8 else (if (1 : Int) > size_1 then 1 else size_1)))) = true then
    optE p_16 fun i18 =>
    optE (st17[i18]?) fun e => dec_o1 e fun x19 =>
    chk (0 ≤ (IntKind.wrap IntKind.i64 (8 * v13))) <|
    chk (1 ≤ (List.length [[L.int .u8 (IntKind.wrap IntKind.u8 (shrOf .i64 x12 (IntKind.wrap IntKind.i64 (8 * v13))))]])) <|
    chk (List.length (x19 ++ (List.take 1 [[L.int .u8 (IntKind.wrap IntKind.u8 (shrOf .i64 x12 (IntKind.wrap IntKind.i64 (8 * v13))))]])) * 1 ≤ 140737488355328) <|
    c2_ ((some i18), IntKind.wrap IntKind.i64 (v13 + 1), List.set (List.set st17 i18 [L.gone]) i18 [L.own true 1 (x19 ++ (List.take 1 [[L.int .u8 (IntKind.wrap IntKind.u8 (shrOf .i64 x12 (IntKind.wrap IntKind.i64 (8 * v13))))]]))])
  else
  c1_ (p_16, IntKind.wrap IntKind.i64 (v1 + 1), st17)
noncomputable def scroll_Pen_Put.p1 (N : Nat)  (size_1 : Int) (list_2 : List (List L)) (c1_ : ((Option Nat) × Int × (List (List L))) → Option (List (List L))) : ((Option Nat) × Int × (List (List L))) → Option (List (List L)) := fun (p_10, v1, st11) =>
  if (decide (v1 < ((List.length list_2 : Nat) : Int))) = true then
    chk (0 ≤ v1) <|
    optE (list_2[Int.toNat v1]?) fun e => dec_i64 e fun x12 =>
    loopN (scroll_Pen_Put.p2 N c1_ size_1 x12 list_2 v1) N (p_10, 0, st11)
  else
  some st11
noncomputable def scroll_Pen_Put (N : Nat) (p_0 : Option Nat) (size_1 : Int) (list_2 : List (List L)) (st : List (List L)) : Option (List (List L)) :=
  loopN (scroll_Pen_Put.p1 N  size_1 list_2) N (p_0, 0, st)
noncomputable def scroll_Pen_Put.p2.S (p_16 : Option Nat) (size_1 : Int) (x12 : Int) (list_2 : List (List L)) (v1 : Int) (v13 : Int) (st17 : List (List L)) : S := mkS 37 [(0, .one (.l (L.ptr p_16))), (1, .one (.l (L.int .i64 size_1))), (7, .one (.l (L.int .i64 x12))), (9, .one (.l (L.sl 1 list_2))), (10, .one (.l (L.int .i64 ((List.length list_2 : Nat) : Int)))), (11, .one (.l (L.int .i64 v1))), (17, .one (.l (L.int .i64 (if (8 : Int) < (if (1 : Int) > size_1 then 1 else size_1) then 8 else (if (1 : Int) > size_1 then 1 else size_1))))), (18, .one (.l (L.int .i64 v13)))] [] st17
noncomputable def scroll_Pen_Put.p1.S (p_10 : Option Nat) (size_1 : Int) (list_2 : List (List L)) (v1 : Int) (st11 : List (List L)) : S := mkS 37 [(0, .one (.l (L.ptr p_10))), (1, .one (.l (L.int .i64 size_1))), (9, .one (.l (L.sl 1 list_2))), (10, .one (.l (L.int .i64 ((List.length list_2 : Nat) : Int)))), (11, .one (.l (L.int .i64 v1)))] [] st11
theorem scroll_Pen_Put.p2_ok (p_16 : Option Nat) (size_1 : Int) (x12 : Int) (list_2 : List (List L)) (v1 : Int) (v13 : Int) (st17 : List (List L)) {N : Nat} {r : (List (List L))} {g0 : G} {w0 : World} {R : Exit → Act → World → Prop} {c1_ : ((Option Nat) × Int × (List (List L))) → Option (List (List L))} {c2_ : ((Option Nat) × Int × (List (List L))) → Option (List (List L))} {J1 : Act → World → Prop} {J2 : Act → World → Prop} (hE : Ends Tryd.prog Tryd.f81 g0 w0 (scroll_Pen_Put.rs r) (r) R) (hc1 : ∀ (p_10 : Option Nat) (v1 : Int) (st11 : List (List L)), c1_ (p_10, v1, st11) = some r → At g0 w0 (scroll_Pen_Put.p1.S p_10 size_1 list_2 v1 st11) J1) (hc2 : ∀ (p_16 : Option Nat) (v13 : Int) (st17 : List (List L)), c2_ (p_16, v13, st17) = some r → At g0 w0 (scroll_Pen_Put.p2.S p_16 size_1 x12 list_2 v1 v13 st17) J2) (h : scroll_Pen_Put.p2 N c1_ size_1 x12 list_2 v1 c2_ (p_16, v13, st17) = some r) : At g0 w0 (scroll_Pen_Put.p2.S p_16 size_1 x12 list_2 v1 v13 st17) (exK Tryd.prog R (.c (csub scroll_Pen_Put.B [1, 0, 0, 1, 1, 0, 0, 1, 1, 0, 0]) :: .h J2 :: [.b 2, .b 1, .c (csub scroll_Pen_Put.B [1, 0, 0, 1, 1, 1]), .h J1, .b 0]) .normal) := by
  unfold scroll_Pen_Put.p2 at h
  refine iteB h (fun c25 h1 => ?_) (fun c25 h2 => ?_) <;> clear h
  · obtain ⟨i18, rfl, h3⟩ := optE_inv h1; clear h1
    obtain ⟨h6, c27, h4⟩ := optE_inv h3; clear h3
    obtain ⟨x19, rfl, h5⟩ := dec_o1_inv h4; clear h4
    obtain ⟨c28, h7⟩ := chk_inv h5; clear h5
    obtain ⟨c29, h8⟩ := chk_inv h7; clear h7
    obtain ⟨c30, h9⟩ := chk_inv h8; clear h8
    exact At.nd fol 400 [.r [], .c true, .r [], .d {ds := [(4, {oc := [L.own true 1 x19]}), (11, {oe := [L.own true 1 x19], wm := 2}), (14, {oc := [L.gone], mv := [32]})], hv := 19456, Hs := [1024, 3072, 19456]}, .r []] [0, 1, 7, 9, 10, 11, 17, 18] [] (And.intro c25 (And.intro c27 (And.intro c27 (And.intro c28 (And.intro (rfl : (0 : Nat) = 0) (And.intro (@rfl Nat (List.length x19)) (And.intro c27 (And.intro (rfl : (0 : Nat) = 0) (And.intro c29 (And.intro c30 (And.intro (st_set_self c27 [L.gone]) (And.intro (rfl : (0 : Nat) = 0) (@rfl Nat (List.length (x19 ++ (List.take 1 [[L.int .u8 (IntKind.wrap IntKind.u8 (shrOf .i64 x12 (IntKind.wrap IntKind.i64 (8 * v13))))]])))))))))))))))) (hc2 (some i18) (IntKind.wrap IntKind.i64 (v13 + 1)) (List.set (List.set st17 i18 [L.gone]) i18 [L.own true 1 (x19 ++ (List.take 1 [[L.int .u8 (IntKind.wrap IntKind.u8 (shrOf .i64 x12 (IntKind.wrap IntKind.i64 (8 * v13))))]]))]) h9) (by kernel_rfl) (by kernel_rfl)
  · exact At.n fol 400 [.r [], .c false, .r []] [0, 1, 9, 10, 11] [] c25 (hc1 p_16 (IntKind.wrap IntKind.i64 (v1 + 1)) st17 h2) (by kernel_rfl)
theorem scroll_Pen_Put.p2_loop (p_16 : Option Nat) (size_1 : Int) (x12 : Int) (list_2 : List (List L)) (v1 : Int) (v13 : Int) (st17 : List (List L)) {N : Nat} {r : (List (List L))} {g0 : G} {w0 : World} {R : Exit → Act → World → Prop} {c1_ : ((Option Nat) × Int × (List (List L))) → Option (List (List L))} {J1 : Act → World → Prop} (hE : Ends Tryd.prog Tryd.f81 g0 w0 (scroll_Pen_Put.rs r) (r) R) (hc1 : ∀ (p_10 : Option Nat) (v1 : Int) (st11 : List (List L)), c1_ (p_10, v1, st11) = some r → At g0 w0 (scroll_Pen_Put.p1.S p_10 size_1 list_2 v1 st11) J1) (h : loopN (scroll_Pen_Put.p2 N c1_ size_1 x12 list_2 v1) N (p_16, v13, st17) = some r) : At g0 w0 (scroll_Pen_Put.p2.S p_16 size_1 x12 list_2 v1 v13 st17) (exK Tryd.prog R (.c (.loop (csub scroll_Pen_Put.B [1, 0, 0, 1, 1, 0, 0, 1, 1, 0, 0])) :: [.b 2, .b 1, .c (csub scroll_Pen_Put.B [1, 0, 0, 1, 1, 1]), .h J1, .b 0]) .normal) :=
  At.loop N (At.loopN (fun y : (Option Nat) × Int × (List (List L)) => scroll_Pen_Put.p2.S y.1 size_1 x12 list_2 v1 y.2.1 y.2.2) (fun c J hc y h => scroll_Pen_Put.p2_ok y.1 size_1 x12 list_2 v1 y.2.1 y.2.2 hE hc1 (fun p_16 v13 st17 hh => hc (p_16, v13, st17) hh) h) N (p_16, v13, st17) h)
theorem scroll_Pen_Put.p1_ok (p_10 : Option Nat) (size_1 : Int) (list_2 : List (List L)) (v1 : Int) (st11 : List (List L)) {N : Nat} {r : (List (List L))} {g0 : G} {w0 : World} {R : Exit → Act → World → Prop}  {c1_ : ((Option Nat) × Int × (List (List L))) → Option (List (List L))}  {J1 : Act → World → Prop} (hE : Ends Tryd.prog Tryd.f81 g0 w0 (scroll_Pen_Put.rs r) (r) R)  (hc1 : ∀ (p_10 : Option Nat) (v1 : Int) (st11 : List (List L)), c1_ (p_10, v1, st11) = some r → At g0 w0 (scroll_Pen_Put.p1.S p_10 size_1 list_2 v1 st11) J1) (h : scroll_Pen_Put.p1 N  size_1 list_2 c1_ (p_10, v1, st11) = some r) : At g0 w0 (scroll_Pen_Put.p1.S p_10 size_1 list_2 v1 st11) (exK Tryd.prog R (.c (csub scroll_Pen_Put.B [1, 0, 0]) :: .h J1 :: [.b 0]) .normal) := by
  unfold scroll_Pen_Put.p1 at h
  refine iteB h (fun c16 h10 => ?_) (fun c16 h11 => ?_) <;> clear h
  · obtain ⟨c17, h12⟩ := chk_inv h10; clear h10
    obtain ⟨h15, c18, h13⟩ := optE_inv h12; clear h12
    obtain ⟨x12, rfl, h14⟩ := dec_i64_inv h13; clear h13
    exact At.q fol 400 [.r [], .c true, .r [(1, {oe := [L.int .i64 x12]})], .r []] [0, 1, 7, 9, 10, 11, 17, 18] [] (And.intro c16 (And.intro c17 (And.intro (of_decide_eq_true c16) c18))) (scroll_Pen_Put.p2_loop p_10 size_1 x12 list_2 v1 0 st11 hE hc1 h14) (by kernel_rfl)
  · obtain rfl := some_inv h11
    exact At.f fol hE 400 [.r [], .c false] [] 0 [] c16 (by kernel_rfl)
theorem scroll_Pen_Put.p1_loop (p_10 : Option Nat) (size_1 : Int) (list_2 : List (List L)) (v1 : Int) (st11 : List (List L)) {N : Nat} {r : (List (List L))} {g0 : G} {w0 : World} {R : Exit → Act → World → Prop}   (hE : Ends Tryd.prog Tryd.f81 g0 w0 (scroll_Pen_Put.rs r) (r) R)  (h : loopN (scroll_Pen_Put.p1 N  size_1 list_2) N (p_10, v1, st11) = some r) : At g0 w0 (scroll_Pen_Put.p1.S p_10 size_1 list_2 v1 st11) (exK Tryd.prog R (.c (.loop (csub scroll_Pen_Put.B [1, 0, 0])) :: [.b 0]) .normal) :=
  At.loop N (At.loopN (fun y : (Option Nat) × Int × (List (List L)) => scroll_Pen_Put.p1.S y.1 size_1 list_2 y.2.1 y.2.2) (fun c J hc y h => scroll_Pen_Put.p1_ok y.1 size_1 list_2 y.2.1 y.2.2 hE  (fun p_10 v1 st11 hh => hc (p_10, v1, st11) hh) h) N (p_10, v1, st11) h)
theorem scroll_Pen_Put.at0 (p_0 : Option Nat) (size_1 : Int) (list_2 : List (List L)) (st : List (List L)) {N : Nat} {r : (List (List L))} {g0 : G} {w0 : World} {R : Exit → Act → World → Prop} (hE : Ends Tryd.prog Tryd.f81 g0 w0 (scroll_Pen_Put.rs r) (r) R) (h : scroll_Pen_Put N p_0 size_1 list_2 st = some r) : At g0 w0 (S.enter 37 [.one (L.ptr p_0), .one (L.int .i64 size_1), .one (L.sl 1 list_2)] st) (exK Tryd.prog R [.c scroll_Pen_Put.B] .normal) := by
  unfold scroll_Pen_Put at h
  exact At.q fol 400 [.r []] [0, 1, 9, 10, 11] [] trivial (scroll_Pen_Put.p1_loop p_0 size_1 list_2 0 st hE  h) (by kernel_rfl)
theorem scroll_Pen_Put.snd {N : Nat} {p_0 : Option Nat} {size_1 : Int} {list_2 : List (List L)} {st : List (List L)} {r : (List (List L))} (h : scroll_Pen_Put N p_0 size_1 list_2 st = some r) : Snd Tryd.prog 81 [.one (L.ptr p_0), .one (L.int .i64 size_1), .one (L.sl 1 list_2)] st (scroll_Pen_Put.rs r) (r) :=
  Snd.of (fn := Tryd.f81) (c := scroll_Pen_Put.B) Tryd.func81 (by kernel_rfl) (by kernel_rfl) (of_decide_eq_true (by kernel_rfl)) fun g w R hE => scroll_Pen_Put.at0 p_0 size_1 list_2 st hE h
/-! (*trailhead/scroll.Pen).Names -/
noncomputable def scroll_Pen_Names.B : Code := Tryd.f82.body.getD .skip
noncomputable def scroll_Pen_Names.rs (r : (List (List L))) : List CV := []
noncomputable def scroll_Pen_Names.p1 (N : Nat)  (list_1 : List (List L)) (c1_ : ((Option Nat) × Int × (List (List L))) → Option (List (List L))) : ((Option Nat) × Int × (List (List L))) → Option (List (List L)) := fun (p_5, v1, st6) =>
  if (decide (v1 < ((List.length list_1 : Nat) : Int))) = true then
    chk (0 ≤ v1) <|
    optE (list_1[Int.toNat v1]?) fun e => dec_u8x32 e fun x7 =>
    optE p_5 fun i8 =>
    optE (st6[i8]?) fun e => dec_o1 e fun x9 =>
    chk (List.length (x9 ++ (List.map (fun x => [L.int .u8 x]) x7)) * 1 ≤ 140737488355328) <|
    c1_ ((some i8), IntKind.wrap IntKind.i64 (v1 + 1), List.set (List.set st6 i8 [L.gone]) i8 [L.own true 1 (x9 ++ (List.map (fun x => [L.int .u8 x]) x7))])
  else
  some st6
noncomputable def scroll_Pen_Names (N : Nat) (p_0 : Option Nat) (list_1 : List (List L)) (st : List (List L)) : Option (List (List L)) :=
  loopN (scroll_Pen_Names.p1 N  list_1) N (p_0, 0, st)
noncomputable def scroll_Pen_Names.p1.S (p_5 : Option Nat) (list_1 : List (List L)) (v1 : Int) (st6 : List (List L)) : S := mkS 22 [(0, .one (.l (L.ptr p_5))), (6, .one (.l (L.sl 32 list_1))), (7, .one (.l (L.int .i64 ((List.length list_1 : Nat) : Int)))), (8, .one (.l (L.int .i64 v1)))] [] st6
theorem scroll_Pen_Names.p1_ok (p_5 : Option Nat) (list_1 : List (List L)) (v1 : Int) (st6 : List (List L)) {N : Nat} {r : (List (List L))} {g0 : G} {w0 : World} {R : Exit → Act → World → Prop}  {c1_ : ((Option Nat) × Int × (List (List L))) → Option (List (List L))}  {J1 : Act → World → Prop} (hE : Ends Tryd.prog Tryd.f82 g0 w0 (scroll_Pen_Names.rs r) (r) R)  (hc1 : ∀ (p_5 : Option Nat) (v1 : Int) (st6 : List (List L)), c1_ (p_5, v1, st6) = some r → At g0 w0 (scroll_Pen_Names.p1.S p_5 list_1 v1 st6) J1) (h : scroll_Pen_Names.p1 N  list_1 c1_ (p_5, v1, st6) = some r) : At g0 w0 (scroll_Pen_Names.p1.S p_5 list_1 v1 st6) (exK Tryd.prog R (.c (csub scroll_Pen_Names.B [1, 0, 0]) :: .h J1 :: [.b 0]) .normal) := by
  unfold scroll_Pen_Names.p1 at h
  refine iteB h (fun c7 h1 => ?_) (fun c7 h2 => ?_) <;> clear h
  · obtain ⟨c8, h3⟩ := chk_inv h1; clear h1
    obtain ⟨h6, c9, h4⟩ := optE_inv h3; clear h3
    obtain ⟨x7, rfl, h5⟩ := dec_u8x32_inv h4; clear h4
    obtain ⟨i8, rfl, h7⟩ := optE_inv h5; clear h5
    obtain ⟨h10, c11, h8⟩ := optE_inv h7; clear h7
    obtain ⟨x9, rfl, h9⟩ := dec_o1_inv h8; clear h8
    obtain ⟨c12, h11⟩ := chk_inv h9; clear h9
    exact At.nd fol 400 [.r [], .c true, .r [(1, {oe := [L.arr .u8 32 x7]})], .d {ds := [(4, {oc := [L.own true 1 x9]}), (6, {oe := [L.own true 1 x9]}), (9, {oc := [L.gone], mv := [18]})], hv := 576, Hs := [64, 576]}, .r []] [0, 6, 7, 8] [] (And.intro c7 (And.intro c8 (And.intro (of_decide_eq_true c7) (And.intro c9 (And.intro c11 (And.intro (by decide : (0 : Nat) ≤ 32) (And.intro (by decide : (32 : Nat) ≤ 32) (And.intro (rfl : (0 : Nat) = 0) (And.intro (@rfl Nat (List.length x9)) (And.intro c11 (And.intro c12 (And.intro (st_set_self c11 [L.gone]) (And.intro (rfl : (0 : Nat) = 0) (@rfl Nat (List.length (x9 ++ (List.map (fun x => [L.int .u8 x]) x7))))))))))))))))) (hc1 (some i8) (IntKind.wrap IntKind.i64 (v1 + 1)) (List.set (List.set st6 i8 [L.gone]) i8 [L.own true 1 (x9 ++ (List.map (fun x => [L.int .u8 x]) x7))]) h11) (by kernel_rfl) (by kernel_rfl)
  · obtain rfl := some_inv h2
    exact At.f fol hE 400 [.r [], .c false] [] 0 [] c7 (by kernel_rfl)
theorem scroll_Pen_Names.p1_loop (p_5 : Option Nat) (list_1 : List (List L)) (v1 : Int) (st6 : List (List L)) {N : Nat} {r : (List (List L))} {g0 : G} {w0 : World} {R : Exit → Act → World → Prop}   (hE : Ends Tryd.prog Tryd.f82 g0 w0 (scroll_Pen_Names.rs r) (r) R)  (h : loopN (scroll_Pen_Names.p1 N  list_1) N (p_5, v1, st6) = some r) : At g0 w0 (scroll_Pen_Names.p1.S p_5 list_1 v1 st6) (exK Tryd.prog R (.c (.loop (csub scroll_Pen_Names.B [1, 0, 0])) :: [.b 0]) .normal) :=
  At.loop N (At.loopN (fun y : (Option Nat) × Int × (List (List L)) => scroll_Pen_Names.p1.S y.1 list_1 y.2.1 y.2.2) (fun c J hc y h => scroll_Pen_Names.p1_ok y.1 list_1 y.2.1 y.2.2 hE  (fun p_5 v1 st6 hh => hc (p_5, v1, st6) hh) h) N (p_5, v1, st6) h)
theorem scroll_Pen_Names.at0 (p_0 : Option Nat) (list_1 : List (List L)) (st : List (List L)) {N : Nat} {r : (List (List L))} {g0 : G} {w0 : World} {R : Exit → Act → World → Prop} (hE : Ends Tryd.prog Tryd.f82 g0 w0 (scroll_Pen_Names.rs r) (r) R) (h : scroll_Pen_Names N p_0 list_1 st = some r) : At g0 w0 (S.enter 22 [.one (L.ptr p_0), .one (L.sl 32 list_1)] st) (exK Tryd.prog R [.c scroll_Pen_Names.B] .normal) := by
  unfold scroll_Pen_Names at h
  exact At.q fol 400 [.r []] [0, 6, 7, 8] [] trivial (scroll_Pen_Names.p1_loop p_0 list_1 0 st hE  h) (by kernel_rfl)
theorem scroll_Pen_Names.snd {N : Nat} {p_0 : Option Nat} {list_1 : List (List L)} {st : List (List L)} {r : (List (List L))} (h : scroll_Pen_Names N p_0 list_1 st = some r) : Snd Tryd.prog 82 [.one (L.ptr p_0), .one (L.sl 32 list_1)] st (scroll_Pen_Names.rs r) (r) :=
  Snd.of (fn := Tryd.f82) (c := scroll_Pen_Names.B) Tryd.func82 (by kernel_rfl) (by kernel_rfl) (of_decide_eq_true (by kernel_rfl)) fun g w R hE => scroll_Pen_Names.at0 p_0 list_1 st hE h
/-! trailhead/header.Write -/
noncomputable def header_Write.B : Code := Tryd.f76.body.getD .skip
noncomputable def header_Write.rs (r : (List (List L))) : List CV := []
noncomputable def header_Write.p1 (N : Nat)  (p_0 : Option Nat) (h_2 : Int) (h_3 : List Int) (h_4 : List Int) (h_5 : Int) (h_6 : Int) (h_7 : Int) (st : List (List L)) : Option (List (List L)) :=
  chk (1 ≤ (List.length [[L.int .i64 h_2]])) <|
  optE (scroll_Pen_Put N p_0 4 (List.take 1 [[L.int .i64 h_2]]) st) fun st8 =>
  chk (2 ≤ (List.length [[L.arr .u8 32 h_3], [L.arr .u8 32 h_4]])) <|
  optE (scroll_Pen_Names N p_0 (List.take 2 [[L.arr .u8 32 h_3], [L.arr .u8 32 h_4]]) st8) fun st9 =>
  chk (3 ≤ (List.length [[L.int .i64 h_5], [L.int .i64 h_6], [L.int .i64 h_7]])) <|
  optE (scroll_Pen_Put N p_0 4 (List.take 3 [[L.int .i64 h_5], [L.int .i64 h_6], [L.int .i64 h_7]]) st9) fun st10 =>
  some st10
noncomputable def header_Write (N : Nat) (p_0 : Option Nat) (h_1_0 : Int) (h_1_1 : List Int) (h_1_2 : List Int) (h_1_3 : Int) (h_1_4 : Int) (h_1_5 : Int) (st : List (List L)) : Option (List (List L)) :=
  optE (header_Good N h_1_0 h_1_1 h_1_2 h_1_3 h_1_4 h_1_5) fun x1 =>
  if (!x1) = true then
    header_Write.p1 N  p_0 0 (List.replicate 32 0) (List.replicate 32 0) 0 0 0 st
  else
  header_Write.p1 N  p_0 h_1_0 h_1_1 h_1_2 h_1_3 h_1_4 h_1_5 st
noncomputable def header_Write.p1.S (p_0 : Option Nat) (h_2 : Int) (h_3 : List Int) (h_4 : List Int) (h_5 : Int) (h_6 : Int) (h_7 : Int) (st : List (List L)) : S := mkS 29 [(0, .one (.l (L.ptr p_0))), (3, .one (.adr (.site 3) 0))] [(3, .cells [L.int .i64 h_2, L.arr .u8 32 h_3, L.arr .u8 32 h_4, L.int .i64 h_5, L.int .i64 h_6, L.int .i64 h_7])] st
theorem header_Write.p1_ok (p_0 : Option Nat) (h_2 : Int) (h_3 : List Int) (h_4 : List Int) (h_5 : Int) (h_6 : Int) (h_7 : Int) (st : List (List L)) {N : Nat} {r : (List (List L))} {g0 : G} {w0 : World} {R : Exit → Act → World → Prop}   (hE : Ends Tryd.prog Tryd.f76 g0 w0 (header_Write.rs r) (r) R)  (h : header_Write.p1 N  p_0 h_2 h_3 h_4 h_5 h_6 h_7 st = some r) : At g0 w0 (header_Write.p1.S p_0 h_2 h_3 h_4 h_5 h_6 h_7 st) (exK Tryd.prog R [.c (csub header_Write.B [1, 1])] .normal) := by
  unfold header_Write.p1 at h
  obtain ⟨c3, h1⟩ := chk_inv h; clear h
  obtain ⟨st8, c4, h2⟩ := optE_inv h1; clear h1
  obtain ⟨c5, h3⟩ := chk_inv h2; clear h2
  obtain ⟨st9, c6, h4⟩ := optE_inv h3; clear h3
  obtain ⟨c7, h5⟩ := chk_inv h4; clear h4
  obtain ⟨st10, c8, h6⟩ := optE_inv h5; clear h5
  obtain rfl := some_inv h6
  exact At.f fol hE 400 [.r [(4, {st := st8, wm := 2, fz := [11]})], .r [(6, {st := st9, wm := 2, fz := [18]})], .r [(8, {st := st10, wm := 2, fz := [27]})]] [] 0 [] (And.intro (rfl : (0 : Nat) = 0) (And.intro c3 (And.intro (scroll_Pen_Put.snd c4) (And.intro (rfl : (0 : Nat) = 0) (And.intro c5 (And.intro (scroll_Pen_Names.snd c6) (And.intro (rfl : (0 : Nat) = 0) (And.intro c7 (scroll_Pen_Put.snd c8))))))))) (by kernel_rfl)
theorem header_Write.at0 (p_0 : Option Nat) (h_1_0 : Int) (h_1_1 : List Int) (h_1_2 : List Int) (h_1_3 : Int) (h_1_4 : Int) (h_1_5 : Int) (st : List (List L)) {N : Nat} {r : (List (List L))} {g0 : G} {w0 : World} {R : Exit → Act → World → Prop} (hE : Ends Tryd.prog Tryd.f76 g0 w0 (header_Write.rs r) (r) R) (h : header_Write N p_0 h_1_0 h_1_1 h_1_2 h_1_3 h_1_4 h_1_5 st = some r) : At g0 w0 (S.enter 29 [.one (L.ptr p_0), .agg [L.int .i64 h_1_0, L.arr .u8 32 h_1_1, L.arr .u8 32 h_1_2, L.int .i64 h_1_3, L.int .i64 h_1_4, L.int .i64 h_1_5]] st) (exK Tryd.prog R [.c header_Write.B] .normal) := by
  unfold header_Write at h
  obtain ⟨x1, c1, h7⟩ := optE_inv h; clear h
  refine iteB h7 (fun c2 h8 => ?_) (fun c2 h9 => ?_) <;> clear h7
  · exact At.q fol 400 [.r [], .r [(1, {rs := [.one (L.bool x1)], m := 1})], .c true, .r [], .s 1] [0, 3] [3] (And.intro (header_Good.snd c1) c2) (header_Write.p1_ok p_0 0 (List.replicate 32 0) (List.replicate 32 0) 0 0 0 st hE  h8) (by kernel_rfl)
  · exact At.q fol 400 [.r [], .r [(1, {rs := [.one (L.bool x1)], m := 1})], .c false, .s 1] [0, 3] [3] (And.intro (header_Good.snd c1) c2) (header_Write.p1_ok p_0 h_1_0 h_1_1 h_1_2 h_1_3 h_1_4 h_1_5 st hE  h9) (by kernel_rfl)
theorem header_Write.snd {N : Nat} {p_0 : Option Nat} {h_1_0 : Int} {h_1_1 : List Int} {h_1_2 : List Int} {h_1_3 : Int} {h_1_4 : Int} {h_1_5 : Int} {st : List (List L)} {r : (List (List L))} (h : header_Write N p_0 h_1_0 h_1_1 h_1_2 h_1_3 h_1_4 h_1_5 st = some r) : Snd Tryd.prog 76 [.one (L.ptr p_0), .agg [L.int .i64 h_1_0, L.arr .u8 32 h_1_1, L.arr .u8 32 h_1_2, L.int .i64 h_1_3, L.int .i64 h_1_4, L.int .i64 h_1_5]] st (header_Write.rs r) (r) :=
  Snd.of (fn := Tryd.f76) (c := header_Write.B) Tryd.func76 (by kernel_rfl) (by kernel_rfl) (of_decide_eq_true (by kernel_rfl)) fun g w R hE => header_Write.at0 p_0 h_1_0 h_1_1 h_1_2 h_1_3 h_1_4 h_1_5 st hE h
/-! (*trailhead/scroll.Pen).Text -/
noncomputable def scroll_Pen_Text.B : Code := Tryd.f77.body.getD .skip
noncomputable def scroll_Pen_Text.rs (r : ByteArray × (List (List L))) : List CV := [.one (L.str r.1)]
noncomputable def scroll_Pen_Text (N : Nat) (p_0 : Option Nat) (st : List (List L)) : Option (ByteArray × (List (List L))) :=
  optE p_0 fun i1 =>
  optE (st[i1]?) fun e => dec_o1 e fun x2 =>
  chk (isB x2 = true) <|
  some (istr (List.map leafI x2), st)
theorem scroll_Pen_Text.at0 (p_0 : Option Nat) (st : List (List L)) {N : Nat} {r : ByteArray × (List (List L))} {g0 : G} {w0 : World} {R : Exit → Act → World → Prop} (hE : Ends Tryd.prog Tryd.f77 g0 w0 (scroll_Pen_Text.rs r) (r.2) R) (h : scroll_Pen_Text N p_0 st = some r) : At g0 w0 (S.enter 8 [.one (L.ptr p_0)] st) (exK Tryd.prog R [.c scroll_Pen_Text.B] .normal) := by
  unfold scroll_Pen_Text at h
  obtain ⟨i1, rfl, h1⟩ := optE_inv h; clear h
  obtain ⟨h4, c2, h2⟩ := optE_inv h1; clear h1
  obtain ⟨x2, rfl, h3⟩ := dec_o1_inv h2; clear h2
  obtain ⟨c3, h5⟩ := chk_inv h3; clear h3
  obtain rfl := some_inv h5
  exact At.f fol hE 400 [.r [], .r [(3, {oc := [L.own true 1 x2]}), (4, {oc := [L.own true 1 x2]})]] [] 0 [] (And.intro c2 (And.intro (rfl : (0 : Nat) = 0) (And.intro (@rfl Nat (List.length x2)) (And.intro c2 c3)))) (by kernel_rfl)
theorem scroll_Pen_Text.snd {N : Nat} {p_0 : Option Nat} {st : List (List L)} {r : ByteArray × (List (List L))} (h : scroll_Pen_Text N p_0 st = some r) : Snd Tryd.prog 77 [.one (L.ptr p_0)] st (scroll_Pen_Text.rs r) (r.2) :=
  Snd.of (fn := Tryd.f77) (c := scroll_Pen_Text.B) Tryd.func77 (by kernel_rfl) (by kernel_rfl) (of_decide_eq_true (by kernel_rfl)) fun g w R hE => scroll_Pen_Text.at0 p_0 st hE h
/-! trailhead/header.Bytes -/
noncomputable def header_Bytes.B : Code := Tryd.f70.body.getD .skip
noncomputable def header_Bytes.rs (r : ByteArray × Int × (List (List L))) : List CV := [.one (L.str r.1), .one (L.int .i64 r.2.1)]
noncomputable def header_Bytes (N : Nat) (h_0_0 : Int) (h_0_1 : List Int) (h_0_2 : List Int) (h_0_3 : Int) (h_0_4 : Int) (h_0_5 : Int) (st : List (List L)) : Option (ByteArray × Int × (List (List L))) :=
  optE (header_Good N h_0_0 h_0_1 h_0_2 h_0_3 h_0_4 h_0_5) fun x1 =>
  if (!x1) = true then
    some ((ByteArray.mk #[]), 1, st)
  else
  optE (header_Write N (some (List.length st)) h_0_0 h_0_1 h_0_2 h_0_3 h_0_4 h_0_5 (st ++ [[L.own true 1 []]])) fun st2 =>
  optE (scroll_Pen_Text N (some (List.length st)) st2) fun (x3, st4) =>
  some (x3, 0, st4)
theorem header_Bytes.at0 (h_0_0 : Int) (h_0_1 : List Int) (h_0_2 : List Int) (h_0_3 : Int) (h_0_4 : Int) (h_0_5 : Int) (st : List (List L)) {N : Nat} {r : ByteArray × Int × (List (List L))} {g0 : G} {w0 : World} {R : Exit → Act → World → Prop} (hE : Ends Tryd.prog Tryd.f70 g0 w0 (header_Bytes.rs r) (r.2.2) R) (h : header_Bytes N h_0_0 h_0_1 h_0_2 h_0_3 h_0_4 h_0_5 st = some r) : At g0 w0 (S.enter 15 [.agg [L.int .i64 h_0_0, L.arr .u8 32 h_0_1, L.arr .u8 32 h_0_2, L.int .i64 h_0_3, L.int .i64 h_0_4, L.int .i64 h_0_5]] st) (exK Tryd.prog R [.c header_Bytes.B] .normal) := by
  unfold header_Bytes at h
  obtain ⟨x1, c1, h1⟩ := optE_inv h; clear h
  refine iteB h1 (fun c2 h2 => ?_) (fun c2 h3 => ?_) <;> clear h1
  · obtain rfl := some_inv h2
    exact At.f fol hE 400 [.r [], .r [(1, {rs := [.one (L.bool x1)], m := 1})], .c true, .r []] [] 0 [] (And.intro (header_Good.snd c1) c2) (by kernel_rfl)
  · obtain ⟨st2, c3, h4⟩ := optE_inv h3; clear h3
    obtain ⟨⟨x3, st4⟩, c4, h5⟩ := optE_inv h4; clear h4
    obtain rfl := some_inv h5
    exact At.f fol hE 400 [.r [], .r [(1, {rs := [.one (L.bool x1)], m := 1})], .c false, .r [(0, {ns := [0]}), (1, {m := 1})], .r [(2, {st := st2})], .r [(1, {rs := [.one (L.str x3)], st := st4})]] [] 0 [] (And.intro (header_Good.snd c1) (And.intro c2 (And.intro (header_Write.snd c3) (scroll_Pen_Text.snd c4)))) (by kernel_rfl)
theorem header_Bytes.snd {N : Nat} {h_0_0 : Int} {h_0_1 : List Int} {h_0_2 : List Int} {h_0_3 : Int} {h_0_4 : Int} {h_0_5 : Int} {st : List (List L)} {r : ByteArray × Int × (List (List L))} (h : header_Bytes N h_0_0 h_0_1 h_0_2 h_0_3 h_0_4 h_0_5 st = some r) : Snd Tryd.prog 70 [.agg [L.int .i64 h_0_0, L.arr .u8 32 h_0_1, L.arr .u8 32 h_0_2, L.int .i64 h_0_3, L.int .i64 h_0_4, L.int .i64 h_0_5]] st (header_Bytes.rs r) (r.2.2) :=
  Snd.of (fn := Tryd.f70) (c := header_Bytes.B) Tryd.func70 (by kernel_rfl) (by kernel_rfl) (of_decide_eq_true (by kernel_rfl)) fun g w R hE => header_Bytes.at0 h_0_0 h_0_1 h_0_2 h_0_3 h_0_4 h_0_5 st hE h
/-! trailhead/digest.New -/
noncomputable def digest_New.B : Code := Tryd.f83.body.getD .skip
noncomputable def digest_New.rs (r : (Option Nat) × (List (List L))) : List CV := [.one (L.ptr r.1)]
noncomputable def digest_New (N : Nat) (st : List (List L)) : Option ((Option Nat) × (List (List L))) :=
  some ((some (List.length st)), st ++ [[L.arr .u32 8 glob_digest_starts, L.own false 1 [], L.int .u64 0]])
theorem digest_New.at0 (st : List (List L)) {N : Nat} {r : (Option Nat) × (List (List L))} {g0 : G} {w0 : World} {R : Exit → Act → World → Prop} (hE : Ends Tryd.prog Tryd.f83 g0 w0 (digest_New.rs r) (r.2) R) (h : digest_New N st = some r) : At g0 w0 (S.enter 4 [] st) (exK Tryd.prog R [.c digest_New.B] .normal) := by
  unfold digest_New at h
  obtain rfl := some_inv h
  exact At.f fol hE 400 [.r [], .r [(1, {mv := [1]}), (2, {m := 1})]] [] 0 [] trivial (by kernel_rfl)
theorem digest_New.snd {N : Nat}  {st : List (List L)} {r : (Option Nat) × (List (List L))} (h : digest_New N st = some r) : Snd Tryd.prog 83 [] st (digest_New.rs r) (r.2) :=
  Snd.of (fn := Tryd.f83) (c := digest_New.B) Tryd.func83 (by kernel_rfl) (by kernel_rfl) (of_decide_eq_true (by kernel_rfl)) fun g w R hE => digest_New.at0 st hE h
/-! math/bits.RotateLeft32 -/
noncomputable def math_bits_RotateLeft32.B : Code := Tryd.f88.body.getD .skip
noncomputable def math_bits_RotateLeft32.rs (r : Int) : List CV := [.one (L.int .u32 r)]
noncomputable def math_bits_RotateLeft32 (N : Nat) (x_0 : Int) (k_1 : Int) : Option Int :=
  chk (0 ≤ (bitsOf .and .u64 (IntKind.wrap IntKind.u64 (k_1)) 31)) <|
  chk (0 ≤ (IntKind.wrap IntKind.u64 (32 - (bitsOf .and .u64 (IntKind.wrap IntKind.u64 (k_1)) 31)))) <|
  some (bitsOf .or .u32 (shlOf .u32 x_0 (bitsOf .and .u64 (IntKind.wrap IntKind.u64 (k_1)) 31)) (shrOf .u32 x_0 (IntKind.wrap IntKind.u64 (32 - (bitsOf .and .u64 (IntKind.wrap IntKind.u64 (k_1)) 31)))))
theorem math_bits_RotateLeft32.at0 (x_0 : Int) (k_1 : Int) (st : List (List L)) {N : Nat} {r : Int} {g0 : G} {w0 : World} {R : Exit → Act → World → Prop} (hE : Ends Tryd.prog Tryd.f88 g0 w0 (math_bits_RotateLeft32.rs r) st R) (h : math_bits_RotateLeft32 N x_0 k_1 = some r) : At g0 w0 (S.enter 17 [.one (L.int .u32 x_0), .one (L.int .i64 k_1)] st) (exK Tryd.prog R [.c math_bits_RotateLeft32.B] .normal) := by
  unfold math_bits_RotateLeft32 at h
  obtain ⟨c1, h1⟩ := chk_inv h; clear h
  obtain ⟨c2, h2⟩ := chk_inv h1; clear h1
  obtain rfl := some_inv h2
  exact At.f fol hE 400 [.r [], .r [], .r []] [] 0 [] (And.intro c1 c2) (by kernel_rfl)
theorem math_bits_RotateLeft32.snd {N : Nat} {x_0 : Int} {k_1 : Int} {r : Int} (h : math_bits_RotateLeft32 N x_0 k_1 = some r) : SndQ Tryd.prog 88 [.one (L.int .u32 x_0), .one (L.int .i64 k_1)] (math_bits_RotateLeft32.rs r) := fun st =>
  Snd.of (fn := Tryd.f88) (c := math_bits_RotateLeft32.B) Tryd.func88 (by kernel_rfl) (by kernel_rfl) (of_decide_eq_true (by kernel_rfl)) fun g w R hE => math_bits_RotateLeft32.at0 x_0 k_1 st hE h
/-! trailhead/digest.turn -/
noncomputable def digest_turn.B : Code := Tryd.f87.body.getD .skip
noncomputable def digest_turn.rs (r : Int) : List CV := [.one (L.int .u32 r)]
noncomputable def digest_turn.p1 (N : Nat)  (x_0 : Int) (by_1 : List (List L)) (c1_ : (Int × Int) → Option Int) : (Int × Int) → Option Int := fun (out_1, v2) =>
  if (decide (v2 < ((List.length by_1 : Nat) : Int))) = true then
    chk (0 ≤ v2) <|
    optE (by_1[Int.toNat v2]?) fun e => dec_i64 e fun x3 =>
    optE (math_bits_RotateLeft32 N x_0 (IntKind.wrap IntKind.i64 (0 - x3))) fun x4 =>
    c1_ (bitsOf .xor .u32 out_1 x4, IntKind.wrap IntKind.i64 (v2 + 1))
  else
  some out_1
noncomputable def digest_turn (N : Nat) (x_0 : Int) (by_1 : List (List L)) : Option Int :=
  loopN (digest_turn.p1 N  x_0 by_1) N (0, 0)
noncomputable def digest_turn.p1.S (x_0 : Int) (out_1 : Int) (by_1 : List (List L)) (v2 : Int) (st : List (List L)) : S := mkS 22 [(0, .one (.l (L.int .u32 x_0))), (5, .one (.l (L.int .u32 out_1))), (8, .one (.l (L.sl 1 by_1))), (9, .one (.l (L.int .i64 ((List.length by_1 : Nat) : Int)))), (10, .one (.l (L.int .i64 v2)))] [] st
theorem digest_turn.p1_ok (x_0 : Int) (out_1 : Int) (by_1 : List (List L)) (v2 : Int) (st : List (List L)) {N : Nat} {r : Int} {g0 : G} {w0 : World} {R : Exit → Act → World → Prop}  {c1_ : (Int × Int) → Option Int}  {J1 : Act → World → Prop} (hE : Ends Tryd.prog Tryd.f87 g0 w0 (digest_turn.rs r) st R)  (hc1 : ∀ (out_1 : Int) (v2 : Int), c1_ (out_1, v2) = some r → At g0 w0 (digest_turn.p1.S x_0 out_1 by_1 v2 st) J1) (h : digest_turn.p1 N  x_0 by_1 c1_ (out_1, v2) = some r) : At g0 w0 (digest_turn.p1.S x_0 out_1 by_1 v2 st) (exK Tryd.prog R (.c (csub digest_turn.B [1, 1, 0, 1, 0, 0]) :: .h J1 :: [.b 0, .c (csub digest_turn.B [1, 1, 1])]) .normal) := by
  unfold digest_turn.p1 at h
  refine iteB h (fun c1 h1 => ?_) (fun c1 h2 => ?_) <;> clear h
  · obtain ⟨c2, h3⟩ := chk_inv h1; clear h1
    obtain ⟨h6, c3, h4⟩ := optE_inv h3; clear h3
    obtain ⟨x3, rfl, h5⟩ := dec_i64_inv h4; clear h4
    obtain ⟨x4, c4, h7⟩ := optE_inv h5; clear h5
    exact At.n fol 400 [.r [], .c true, .r [(1, {oe := [L.int .i64 x3]})], .r [(4, {rs := [.one (L.int .u32 x4)], m := 1})], .r []] [0, 5, 8, 9, 10] [] (And.intro c1 (And.intro c2 (And.intro (of_decide_eq_true c1) (And.intro c3 (math_bits_RotateLeft32.snd c4))))) (hc1 (bitsOf .xor .u32 out_1 x4) (IntKind.wrap IntKind.i64 (v2 + 1)) h7) (by kernel_rfl)
  · obtain rfl := some_inv h2
    exact At.f fol hE 400 [.r [], .c false, .r []] [] 0 [] c1 (by kernel_rfl)
theorem digest_turn.p1_loop (x_0 : Int) (out_1 : Int) (by_1 : List (List L)) (v2 : Int) (st : List (List L)) {N : Nat} {r : Int} {g0 : G} {w0 : World} {R : Exit → Act → World → Prop}   (hE : Ends Tryd.prog Tryd.f87 g0 w0 (digest_turn.rs r) st R)  (h : loopN (digest_turn.p1 N  x_0 by_1) N (out_1, v2) = some r) : At g0 w0 (digest_turn.p1.S x_0 out_1 by_1 v2 st) (exK Tryd.prog R (.c (.loop (csub digest_turn.B [1, 1, 0, 1, 0, 0])) :: [.b 0, .c (csub digest_turn.B [1, 1, 1])]) .normal) :=
  At.loop N (At.loopN (fun y : Int × Int => digest_turn.p1.S x_0 y.1 by_1 y.2 st) (fun c J hc y h => digest_turn.p1_ok x_0 y.1 by_1 y.2 st hE  (fun out_1 v2 hh => hc (out_1, v2) hh) h) N (out_1, v2) h)
theorem digest_turn.at0 (x_0 : Int) (by_1 : List (List L)) (st : List (List L)) {N : Nat} {r : Int} {g0 : G} {w0 : World} {R : Exit → Act → World → Prop} (hE : Ends Tryd.prog Tryd.f87 g0 w0 (digest_turn.rs r) st R) (h : digest_turn N x_0 by_1 = some r) : At g0 w0 (S.enter 22 [.one (L.int .u32 x_0), .one (L.sl 1 by_1)] st) (exK Tryd.prog R [.c digest_turn.B] .normal) := by
  unfold digest_turn at h
  exact At.q fol 400 [.r [], .r [], .r []] [0, 5, 8, 9, 10] [] trivial (digest_turn.p1_loop x_0 0 by_1 0 st hE  h) (by kernel_rfl)
theorem digest_turn.snd {N : Nat} {x_0 : Int} {by_1 : List (List L)} {r : Int} (h : digest_turn N x_0 by_1 = some r) : SndQ Tryd.prog 87 [.one (L.int .u32 x_0), .one (L.sl 1 by_1)] (digest_turn.rs r) := fun st =>
  Snd.of (fn := Tryd.f87) (c := digest_turn.B) Tryd.func87 (by kernel_rfl) (by kernel_rfl) (of_decide_eq_true (by kernel_rfl)) fun g w R hE => digest_turn.at0 x_0 by_1 st hE h
/-! (*trailhead/digest.Hasher).take -/
noncomputable def digest_Hasher_take.B : Code := Tryd.f86.body.getD .skip
noncomputable def digest_Hasher_take.rs (r : (List (List L))) : List CV := []
noncomputable def digest_Hasher_take.p4 (N : Nat)  (i101 : Nat) (s_116 : List Int) (c4_ : (Int × (List (List L))) → Option (List (List L))) : (Int × (List (List L))) → Option (List (List L)) := fun (v119, st123) =>
  if (decide (v119 < 8)) = true then
    chk (0 ≤ v119) <|
    optE (st123[i101]?) fun e => obj_digest_Hasher e fun x124 x125 x126 =>
    c4_ (IntKind.wrap IntKind.i64 (v119 + 1), List.set st123 i101 [L.arr .u32 8 (List.set x124 (Int.toNat v119) (IntKind.wrap IntKind.u32 ((List.getD x124 (Int.toNat v119) 0) + (List.getD s_116 (Int.toNat v119) 0)))), L.own false 1 x125, L.int .u64 x126])
  else
  some st123
noncomputable def digest_Hasher_take.p3 (N : Nat)  (i101 : Nat) (w_98 : List Int) (st : List (List L)) (c3_ : (Int × (List Int)) → Option (List (List L))) : (Int × (List Int)) → Option (List (List L)) := fun (v105, s_116) =>
  if (decide (v105 < 64)) = true then
    chk (3 ≤ (List.length [[L.int .i64 6], [L.int .i64 11], [L.int .i64 25]])) <|
    optE (digest_turn N (List.getD s_116 4 0) (List.take 3 [[L.int .i64 6], [L.int .i64 11], [L.int .i64 25]])) fun x117 =>
    chk (0 ≤ v105) <|
    chk (3 ≤ (List.length [[L.int .i64 2], [L.int .i64 13], [L.int .i64 22]])) <|
    optE (digest_turn N (List.getD s_116 0 0) (List.take 3 [[L.int .i64 2], [L.int .i64 13], [L.int .i64 22]])) fun x118 =>
    c3_ (IntKind.wrap IntKind.i64 (v105 + 1), [IntKind.wrap IntKind.u32 ((IntKind.wrap IntKind.u32 ((IntKind.wrap IntKind.u32 ((IntKind.wrap IntKind.u32 ((IntKind.wrap IntKind.u32 ((List.getD s_116 7 0) + x117)) + (bitsOf .xor .u32 (bitsOf .and .u32 (List.getD s_116 4 0) (List.getD s_116 5 0)) (bitsOf .and .u32 (bitsOf .xor .u32 (IntKind.max IntKind.u32) (List.getD s_116 4 0)) (List.getD s_116 6 0))))) + (List.getD glob_digest_steps (Int.toNat v105) 0))) + (List.getD w_98 (Int.toNat v105) 0))) + (IntKind.wrap IntKind.u32 (x118 + (bitsOf .xor .u32 (bitsOf .xor .u32 (bitsOf .and .u32 (List.getD s_116 0 0) (List.getD s_116 1 0)) (bitsOf .and .u32 (List.getD s_116 0 0) (List.getD s_116 2 0))) (bitsOf .and .u32 (List.getD s_116 1 0) (List.getD s_116 2 0)))))), List.getD s_116 0 0, List.getD s_116 1 0, List.getD s_116 2 0, IntKind.wrap IntKind.u32 ((List.getD s_116 3 0) + (IntKind.wrap IntKind.u32 ((IntKind.wrap IntKind.u32 ((IntKind.wrap IntKind.u32 ((IntKind.wrap IntKind.u32 ((List.getD s_116 7 0) + x117)) + (bitsOf .xor .u32 (bitsOf .and .u32 (List.getD s_116 4 0) (List.getD s_116 5 0)) (bitsOf .and .u32 (bitsOf .xor .u32 (IntKind.max IntKind.u32) (List.getD s_116 4 0)) (List.getD s_116 6 0))))) + (List.getD glob_digest_steps (Int.toNat v105) 0))) + (List.getD w_98 (Int.toNat v105) 0)))), List.getD s_116 4 0, List.getD s_116 5 0, List.getD s_116 6 0])
  else
  loopN (digest_Hasher_take.p4 N  i101 s_116) N (0, st)
noncomputable def digest_Hasher_take.p2 (N : Nat)  (h_0 : Option Nat) (st : List (List L)) (c2_ : (Int × (List Int)) → Option (List (List L))) : (Int × (List Int)) → Option (List (List L)) := fun (i_69, w_98) =>
  if (decide (i_69 < 64)) = true then
    chk (0 ≤ (IntKind.wrap IntKind.i64 (i_69 - 15))) <|
    chk ((IntKind.wrap IntKind.i64 (i_69 - 15)) < 64) <|
    chk (0 ≤ (IntKind.wrap IntKind.i64 (i_69 - 2))) <|
    chk ((IntKind.wrap IntKind.i64 (i_69 - 2)) < 64) <|
    chk (0 ≤ (IntKind.wrap IntKind.i64 (i_69 - 16))) <|
    chk ((IntKind.wrap IntKind.i64 (i_69 - 16)) < 64) <|
    chk (2 ≤ (List.length [[L.int .i64 7], [L.int .i64 18]])) <|
    optE (digest_turn N (List.getD w_98 (Int.toNat (IntKind.wrap IntKind.i64 (i_69 - 15))) 0) (List.take 2 [[L.int .i64 7], [L.int .i64 18]])) fun x99 =>
    chk (0 ≤ (IntKind.wrap IntKind.i64 (i_69 - 7))) <|
    chk ((IntKind.wrap IntKind.i64 (i_69 - 7)) < 64) <|
    chk (2 ≤ (List.length [[L.int .i64 17], [L.int .i64 19]])) <|
    optE (digest_turn N (List.getD w_98 (Int.toNat (IntKind.wrap IntKind.i64 (i_69 - 2))) 0) (List.take 2 [[L.int .i64 17], [L.int .i64 19]])) fun x100 =>
    chk (0 ≤ i_69) <|
    c2_ (IntKind.wrap IntKind.i64 (i_69 + 1), List.set w_98 (Int.toNat i_69) (IntKind.wrap IntKind.u32 ((IntKind.wrap IntKind.u32 ((IntKind.wrap IntKind.u32 ((List.getD w_98 (Int.toNat (IntKind.wrap IntKind.i64 (i_69 - 16))) 0) + (bitsOf .xor .u32 x99 (shrOf .u32 (List.getD w_98 (Int.toNat (IntKind.wrap IntKind.i64 (i_69 - 15))) 0) 3)))) + (List.getD w_98 (Int.toNat (IntKind.wrap IntKind.i64 (i_69 - 7))) 0))) + (bitsOf .xor .u32 x100 (shrOf .u32 (List.getD w_98 (Int.toNat (IntKind.wrap IntKind.i64 (i_69 - 2))) 0) 10)))))
  else
  optE h_0 fun i101 =>
  optE (st[i101]?) fun e => obj_digest_Hasher e fun x102 x103 x104 =>
  loopN (digest_Hasher_take.p3 N  i101 w_98 st) N (0, x102)
noncomputable def digest_Hasher_take.p1 (N : Nat)  (h_0 : Option Nat) (b_1 : List (List L)) (st : List (List L)) (c1_ : (Int × (List Int)) → Option (List (List L))) : (Int × (List Int)) → Option (List (List L)) := fun (v1, w_64) =>
  if (decide (v1 < 16)) = true then
    chk (0 ≤ (IntKind.wrap IntKind.i64 (4 * v1))) <|
    chk ((IntKind.wrap IntKind.i64 (4 * v1)) < ((List.length b_1 : Nat) : Int)) <|
    optE (b_1[Int.toNat (IntKind.wrap IntKind.i64 (4 * v1))]?) fun e => dec_u8 e fun x65 =>
    chk (0 ≤ (IntKind.wrap IntKind.i64 ((IntKind.wrap IntKind.i64 (4 * v1)) + 1))) <|
    chk ((IntKind.wrap IntKind.i64 ((IntKind.wrap IntKind.i64 (4 * v1)) + 1)) < ((List.length b_1 : Nat) : Int)) <|
    optE (b_1[Int.toNat (IntKind.wrap IntKind.i64 ((IntKind.wrap IntKind.i64 (4 * v1)) + 1))]?) fun e => dec_u8 e fun x66 =>
    chk (0 ≤ (IntKind.wrap IntKind.i64 ((IntKind.wrap IntKind.i64 (4 * v1)) + 2))) <|
    chk ((IntKind.wrap IntKind.i64 ((IntKind.wrap IntKind.i64 (4 * v1)) + 2)) < ((List.length b_1 : Nat) : Int)) <|
    optE (b_1[Int.toNat (IntKind.wrap IntKind.i64 ((IntKind.wrap IntKind.i64 (4 * v1)) + 2))]?) fun e => dec_u8 e fun x67 =>
    chk (0 ≤ (IntKind.wrap IntKind.i64 ((IntKind.wrap IntKind.i64 (4 * v1)) + 3))) <|
    chk ((IntKind.wrap IntKind.i64 ((IntKind.wrap IntKind.i64 (4 * v1)) + 3)) < ((List.length b_1 : Nat) : Int)) <|
    optE (b_1[Int.toNat (IntKind.wrap IntKind.i64 ((IntKind.wrap IntKind.i64 (4 * v1)) + 3))]?) fun e => dec_u8 e fun x68 =>
    chk (0 ≤ v1) <|
    chk (v1 < 64) <|
    c1_ (IntKind.wrap IntKind.i64 (v1 + 1), List.set w_64 (Int.toNat v1) (bitsOf .or .u32 (bitsOf .or .u32 (bitsOf .or .u32 (shlOf .u32 (IntKind.wrap IntKind.u32 (x65)) 24) (shlOf .u32 (IntKind.wrap IntKind.u32 (x66)) 16)) (shlOf .u32 (IntKind.wrap IntKind.u32 (x67)) 8)) (IntKind.wrap IntKind.u32 (x68))))
  else
  loopN (digest_Hasher_take.p2 N  h_0 st) N (16, w_64)
noncomputable def digest_Hasher_take (N : Nat) (h_0 : Option Nat) (b_1 : List (List L)) (st : List (List L)) : Option (List (List L)) :=
  loopN (digest_Hasher_take.p1 N  h_0 b_1 st) N (0, List.replicate 64 0)
noncomputable def digest_Hasher_take.p4.S (i101 : Nat) (v119 : Int) (s_116 : List Int) (st123 : List (List L)) : S := mkS 189 [(0, .one (.l (L.ptr (some i101)))), (9, .one (.adr (.site 9) 0)), (172, .one (.l (L.int .i64 v119)))] [(9, .cells [L.arr .u32 8 s_116])] st123
noncomputable def digest_Hasher_take.p3.S (i101 : Nat) (v105 : Int) (w_98 : List Int) (s_116 : List Int) (st : List (List L)) : S := mkS 189 [(0, .one (.l (L.ptr (some i101)))), (4, .one (.adr (.site 4) 0)), (9, .one (.adr (.site 9) 0)), (96, .one (.l (L.int .i64 v105)))] [(4, .cells [L.arr .u32 64 w_98]), (9, .cells [L.arr .u32 8 s_116])] st
noncomputable def digest_Hasher_take.p2.S (h_0 : Option Nat) (i_69 : Int) (w_98 : List Int) (st : List (List L)) : S := mkS 189 [(0, .one (.l (L.ptr h_0))), (4, .one (.adr (.site 4) 0)), (6, .one (.l (L.int .i64 i_69)))] [(4, .cells [L.arr .u32 64 w_98])] st
noncomputable def digest_Hasher_take.p1.S (h_0 : Option Nat) (b_1 : List (List L)) (v1 : Int) (w_64 : List Int) (st : List (List L)) : S := mkS 189 [(0, .one (.l (L.ptr h_0))), (1, .one (.l (L.sl 1 b_1))), (4, .one (.adr (.site 4) 0)), (16, .one (.l (L.int .i64 v1)))] [(4, .cells [L.arr .u32 64 w_64])] st
theorem digest_Hasher_take.p4_ok (i101 : Nat) (v119 : Int) (s_116 : List Int) (st123 : List (List L)) {N : Nat} {r : (List (List L))} {g0 : G} {w0 : World} {R : Exit → Act → World → Prop}  {c4_ : (Int × (List (List L))) → Option (List (List L))}  {J4 : Act → World → Prop} (hE : Ends Tryd.prog Tryd.f86 g0 w0 (digest_Hasher_take.rs r) (r) R)  (hc4 : ∀ (v119 : Int) (st123 : List (List L)), c4_ (v119, st123) = some r → At g0 w0 (digest_Hasher_take.p4.S i101 v119 s_116 st123) J4) (h : digest_Hasher_take.p4 N  i101 s_116 c4_ (v119, st123) = some r) : At g0 w0 (digest_Hasher_take.p4.S i101 v119 s_116 st123) (exK Tryd.prog R (.c (csub digest_Hasher_take.B [1, 1, 1, 1, 1, 1, 0, 0]) :: .h J4 :: [.b 6]) .normal) := by
  unfold digest_Hasher_take.p4 at h
  refine iteB h (fun c188 h1 => ?_) (fun c188 h2 => ?_) <;> clear h
  · obtain ⟨c189, h3⟩ := chk_inv h1; clear h1
    obtain ⟨h6, c190, h4⟩ := optE_inv h3; clear h3
    obtain ⟨x124, x125, x126, rfl, h5⟩ := obj_digest_Hasher_inv h4; clear h4
    exact At.nd fol 400 [.r [], .c true, .r [], .d {ds := [(5, {oc := [L.arr .u32 8 x124, L.own false 1 x125, L.int .u64 x126]}), (13, {oc := [L.arr .u32 8 x124, L.own false 1 x125, L.int .u64 x126]})], hv := 8192, Hs := [8192]}, .r []] [0, 9, 172] [9] (And.intro c188 (And.intro c189 (And.intro (of_decide_eq_true c188) (And.intro c190 (And.intro c189 (And.intro (of_decide_eq_true c188) (And.intro c189 (And.intro (of_decide_eq_true c188) c190)))))))) (hc4 (IntKind.wrap IntKind.i64 (v119 + 1)) (List.set st123 i101 [L.arr .u32 8 (List.set x124 (Int.toNat v119) (IntKind.wrap IntKind.u32 ((List.getD x124 (Int.toNat v119) 0) + (List.getD s_116 (Int.toNat v119) 0)))), L.own false 1 x125, L.int .u64 x126]) h5) (by kernel_rfl) (by kernel_rfl)
  · obtain rfl := some_inv h2
    exact At.f fol hE 400 [.r [], .c false] [] 0 [] c188 (by kernel_rfl)
theorem digest_Hasher_take.p4_loop (i101 : Nat) (v119 : Int) (s_116 : List Int) (st123 : List (List L)) {N : Nat} {r : (List (List L))} {g0 : G} {w0 : World} {R : Exit → Act → World → Prop}   (hE : Ends Tryd.prog Tryd.f86 g0 w0 (digest_Hasher_take.rs r) (r) R)  (h : loopN (digest_Hasher_take.p4 N  i101 s_116) N (v119, st123) = some r) : At g0 w0 (digest_Hasher_take.p4.S i101 v119 s_116 st123) (exK Tryd.prog R (.c (.loop (csub digest_Hasher_take.B [1, 1, 1, 1, 1, 1, 0, 0])) :: [.b 6]) .normal) :=
  At.loop N (At.loopN (fun y : Int × (List (List L)) => digest_Hasher_take.p4.S i101 y.1 s_116 y.2) (fun c J hc y h => digest_Hasher_take.p4_ok i101 y.1 s_116 y.2 hE  (fun v119 st123 hh => hc (v119, st123) hh) h) N (v119, st123) h)
theorem digest_Hasher_take.p3_ok (i101 : Nat) (v105 : Int) (w_98 : List Int) (s_116 : List Int) (st : List (List L)) {N : Nat} {r : (List (List L))} {g0 : G} {w0 : World} {R : Exit → Act → World → Prop}  {c3_ : (Int × (List Int)) → Option (List (List L))}  {J3 : Act → World → Prop} (hE : Ends Tryd.prog Tryd.f86 g0 w0 (digest_Hasher_take.rs r) (r) R)  (hc3 : ∀ (v105 : Int) (s_116 : List Int), c3_ (v105, s_116) = some r → At g0 w0 (digest_Hasher_take.p3.S i101 v105 w_98 s_116 st) J3) (h : digest_Hasher_take.p3 N  i101 w_98 st c3_ (v105, s_116) = some r) : At g0 w0 (digest_Hasher_take.p3.S i101 v105 w_98 s_116 st) (exK Tryd.prog R (.c (csub digest_Hasher_take.B [1, 1, 1, 1, 0, 1, 0, 0]) :: .h J3 :: [.b 4, .c (csub digest_Hasher_take.B [1, 1, 1, 1, 1])]) .normal) := by
  unfold digest_Hasher_take.p3 at h
  refine iteB h (fun c179 h7 => ?_) (fun c179 h8 => ?_) <;> clear h
  · obtain ⟨c180, h9⟩ := chk_inv h7; clear h7
    obtain ⟨x117, c181, h10⟩ := optE_inv h9; clear h9
    obtain ⟨c182, h11⟩ := chk_inv h10; clear h10
    obtain ⟨c183, h12⟩ := chk_inv h11; clear h11
    obtain ⟨x118, c184, h13⟩ := optE_inv h12; clear h12
    exact At.nd fol 400 [.r [], .c true, .r [], .r [], .r [], .d {ds := [(5, {rs := [.one (L.int .u32 x117)], m := 2, wm := 2})], hv := 16, Hs := [16]}, .r [(3, {rs := [.one (L.int .u32 x118)], m := 2, wm := 2})], .r [(19, {m := 3})], .r []] [0, 4, 9, 96] [4, 9] (And.intro c179 (And.intro (by decide : (0 : Int) ≤ 4) (And.intro (by decide : (4 : Int) < 8) (And.intro (by decide : (0 : Int) ≤ 5) (And.intro (by decide : (5 : Int) < 8) (And.intro (by decide : (0 : Int) ≤ 4) (And.intro (by decide : (4 : Int) < 8) (And.intro (by decide : (0 : Int) ≤ 6) (And.intro (by decide : (6 : Int) < 8) (And.intro (by decide : (0 : Int) ≤ 0) (And.intro (by decide : (0 : Int) < 8) (And.intro (by decide : (0 : Int) ≤ 1) (And.intro (by decide : (1 : Int) < 8) (And.intro (by decide : (0 : Int) ≤ 0) (And.intro (by decide : (0 : Int) < 8) (And.intro (by decide : (0 : Int) ≤ 2) (And.intro (by decide : (2 : Int) < 8) (And.intro (by decide : (0 : Int) ≤ 1) (And.intro (by decide : (1 : Int) < 8) (And.intro (by decide : (0 : Int) ≤ 2) (And.intro (by decide : (2 : Int) < 8) (And.intro (by decide : (0 : Int) ≤ 7) (And.intro (by decide : (7 : Int) < 8) (And.intro (by decide : (0 : Int) ≤ 7) (And.intro (by decide : (7 : Int) < 8) (And.intro (by decide : (0 : Int) ≤ 4) (And.intro (by decide : (4 : Int) < 8) (And.intro (by decide : (0 : Int) ≤ 4) (And.intro (by decide : (4 : Int) < 8) (And.intro (rfl : (0 : Nat) = 0) (And.intro c180 (And.intro (digest_turn.snd c181) (And.intro c182 (And.intro (of_decide_eq_true c179) (And.intro c182 (And.intro (of_decide_eq_true c179) (And.intro c182 (And.intro (of_decide_eq_true c179) (And.intro c182 (And.intro (of_decide_eq_true c179) (And.intro (by decide : (0 : Int) ≤ 0) (And.intro (by decide : (0 : Int) < 8) (And.intro (rfl : (0 : Nat) = 0) (And.intro c183 (And.intro (digest_turn.snd c184) (And.intro (by decide : (0 : Int) ≤ 0) (And.intro (by decide : (0 : Int) < 8) (And.intro (by decide : (0 : Int) ≤ 1) (And.intro (by decide : (1 : Int) < 8) (And.intro (by decide : (0 : Int) ≤ 2) (And.intro (by decide : (2 : Int) < 8) (And.intro (by decide : (0 : Int) ≤ 3) (And.intro (by decide : (3 : Int) < 8) (And.intro (by decide : (0 : Int) ≤ 4) (And.intro (by decide : (4 : Int) < 8) (And.intro (by decide : (0 : Int) ≤ 5) (And.intro (by decide : (5 : Int) < 8) (And.intro (by decide : (0 : Int) ≤ 6) (by decide : (6 : Int) < 8))))))))))))))))))))))))))))))))))))))))))))))))))))))))))) (hc3 (IntKind.wrap IntKind.i64 (v105 + 1)) [IntKind.wrap IntKind.u32 ((IntKind.wrap IntKind.u32 ((IntKind.wrap IntKind.u32 ((IntKind.wrap IntKind.u32 ((IntKind.wrap IntKind.u32 ((List.getD s_116 7 0) + x117)) + (bitsOf .xor .u32 (bitsOf .and .u32 (List.getD s_116 4 0) (List.getD s_116 5 0)) (bitsOf .and .u32 (bitsOf .xor .u32 (IntKind.max IntKind.u32) (List.getD s_116 4 0)) (List.getD s_116 6 0))))) + (List.getD glob_digest_steps (Int.toNat v105) 0))) + (List.getD w_98 (Int.toNat v105) 0))) + (IntKind.wrap IntKind.u32 (x118 + (bitsOf .xor .u32 (bitsOf .xor .u32 (bitsOf .and .u32 (List.getD s_116 0 0) (List.getD s_116 1 0)) (bitsOf .and .u32 (List.getD s_116 0 0) (List.getD s_116 2 0))) (bitsOf .and .u32 (List.getD s_116 1 0) (List.getD s_116 2 0)))))), List.getD s_116 0 0, List.getD s_116 1 0, List.getD s_116 2 0, IntKind.wrap IntKind.u32 ((List.getD s_116 3 0) + (IntKind.wrap IntKind.u32 ((IntKind.wrap IntKind.u32 ((IntKind.wrap IntKind.u32 ((IntKind.wrap IntKind.u32 ((List.getD s_116 7 0) + x117)) + (bitsOf .xor .u32 (bitsOf .and .u32 (List.getD s_116 4 0) (List.getD s_116 5 0)) (bitsOf .and .u32 (bitsOf .xor .u32 (IntKind.max IntKind.u32) (List.getD s_116 4 0)) (List.getD s_116 6 0))))) + (List.getD glob_digest_steps (Int.toNat v105) 0))) + (List.getD w_98 (Int.toNat v105) 0)))), List.getD s_116 4 0, List.getD s_116 5 0, List.getD s_116 6 0] h13) (by kernel_rfl) (by kernel_rfl)
  · exact At.q fol 400 [.r [], .c false, .r []] [0, 9, 172] [9] c179 (digest_Hasher_take.p4_loop i101 0 s_116 st hE  h8) (by kernel_rfl)
theorem digest_Hasher_take.p3_loop (i101 : Nat) (v105 : Int) (w_98 : List Int) (s_116 : List Int) (st : List (List L)) {N : Nat} {r : (List (List L))} {g0 : G} {w0 : World} {R : Exit → Act → World → Prop}   (hE : Ends Tryd.prog Tryd.f86 g0 w0 (digest_Hasher_take.rs r) (r) R)  (h : loopN (digest_Hasher_take.p3 N  i101 w_98 st) N (v105, s_116) = some r) : At g0 w0 (digest_Hasher_take.p3.S i101 v105 w_98 s_116 st) (exK Tryd.prog R (.c (.loop (csub digest_Hasher_take.B [1, 1, 1, 1, 0, 1, 0, 0])) :: [.b 4, .c (csub digest_Hasher_take.B [1, 1, 1, 1, 1])]) .normal) :=
  At.loop N (At.loopN (fun y : Int × (List Int) => digest_Hasher_take.p3.S i101 y.1 w_98 y.2 st) (fun c J hc y h => digest_Hasher_take.p3_ok i101 y.1 w_98 y.2 st hE  (fun v105 s_116 hh => hc (v105, s_116) hh) h) N (v105, s_116) h)
theorem digest_Hasher_take.p2_ok (h_0 : Option Nat) (i_69 : Int) (w_98 : List Int) (st : List (List L)) {N : Nat} {r : (List (List L))} {g0 : G} {w0 : World} {R : Exit → Act → World → Prop}  {c2_ : (Int × (List Int)) → Option (List (List L))}  {J2 : Act → World → Prop} (hE : Ends Tryd.prog Tryd.f86 g0 w0 (digest_Hasher_take.rs r) (r) R)  (hc2 : ∀ (i_69 : Int) (w_98 : List Int), c2_ (i_69, w_98) = some r → At g0 w0 (digest_Hasher_take.p2.S h_0 i_69 w_98 st) J2) (h : digest_Hasher_take.p2 N  h_0 st c2_ (i_69, w_98) = some r) : At g0 w0 (digest_Hasher_take.p2.S h_0 i_69 w_98 st) (exK Tryd.prog R (.c (csub digest_Hasher_take.B [1, 1, 0, 1, 0, 0]) :: .h J2 :: [.b 2, .c (csub digest_Hasher_take.B [1, 1, 1])]) .normal) := by
  unfold digest_Hasher_take.p2 at h
  refine iteB h (fun c151 h14 => ?_) (fun c151 h15 => ?_) <;> clear h
  · obtain ⟨c152, h16⟩ := chk_inv h14; clear h14
    obtain ⟨c153, h17⟩ := chk_inv h16; clear h16
    obtain ⟨c154, h18⟩ := chk_inv h17; clear h17
    obtain ⟨c155, h19⟩ := chk_inv h18; clear h18
    obtain ⟨c156, h20⟩ := chk_inv h19; clear h19
    obtain ⟨c157, h21⟩ := chk_inv h20; clear h20
    obtain ⟨c158, h22⟩ := chk_inv h21; clear h21
    obtain ⟨x99, c159, h23⟩ := optE_inv h22; clear h22
    obtain ⟨c160, h24⟩ := chk_inv h23; clear h23
    obtain ⟨c161, h25⟩ := chk_inv h24; clear h24
    obtain ⟨c162, h26⟩ := chk_inv h25; clear h25
    obtain ⟨x100, c163, h27⟩ := optE_inv h26; clear h26
    obtain ⟨c164, h28⟩ := chk_inv h27; clear h27
    exact At.nd fol 400 [.r [], .c true, .d {ds := [], hv := 0, Hs := []}, .d {ds := [(7, {rs := [.one (L.int .u32 x99)], m := 2, wm := 2}), (19, {rs := [.one (L.int .u32 x100)], m := 2, wm := 2})], hv := 33816640, Hs := [64, 262144, 262208, 33816640]}, .r []] [0, 4, 6] [4] (And.intro c151 (And.intro c152 (And.intro c153 (And.intro c154 (And.intro c155 (And.intro c156 (And.intro c157 (And.intro c156 (And.intro c157 (And.intro c156 (And.intro c157 (And.intro c156 (And.intro c157 (And.intro (rfl : (0 : Nat) = 0) (And.intro c158 (And.intro (digest_turn.snd c159) (And.intro (rfl : (0 : Nat) = 0) (And.intro c158 (And.intro (digest_turn.snd c159) (And.intro (by decide : (0 : Int) ≤ 3) (And.intro (by decide : (0 : Int) ≤ 3) (And.intro (by decide : (0 : Int) ≤ 3) (And.intro (by decide : (0 : Int) ≤ 3) (And.intro c160 (And.intro c161 (And.intro c160 (And.intro c161 (And.intro c160 (And.intro c161 (And.intro c160 (And.intro c161 (And.intro (rfl : (0 : Nat) = 0) (And.intro c162 (And.intro (digest_turn.snd c163) (And.intro (by decide : (0 : Int) ≤ 10) (And.intro (by decide : (0 : Int) ≤ 10) (And.intro (by decide : (0 : Int) ≤ 10) (And.intro (by decide : (0 : Int) ≤ 10) (And.intro c164 (of_decide_eq_true c151)))))))))))))))))))))))))))))))))))))))) (hc2 (IntKind.wrap IntKind.i64 (i_69 + 1)) (List.set w_98 (Int.toNat i_69) (IntKind.wrap IntKind.u32 ((IntKind.wrap IntKind.u32 ((IntKind.wrap IntKind.u32 ((List.getD w_98 (Int.toNat (IntKind.wrap IntKind.i64 (i_69 - 16))) 0) + (bitsOf .xor .u32 x99 (shrOf .u32 (List.getD w_98 (Int.toNat (IntKind.wrap IntKind.i64 (i_69 - 15))) 0) 3)))) + (List.getD w_98 (Int.toNat (IntKind.wrap IntKind.i64 (i_69 - 7))) 0))) + (bitsOf .xor .u32 x100 (shrOf .u32 (List.getD w_98 (Int.toNat (IntKind.wrap IntKind.i64 (i_69 - 2))) 0) 10))))) h28) (by kernel_rfl) (by kernel_rfl)
  · obtain ⟨i101, rfl, h29⟩ := optE_inv h15; clear h15
    obtain ⟨h32, c166, h30⟩ := optE_inv h29; clear h29
    obtain ⟨x102, x103, x104, rfl, h31⟩ := obj_digest_Hasher_inv h30; clear h30
    exact At.q fol 400 [.r [], .c false, .r [(3, {oc := [L.arr .u32 8 x102, L.own false 1 x103, L.int .u64 x104]})], .r []] [0, 4, 9, 96] [4, 9] (And.intro c151 c166) (digest_Hasher_take.p3_loop i101 0 w_98 x102 st hE  h31) (by kernel_rfl)
theorem digest_Hasher_take.p2_loop (h_0 : Option Nat) (i_69 : Int) (w_98 : List Int) (st : List (List L)) {N : Nat} {r : (List (List L))} {g0 : G} {w0 : World} {R : Exit → Act → World → Prop}   (hE : Ends Tryd.prog Tryd.f86 g0 w0 (digest_Hasher_take.rs r) (r) R)  (h : loopN (digest_Hasher_take.p2 N  h_0 st) N (i_69, w_98) = some r) : At g0 w0 (digest_Hasher_take.p2.S h_0 i_69 w_98 st) (exK Tryd.prog R (.c (.loop (csub digest_Hasher_take.B [1, 1, 0, 1, 0, 0])) :: [.b 2, .c (csub digest_Hasher_take.B [1, 1, 1])]) .normal) :=
  At.loop N (At.loopN (fun y : Int × (List Int) => digest_Hasher_take.p2.S h_0 y.1 y.2 st) (fun c J hc y h => digest_Hasher_take.p2_ok h_0 y.1 y.2 st hE  (fun i_69 w_98 hh => hc (i_69, w_98) hh) h) N (i_69, w_98) h)
theorem digest_Hasher_take.p1_ok (h_0 : Option Nat) (b_1 : List (List L)) (v1 : Int) (w_64 : List Int) (st : List (List L)) {N : Nat} {r : (List (List L))} {g0 : G} {w0 : World} {R : Exit → Act → World → Prop}  {c1_ : (Int × (List Int)) → Option (List (List L))}  {J1 : Act → World → Prop} (hE : Ends Tryd.prog Tryd.f86 g0 w0 (digest_Hasher_take.rs r) (r) R)  (hc1 : ∀ (v1 : Int) (w_64 : List Int), c1_ (v1, w_64) = some r → At g0 w0 (digest_Hasher_take.p1.S h_0 b_1 v1 w_64 st) J1) (h : digest_Hasher_take.p1 N  h_0 b_1 st c1_ (v1, w_64) = some r) : At g0 w0 (digest_Hasher_take.p1.S h_0 b_1 v1 w_64 st) (exK Tryd.prog R (.c (csub digest_Hasher_take.B [1, 0, 1, 0, 0]) :: .h J1 :: [.b 0, .c (csub digest_Hasher_take.B [1, 1])]) .normal) := by
  unfold digest_Hasher_take.p1 at h
  refine iteB h (fun c96 h33 => ?_) (fun c96 h34 => ?_) <;> clear h
  · obtain ⟨c97, h35⟩ := chk_inv h33; clear h33
    obtain ⟨c98, h36⟩ := chk_inv h35; clear h35
    obtain ⟨h39, c99, h37⟩ := optE_inv h36; clear h36
    obtain ⟨x65, rfl, h38⟩ := dec_u8_inv h37; clear h37
    obtain ⟨c100, h40⟩ := chk_inv h38; clear h38
    obtain ⟨c101, h41⟩ := chk_inv h40; clear h40
    obtain ⟨h44, c102, h42⟩ := optE_inv h41; clear h41
    obtain ⟨x66, rfl, h43⟩ := dec_u8_inv h42; clear h42
    obtain ⟨c103, h45⟩ := chk_inv h43; clear h43
    obtain ⟨c104, h46⟩ := chk_inv h45; clear h45
    obtain ⟨h49, c105, h47⟩ := optE_inv h46; clear h46
    obtain ⟨x67, rfl, h48⟩ := dec_u8_inv h47; clear h47
    obtain ⟨c106, h50⟩ := chk_inv h48; clear h48
    obtain ⟨c107, h51⟩ := chk_inv h50; clear h50
    obtain ⟨h54, c108, h52⟩ := optE_inv h51; clear h51
    obtain ⟨x68, rfl, h53⟩ := dec_u8_inv h52; clear h52
    obtain ⟨c109, h55⟩ := chk_inv h53; clear h53
    obtain ⟨c110, h56⟩ := chk_inv h55; clear h55
    exact At.nd fol 400 [.r [], .c true, .r [], .d {ds := [(5, {oe := [L.int .u8 x65]}), (13, {oe := [L.int .u8 x66]}), (22, {oe := [L.int .u8 x67]}), (31, {oe := [L.int .u8 x68]})], hv := 34359738368, Hs := [34359738368]}, .r []] [0, 1, 4, 16] [4] (And.intro c96 (And.intro c97 (And.intro c98 (And.intro c99 (And.intro (by decide : (0 : Int) ≤ 24) (And.intro c100 (And.intro c101 (And.intro c102 (And.intro (by decide : (0 : Int) ≤ 16) (And.intro c103 (And.intro c104 (And.intro c105 (And.intro (by decide : (0 : Int) ≤ 8) (And.intro c106 (And.intro c107 (And.intro c108 (And.intro c109 c110))))))))))))))))) (hc1 (IntKind.wrap IntKind.i64 (v1 + 1)) (List.set w_64 (Int.toNat v1) (bitsOf .or .u32 (bitsOf .or .u32 (bitsOf .or .u32 (shlOf .u32 (IntKind.wrap IntKind.u32 (x65)) 24) (shlOf .u32 (IntKind.wrap IntKind.u32 (x66)) 16)) (shlOf .u32 (IntKind.wrap IntKind.u32 (x67)) 8)) (IntKind.wrap IntKind.u32 (x68)))) h56) (by kernel_rfl) (by kernel_rfl)
  · exact At.q fol 400 [.r [], .c false, .r []] [0, 4, 6] [4] c96 (digest_Hasher_take.p2_loop h_0 16 w_64 st hE  h34) (by kernel_rfl)
theorem digest_Hasher_take.p1_loop (h_0 : Option Nat) (b_1 : List (List L)) (v1 : Int) (w_64 : List Int) (st : List (List L)) {N : Nat} {r : (List (List L))} {g0 : G} {w0 : World} {R : Exit → Act → World → Prop}   (hE : Ends Tryd.prog Tryd.f86 g0 w0 (digest_Hasher_take.rs r) (r) R)  (h : loopN (digest_Hasher_take.p1 N  h_0 b_1 st) N (v1, w_64) = some r) : At g0 w0 (digest_Hasher_take.p1.S h_0 b_1 v1 w_64 st) (exK Tryd.prog R (.c (.loop (csub digest_Hasher_take.B [1, 0, 1, 0, 0])) :: [.b 0, .c (csub digest_Hasher_take.B [1, 1])]) .normal) :=
  At.loop N (At.loopN (fun y : Int × (List Int) => digest_Hasher_take.p1.S h_0 b_1 y.1 y.2 st) (fun c J hc y h => digest_Hasher_take.p1_ok h_0 b_1 y.1 y.2 st hE  (fun v1 w_64 hh => hc (v1, w_64) hh) h) N (v1, w_64) h)
theorem digest_Hasher_take.at0 (h_0 : Option Nat) (b_1 : List (List L)) (st : List (List L)) {N : Nat} {r : (List (List L))} {g0 : G} {w0 : World} {R : Exit → Act → World → Prop} (hE : Ends Tryd.prog Tryd.f86 g0 w0 (digest_Hasher_take.rs r) (r) R) (h : digest_Hasher_take N h_0 b_1 st = some r) : At g0 w0 (S.enter 189 [.one (L.ptr h_0), .one (L.sl 1 b_1)] st) (exK Tryd.prog R [.c digest_Hasher_take.B] .normal) := by
  unfold digest_Hasher_take at h
  exact At.q fol 400 [.r [], .r []] [0, 1, 4, 16] [4] trivial (digest_Hasher_take.p1_loop h_0 b_1 0 (List.replicate 64 0) st hE  h) (by kernel_rfl)
theorem digest_Hasher_take.snd {N : Nat} {h_0 : Option Nat} {b_1 : List (List L)} {st : List (List L)} {r : (List (List L))} (h : digest_Hasher_take N h_0 b_1 st = some r) : Snd Tryd.prog 86 [.one (L.ptr h_0), .one (L.sl 1 b_1)] st (digest_Hasher_take.rs r) (r) :=
  Snd.of (fn := Tryd.f86) (c := digest_Hasher_take.B) Tryd.func86 (by kernel_rfl) (by kernel_rfl) (of_decide_eq_true (by kernel_rfl)) fun g w R hE => digest_Hasher_take.at0 h_0 b_1 st hE h
/-! (*trailhead/digest.Hasher).Write -/
noncomputable def digest_Hasher_Write.B : Code := Tryd.f84.body.getD .skip
noncomputable def digest_Hasher_Write.rs (r : (List (List L))) : List CV := []
noncomputable def digest_Hasher_Write.p2 (N : Nat) (c1_ : ((Option Nat) × Int × (List (List L))) → Option (List (List L))) (i25 : Nat) (parts_1 : List (List L)) (v1 : Int) (c2_ : (List (List L)) → Option (List (List L))) : (List (List L)) → Option (List (List L)) := fun st36 =>
  optE (st36[i25]?) fun e => obj_digest_Hasher e fun x37 x38 x39 =>
  if (decide (((List.length x38 : Nat) : Int) ≥ 64)) = true then
    chk (64 ≤ (List.length x38)) <|
    optE (digest_Hasher_take N (some i25) (List.take 64 x38) st36) fun st40 =>
    optE (st40[i25]?) fun e => obj_digest_Hasher e fun x41 x42 x43 =>
    chk (64 ≤ (List.length x42)) <|
    c2_ (List.set st40 i25 [L.arr .u32 8 x41, L.own false 1 (List.drop 64 x42), L.int .u64 x43])
  else
  c1_ ((some i25), IntKind.wrap IntKind.i64 (v1 + 1), st36)
noncomputable def digest_Hasher_Write.p1 (N : Nat)  (parts_1 : List (List L)) (c1_ : ((Option Nat) × Int × (List (List L))) → Option (List (List L))) : ((Option Nat) × Int × (List (List L))) → Option (List (List L)) := fun (h_22, v1, st23) =>
  if (decide (v1 < ((List.length parts_1 : Nat) : Int))) = true then
    chk (0 ≤ v1) <|
    optE (parts_1[Int.toNat v1]?) fun e => dec_t e fun x24 =>
    optE h_22 fun i25 =>
    optE (st23[i25]?) fun e => obj_digest_Hasher e fun x26 x27 x28 =>
    chk (List.length (x27 ++ (byteL x24)) * 1 ≤ 140737488355328) <|
    loopN (digest_Hasher_Write.p2 N c1_ i25 parts_1 v1) N (List.set (List.set (List.set st23 i25 [L.arr .u32 8 x26, L.own false 1 x27, L.int .u64 (IntKind.wrap IntKind.u64 (x28 + (IntKind.wrap IntKind.u64 (((ByteArray.size x24 : Nat) : Int)))))]) i25 [L.arr .u32 8 x26, L.gone, L.int .u64 (IntKind.wrap IntKind.u64 (x28 + (IntKind.wrap IntKind.u64 (((ByteArray.size x24 : Nat) : Int)))))]) i25 [L.arr .u32 8 x26, L.own false 1 (x27 ++ (byteL x24)), L.int .u64 (IntKind.wrap IntKind.u64 (x28 + (IntKind.wrap IntKind.u64 (((ByteArray.size x24 : Nat) : Int)))))])
  else
  some st23
noncomputable def digest_Hasher_Write (N : Nat) (h_0 : Option Nat) (parts_1 : List (List L)) (st : List (List L)) : Option (List (List L)) :=
  if (Option.isNone h_0) = true then
    some st
  else
  loopN (digest_Hasher_Write.p1 N  parts_1) N (h_0, 0, st)
noncomputable def digest_Hasher_Write.p2.S (i25 : Nat) (parts_1 : List (List L)) (v1 : Int) (st36 : List (List L)) : S := mkS 55 [(0, .one (.l (L.ptr (some i25)))), (8, .one (.l (L.sl 1 parts_1))), (9, .one (.l (L.int .i64 ((List.length parts_1 : Nat) : Int)))), (10, .one (.l (L.int .i64 v1)))] [] st36
noncomputable def digest_Hasher_Write.p1.S (h_22 : Option Nat) (parts_1 : List (List L)) (v1 : Int) (st23 : List (List L)) : S := mkS 55 [(0, .one (.l (L.ptr h_22))), (8, .one (.l (L.sl 1 parts_1))), (9, .one (.l (L.int .i64 ((List.length parts_1 : Nat) : Int)))), (10, .one (.l (L.int .i64 v1)))] [] st23
theorem digest_Hasher_Write.p2_ok (i25 : Nat) (parts_1 : List (List L)) (v1 : Int) (st36 : List (List L)) {N : Nat} {r : (List (List L))} {g0 : G} {w0 : World} {R : Exit → Act → World → Prop} {c1_ : ((Option Nat) × Int × (List (List L))) → Option (List (List L))} {c2_ : (List (List L)) → Option (List (List L))} {J1 : Act → World → Prop} {J2 : Act → World → Prop} (hE : Ends Tryd.prog Tryd.f84 g0 w0 (digest_Hasher_Write.rs r) (r) R) (hc1 : ∀ (h_22 : Option Nat) (v1 : Int) (st23 : List (List L)), c1_ (h_22, v1, st23) = some r → At g0 w0 (digest_Hasher_Write.p1.S h_22 parts_1 v1 st23) J1) (hc2 : ∀ (st36 : List (List L)), c2_ st36 = some r → At g0 w0 (digest_Hasher_Write.p2.S i25 parts_1 v1 st36) J2) (h : digest_Hasher_Write.p2 N c1_ i25 parts_1 v1 c2_ st36 = some r) : At g0 w0 (digest_Hasher_Write.p2.S i25 parts_1 v1 st36) (exK Tryd.prog R (.c (csub digest_Hasher_Write.B [1, 1, 0, 0, 1, 1, 0, 0, 1, 1, 1, 0, 0]) :: .h J2 :: [.b 2, .b 1, .c (csub digest_Hasher_Write.B [1, 1, 0, 0, 1, 1, 1]), .h J1, .b 0]) .normal) := by
  unfold digest_Hasher_Write.p2 at h
  obtain ⟨h3, c32, h1⟩ := optE_inv h; clear h
  obtain ⟨x37, x38, x39, rfl, h2⟩ := obj_digest_Hasher_inv h1; clear h1
  refine iteB h2 (fun c33 h4 => ?_) (fun c33 h5 => ?_) <;> clear h2
  · obtain ⟨c34, h6⟩ := chk_inv h4; clear h4
    obtain ⟨st40, c35, h7⟩ := optE_inv h6; clear h6
    obtain ⟨h10, c36, h8⟩ := optE_inv h7; clear h7
    obtain ⟨x41, x42, x43, rfl, h9⟩ := obj_digest_Hasher_inv h8; clear h8
    obtain ⟨c37, h11⟩ := chk_inv h9; clear h9
    exact At.n fol 400 [.r [(3, {oc := [L.arr .u32 8 x37, L.own false 1 x38, L.int .u64 x39]})], .c true, .r [(4, {oc := [L.arr .u32 8 x37, L.own false 1 x38, L.int .u64 x39]}), (5, {oc := [L.arr .u32 8 x37, L.own false 1 x38, L.int .u64 x39]}), (6, {oc := [L.arr .u32 8 x37, L.own false 1 x38, L.int .u64 x39], st := st40, wm := 2})], .r [(4, {oc := [L.arr .u32 8 x41, L.own false 1 x42, L.int .u64 x43]}), (5, {oc := [L.arr .u32 8 x41, L.own false 1 x42, L.int .u64 x43]}), (8, {oc := [L.arr .u32 8 x41, L.own false 1 x42, L.int .u64 x43], m := 8, wm := 1})]] [0, 8, 9, 10] [] (And.intro c32 (And.intro c33 (And.intro c32 (And.intro (by decide : (0 : Int) ≤ 64) (And.intro (by decide : (0 : Nat) ≤ 64) (And.intro c34 (And.intro c32 (And.intro (rfl : (0 : Nat) = 0) (And.intro c34 (And.intro c32 (And.intro (digest_Hasher_take.snd c35) (And.intro c36 (And.intro (by decide : (0 : Int) ≤ 64) (And.intro c37 (And.intro (Nat.le_refl (List.length x42)) (And.intro c36 (And.intro (rfl : Root.obj i25 = Root.obj i25) (And.intro c36 (And.intro c37 (@rfl Nat ((List.length x42) - 64))))))))))))))))))))) (hc2 (List.set st40 i25 [L.arr .u32 8 x41, L.own false 1 (List.drop 64 x42), L.int .u64 x43]) h11) (by kernel_rfl)
  · exact At.n fol 400 [.r [(3, {oc := [L.arr .u32 8 x37, L.own false 1 x38, L.int .u64 x39]})], .c false, .r []] [0, 8, 9, 10] [] (And.intro c32 c33) (hc1 (some i25) (IntKind.wrap IntKind.i64 (v1 + 1)) st36 h5) (by kernel_rfl)
theorem digest_Hasher_Write.p2_loop (i25 : Nat) (parts_1 : List (List L)) (v1 : Int) (st36 : List (List L)) {N : Nat} {r : (List (List L))} {g0 : G} {w0 : World} {R : Exit → Act → World → Prop} {c1_ : ((Option Nat) × Int × (List (List L))) → Option (List (List L))} {J1 : Act → World → Prop} (hE : Ends Tryd.prog Tryd.f84 g0 w0 (digest_Hasher_Write.rs r) (r) R) (hc1 : ∀ (h_22 : Option Nat) (v1 : Int) (st23 : List (List L)), c1_ (h_22, v1, st23) = some r → At g0 w0 (digest_Hasher_Write.p1.S h_22 parts_1 v1 st23) J1) (h : loopN (digest_Hasher_Write.p2 N c1_ i25 parts_1 v1) N st36 = some r) : At g0 w0 (digest_Hasher_Write.p2.S i25 parts_1 v1 st36) (exK Tryd.prog R (.c (.loop (csub digest_Hasher_Write.B [1, 1, 0, 0, 1, 1, 0, 0, 1, 1, 1, 0, 0])) :: [.b 2, .b 1, .c (csub digest_Hasher_Write.B [1, 1, 0, 0, 1, 1, 1]), .h J1, .b 0]) .normal) :=
  At.loop N (At.loopN (fun y : (List (List L)) => digest_Hasher_Write.p2.S i25 parts_1 v1 y) (fun c J hc y h => digest_Hasher_Write.p2_ok i25 parts_1 v1 y hE hc1 (fun st36 hh => hc st36 hh) h) N st36 h)
theorem digest_Hasher_Write.p1_ok (h_22 : Option Nat) (parts_1 : List (List L)) (v1 : Int) (st23 : List (List L)) {N : Nat} {r : (List (List L))} {g0 : G} {w0 : World} {R : Exit → Act → World → Prop}  {c1_ : ((Option Nat) × Int × (List (List L))) → Option (List (List L))}  {J1 : Act → World → Prop} (hE : Ends Tryd.prog Tryd.f84 g0 w0 (digest_Hasher_Write.rs r) (r) R)  (hc1 : ∀ (h_22 : Option Nat) (v1 : Int) (st23 : List (List L)), c1_ (h_22, v1, st23) = some r → At g0 w0 (digest_Hasher_Write.p1.S h_22 parts_1 v1 st23) J1) (h : digest_Hasher_Write.p1 N  parts_1 c1_ (h_22, v1, st23) = some r) : At g0 w0 (digest_Hasher_Write.p1.S h_22 parts_1 v1 st23) (exK Tryd.prog R (.c (csub digest_Hasher_Write.B [1, 1, 0, 0]) :: .h J1 :: [.b 0]) .normal) := by
  unfold digest_Hasher_Write.p1 at h
  refine iteB h (fun c20 h12 => ?_) (fun c20 h13 => ?_) <;> clear h
  · obtain ⟨c21, h14⟩ := chk_inv h12; clear h12
    obtain ⟨h17, c22, h15⟩ := optE_inv h14; clear h14
    obtain ⟨x24, rfl, h16⟩ := dec_t_inv h15; clear h15
    obtain ⟨i25, rfl, h18⟩ := optE_inv h16; clear h16
    obtain ⟨h21, c24, h19⟩ := optE_inv h18; clear h18
    obtain ⟨x26, x27, x28, rfl, h20⟩ := obj_digest_Hasher_inv h19; clear h19
    obtain ⟨c25, h22⟩ := chk_inv h20; clear h20
    exact At.q fol 400 [.r [], .c true, .r [(1, {oe := [L.str x24]})], .r [(3, {oc := [L.arr .u32 8 x26, L.own false 1 x27, L.int .u64 x28]}), (10, {oc := [L.arr .u32 8 x26, L.own false 1 x27, L.int .u64 x28]})], .r [(4, {oc := [L.arr .u32 8 x26, L.own false 1 x27, L.int .u64 (IntKind.wrap IntKind.u64 (x28 + (IntKind.wrap IntKind.u64 (((ByteArray.size x24 : Nat) : Int)))))]}), (6, {oe := [L.arr .u32 8 x26, L.own false 1 x27, L.int .u64 (IntKind.wrap IntKind.u64 (x28 + (IntKind.wrap IntKind.u64 (((ByteArray.size x24 : Nat) : Int)))))]}), (9, {oc := [L.arr .u32 8 x26, L.gone, L.int .u64 (IntKind.wrap IntKind.u64 (x28 + (IntKind.wrap IntKind.u64 (((ByteArray.size x24 : Nat) : Int)))))], mv := [30]})]] [0, 8, 9, 10] [] (And.intro c20 (And.intro c21 (And.intro (of_decide_eq_true c20) (And.intro c22 (And.intro c24 (And.intro c24 (And.intro (st_set_self c24 [L.arr .u32 8 x26, L.own false 1 x27, L.int .u64 (IntKind.wrap IntKind.u64 (x28 + (IntKind.wrap IntKind.u64 (((ByteArray.size x24 : Nat) : Int)))))]) (And.intro (rfl : (0 : Nat) = 0) (And.intro (@rfl Nat (List.length x27)) (And.intro (st_set_self c24 [L.arr .u32 8 x26, L.own false 1 x27, L.int .u64 (IntKind.wrap IntKind.u64 (x28 + (IntKind.wrap IntKind.u64 (((ByteArray.size x24 : Nat) : Int)))))]) (And.intro c25 (And.intro (st_set_self (st_set_self c24 [L.arr .u32 8 x26, L.own false 1 x27, L.int .u64 (IntKind.wrap IntKind.u64 (x28 + (IntKind.wrap IntKind.u64 (((ByteArray.size x24 : Nat) : Int)))))]) [L.arr .u32 8 x26, L.gone, L.int .u64 (IntKind.wrap IntKind.u64 (x28 + (IntKind.wrap IntKind.u64 (((ByteArray.size x24 : Nat) : Int)))))]) (And.intro (rfl : (0 : Nat) = 0) (@rfl Nat (List.length (x27 ++ (byteL x24))))))))))))))))) (digest_Hasher_Write.p2_loop i25 parts_1 v1 (List.set (List.set (List.set st23 i25 [L.arr .u32 8 x26, L.own false 1 x27, L.int .u64 (IntKind.wrap IntKind.u64 (x28 + (IntKind.wrap IntKind.u64 (((ByteArray.size x24 : Nat) : Int)))))]) i25 [L.arr .u32 8 x26, L.gone, L.int .u64 (IntKind.wrap IntKind.u64 (x28 + (IntKind.wrap IntKind.u64 (((ByteArray.size x24 : Nat) : Int)))))]) i25 [L.arr .u32 8 x26, L.own false 1 (x27 ++ (byteL x24)), L.int .u64 (IntKind.wrap IntKind.u64 (x28 + (IntKind.wrap IntKind.u64 (((ByteArray.size x24 : Nat) : Int)))))]) hE hc1 h22) (by kernel_rfl)
  · obtain rfl := some_inv h13
    exact At.f fol hE 400 [.r [], .c false] [] 0 [] c20 (by kernel_rfl)
theorem digest_Hasher_Write.p1_loop (h_22 : Option Nat) (parts_1 : List (List L)) (v1 : Int) (st23 : List (List L)) {N : Nat} {r : (List (List L))} {g0 : G} {w0 : World} {R : Exit → Act → World → Prop}   (hE : Ends Tryd.prog Tryd.f84 g0 w0 (digest_Hasher_Write.rs r) (r) R)  (h : loopN (digest_Hasher_Write.p1 N  parts_1) N (h_22, v1, st23) = some r) : At g0 w0 (digest_Hasher_Write.p1.S h_22 parts_1 v1 st23) (exK Tryd.prog R (.c (.loop (csub digest_Hasher_Write.B [1, 1, 0, 0])) :: [.b 0]) .normal) :=
  At.loop N (At.loopN (fun y : (Option Nat) × Int × (List (List L)) => digest_Hasher_Write.p1.S y.1 parts_1 y.2.1 y.2.2) (fun c J hc y h => digest_Hasher_Write.p1_ok y.1 parts_1 y.2.1 y.2.2 hE  (fun h_22 v1 st23 hh => hc (h_22, v1, st23) hh) h) N (h_22, v1, st23) h)
theorem digest_Hasher_Write.at0 (h_0 : Option Nat) (parts_1 : List (List L)) (st : List (List L)) {N : Nat} {r : (List (List L))} {g0 : G} {w0 : World} {R : Exit → Act → World → Prop} (hE : Ends Tryd.prog Tryd.f84 g0 w0 (digest_Hasher_Write.rs r) (r) R) (h : digest_Hasher_Write N h_0 parts_1 st = some r) : At g0 w0 (S.enter 55 [.one (L.ptr h_0), .one (L.sl 1 parts_1)] st) (exK Tryd.prog R [.c digest_Hasher_Write.B] .normal) := by
  unfold digest_Hasher_Write at h
  refine iteB h (fun c1 h23 => ?_) (fun c1 h24 => ?_) <;> clear h
  · obtain rfl := some_inv h23
    exact At.f fol hE 400 [.r [], .c true] [] 0 [] c1 (by kernel_rfl)
  · exact At.q fol 400 [.r [], .c false, .r []] [0, 8, 9, 10] [] c1 (digest_Hasher_Write.p1_loop h_0 parts_1 0 st hE  h24) (by kernel_rfl)
theorem digest_Hasher_Write.snd {N : Nat} {h_0 : Option Nat} {parts_1 : List (List L)} {st : List (List L)} {r : (List (List L))} (h : digest_Hasher_Write N h_0 parts_1 st = some r) : Snd Tryd.prog 84 [.one (L.ptr h_0), .one (L.sl 1 parts_1)] st (digest_Hasher_Write.rs r) (r) :=
  Snd.of (fn := Tryd.f84) (c := digest_Hasher_Write.B) Tryd.func84 (by kernel_rfl) (by kernel_rfl) (of_decide_eq_true (by kernel_rfl)) fun g w R hE => digest_Hasher_Write.at0 h_0 parts_1 st hE h
/-! (*trailhead/digest.Hasher).Sum -/
noncomputable def digest_Hasher_Sum.B : Code := Tryd.f85.body.getD .skip
noncomputable def digest_Hasher_Sum.rs (r : (List Int) × (List (List L))) : List CV := [.agg [L.arr .u8 32 r.1]]
noncomputable def digest_Hasher_Sum.p4 (N : Nat)  (x77 : List Int) (st75 : List (List L)) (c4_ : (Int × (List Int)) → Option ((List Int) × (List (List L)))) : (Int × (List Int)) → Option ((List Int) × (List (List L))) := fun (v80, out_81) =>
  if (decide (v80 < 8)) = true then
    chk (0 ≤ v80) <|
    chk (0 ≤ (IntKind.wrap IntKind.i64 (4 * v80))) <|
    chk ((IntKind.wrap IntKind.i64 (4 * v80)) < 32) <|
    chk (0 ≤ (IntKind.wrap IntKind.i64 ((IntKind.wrap IntKind.i64 (4 * v80)) + 1))) <|
    chk ((IntKind.wrap IntKind.i64 ((IntKind.wrap IntKind.i64 (4 * v80)) + 1)) < 32) <|
    chk (0 ≤ (IntKind.wrap IntKind.i64 ((IntKind.wrap IntKind.i64 (4 * v80)) + 2))) <|
    chk ((IntKind.wrap IntKind.i64 ((IntKind.wrap IntKind.i64 (4 * v80)) + 2)) < 32) <|
    chk (0 ≤ (IntKind.wrap IntKind.i64 ((IntKind.wrap IntKind.i64 (4 * v80)) + 3))) <|
    chk ((IntKind.wrap IntKind.i64 ((IntKind.wrap IntKind.i64 (4 * v80)) + 3)) < 32) <|
    c4_ (IntKind.wrap IntKind.i64 (v80 + 1), List.set (List.set (List.set (List.set out_81 (Int.toNat (IntKind.wrap IntKind.i64 (4 * v80))) (IntKind.wrap IntKind.u8 (shrOf .u32 (List.getD x77 (Int.toNat v80) 0) 24))) (Int.toNat (IntKind.wrap IntKind.i64 ((IntKind.wrap IntKind.i64 (4 * v80)) + 1))) (IntKind.wrap IntKind.u8 (shrOf .u32 (List.getD x77 (Int.toNat v80) 0) 16))) (Int.toNat (IntKind.wrap IntKind.i64 ((IntKind.wrap IntKind.i64 (4 * v80)) + 2))) (IntKind.wrap IntKind.u8 (shrOf .u32 (List.getD x77 (Int.toNat v80) 0) 8))) (Int.toNat (IntKind.wrap IntKind.i64 ((IntKind.wrap IntKind.i64 (4 * v80)) + 3))) (IntKind.wrap IntKind.u8 (List.getD x77 (Int.toNat v80) 0)))
  else
  some (out_81, st75)
noncomputable def digest_Hasher_Sum.p3 (N : Nat)  (st : List (List L)) (v63 : List (List L)) (c3_ : (Nat × Nat × (List (List L))) → Option ((List Int) × (List (List L)))) : (Nat × Nat × (List (List L))) → Option ((List Int) × (List (List L))) := fun (tail_73, tail_74, st75) =>
  if (decide (((tail_74 : Nat) : Int) > 0)) = true then
    chk (64 ≤ tail_74) <|
    chk ((tail_73 + 64) ≤ (List.length v63)) <|
    optE (digest_Hasher_take N (some (List.length st)) (List.take 64 (List.drop tail_73 v63)) st75) fun st76 =>
    c3_ (tail_73 + 64, tail_74 - 64, st76)
  else
  optE (st75[List.length st]?) fun e => obj_digest_Hasher e fun x77 x78 x79 =>
  loopN (digest_Hasher_Sum.p4 N  x77 st75) N (0, List.replicate 32 0)
noncomputable def digest_Hasher_Sum.p2 (N : Nat)  (i1 : Nat) (st : List (List L)) (x2 : List Int) (c2_ : ((List (List L)) × Int) → Option ((List Int) × (List (List L)))) : ((List (List L)) × Int) → Option ((List Int) × (List (List L))) := fun (v63, i_44) =>
  if (decide (i_44 ≥ 0)) = true then
    optE ((st ++ [[L.arr .u32 8 x2, L.own false 1 [], L.int .u64 0]])[i1]?) fun e => obj_digest_Hasher e fun x64 x65 x66 =>
    chk (0 ≤ (IntKind.wrap IntKind.i64 (8 * i_44))) <|
    chk (1 ≤ (List.length [[L.int .u8 (IntKind.wrap IntKind.u8 (shrOf .u64 (IntKind.wrap IntKind.u64 (x66 * 8)) (IntKind.wrap IntKind.i64 (8 * i_44))))]])) <|
    chk (List.length (v63 ++ (List.take 1 [[L.int .u8 (IntKind.wrap IntKind.u8 (shrOf .u64 (IntKind.wrap IntKind.u64 (x66 * 8)) (IntKind.wrap IntKind.i64 (8 * i_44))))]])) * 1 ≤ 140737488355328) <|
    c2_ (v63 ++ (List.take 1 [[L.int .u8 (IntKind.wrap IntKind.u8 (shrOf .u64 (IntKind.wrap IntKind.u64 (x66 * 8)) (IntKind.wrap IntKind.i64 (8 * i_44))))]]), IntKind.wrap IntKind.i64 (i_44 - 1))
  else
  loopN (digest_Hasher_Sum.p3 N  st v63) N (0, List.length v63, st ++ [[L.arr .u32 8 x2, L.own false 1 [], L.int .u64 0]])
noncomputable def digest_Hasher_Sum.p1 (N : Nat)  (i1 : Nat) (st : List (List L)) (x2 : List Int) (c1_ : (List (List L)) → Option ((List Int) × (List (List L)))) : (List (List L)) → Option ((List Int) × (List (List L))) := fun v43 =>
  if ((Int.tmod ((List.length v43 : Nat) : Int) 64) != 56) = true then
    chk (1 ≤ (List.length [[L.int .u8 0]])) <|
    chk (List.length (v43 ++ (List.take 1 [[L.int .u8 0]])) * 1 ≤ 140737488355328) <|
    c1_ (v43 ++ (List.take 1 [[L.int .u8 0]]))
  else
  loopN (digest_Hasher_Sum.p2 N  i1 st x2) N (v43, 7)
noncomputable def digest_Hasher_Sum (N : Nat) (h_0 : Option Nat) (st : List (List L)) : Option ((List Int) × (List (List L))) :=
  if (Option.isNone h_0) = true then
    some (List.replicate 32 0, st)
  else
  optE h_0 fun i1 =>
  optE (st[i1]?) fun e => obj_digest_Hasher e fun x2 x3 x4 =>
  chk (List.length ([] ++ x3) * 1 ≤ 140737488355328) <|
  chk (1 ≤ (List.length [[L.int .u8 128]])) <|
  chk (List.length (([] ++ x3) ++ (List.take 1 [[L.int .u8 128]])) * 1 ≤ 140737488355328) <|
  loopN (digest_Hasher_Sum.p1 N  i1 st x2) N (([] ++ x3) ++ (List.take 1 [[L.int .u8 128]]))
noncomputable def digest_Hasher_Sum.p4.S (x77 : List Int) (v80 : Int) (out_81 : List Int) (st75 : List (List L)) : S := mkS 94 [(2, .one (.adr (.site 2) 0)), (6, .one (.adr (.site 6) 0)), (61, .agg [.l (L.arr .u32 8 x77)]), (62, .one (.l (L.int .i64 v80)))] [(2, .cells [L.arr .u8 32 (List.replicate 32 0)]), (6, .cells [L.arr .u8 32 out_81])] st75
noncomputable def digest_Hasher_Sum.p3.S (st : List (List L)) (tail_73 : Nat) (tail_74 : Nat) (v63 : List (List L)) (st75 : List (List L)) : S := mkS 94 [(2, .one (.adr (.site 2) 0)), (3, .one (.l (L.ptr (some (List.length st))))), (4, .one (.h (.row 22 0) 1 tail_73 tail_74))] [(2, .cells [L.arr .u8 32 (List.replicate 32 0)]), (22, .row 0 false 1 v63)] st75
noncomputable def digest_Hasher_Sum.p2.S (i1 : Nat) (st : List (List L)) (v63 : List (List L)) (i_44 : Int) (x2 : List Int) : S := mkS 94 [(0, .one (.l (L.ptr (some i1)))), (2, .one (.adr (.site 2) 0)), (3, .one (.l (L.ptr (some (List.length st))))), (4, .one (.h (.row 22 0) 1 0 (List.length v63))), (5, .one (.l (L.int .i64 i_44)))] [(2, .cells [L.arr .u8 32 (List.replicate 32 0)]), (22, .row 0 false 1 v63)] (st ++ [[L.arr .u32 8 x2, L.own false 1 [], L.int .u64 0]])
noncomputable def digest_Hasher_Sum.p1.S (i1 : Nat) (st : List (List L)) (v43 : List (List L)) (x2 : List Int) : S := mkS 94 [(0, .one (.l (L.ptr (some i1)))), (2, .one (.adr (.site 2) 0)), (3, .one (.l (L.ptr (some (List.length st))))), (4, .one (.h (.row 22 0) 1 0 (List.length v43)))] [(2, .cells [L.arr .u8 32 (List.replicate 32 0)]), (22, .row 0 false 1 v43)] (st ++ [[L.arr .u32 8 x2, L.own false 1 [], L.int .u64 0]])
theorem digest_Hasher_Sum.p4_ok (x77 : List Int) (v80 : Int) (out_81 : List Int) (st75 : List (List L)) {N : Nat} {r : (List Int) × (List (List L))} {g0 : G} {w0 : World} {R : Exit → Act → World → Prop}  {c4_ : (Int × (List Int)) → Option ((List Int) × (List (List L)))}  {J4 : Act → World → Prop} (hE : Ends Tryd.prog Tryd.f85 g0 w0 (digest_Hasher_Sum.rs r) (r.2) R)  (hc4 : ∀ (v80 : Int) (out_81 : List Int), c4_ (v80, out_81) = some r → At g0 w0 (digest_Hasher_Sum.p4.S x77 v80 out_81 st75) J4) (h : digest_Hasher_Sum.p4 N  x77 st75 c4_ (v80, out_81) = some r) : At g0 w0 (digest_Hasher_Sum.p4.S x77 v80 out_81 st75) (exK Tryd.prog R (.c (csub digest_Hasher_Sum.B [1, 1, 1, 1, 1, 1, 1, 1, 1, 0, 1, 0, 0]) :: .h J4 :: [.b 6, .c (csub digest_Hasher_Sum.B [1, 1, 1, 1, 1, 1, 1, 1, 1, 1])]) .normal) := by
  unfold digest_Hasher_Sum.p4 at h
  refine iteB h (fun c219 h1 => ?_) (fun c219 h2 => ?_) <;> clear h
  · obtain ⟨c220, h3⟩ := chk_inv h1; clear h1
    obtain ⟨c221, h4⟩ := chk_inv h3; clear h3
    obtain ⟨c222, h5⟩ := chk_inv h4; clear h4
    obtain ⟨c223, h6⟩ := chk_inv h5; clear h5
    obtain ⟨c224, h7⟩ := chk_inv h6; clear h6
    obtain ⟨c225, h8⟩ := chk_inv h7; clear h7
    obtain ⟨c226, h9⟩ := chk_inv h8; clear h8
    obtain ⟨c227, h10⟩ := chk_inv h9; clear h9
    obtain ⟨c228, h11⟩ := chk_inv h10; clear h10
    exact At.n fol 400 [.r [], .c true, .r [], .r [], .r []] [2, 6, 61, 62] [2, 6] (And.intro c219 (And.intro c220 (And.intro (of_decide_eq_true c219) (And.intro (by decide : (0 : Int) ≤ 24) (And.intro (by decide : (0 : Int) ≤ 16) (And.intro (by decide : (0 : Int) ≤ 8) (And.intro c221 (And.intro c222 (And.intro c223 (And.intro c224 (And.intro c225 (And.intro c226 (And.intro c227 c228))))))))))))) (hc4 (IntKind.wrap IntKind.i64 (v80 + 1)) (List.set (List.set (List.set (List.set out_81 (Int.toNat (IntKind.wrap IntKind.i64 (4 * v80))) (IntKind.wrap IntKind.u8 (shrOf .u32 (List.getD x77 (Int.toNat v80) 0) 24))) (Int.toNat (IntKind.wrap IntKind.i64 ((IntKind.wrap IntKind.i64 (4 * v80)) + 1))) (IntKind.wrap IntKind.u8 (shrOf .u32 (List.getD x77 (Int.toNat v80) 0) 16))) (Int.toNat (IntKind.wrap IntKind.i64 ((IntKind.wrap IntKind.i64 (4 * v80)) + 2))) (IntKind.wrap IntKind.u8 (shrOf .u32 (List.getD x77 (Int.toNat v80) 0) 8))) (Int.toNat (IntKind.wrap IntKind.i64 ((IntKind.wrap IntKind.i64 (4 * v80)) + 3))) (IntKind.wrap IntKind.u8 (List.getD x77 (Int.toNat v80) 0))) h11) (by kernel_rfl)
  · obtain rfl := some_inv h2
    exact At.f fol hE 400 [.r [], .c false, .r []] [] 0 [] c219 (by kernel_rfl)
theorem digest_Hasher_Sum.p4_loop (x77 : List Int) (v80 : Int) (out_81 : List Int) (st75 : List (List L)) {N : Nat} {r : (List Int) × (List (List L))} {g0 : G} {w0 : World} {R : Exit → Act → World → Prop}   (hE : Ends Tryd.prog Tryd.f85 g0 w0 (digest_Hasher_Sum.rs r) (r.2) R)  (h : loopN (digest_Hasher_Sum.p4 N  x77 st75) N (v80, out_81) = some r) : At g0 w0 (digest_Hasher_Sum.p4.S x77 v80 out_81 st75) (exK Tryd.prog R (.c (.loop (csub digest_Hasher_Sum.B [1, 1, 1, 1, 1, 1, 1, 1, 1, 0, 1, 0, 0])) :: [.b 6, .c (csub digest_Hasher_Sum.B [1, 1, 1, 1, 1, 1, 1, 1, 1, 1])]) .normal) :=
  At.loop N (At.loopN (fun y : Int × (List Int) => digest_Hasher_Sum.p4.S x77 y.1 y.2 st75) (fun c J hc y h => digest_Hasher_Sum.p4_ok x77 y.1 y.2 st75 hE  (fun v80 out_81 hh => hc (v80, out_81) hh) h) N (v80, out_81) h)
theorem digest_Hasher_Sum.p3_ok (st : List (List L)) (tail_73 : Nat) (tail_74 : Nat) (v63 : List (List L)) (st75 : List (List L)) {N : Nat} {r : (List Int) × (List (List L))} {g0 : G} {w0 : World} {R : Exit → Act → World → Prop}  {c3_ : (Nat × Nat × (List (List L))) → Option ((List Int) × (List (List L)))}  {J3 : Act → World → Prop} (hE : Ends Tryd.prog Tryd.f85 g0 w0 (digest_Hasher_Sum.rs r) (r.2) R)  (hc3 : ∀ (tail_73 : Nat) (tail_74 : Nat) (st75 : List (List L)), c3_ (tail_73, tail_74, st75) = some r → At g0 w0 (digest_Hasher_Sum.p3.S st tail_73 tail_74 v63 st75) J3) (h : digest_Hasher_Sum.p3 N  st v63 c3_ (tail_73, tail_74, st75) = some r) : At g0 w0 (digest_Hasher_Sum.p3.S st tail_73 tail_74 v63 st75) (exK Tryd.prog R (.c (csub digest_Hasher_Sum.B [1, 1, 1, 1, 1, 1, 1, 0, 0, 0]) :: .h J3 :: [.b 4, .c (csub digest_Hasher_Sum.B [1, 1, 1, 1, 1, 1, 1, 1])]) .normal) := by
  unfold digest_Hasher_Sum.p3 at h
  refine iteB h (fun c204 h12 => ?_) (fun c204 h13 => ?_) <;> clear h
  · obtain ⟨c205, h14⟩ := chk_inv h12; clear h12
    obtain ⟨c206, h15⟩ := chk_inv h14; clear h14
    obtain ⟨st76, c207, h16⟩ := optE_inv h15; clear h15
    exact At.n fol 400 [.r [], .c true, .r [(3, {st := st76, wm := 3, fz := [22]})], .r []] [2, 3, 4] [2, 22] (And.intro c204 (And.intro (by decide : (0 : Int) ≤ 64) (And.intro (by decide : (0 : Nat) ≤ 64) (And.intro c205 (And.intro c206 (And.intro (digest_Hasher_take.snd c207) (And.intro (by decide : (0 : Int) ≤ 64) (And.intro c205 (Nat.le_refl (tail_74)))))))))) (hc3 (tail_73 + 64) (tail_74 - 64) st76 h16) (by kernel_rfl)
  · obtain ⟨h19, c208, h17⟩ := optE_inv h13; clear h13
    obtain ⟨x77, x78, x79, rfl, h18⟩ := obj_digest_Hasher_inv h17; clear h17
    exact At.q fol 400 [.r [], .c false, .r [], .r [(3, {oc := [L.arr .u32 8 x77, L.own false 1 x78, L.int .u64 x79]})]] [2, 6, 61, 62] [2, 6] (And.intro c204 c208) (digest_Hasher_Sum.p4_loop x77 0 (List.replicate 32 0) st75 hE  h18) (by kernel_rfl)
theorem digest_Hasher_Sum.p3_loop (st : List (List L)) (tail_73 : Nat) (tail_74 : Nat) (v63 : List (List L)) (st75 : List (List L)) {N : Nat} {r : (List Int) × (List (List L))} {g0 : G} {w0 : World} {R : Exit → Act → World → Prop}   (hE : Ends Tryd.prog Tryd.f85 g0 w0 (digest_Hasher_Sum.rs r) (r.2) R)  (h : loopN (digest_Hasher_Sum.p3 N  st v63) N (tail_73, tail_74, st75) = some r) : At g0 w0 (digest_Hasher_Sum.p3.S st tail_73 tail_74 v63 st75) (exK Tryd.prog R (.c (.loop (csub digest_Hasher_Sum.B [1, 1, 1, 1, 1, 1, 1, 0, 0, 0])) :: [.b 4, .c (csub digest_Hasher_Sum.B [1, 1, 1, 1, 1, 1, 1, 1])]) .normal) :=
  At.loop N (At.loopN (fun y : Nat × Nat × (List (List L)) => digest_Hasher_Sum.p3.S st y.1 y.2.1 v63 y.2.2) (fun c J hc y h => digest_Hasher_Sum.p3_ok st y.1 y.2.1 v63 y.2.2 hE  (fun tail_73 tail_74 st75 hh => hc (tail_73, tail_74, st75) hh) h) N (tail_73, tail_74, st75) h)
theorem digest_Hasher_Sum.p2_ok (i1 : Nat) (st : List (List L)) (v63 : List (List L)) (i_44 : Int) (x2 : List Int) {N : Nat} {r : (List Int) × (List (List L))} {g0 : G} {w0 : World} {R : Exit → Act → World → Prop}  {c2_ : ((List (List L)) × Int) → Option ((List Int) × (List (List L)))}  {J2 : Act → World → Prop} (hE : Ends Tryd.prog Tryd.f85 g0 w0 (digest_Hasher_Sum.rs r) (r.2) R)  (hc2 : ∀ (v63 : List (List L)) (i_44 : Int), c2_ (v63, i_44) = some r → At g0 w0 (digest_Hasher_Sum.p2.S i1 st v63 i_44 x2) J2) (h : digest_Hasher_Sum.p2 N  i1 st x2 c2_ (v63, i_44) = some r) : At g0 w0 (digest_Hasher_Sum.p2.S i1 st v63 i_44 x2) (exK Tryd.prog R (.c (csub digest_Hasher_Sum.B [1, 1, 1, 1, 1, 1, 0, 1, 0, 0]) :: .h J2 :: [.b 2, .c (csub digest_Hasher_Sum.B [1, 1, 1, 1, 1, 1, 1])]) .normal) := by
  unfold digest_Hasher_Sum.p2 at h
  refine iteB h (fun c175 h20 => ?_) (fun c175 h21 => ?_) <;> clear h
  · obtain ⟨h24, c176, h22⟩ := optE_inv h20; clear h20
    obtain ⟨x64, x65, x66, rfl, h23⟩ := obj_digest_Hasher_inv h22; clear h22
    obtain ⟨c177, h25⟩ := chk_inv h23; clear h23
    obtain ⟨c178, h26⟩ := chk_inv h25; clear h25
    obtain ⟨c179, h27⟩ := chk_inv h26; clear h26
    exact At.n fol 400 [.r [], .c true, .r [(4, {oc := [L.arr .u32 8 x64, L.own false 1 x65, L.int .u64 x66]}), (11, {wm := 2})], .r []] [0, 2, 3, 4, 5] [2, 22] (And.intro c175 (And.intro c176 (And.intro c177 (And.intro (rfl : (0 : Nat) = 0) (And.intro (@rfl Nat (List.length v63)) (And.intro (rfl : (0 : Nat) = 0) (And.intro c178 c179))))))) (hc2 (v63 ++ (List.take 1 [[L.int .u8 (IntKind.wrap IntKind.u8 (shrOf .u64 (IntKind.wrap IntKind.u64 (x66 * 8)) (IntKind.wrap IntKind.i64 (8 * i_44))))]])) (IntKind.wrap IntKind.i64 (i_44 - 1)) h27) (by kernel_rfl)
  · exact At.q fol 400 [.r [], .c false] [2, 3, 4] [2, 22] c175 (digest_Hasher_Sum.p3_loop st 0 (List.length v63) v63 (st ++ [[L.arr .u32 8 x2, L.own false 1 [], L.int .u64 0]]) hE  h21) (by kernel_rfl)
theorem digest_Hasher_Sum.p2_loop (i1 : Nat) (st : List (List L)) (v63 : List (List L)) (i_44 : Int) (x2 : List Int) {N : Nat} {r : (List Int) × (List (List L))} {g0 : G} {w0 : World} {R : Exit → Act → World → Prop}   (hE : Ends Tryd.prog Tryd.f85 g0 w0 (digest_Hasher_Sum.rs r) (r.2) R)  (h : loopN (digest_Hasher_Sum.p2 N  i1 st x2) N (v63, i_44) = some r) : At g0 w0 (digest_Hasher_Sum.p2.S i1 st v63 i_44 x2) (exK Tryd.prog R (.c (.loop (csub digest_Hasher_Sum.B [1, 1, 1, 1, 1, 1, 0, 1, 0, 0])) :: [.b 2, .c (csub digest_Hasher_Sum.B [1, 1, 1, 1, 1, 1, 1])]) .normal) :=
  At.loop N (At.loopN (fun y : (List (List L)) × Int => digest_Hasher_Sum.p2.S i1 st y.1 y.2 x2) (fun c J hc y h => digest_Hasher_Sum.p2_ok i1 st y.1 y.2 x2 hE  (fun v63 i_44 hh => hc (v63, i_44) hh) h) N (v63, i_44) h)
theorem digest_Hasher_Sum.p1_ok (i1 : Nat) (st : List (List L)) (v43 : List (List L)) (x2 : List Int) {N : Nat} {r : (List Int) × (List (List L))} {g0 : G} {w0 : World} {R : Exit → Act → World → Prop}  {c1_ : (List (List L)) → Option ((List Int) × (List (List L)))}  {J1 : Act → World → Prop} (hE : Ends Tryd.prog Tryd.f85 g0 w0 (digest_Hasher_Sum.rs r) (r.2) R)  (hc1 : ∀ (v43 : List (List L)), c1_ v43 = some r → At g0 w0 (digest_Hasher_Sum.p1.S i1 st v43 x2) J1) (h : digest_Hasher_Sum.p1 N  i1 st x2 c1_ v43 = some r) : At g0 w0 (digest_Hasher_Sum.p1.S i1 st v43 x2) (exK Tryd.prog R (.c (csub digest_Hasher_Sum.B [1, 1, 1, 1, 1, 0, 0, 0]) :: .h J1 :: [.b 0, .c (csub digest_Hasher_Sum.B [1, 1, 1, 1, 1, 1])]) .normal) := by
  unfold digest_Hasher_Sum.p1 at h
  refine iteB h (fun c118 h28 => ?_) (fun c118 h29 => ?_) <;> clear h
  · obtain ⟨c119, h30⟩ := chk_inv h28; clear h28
    obtain ⟨c120, h31⟩ := chk_inv h30; clear h30
    exact At.n fol 400 [.r [], .c true, .r [(2, {wm := 2})]] [0, 2, 3, 4] [2, 22] (And.intro (by decide : (64 : Int) ≠ 0) (And.intro c118 (And.intro (rfl : (0 : Nat) = 0) (And.intro (@rfl Nat (List.length v43)) (And.intro (rfl : (0 : Nat) = 0) (And.intro c119 c120)))))) (hc1 (v43 ++ (List.take 1 [[L.int .u8 0]])) h31) (by kernel_rfl)
  · exact At.q fol 400 [.r [], .c false, .r []] [0, 2, 3, 4, 5] [2, 22] (And.intro (by decide : (64 : Int) ≠ 0) c118) (digest_Hasher_Sum.p2_loop i1 st v43 7 x2 hE  h29) (by kernel_rfl)
theorem digest_Hasher_Sum.p1_loop (i1 : Nat) (st : List (List L)) (v43 : List (List L)) (x2 : List Int) {N : Nat} {r : (List Int) × (List (List L))} {g0 : G} {w0 : World} {R : Exit → Act → World → Prop}   (hE : Ends Tryd.prog Tryd.f85 g0 w0 (digest_Hasher_Sum.rs r) (r.2) R)  (h : loopN (digest_Hasher_Sum.p1 N  i1 st x2) N v43 = some r) : At g0 w0 (digest_Hasher_Sum.p1.S i1 st v43 x2) (exK Tryd.prog R (.c (.loop (csub digest_Hasher_Sum.B [1, 1, 1, 1, 1, 0, 0, 0])) :: [.b 0, .c (csub digest_Hasher_Sum.B [1, 1, 1, 1, 1, 1])]) .normal) :=
  At.loop N (At.loopN (fun y : (List (List L)) => digest_Hasher_Sum.p1.S i1 st y x2) (fun c J hc y h => digest_Hasher_Sum.p1_ok i1 st y x2 hE  (fun v43 hh => hc v43 hh) h) N v43 h)
theorem digest_Hasher_Sum.at0 (h_0 : Option Nat) (st : List (List L)) {N : Nat} {r : (List Int) × (List (List L))} {g0 : G} {w0 : World} {R : Exit → Act → World → Prop} (hE : Ends Tryd.prog Tryd.f85 g0 w0 (digest_Hasher_Sum.rs r) (r.2) R) (h : digest_Hasher_Sum N h_0 st = some r) : At g0 w0 (S.enter 94 [.one (L.ptr h_0)] st) (exK Tryd.prog R [.c digest_Hasher_Sum.B] .normal) := by
  unfold digest_Hasher_Sum at h
  refine iteB h (fun c1 h32 => ?_) (fun c1 h33 => ?_) <;> clear h
  · obtain rfl := some_inv h32
    exact At.f fol hE 400 [.r [], .r [], .c true, .r []] [] 0 [] c1 (by kernel_rfl)
  · obtain ⟨i1, rfl, h34⟩ := optE_inv h33; clear h33
    obtain ⟨h37, c3, h35⟩ := optE_inv h34; clear h34
    obtain ⟨x2, x3, x4, rfl, h36⟩ := obj_digest_Hasher_inv h35; clear h35
    obtain ⟨c4, h38⟩ := chk_inv h36; clear h36
    obtain ⟨c5, h39⟩ := chk_inv h38; clear h38
    obtain ⟨c6, h40⟩ := chk_inv h39; clear h39
    exact At.q fol 400 [.r [], .r [], .c false, .r [(3, {oc := [L.arr .u32 8 x2, L.own false 1 x3, L.int .u64 x4]}), (4, {mv := [1]}), (5, {m := 1})], .r [(3, {oc := [L.arr .u32 8 x2, L.own false 1 x3, L.int .u64 x4]}), (4, {oc := [L.arr .u32 8 x2, L.own false 1 x3, L.int .u64 x4]}), (5, {fz := [22]})], .r [(2, {wm := 2})]] [0, 2, 3, 4] [2, 22] (And.intro c1 (And.intro c3 (And.intro (st_old c3 [L.arr .u32 8 x2, L.own false 1 [], L.int .u64 0]) (And.intro (rfl : (0 : Nat) = 0) (And.intro (@rfl Nat (List.length x3)) (And.intro (st_old c3 [L.arr .u32 8 x2, L.own false 1 [], L.int .u64 0]) (And.intro c4 (And.intro (rfl : (0 : Nat) = 0) (And.intro (@rfl Nat (List.length ([] ++ x3))) (And.intro (rfl : (0 : Nat) = 0) (And.intro c5 c6))))))))))) (digest_Hasher_Sum.p1_loop i1 st (([] ++ x3) ++ (List.take 1 [[L.int .u8 128]])) x2 hE  h40) (by kernel_rfl)
theorem digest_Hasher_Sum.snd {N : Nat} {h_0 : Option Nat} {st : List (List L)} {r : (List Int) × (List (List L))} (h : digest_Hasher_Sum N h_0 st = some r) : Snd Tryd.prog 85 [.one (L.ptr h_0)] st (digest_Hasher_Sum.rs r) (r.2) :=
  Snd.of (fn := Tryd.f85) (c := digest_Hasher_Sum.B) Tryd.func85 (by kernel_rfl) (by kernel_rfl) (of_decide_eq_true (by kernel_rfl)) fun g w R hE => digest_Hasher_Sum.at0 h_0 st hE h
/-! trailhead/digest.Of -/
noncomputable def digest_Of.B : Code := Tryd.f78.body.getD .skip
noncomputable def digest_Of.rs (r : (List Int) × (List (List L))) : List CV := [.agg [L.arr .u8 32 r.1]]
noncomputable def digest_Of (N : Nat) (parts_0 : List (List L)) (st : List (List L)) : Option ((List Int) × (List (List L))) :=
  optE (digest_New N st) fun (x1, st2) =>
  optE (digest_Hasher_Write N x1 parts_0 st2) fun st3 =>
  optE (digest_Hasher_Sum N x1 st3) fun (x4, st5) =>
  some (x4, st5)
theorem digest_Of.at0 (parts_0 : List (List L)) (st : List (List L)) {N : Nat} {r : (List Int) × (List (List L))} {g0 : G} {w0 : World} {R : Exit → Act → World → Prop} (hE : Ends Tryd.prog Tryd.f78 g0 w0 (digest_Of.rs r) (r.2) R) (h : digest_Of N parts_0 st = some r) : At g0 w0 (S.enter 10 [.one (L.sl 1 parts_0)] st) (exK Tryd.prog R [.c digest_Of.B] .normal) := by
  unfold digest_Of at h
  obtain ⟨⟨x1, st2⟩, c1, h1⟩ := optE_inv h; clear h
  obtain ⟨st3, c2, h2⟩ := optE_inv h1; clear h1
  obtain ⟨⟨x4, st5⟩, c3, h3⟩ := optE_inv h2; clear h2
  obtain rfl := some_inv h3
  exact At.f fol hE 400 [.r [], .r [(0, {rs := [.one (L.ptr x1)], st := st2})], .r [(2, {st := st3})], .r [(1, {rs := [.agg [L.arr .u8 32 x4]], st := st5})]] [] 0 [] (And.intro (digest_New.snd c1) (And.intro (digest_Hasher_Write.snd c2) (digest_Hasher_Sum.snd c3))) (by kernel_rfl)
theorem digest_Of.snd {N : Nat} {parts_0 : List (List L)} {st : List (List L)} {r : (List Int) × (List (List L))} (h : digest_Of N parts_0 st = some r) : Snd Tryd.prog 78 [.one (L.sl 1 parts_0)] st (digest_Of.rs r) (r.2) :=
  Snd.of (fn := Tryd.f78) (c := digest_Of.B) Tryd.func78 (by kernel_rfl) (by kernel_rfl) (of_decide_eq_true (by kernel_rfl)) fun g w R hE => digest_Of.at0 parts_0 st hE h
/-! trailhead/digest.Double -/
noncomputable def digest_Double.B : Code := Tryd.f71.body.getD .skip
noncomputable def digest_Double.rs (r : (List Int) × (List (List L))) : List CV := [.agg [L.arr .u8 32 r.1]]
noncomputable def digest_Double (N : Nat) (parts_0 : List (List L)) (st : List (List L)) : Option ((List Int) × (List (List L))) :=
  optE (digest_Of N parts_0 st) fun (x1, st2) =>
  chk (1 ≤ (List.length [[L.str (istr x1)]])) <|
  optE (digest_Of N (List.take 1 [[L.str (istr x1)]]) st2) fun (x3, st4) =>
  some (x3, st4)
theorem digest_Double.at0 (parts_0 : List (List L)) (st : List (List L)) {N : Nat} {r : (List Int) × (List (List L))} {g0 : G} {w0 : World} {R : Exit → Act → World → Prop} (hE : Ends Tryd.prog Tryd.f71 g0 w0 (digest_Double.rs r) (r.2) R) (h : digest_Double N parts_0 st = some r) : At g0 w0 (S.enter 10 [.one (L.sl 1 parts_0)] st) (exK Tryd.prog R [.c digest_Double.B] .normal) := by
  unfold digest_Double at h
  obtain ⟨⟨x1, st2⟩, c1, h1⟩ := optE_inv h; clear h
  obtain ⟨c2, h2⟩ := chk_inv h1; clear h1
  obtain ⟨⟨x3, st4⟩, c3, h3⟩ := optE_inv h2; clear h2
  obtain rfl := some_inv h3
  exact At.f fol hE 400 [.r [], .r [(1, {rs := [.agg [L.arr .u8 32 x1]], st := st2})], .r [(3, {rs := [.agg [L.arr .u8 32 x3]], st := st4, wm := 2, fz := [8]})]] [] 0 [] (And.intro (digest_Of.snd c1) (And.intro (by decide : (0 : Nat) ≤ 32) (And.intro (by decide : (32 : Nat) ≤ 32) (And.intro (rfl : (0 : Nat) = 0) (And.intro c2 (digest_Of.snd c3)))))) (by kernel_rfl)
theorem digest_Double.snd {N : Nat} {parts_0 : List (List L)} {st : List (List L)} {r : (List Int) × (List (List L))} (h : digest_Double N parts_0 st = some r) : Snd Tryd.prog 71 [.one (L.sl 1 parts_0)] st (digest_Double.rs r) (r.2) :=
  Snd.of (fn := Tryd.f71) (c := digest_Double.B) Tryd.func71 (by kernel_rfl) (by kernel_rfl) (of_decide_eq_true (by kernel_rfl)) fun g w R hE => digest_Double.at0 parts_0 st hE h
/-! trailhead/header.Id -/
noncomputable def header_Id.B : Code := Tryd.f59.body.getD .skip
noncomputable def header_Id.rs (r : (List Int) × (List (List L))) : List CV := [.agg [L.arr .u8 32 r.1]]
noncomputable def header_Id (N : Nat) (h_0_0 : Int) (h_0_1 : List Int) (h_0_2 : List Int) (h_0_3 : Int) (h_0_4 : Int) (h_0_5 : Int) (st : List (List L)) : Option ((List Int) × (List (List L))) :=
  optE (header_Bytes N h_0_0 h_0_1 h_0_2 h_0_3 h_0_4 h_0_5 st) fun (x1, x2, st3) =>
  if (x2 != 0) = true then
    some (List.replicate 32 0, st3)
  else
  chk (1 ≤ (List.length [[L.str x1]])) <|
  optE (digest_Double N (List.take 1 [[L.str x1]]) st3) fun (x4, st5) =>
  some (x4, st5)
theorem header_Id.at0 (h_0_0 : Int) (h_0_1 : List Int) (h_0_2 : List Int) (h_0_3 : Int) (h_0_4 : Int) (h_0_5 : Int) (st : List (List L)) {N : Nat} {r : (List Int) × (List (List L))} {g0 : G} {w0 : World} {R : Exit → Act → World → Prop} (hE : Ends Tryd.prog Tryd.f59 g0 w0 (header_Id.rs r) (r.2) R) (h : header_Id N h_0_0 h_0_1 h_0_2 h_0_3 h_0_4 h_0_5 st = some r) : At g0 w0 (S.enter 16 [.agg [L.int .i64 h_0_0, L.arr .u8 32 h_0_1, L.arr .u8 32 h_0_2, L.int .i64 h_0_3, L.int .i64 h_0_4, L.int .i64 h_0_5]] st) (exK Tryd.prog R [.c header_Id.B] .normal) := by
  unfold header_Id at h
  obtain ⟨⟨x1, x2, st3⟩, c1, h1⟩ := optE_inv h; clear h
  refine iteB h1 (fun c2 h2 => ?_) (fun c2 h3 => ?_) <;> clear h1
  · obtain rfl := some_inv h2
    exact At.f fol hE 400 [.r [], .r [(1, {rs := [.one (L.str x1), .one (L.int .i64 x2)], st := st3})], .r [], .c true, .r []] [] 0 [] (And.intro (header_Bytes.snd c1) c2) (by kernel_rfl)
  · obtain ⟨c3, h4⟩ := chk_inv h3; clear h3
    obtain ⟨⟨x4, st5⟩, c4, h5⟩ := optE_inv h4; clear h4
    obtain rfl := some_inv h5
    exact At.f fol hE 400 [.r [], .r [(1, {rs := [.one (L.str x1), .one (L.int .i64 x2)], st := st3})], .r [], .c false, .r [(2, {rs := [.agg [L.arr .u8 32 x4]], st := st5, wm := 2, fz := [14]})]] [] 0 [] (And.intro (header_Bytes.snd c1) (And.intro c2 (And.intro (rfl : (0 : Nat) = 0) (And.intro c3 (digest_Double.snd c4))))) (by kernel_rfl)
theorem header_Id.snd {N : Nat} {h_0_0 : Int} {h_0_1 : List Int} {h_0_2 : List Int} {h_0_3 : Int} {h_0_4 : Int} {h_0_5 : Int} {st : List (List L)} {r : (List Int) × (List (List L))} (h : header_Id N h_0_0 h_0_1 h_0_2 h_0_3 h_0_4 h_0_5 st = some r) : Snd Tryd.prog 59 [.agg [L.int .i64 h_0_0, L.arr .u8 32 h_0_1, L.arr .u8 32 h_0_2, L.int .i64 h_0_3, L.int .i64 h_0_4, L.int .i64 h_0_5]] st (header_Id.rs r) (r.2) :=
  Snd.of (fn := Tryd.f59) (c := header_Id.B) Tryd.func59 (by kernel_rfl) (by kernel_rfl) (of_decide_eq_true (by kernel_rfl)) fun g w R hE => header_Id.at0 h_0_0 h_0_1 h_0_2 h_0_3 h_0_4 h_0_5 st hE h
/-! trailhead/pace.Starts -/
noncomputable def pace_Starts.B : Code := Tryd.f60.body.getD .skip
noncomputable def pace_Starts.rs (r : Bool) : List CV := [.one (L.bool r)]
noncomputable def pace_Starts (N : Nat) (p_0_0 : Int) (p_0_1 : Int) (p_0_2 : Int) (p_0_3 : Int) (p_0_4 : Bool) (p_0_5 : List (List L)) (p_0_6 : List (List L)) (p_0_7 : List Int) (p_0_8 : List Int) (p_0_9 : Int) (p_0_10 : List Int) (p_0_11 : List Int) (p_0_12 : Int) (p_0_13 : Int) (p_0_14 : Int) (height_1 : Int) : Option Bool :=
  if (decide (p_0_1 > 0)) = true then
    chk (p_0_1 ≠ 0) <|
    some ((Int.tmod height_1 p_0_1) == 0)
  else
  some false
theorem pace_Starts.at0 (p_0_0 : Int) (p_0_1 : Int) (p_0_2 : Int) (p_0_3 : Int) (p_0_4 : Bool) (p_0_5 : List (List L)) (p_0_6 : List (List L)) (p_0_7 : List Int) (p_0_8 : List Int) (p_0_9 : Int) (p_0_10 : List Int) (p_0_11 : List Int) (p_0_12 : Int) (p_0_13 : Int) (p_0_14 : Int) (height_1 : Int) (st : List (List L)) {N : Nat} {r : Bool} {g0 : G} {w0 : World} {R : Exit → Act → World → Prop} (hE : Ends Tryd.prog Tryd.f60 g0 w0 (pace_Starts.rs r) st R) (h : pace_Starts N p_0_0 p_0_1 p_0_2 p_0_3 p_0_4 p_0_5 p_0_6 p_0_7 p_0_8 p_0_9 p_0_10 p_0_11 p_0_12 p_0_13 p_0_14 height_1 = some r) : At g0 w0 (S.enter 15 [.agg [L.int .i64 p_0_0, L.int .i64 p_0_1, L.int .i64 p_0_2, L.int .i64 p_0_3, L.bool p_0_4, L.sl 2 p_0_5, L.sl 33 p_0_6, L.arr .u64 4 p_0_7, L.arr .u64 4 p_0_8, L.int .i64 p_0_9, L.arr .u8 32 p_0_10, L.arr .u8 32 p_0_11, L.int .i64 p_0_12, L.int .i64 p_0_13, L.int .i64 p_0_14], .one (L.int .i64 height_1)] st) (exK Tryd.prog R [.c pace_Starts.B] .normal) := by
  unfold pace_Starts at h
  refine iteB h (fun c1 h1 => ?_) (fun c1 h2 => ?_) <;> clear h
  · obtain ⟨c2, h3⟩ := chk_inv h1; clear h1
    obtain rfl := some_inv h3
    exact At.f fol hE 400 [.r [], .r []] [] 0 [] (And.intro c1 (And.intro c1 (And.intro c1 (And.intro c1 (And.intro c2 (And.intro c1 c1)))))) (by kernel_rfl)
  · obtain rfl := some_inv h2
    exact At.f fol hE 400 [.r [], .r [(4, {want := false}), (5, {want := false}), (6, {want := false}), (7, {want := false}), (8, {want := false}), (9, {yes := false})]] [] 0 [] (And.intro c1 (And.intro c1 (And.intro c1 (And.intro c1 (And.intro c1 c1))))) (by kernel_rfl)
theorem pace_Starts.snd {N : Nat} {p_0_0 : Int} {p_0_1 : Int} {p_0_2 : Int} {p_0_3 : Int} {p_0_4 : Bool} {p_0_5 : List (List L)} {p_0_6 : List (List L)} {p_0_7 : List Int} {p_0_8 : List Int} {p_0_9 : Int} {p_0_10 : List Int} {p_0_11 : List Int} {p_0_12 : Int} {p_0_13 : Int} {p_0_14 : Int} {height_1 : Int} {r : Bool} (h : pace_Starts N p_0_0 p_0_1 p_0_2 p_0_3 p_0_4 p_0_5 p_0_6 p_0_7 p_0_8 p_0_9 p_0_10 p_0_11 p_0_12 p_0_13 p_0_14 height_1 = some r) : SndQ Tryd.prog 60 [.agg [L.int .i64 p_0_0, L.int .i64 p_0_1, L.int .i64 p_0_2, L.int .i64 p_0_3, L.bool p_0_4, L.sl 2 p_0_5, L.sl 33 p_0_6, L.arr .u64 4 p_0_7, L.arr .u64 4 p_0_8, L.int .i64 p_0_9, L.arr .u8 32 p_0_10, L.arr .u8 32 p_0_11, L.int .i64 p_0_12, L.int .i64 p_0_13, L.int .i64 p_0_14], .one (L.int .i64 height_1)] (pace_Starts.rs r) := fun st =>
  Snd.of (fn := Tryd.f60) (c := pace_Starts.B) Tryd.func60 (by kernel_rfl) (by kernel_rfl) (of_decide_eq_true (by kernel_rfl)) fun g w R hE => pace_Starts.at0 p_0_0 p_0_1 p_0_2 p_0_3 p_0_4 p_0_5 p_0_6 p_0_7 p_0_8 p_0_9 p_0_10 p_0_11 p_0_12 p_0_13 p_0_14 height_1 st hE h
/-! (*trailhead/median.Window).Push -/
noncomputable def median_Window_Push.B : Code := Tryd.f61.body.getD .skip
noncomputable def median_Window_Push.rs (r : (List (List L))) : List CV := []
noncomputable def median_Window_Push.p1 (N : Nat)  (times_1 : List (List L)) (c1_ : ((Option Nat) × Int × (List (List L))) → Option (List (List L))) : ((Option Nat) × Int × (List (List L))) → Option (List (List L)) := fun (w_5, v1, st6) =>
  if (decide (v1 < ((List.length times_1 : Nat) : Int))) = true then
    chk (0 ≤ v1) <|
    optE (times_1[Int.toNat v1]?) fun e => dec_i64 e fun x7 =>
    optE w_5 fun i8 =>
    optE (st6[i8]?) fun e => dec_o1 e fun x9 =>
    chk (0 ≤ (if (10 : Int) < ((List.length x9 : Nat) : Int) then 10 else ((List.length x9 : Nat) : Int))) <|
    chk ((Int.toNat (if (10 : Int) < ((List.length x9 : Nat) : Int) then 10 else ((List.length x9 : Nat) : Int))) ≤ (List.length x9)) <|
    chk (1 ≤ (List.length [[L.int .i64 x7]])) <|
    chk (List.length ((List.take 1 [[L.int .i64 x7]]) ++ (List.take (Int.toNat (if (10 : Int) < ((List.length x9 : Nat) : Int) then 10 else ((List.length x9 : Nat) : Int))) x9)) * 8 ≤ 140737488355328) <|
    c1_ ((some i8), IntKind.wrap IntKind.i64 (v1 + 1), List.set st6 i8 [L.own true 1 ((List.take 1 [[L.int .i64 x7]]) ++ (List.take (Int.toNat (if (10 : Int) < ((List.length x9 : Nat) : Int) then 10 else ((List.length x9 : Nat) : Int))) x9))])
  else
  some st6
noncomputable def median_Window_Push (N : Nat) (w_0 : Option Nat) (times_1 : List (List L)) (st : List (List L)) : Option (List (List L)) :=
  if (Option.isNone w_0) = true then
    some st
  else
  loopN (median_Window_Push.p1 N  times_1) N (w_0, 0, st)
noncomputable def median_Window_Push.p1.S (w_5 : Option Nat) (times_1 : List (List L)) (v1 : Int) (st6 : List (List L)) : S := mkS 32 [(0, .one (.l (L.ptr w_5))), (8, .one (.l (L.sl 1 times_1))), (9, .one (.l (L.int .i64 ((List.length times_1 : Nat) : Int)))), (10, .one (.l (L.int .i64 v1)))] [] st6
theorem median_Window_Push.p1_ok (w_5 : Option Nat) (times_1 : List (List L)) (v1 : Int) (st6 : List (List L)) {N : Nat} {r : (List (List L))} {g0 : G} {w0 : World} {R : Exit → Act → World → Prop}  {c1_ : ((Option Nat) × Int × (List (List L))) → Option (List (List L))}  {J1 : Act → World → Prop} (hE : Ends Tryd.prog Tryd.f61 g0 w0 (median_Window_Push.rs r) (r) R)  (hc1 : ∀ (w_5 : Option Nat) (v1 : Int) (st6 : List (List L)), c1_ (w_5, v1, st6) = some r → At g0 w0 (median_Window_Push.p1.S w_5 times_1 v1 st6) J1) (h : median_Window_Push.p1 N  times_1 c1_ (w_5, v1, st6) = some r) : At g0 w0 (median_Window_Push.p1.S w_5 times_1 v1 st6) (exK Tryd.prog R (.c (csub median_Window_Push.B [1, 1, 0, 0]) :: .h J1 :: [.b 0]) .normal) := by
  unfold median_Window_Push.p1 at h
  refine iteB h (fun c11 h1 => ?_) (fun c11 h2 => ?_) <;> clear h
  · obtain ⟨c12, h3⟩ := chk_inv h1; clear h1
    obtain ⟨h6, c13, h4⟩ := optE_inv h3; clear h3
    obtain ⟨x7, rfl, h5⟩ := dec_i64_inv h4; clear h4
    obtain ⟨i8, rfl, h7⟩ := optE_inv h5; clear h5
    obtain ⟨h10, c15, h8⟩ := optE_inv h7; clear h7
    obtain ⟨x9, rfl, h9⟩ := dec_o1_inv h8; clear h8
    obtain ⟨c16, h11⟩ := chk_inv h9; clear h9
    obtain ⟨c17, h12⟩ := chk_inv h11; clear h11
    obtain ⟨c18, h13⟩ := chk_inv h12; clear h12
    obtain ⟨c19, h14⟩ := chk_inv h13; clear h13
    exact At.nd fol 400 [.r [], .c true, .r [(1, {oe := [L.int .i64 x7]})], .d {ds := [(6, {oc := [L.own true 1 x9]}), (10, {oc := [L.own true 1 x9]}), (13, {oc := [L.own true 1 x9]}), (14, {oc := [L.own true 1 x9], m := 2, wm := 2}), (17, {oc := [L.own true 1 x9], mv := [16]})], hv := 147460, Hs := [4, 16388, 147460]}, .r []] [0, 8, 9, 10] [] (And.intro c11 (And.intro c12 (And.intro (of_decide_eq_true c11) (And.intro c13 (And.intro c15 (And.intro c15 (And.intro c15 (And.intro c15 (And.intro c16 (And.intro (Nat.zero_le (Int.toNat (if (10 : Int) < ((List.length x9 : Nat) : Int) then 10 else ((List.length x9 : Nat) : Int)))) (And.intro c17 (And.intro c15 (And.intro c16 (And.intro (Nat.zero_le (Int.toNat (if (10 : Int) < ((List.length x9 : Nat) : Int) then 10 else ((List.length x9 : Nat) : Int)))) (And.intro c17 (And.intro c15 (And.intro (rfl : (0 : Nat) = 0) (And.intro c18 (And.intro (rfl : (0 : Nat) = 0) (And.intro c17 (And.intro c15 (And.intro c19 (And.intro c15 (And.intro (rfl : (0 : Nat) = 0) (@rfl Nat (List.length ((List.take 1 [[L.int .i64 x7]]) ++ (List.take (Int.toNat (if (10 : Int) < ((List.length x9 : Nat) : Int) then 10 else ((List.length x9 : Nat) : Int))) x9)))))))))))))))))))))))))))) (hc1 (some i8) (IntKind.wrap IntKind.i64 (v1 + 1)) (List.set st6 i8 [L.own true 1 ((List.take 1 [[L.int .i64 x7]]) ++ (List.take (Int.toNat (if (10 : Int) < ((List.length x9 : Nat) : Int) then 10 else ((List.length x9 : Nat) : Int))) x9))]) h14) (by kernel_rfl) (by kernel_rfl)
  · obtain rfl := some_inv h2
    exact At.f fol hE 400 [.r [], .c false] [] 0 [] c11 (by kernel_rfl)
theorem median_Window_Push.p1_loop (w_5 : Option Nat) (times_1 : List (List L)) (v1 : Int) (st6 : List (List L)) {N : Nat} {r : (List (List L))} {g0 : G} {w0 : World} {R : Exit → Act → World → Prop}   (hE : Ends Tryd.prog Tryd.f61 g0 w0 (median_Window_Push.rs r) (r) R)  (h : loopN (median_Window_Push.p1 N  times_1) N (w_5, v1, st6) = some r) : At g0 w0 (median_Window_Push.p1.S w_5 times_1 v1 st6) (exK Tryd.prog R (.c (.loop (csub median_Window_Push.B [1, 1, 0, 0])) :: [.b 0]) .normal) :=
  At.loop N (At.loopN (fun y : (Option Nat) × Int × (List (List L)) => median_Window_Push.p1.S y.1 times_1 y.2.1 y.2.2) (fun c J hc y h => median_Window_Push.p1_ok y.1 times_1 y.2.1 y.2.2 hE  (fun w_5 v1 st6 hh => hc (w_5, v1, st6) hh) h) N (w_5, v1, st6) h)
theorem median_Window_Push.at0 (w_0 : Option Nat) (times_1 : List (List L)) (st : List (List L)) {N : Nat} {r : (List (List L))} {g0 : G} {w0 : World} {R : Exit → Act → World → Prop} (hE : Ends Tryd.prog Tryd.f61 g0 w0 (median_Window_Push.rs r) (r) R) (h : median_Window_Push N w_0 times_1 st = some r) : At g0 w0 (S.enter 32 [.one (L.ptr w_0), .one (L.sl 1 times_1)] st) (exK Tryd.prog R [.c median_Window_Push.B] .normal) := by
  unfold median_Window_Push at h
  refine iteB h (fun c1 h15 => ?_) (fun c1 h16 => ?_) <;> clear h
  · obtain rfl := some_inv h15
    exact At.f fol hE 400 [.r [], .c true] [] 0 [] c1 (by kernel_rfl)
  · exact At.q fol 400 [.r [], .c false, .r []] [0, 8, 9, 10] [] c1 (median_Window_Push.p1_loop w_0 times_1 0 st hE  h16) (by kernel_rfl)
theorem median_Window_Push.snd {N : Nat} {w_0 : Option Nat} {times_1 : List (List L)} {st : List (List L)} {r : (List (List L))} (h : median_Window_Push N w_0 times_1 st = some r) : Snd Tryd.prog 61 [.one (L.ptr w_0), .one (L.sl 1 times_1)] st (median_Window_Push.rs r) (r) :=
  Snd.of (fn := Tryd.f61) (c := median_Window_Push.B) Tryd.func61 (by kernel_rfl) (by kernel_rfl) (of_decide_eq_true (by kernel_rfl)) fun g w R hE => median_Window_Push.at0 w_0 times_1 st hE h
/-! (*trailhead/median.Window).Times -/
noncomputable def median_Window_Times.B : Code := Tryd.f62.body.getD .skip
noncomputable def median_Window_Times.rs (r : (List (List L)) × (List (List L))) : List CV := [.row true 1 r.1]
noncomputable def median_Window_Times (N : Nat) (w_0 : Option Nat) (st : List (List L)) : Option ((List (List L)) × (List (List L))) :=
  if (Option.isNone w_0) = true then
    some ([], st)
  else
  optE w_0 fun i1 =>
  optE (st[i1]?) fun e => dec_o1 e fun x2 =>
  optE (slices_Clone_int N x2) fun x3 =>
  chk (plainRow x3 = true) <|
  some (x3, st)
theorem median_Window_Times.at0 (w_0 : Option Nat) (st : List (List L)) {N : Nat} {r : (List (List L)) × (List (List L))} {g0 : G} {w0 : World} {R : Exit → Act → World → Prop} (hE : Ends Tryd.prog Tryd.f62 g0 w0 (median_Window_Times.rs r) (r.2) R) (h : median_Window_Times N w_0 st = some r) : At g0 w0 (S.enter 10 [.one (L.ptr w_0)] st) (exK Tryd.prog R [.c median_Window_Times.B] .normal) := by
  unfold median_Window_Times at h
  refine iteB h (fun c1 h1 => ?_) (fun c1 h2 => ?_) <;> clear h
  · obtain rfl := some_inv h1
    exact At.f fol hE 400 [.r [(0, {m := 2})], .r [], .c true, .r [(0, {m := 2})]] [] 0 [0] c1 (by kernel_rfl)
  · obtain ⟨i1, rfl, h3⟩ := optE_inv h2; clear h2
    obtain ⟨h6, c3, h4⟩ := optE_inv h3; clear h3
    obtain ⟨x2, rfl, h5⟩ := dec_o1_inv h4; clear h4
    obtain ⟨x3, c4, h7⟩ := optE_inv h5; clear h5
    obtain ⟨c5, h8⟩ := chk_inv h7; clear h7
    obtain rfl := some_inv h8
    exact At.f fol hE 400 [.r [(0, {m := 2})], .r [], .c false, .r [(3, {oc := [L.own true 1 x2]}), (4, {oc := [L.own true 1 x2], rs := [.row true 1 x3], ns := [9], m := 2})]] [] 0 [0] (And.intro c1 (And.intro c3 (And.intro (rfl : (0 : Nat) = 0) (And.intro (@rfl Nat (List.length x2)) (And.intro c3 (And.intro c5 (And.intro (slices_Clone_int.snd c4) (And.intro (rfl : (0 : Nat) = 0) (@rfl Nat (List.length x3)))))))))) (by kernel_rfl)
theorem median_Window_Times.snd {N : Nat} {w_0 : Option Nat} {st : List (List L)} {r : (List (List L)) × (List (List L))} (h : median_Window_Times N w_0 st = some r) : Snd Tryd.prog 62 [.one (L.ptr w_0)] st (median_Window_Times.rs r) (r.2) :=
  Snd.of (fn := Tryd.f62) (c := median_Window_Times.B) Tryd.func62 (by kernel_rfl) (by kernel_rfl) (of_decide_eq_true (by kernel_rfl)) fun g w R hE => median_Window_Times.at0 w_0 st hE h
/-! trailhead/rule.Behind -/
noncomputable def rule_Behind.B : Code := Tryd.f50.body.getD .skip
noncomputable def rule_Behind.rs (r : Int × Int × Int × Int × Int × (List Int) × (List (List L)) × (List (List L))) : List CV := [.agg [L.int .i64 r.1, L.int .i64 r.2.1, L.int .i64 r.2.2.1, L.int .i64 r.2.2.2.1, L.int .i64 r.2.2.2.2.1, L.arr .u8 32 r.2.2.2.2.2.1, L.sl 1 r.2.2.2.2.2.2.1]]
noncomputable def rule_Behind.p3 (N : Nat)  (st2 : List (List L)) (at_1_0 : Int) (at_1_1 : Int) (at_1_2 : Int) (at_1_3 : Int) (at_1_4 : Int) (at_1_5 : List Int) (at_1_6 : List (List L)) (h_2_0 : Int) (h_2_1 : List Int) (h_2_2 : List Int) (h_2_3 : Int) (h_2_4 : Int) (h_2_5 : Int) (out_4 : Int) (out_6 : Int) (x1 : List Int) (c3_ : (Int × (List (List L))) → Option (Int × Int × Int × Int × Int × (List Int) × (List (List L)) × (List (List L)))) : (Int × (List (List L))) → Option (Int × Int × Int × Int × Int × (List Int) × (List (List L)) × (List (List L))) := fun (i_7, st13) =>
  if (decide (i_7 ≥ 0)) = true then
    chk (0 ≤ i_7) <|
    chk (i_7 < ((List.length at_1_6 : Nat) : Int)) <|
    optE (at_1_6[Int.toNat i_7]?) fun e => dec_i64 e fun x14 =>
    chk (1 ≤ (List.length [[L.int .i64 x14]])) <|
    optE (median_Window_Push N (some (List.length st2)) (List.take 1 [[L.int .i64 x14]]) st13) fun st15 =>
    c3_ (IntKind.wrap IntKind.i64 (i_7 - 1), st15)
  else
  chk (1 ≤ (List.length [[L.int .i64 h_2_3]])) <|
  optE (median_Window_Push N (some (List.length st2)) (List.take 1 [[L.int .i64 h_2_3]]) st13) fun st16 =>
  optE (median_Window_Times N (some (List.length st2)) st16) fun (x17, st18) =>
  some (IntKind.wrap IntKind.i64 (at_1_0 + 1), h_2_4, h_2_3, out_4, out_6, x1, x17, st18)
noncomputable def rule_Behind.p2 (N : Nat)  (at_1_0 : Int) (at_1_1 : Int) (at_1_2 : Int) (at_1_3 : Int) (at_1_4 : Int) (at_1_5 : List Int) (at_1_6 : List (List L)) (h_2_0 : Int) (h_2_1 : List Int) (h_2_2 : List Int) (h_2_3 : Int) (h_2_4 : Int) (h_2_5 : Int) (out_4 : Int) (out_6 : Int) (x1 : List Int) (st2 : List (List L)) : Option (Int × Int × Int × Int × Int × (List Int) × (List (List L)) × (List (List L))) :=
  loopN (rule_Behind.p3 N  st2 at_1_0 at_1_1 at_1_2 at_1_3 at_1_4 at_1_5 at_1_6 h_2_0 h_2_1 h_2_2 h_2_3 h_2_4 h_2_5 out_4 out_6 x1) N (IntKind.wrap IntKind.i64 ((if (11 : Int) < ((List.length at_1_6 : Nat) : Int) then 11 else ((List.length at_1_6 : Nat) : Int)) - 1), st2 ++ [[L.own true 1 []]])
noncomputable def rule_Behind.p4 (N : Nat)  (st2 : List (List L)) (at_1_0 : Int) (at_1_1 : Int) (at_1_2 : Int) (at_1_3 : Int) (at_1_4 : Int) (at_1_5 : List Int) (at_1_6 : List (List L)) (h_2_0 : Int) (h_2_1 : List Int) (h_2_2 : List Int) (h_2_3 : Int) (h_2_4 : Int) (h_2_5 : Int) (out_4 : Int) (x1 : List Int) (c4_ : (Int × (List (List L))) → Option (Int × Int × Int × Int × Int × (List Int) × (List (List L)) × (List (List L)))) : (Int × (List (List L))) → Option (Int × Int × Int × Int × Int × (List Int) × (List (List L)) × (List (List L))) := fun (i_19, st25) =>
  if (decide (i_19 ≥ 0)) = true then
    chk (0 ≤ i_19) <|
    chk (i_19 < ((List.length at_1_6 : Nat) : Int)) <|
    optE (at_1_6[Int.toNat i_19]?) fun e => dec_i64 e fun x26 =>
    chk (1 ≤ (List.length [[L.int .i64 x26]])) <|
    optE (median_Window_Push N (some (List.length st2)) (List.take 1 [[L.int .i64 x26]]) st25) fun st27 =>
    c4_ (IntKind.wrap IntKind.i64 (i_19 - 1), st27)
  else
  chk (1 ≤ (List.length [[L.int .i64 h_2_3]])) <|
  optE (median_Window_Push N (some (List.length st2)) (List.take 1 [[L.int .i64 h_2_3]]) st25) fun st28 =>
  optE (median_Window_Times N (some (List.length st2)) st28) fun (x29, st30) =>
  some (IntKind.wrap IntKind.i64 (at_1_0 + 1), h_2_4, h_2_3, out_4, h_2_4, x1, x29, st30)
noncomputable def rule_Behind.p5 (N : Nat)  (st2 : List (List L)) (at_1_0 : Int) (at_1_1 : Int) (at_1_2 : Int) (at_1_3 : Int) (at_1_4 : Int) (at_1_5 : List Int) (at_1_6 : List (List L)) (h_2_0 : Int) (h_2_1 : List Int) (h_2_2 : List Int) (h_2_3 : Int) (h_2_4 : Int) (h_2_5 : Int) (out_4 : Int) (x1 : List Int) (c5_ : (Int × (List (List L))) → Option (Int × Int × Int × Int × Int × (List Int) × (List (List L)) × (List (List L)))) : (Int × (List (List L))) → Option (Int × Int × Int × Int × Int × (List Int) × (List (List L)) × (List (List L))) := fun (i_31, st37) =>
  if (decide (i_31 ≥ 0)) = true then
    chk (0 ≤ i_31) <|
    chk (i_31 < ((List.length at_1_6 : Nat) : Int)) <|
    optE (at_1_6[Int.toNat i_31]?) fun e => dec_i64 e fun x38 =>
    chk (1 ≤ (List.length [[L.int .i64 x38]])) <|
    optE (median_Window_Push N (some (List.length st2)) (List.take 1 [[L.int .i64 x38]]) st37) fun st39 =>
    c5_ (IntKind.wrap IntKind.i64 (i_31 - 1), st39)
  else
  chk (1 ≤ (List.length [[L.int .i64 h_2_3]])) <|
  optE (median_Window_Push N (some (List.length st2)) (List.take 1 [[L.int .i64 h_2_3]]) st37) fun st40 =>
  optE (median_Window_Times N (some (List.length st2)) st40) fun (x41, st42) =>
  some (IntKind.wrap IntKind.i64 (at_1_0 + 1), h_2_4, h_2_3, out_4, h_2_4, x1, x41, st42)
noncomputable def rule_Behind.p1 (N : Nat)  (p_0_0 : Int) (p_0_1 : Int) (p_0_2 : Int) (p_0_3 : Int) (p_0_4 : Bool) (p_0_5 : List (List L)) (p_0_6 : List (List L)) (p_0_7 : List Int) (p_0_8 : List Int) (p_0_9 : Int) (p_0_10 : List Int) (p_0_11 : List Int) (p_0_12 : Int) (p_0_13 : Int) (p_0_14 : Int) (at_1_0 : Int) (at_1_1 : Int) (at_1_2 : Int) (at_1_3 : Int) (at_1_4 : Int) (at_1_5 : List Int) (at_1_6 : List (List L)) (h_2_0 : Int) (h_2_1 : List Int) (h_2_2 : List Int) (h_2_3 : Int) (h_2_4 : Int) (h_2_5 : Int) (out_4 : Int) (x1 : List Int) (st2 : List (List L)) : Option (Int × Int × Int × Int × Int × (List Int) × (List (List L)) × (List (List L))) :=
  if p_0_4 = true then
    if (h_2_4 == p_0_0) = true then
      optE (pace_Starts N p_0_0 p_0_1 p_0_2 p_0_3 p_0_4 p_0_5 p_0_6 p_0_7 p_0_8 p_0_9 p_0_10 p_0_11 p_0_12 p_0_13 p_0_14 at_1_0) fun x5 =>
      if (!x5) = true then
        rule_Behind.p2 N  at_1_0 at_1_1 at_1_2 at_1_3 at_1_4 at_1_5 at_1_6 h_2_0 h_2_1 h_2_2 h_2_3 h_2_4 h_2_5 out_4 at_1_4 x1 st2
      else
      rule_Behind.p2 N  at_1_0 at_1_1 at_1_2 at_1_3 at_1_4 at_1_5 at_1_6 h_2_0 h_2_1 h_2_2 h_2_3 h_2_4 h_2_5 out_4 h_2_4 x1 st2
    else
    loopN (rule_Behind.p4 N  st2 at_1_0 at_1_1 at_1_2 at_1_3 at_1_4 at_1_5 at_1_6 h_2_0 h_2_1 h_2_2 h_2_3 h_2_4 h_2_5 out_4 x1) N (IntKind.wrap IntKind.i64 ((if (11 : Int) < ((List.length at_1_6 : Nat) : Int) then 11 else ((List.length at_1_6 : Nat) : Int)) - 1), st2 ++ [[L.own true 1 []]])
  else
  loopN (rule_Behind.p5 N  st2 at_1_0 at_1_1 at_1_2 at_1_3 at_1_4 at_1_5 at_1_6 h_2_0 h_2_1 h_2_2 h_2_3 h_2_4 h_2_5 out_4 x1) N (IntKind.wrap IntKind.i64 ((if (11 : Int) < ((List.length at_1_6 : Nat) : Int) then 11 else ((List.length at_1_6 : Nat) : Int)) - 1), st2 ++ [[L.own true 1 []]])
noncomputable def rule_Behind (N : Nat) (p_0_0 : Int) (p_0_1 : Int) (p_0_2 : Int) (p_0_3 : Int) (p_0_4 : Bool) (p_0_5 : List (List L)) (p_0_6 : List (List L)) (p_0_7 : List Int) (p_0_8 : List Int) (p_0_9 : Int) (p_0_10 : List Int) (p_0_11 : List Int) (p_0_12 : Int) (p_0_13 : Int) (p_0_14 : Int) (at_1_0 : Int) (at_1_1 : Int) (at_1_2 : Int) (at_1_3 : Int) (at_1_4 : Int) (at_1_5 : List Int) (at_1_6 : List (List L)) (h_2_0 : Int) (h_2_1 : List Int) (h_2_2 : List Int) (h_2_3 : Int) (h_2_4 : Int) (h_2_5 : Int) (st : List (List L)) : Option (Int × Int × Int × Int × Int × (List Int) × (List (List L)) × (List (List L))) :=
  optE (header_Id N h_2_0 h_2_1 h_2_2 h_2_3 h_2_4 h_2_5 st) fun (x1, st2) =>
  optE (pace_Starts N p_0_0 p_0_1 p_0_2 p_0_3 p_0_4 p_0_5 p_0_6 p_0_7 p_0_8 p_0_9 p_0_10 p_0_11 p_0_12 p_0_13 p_0_14 at_1_0) fun x3 =>
  if x3 = true then
    rule_Behind.p1 N  p_0_0 p_0_1 p_0_2 p_0_3 p_0_4 p_0_5 p_0_6 p_0_7 p_0_8 p_0_9 p_0_10 p_0_11 p_0_12 p_0_13 p_0_14 at_1_0 at_1_1 at_1_2 at_1_3 at_1_4 at_1_5 at_1_6 h_2_0 h_2_1 h_2_2 h_2_3 h_2_4 h_2_5 h_2_3 x1 st2
  else
  rule_Behind.p1 N  p_0_0 p_0_1 p_0_2 p_0_3 p_0_4 p_0_5 p_0_6 p_0_7 p_0_8 p_0_9 p_0_10 p_0_11 p_0_12 p_0_13 p_0_14 at_1_0 at_1_1 at_1_2 at_1_3 at_1_4 at_1_5 at_1_6 h_2_0 h_2_1 h_2_2 h_2_3 h_2_4 h_2_5 at_1_3 x1 st2
noncomputable def rule_Behind.p3.S (st2 : List (List L)) (i_7 : Int) (at_1_0 : Int) (at_1_1 : Int) (at_1_2 : Int) (at_1_3 : Int) (at_1_4 : Int) (at_1_5 : List Int) (at_1_6 : List (List L)) (h_2_0 : Int) (h_2_1 : List Int) (h_2_2 : List Int) (h_2_3 : Int) (h_2_4 : Int) (h_2_5 : Int) (out_4 : Int) (out_6 : Int) (x1 : List Int) (st13 : List (List L)) : S := mkS 81 [(4, .one (.adr (.site 4) 0)), (5, .one (.adr (.site 5) 0)), (6, .one (.adr (.site 6) 0)), (7, .one (.adr (.site 7) 0)), (8, .one (.l (L.ptr (some (List.length st2))))), (9, .one (.l (L.int .i64 i_7)))] [(4, .cells [L.int .i64 at_1_0, L.int .i64 at_1_1, L.int .i64 at_1_2, L.int .i64 at_1_3, L.int .i64 at_1_4, L.arr .u8 32 at_1_5, L.sl 1 at_1_6]), (5, .cells [L.int .i64 h_2_0, L.arr .u8 32 h_2_1, L.arr .u8 32 h_2_2, L.int .i64 h_2_3, L.int .i64 h_2_4, L.int .i64 h_2_5]), (6, .cells [L.int .i64 0, L.int .i64 0, L.int .i64 0, L.int .i64 0, L.int .i64 0, L.arr .u8 32 (List.replicate 32 0), L.own true 1 []]), (7, .cells [L.int .i64 (IntKind.wrap IntKind.i64 (at_1_0 + 1)), L.int .i64 h_2_4, L.int .i64 h_2_3, L.int .i64 out_4, L.int .i64 out_6, L.arr .u8 32 x1, L.sl 1 []])] st13
noncomputable def rule_Behind.p2.S (at_1_0 : Int) (at_1_1 : Int) (at_1_2 : Int) (at_1_3 : Int) (at_1_4 : Int) (at_1_5 : List Int) (at_1_6 : List (List L)) (h_2_0 : Int) (h_2_1 : List Int) (h_2_2 : List Int) (h_2_3 : Int) (h_2_4 : Int) (h_2_5 : Int) (out_4 : Int) (out_6 : Int) (x1 : List Int) (st2 : List (List L)) : S := mkS 81 [(4, .one (.adr (.site 4) 0)), (5, .one (.adr (.site 5) 0)), (6, .one (.adr (.site 6) 0)), (7, .one (.adr (.site 7) 0))] [(4, .cells [L.int .i64 at_1_0, L.int .i64 at_1_1, L.int .i64 at_1_2, L.int .i64 at_1_3, L.int .i64 at_1_4, L.arr .u8 32 at_1_5, L.sl 1 at_1_6]), (5, .cells [L.int .i64 h_2_0, L.arr .u8 32 h_2_1, L.arr .u8 32 h_2_2, L.int .i64 h_2_3, L.int .i64 h_2_4, L.int .i64 h_2_5]), (6, .cells [L.int .i64 0, L.int .i64 0, L.int .i64 0, L.int .i64 0, L.int .i64 0, L.arr .u8 32 (List.replicate 32 0), L.own true 1 []]), (7, .cells [L.int .i64 (IntKind.wrap IntKind.i64 (at_1_0 + 1)), L.int .i64 h_2_4, L.int .i64 h_2_3, L.int .i64 out_4, L.int .i64 out_6, L.arr .u8 32 x1, L.sl 1 []])] st2
noncomputable def rule_Behind.p4.S (st2 : List (List L)) (i_19 : Int) (at_1_0 : Int) (at_1_1 : Int) (at_1_2 : Int) (at_1_3 : Int) (at_1_4 : Int) (at_1_5 : List Int) (at_1_6 : List (List L)) (h_2_0 : Int) (h_2_1 : List Int) (h_2_2 : List Int) (h_2_3 : Int) (h_2_4 : Int) (h_2_5 : Int) (out_4 : Int) (x1 : List Int) (st25 : List (List L)) : S := mkS 81 [(4, .one (.adr (.site 4) 0)), (5, .one (.adr (.site 5) 0)), (6, .one (.adr (.site 6) 0)), (7, .one (.adr (.site 7) 0)), (8, .one (.l (L.ptr (some (List.length st2))))), (9, .one (.l (L.int .i64 i_19)))] [(4, .cells [L.int .i64 at_1_0, L.int .i64 at_1_1, L.int .i64 at_1_2, L.int .i64 at_1_3, L.int .i64 at_1_4, L.arr .u8 32 at_1_5, L.sl 1 at_1_6]), (5, .cells [L.int .i64 h_2_0, L.arr .u8 32 h_2_1, L.arr .u8 32 h_2_2, L.int .i64 h_2_3, L.int .i64 h_2_4, L.int .i64 h_2_5]), (6, .cells [L.int .i64 0, L.int .i64 0, L.int .i64 0, L.int .i64 0, L.int .i64 0, L.arr .u8 32 (List.replicate 32 0), L.own true 1 []]), (7, .cells [L.int .i64 (IntKind.wrap IntKind.i64 (at_1_0 + 1)), L.int .i64 h_2_4, L.int .i64 h_2_3, L.int .i64 out_4, L.int .i64 h_2_4, L.arr .u8 32 x1, L.sl 1 []])] st25
noncomputable def rule_Behind.p5.S (st2 : List (List L)) (i_31 : Int) (at_1_0 : Int) (at_1_1 : Int) (at_1_2 : Int) (at_1_3 : Int) (at_1_4 : Int) (at_1_5 : List Int) (at_1_6 : List (List L)) (h_2_0 : Int) (h_2_1 : List Int) (h_2_2 : List Int) (h_2_3 : Int) (h_2_4 : Int) (h_2_5 : Int) (out_4 : Int) (x1 : List Int) (st37 : List (List L)) : S := mkS 81 [(4, .one (.adr (.site 4) 0)), (5, .one (.adr (.site 5) 0)), (6, .one (.adr (.site 6) 0)), (7, .one (.adr (.site 7) 0)), (8, .one (.l (L.ptr (some (List.length st2))))), (9, .one (.l (L.int .i64 i_31)))] [(4, .cells [L.int .i64 at_1_0, L.int .i64 at_1_1, L.int .i64 at_1_2, L.int .i64 at_1_3, L.int .i64 at_1_4, L.arr .u8 32 at_1_5, L.sl 1 at_1_6]), (5, .cells [L.int .i64 h_2_0, L.arr .u8 32 h_2_1, L.arr .u8 32 h_2_2, L.int .i64 h_2_3, L.int .i64 h_2_4, L.int .i64 h_2_5]), (6, .cells [L.int .i64 0, L.int .i64 0, L.int .i64 0, L.int .i64 0, L.int .i64 0, L.arr .u8 32 (List.replicate 32 0), L.own true 1 []]), (7, .cells [L.int .i64 (IntKind.wrap IntKind.i64 (at_1_0 + 1)), L.int .i64 h_2_4, L.int .i64 h_2_3, L.int .i64 out_4, L.int .i64 h_2_4, L.arr .u8 32 x1, L.sl 1 []])] st37
noncomputable def rule_Behind.p1.S (p_0_0 : Int) (p_0_1 : Int) (p_0_2 : Int) (p_0_3 : Int) (p_0_4 : Bool) (p_0_5 : List (List L)) (p_0_6 : List (List L)) (p_0_7 : List Int) (p_0_8 : List Int) (p_0_9 : Int) (p_0_10 : List Int) (p_0_11 : List Int) (p_0_12 : Int) (p_0_13 : Int) (p_0_14 : Int) (at_1_0 : Int) (at_1_1 : Int) (at_1_2 : Int) (at_1_3 : Int) (at_1_4 : Int) (at_1_5 : List Int) (at_1_6 : List (List L)) (h_2_0 : Int) (h_2_1 : List Int) (h_2_2 : List Int) (h_2_3 : Int) (h_2_4 : Int) (h_2_5 : Int) (out_4 : Int) (x1 : List Int) (st2 : List (List L)) : S := mkS 81 [(3, .one (.adr (.site 3) 0)), (4, .one (.adr (.site 4) 0)), (5, .one (.adr (.site 5) 0)), (6, .one (.adr (.site 6) 0)), (7, .one (.adr (.site 7) 0))] [(3, .cells [L.int .i64 p_0_0, L.int .i64 p_0_1, L.int .i64 p_0_2, L.int .i64 p_0_3, L.bool p_0_4, L.sl 2 p_0_5, L.sl 33 p_0_6, L.arr .u64 4 p_0_7, L.arr .u64 4 p_0_8, L.int .i64 p_0_9, L.arr .u8 32 p_0_10, L.arr .u8 32 p_0_11, L.int .i64 p_0_12, L.int .i64 p_0_13, L.int .i64 p_0_14]), (4, .cells [L.int .i64 at_1_0, L.int .i64 at_1_1, L.int .i64 at_1_2, L.int .i64 at_1_3, L.int .i64 at_1_4, L.arr .u8 32 at_1_5, L.sl 1 at_1_6]), (5, .cells [L.int .i64 h_2_0, L.arr .u8 32 h_2_1, L.arr .u8 32 h_2_2, L.int .i64 h_2_3, L.int .i64 h_2_4, L.int .i64 h_2_5]), (6, .cells [L.int .i64 0, L.int .i64 0, L.int .i64 0, L.int .i64 0, L.int .i64 0, L.arr .u8 32 (List.replicate 32 0), L.own true 1 []]), (7, .cells [L.int .i64 (IntKind.wrap IntKind.i64 (at_1_0 + 1)), L.int .i64 h_2_4, L.int .i64 h_2_3, L.int .i64 out_4, L.int .i64 h_2_4, L.arr .u8 32 x1, L.sl 1 []])] st2
theorem rule_Behind.p3_ok (st2 : List (List L)) (i_7 : Int) (at_1_0 : Int) (at_1_1 : Int) (at_1_2 : Int) (at_1_3 : Int) (at_1_4 : Int) (at_1_5 : List Int) (at_1_6 : List (List L)) (h_2_0 : Int) (h_2_1 : List Int) (h_2_2 : List Int) (h_2_3 : Int) (h_2_4 : Int) (h_2_5 : Int) (out_4 : Int) (out_6 : Int) (x1 : List Int) (st13 : List (List L)) {N : Nat} {r : Int × Int × Int × Int × Int × (List Int) × (List (List L)) × (List (List L))} {g0 : G} {w0 : World} {R : Exit → Act → World → Prop}  {c3_ : (Int × (List (List L))) → Option (Int × Int × Int × Int × Int × (List Int) × (List (List L)) × (List (List L)))}  {J3 : Act → World → Prop} (hE : Ends Tryd.prog Tryd.f50 g0 w0 (rule_Behind.rs r) (r.2.2.2.2.2.2.2) R)  (hc3 : ∀ (i_7 : Int) (st13 : List (List L)), c3_ (i_7, st13) = some r → At g0 w0 (rule_Behind.p3.S st2 i_7 at_1_0 at_1_1 at_1_2 at_1_3 at_1_4 at_1_5 at_1_6 h_2_0 h_2_1 h_2_2 h_2_3 h_2_4 h_2_5 out_4 out_6 x1 st13) J3) (h : rule_Behind.p3 N  st2 at_1_0 at_1_1 at_1_2 at_1_3 at_1_4 at_1_5 at_1_6 h_2_0 h_2_1 h_2_2 h_2_3 h_2_4 h_2_5 out_4 out_6 x1 c3_ (i_7, st13) = some r) : At g0 w0 (rule_Behind.p3.S st2 i_7 at_1_0 at_1_1 at_1_2 at_1_3 at_1_4 at_1_5 at_1_6 h_2_0 h_2_1 h_2_2 h_2_3 h_2_4 h_2_5 out_4 out_6 x1 st13) (exK Tryd.prog R (.c (csub rule_Behind.B [1, 1, 1, 1, 1, 0, 1, 0, 0]) :: .h J3 :: [.b 0, .c (csub rule_Behind.B [1, 1, 1, 1, 1, 1])]) .normal) := by
  unfold rule_Behind.p3 at h
  refine iteB h (fun c17 h1 => ?_) (fun c17 h2 => ?_) <;> clear h
  · obtain ⟨c18, h3⟩ := chk_inv h1; clear h1
    obtain ⟨c19, h4⟩ := chk_inv h3; clear h3
    obtain ⟨h7, c20, h5⟩ := optE_inv h4; clear h4
    obtain ⟨x14, rfl, h6⟩ := dec_i64_inv h5; clear h5
    obtain ⟨c21, h8⟩ := chk_inv h6; clear h6
    obtain ⟨st15, c22, h9⟩ := optE_inv h8; clear h8
    exact At.n fol 400 [.r [], .c true, .r [(4, {oe := [L.int .i64 x14]}), (6, {st := st15, wm := 2, fz := [72]})], .r []] [4, 5, 6, 7, 8, 9] [4, 5, 6, 7] (And.intro c17 (And.intro c18 (And.intro c19 (And.intro c20 (And.intro (rfl : (0 : Nat) = 0) (And.intro c21 (median_Window_Push.snd c22))))))) (hc3 (IntKind.wrap IntKind.i64 (i_7 - 1)) st15 h9) (by kernel_rfl)
  · obtain ⟨c23, h10⟩ := chk_inv h2; clear h2
    obtain ⟨st16, c24, h11⟩ := optE_inv h10; clear h10
    obtain ⟨⟨x17, st18⟩, c25, h12⟩ := optE_inv h11; clear h11
    obtain rfl := some_inv h12
    exact At.f fol hE 400 [.r [], .c false, .r [(3, {st := st16, wm := 2, fz := [76]})], .r [(0, {rs := [.row true 1 x17], st := st18, ns := [78]}), (2, {fz := [78]})], .r []] [] 0 [] (And.intro c17 (And.intro (rfl : (0 : Nat) = 0) (And.intro c23 (And.intro (median_Window_Push.snd c24) (And.intro (median_Window_Times.snd c25) (And.intro (rfl : (0 : Nat) = 0) (@rfl Nat (List.length x17)))))))) (by kernel_rfl)
theorem rule_Behind.p3_loop (st2 : List (List L)) (i_7 : Int) (at_1_0 : Int) (at_1_1 : Int) (at_1_2 : Int) (at_1_3 : Int) (at_1_4 : Int) (at_1_5 : List Int) (at_1_6 : List (List L)) (h_2_0 : Int) (h_2_1 : List Int) (h_2_2 : List Int) (h_2_3 : Int) (h_2_4 : Int) (h_2_5 : Int) (out_4 : Int) (out_6 : Int) (x1 : List Int) (st13 : List (List L)) {N : Nat} {r : Int × Int × Int × Int × Int × (List Int) × (List (List L)) × (List (List L))} {g0 : G} {w0 : World} {R : Exit → Act → World → Prop}   (hE : Ends Tryd.prog Tryd.f50 g0 w0 (rule_Behind.rs r) (r.2.2.2.2.2.2.2) R)  (h : loopN (rule_Behind.p3 N  st2 at_1_0 at_1_1 at_1_2 at_1_3 at_1_4 at_1_5 at_1_6 h_2_0 h_2_1 h_2_2 h_2_3 h_2_4 h_2_5 out_4 out_6 x1) N (i_7, st13) = some r) : At g0 w0 (rule_Behind.p3.S st2 i_7 at_1_0 at_1_1 at_1_2 at_1_3 at_1_4 at_1_5 at_1_6 h_2_0 h_2_1 h_2_2 h_2_3 h_2_4 h_2_5 out_4 out_6 x1 st13) (exK Tryd.prog R (.c (.loop (csub rule_Behind.B [1, 1, 1, 1, 1, 0, 1, 0, 0])) :: [.b 0, .c (csub rule_Behind.B [1, 1, 1, 1, 1, 1])]) .normal) :=
  At.loop N (At.loopN (fun y : Int × (List (List L)) => rule_Behind.p3.S st2 y.1 at_1_0 at_1_1 at_1_2 at_1_3 at_1_4 at_1_5 at_1_6 h_2_0 h_2_1 h_2_2 h_2_3 h_2_4 h_2_5 out_4 out_6 x1 y.2) (fun c J hc y h => rule_Behind.p3_ok st2 y.1 at_1_0 at_1_1 at_1_2 at_1_3 at_1_4 at_1_5 at_1_6 h_2_0 h_2_1 h_2_2 h_2_3 h_2_4 h_2_5 out_4 out_6 x1 y.2 hE  (fun i_7 st13 hh => hc (i_7, st13) hh) h) N (i_7, st13) h)
theorem rule_Behind.p2_ok (at_1_0 : Int) (at_1_1 : Int) (at_1_2 : Int) (at_1_3 : Int) (at_1_4 : Int) (at_1_5 : List Int) (at_1_6 : List (List L)) (h_2_0 : Int) (h_2_1 : List Int) (h_2_2 : List Int) (h_2_3 : Int) (h_2_4 : Int) (h_2_5 : Int) (out_4 : Int) (out_6 : Int) (x1 : List Int) (st2 : List (List L)) {N : Nat} {r : Int × Int × Int × Int × Int × (List Int) × (List (List L)) × (List (List L))} {g0 : G} {w0 : World} {R : Exit → Act → World → Prop}   (hE : Ends Tryd.prog Tryd.f50 g0 w0 (rule_Behind.rs r) (r.2.2.2.2.2.2.2) R)  (h : rule_Behind.p2 N  at_1_0 at_1_1 at_1_2 at_1_3 at_1_4 at_1_5 at_1_6 h_2_0 h_2_1 h_2_2 h_2_3 h_2_4 h_2_5 out_4 out_6 x1 st2 = some r) : At g0 w0 (rule_Behind.p2.S at_1_0 at_1_1 at_1_2 at_1_3 at_1_4 at_1_5 at_1_6 h_2_0 h_2_1 h_2_2 h_2_3 h_2_4 h_2_5 out_4 out_6 x1 st2) (exK Tryd.prog R [.c (csub rule_Behind.B [1, 1, 1, 1])] .normal) := by
  unfold rule_Behind.p2 at h
  exact At.q fol 400 [.r [(0, {m := 1})], .r []] [4, 5, 6, 7, 8, 9] [4, 5, 6, 7] trivial (rule_Behind.p3_loop st2 (IntKind.wrap IntKind.i64 ((if (11 : Int) < ((List.length at_1_6 : Nat) : Int) then 11 else ((List.length at_1_6 : Nat) : Int)) - 1)) at_1_0 at_1_1 at_1_2 at_1_3 at_1_4 at_1_5 at_1_6 h_2_0 h_2_1 h_2_2 h_2_3 h_2_4 h_2_5 out_4 out_6 x1 (st2 ++ [[L.own true 1 []]]) hE  h) (by kernel_rfl)
theorem rule_Behind.p4_ok (st2 : List (List L)) (i_19 : Int) (at_1_0 : Int) (at_1_1 : Int) (at_1_2 : Int) (at_1_3 : Int) (at_1_4 : Int) (at_1_5 : List Int) (at_1_6 : List (List L)) (h_2_0 : Int) (h_2_1 : List Int) (h_2_2 : List Int) (h_2_3 : Int) (h_2_4 : Int) (h_2_5 : Int) (out_4 : Int) (x1 : List Int) (st25 : List (List L)) {N : Nat} {r : Int × Int × Int × Int × Int × (List Int) × (List (List L)) × (List (List L))} {g0 : G} {w0 : World} {R : Exit → Act → World → Prop}  {c4_ : (Int × (List (List L))) → Option (Int × Int × Int × Int × Int × (List Int) × (List (List L)) × (List (List L)))}  {J4 : Act → World → Prop} (hE : Ends Tryd.prog Tryd.f50 g0 w0 (rule_Behind.rs r) (r.2.2.2.2.2.2.2) R)  (hc4 : ∀ (i_19 : Int) (st25 : List (List L)), c4_ (i_19, st25) = some r → At g0 w0 (rule_Behind.p4.S st2 i_19 at_1_0 at_1_1 at_1_2 at_1_3 at_1_4 at_1_5 at_1_6 h_2_0 h_2_1 h_2_2 h_2_3 h_2_4 h_2_5 out_4 x1 st25) J4) (h : rule_Behind.p4 N  st2 at_1_0 at_1_1 at_1_2 at_1_3 at_1_4 at_1_5 at_1_6 h_2_0 h_2_1 h_2_2 h_2_3 h_2_4 h_2_5 out_4 x1 c4_ (i_19, st25) = some r) : At g0 w0 (rule_Behind.p4.S st2 i_19 at_1_0 at_1_1 at_1_2 at_1_3 at_1_4 at_1_5 at_1_6 h_2_0 h_2_1 h_2_2 h_2_3 h_2_4 h_2_5 out_4 x1 st25) (exK Tryd.prog R (.c (csub rule_Behind.B [1, 1, 1, 1, 1, 0, 1, 0, 0]) :: .h J4 :: [.b 0, .c (csub rule_Behind.B [1, 1, 1, 1, 1, 1])]) .normal) := by
  unfold rule_Behind.p4 at h
  refine iteB h (fun c35 h13 => ?_) (fun c35 h14 => ?_) <;> clear h
  · obtain ⟨c36, h15⟩ := chk_inv h13; clear h13
    obtain ⟨c37, h16⟩ := chk_inv h15; clear h15
    obtain ⟨h19, c38, h17⟩ := optE_inv h16; clear h16
    obtain ⟨x26, rfl, h18⟩ := dec_i64_inv h17; clear h17
    obtain ⟨c39, h20⟩ := chk_inv h18; clear h18
    obtain ⟨st27, c40, h21⟩ := optE_inv h20; clear h20
    exact At.n fol 400 [.r [], .c true, .r [(4, {oe := [L.int .i64 x26]}), (6, {st := st27, wm := 2, fz := [72]})], .r []] [4, 5, 6, 7, 8, 9] [4, 5, 6, 7] (And.intro c35 (And.intro c36 (And.intro c37 (And.intro c38 (And.intro (rfl : (0 : Nat) = 0) (And.intro c39 (median_Window_Push.snd c40))))))) (hc4 (IntKind.wrap IntKind.i64 (i_19 - 1)) st27 h21) (by kernel_rfl)
  · obtain ⟨c41, h22⟩ := chk_inv h14; clear h14
    obtain ⟨st28, c42, h23⟩ := optE_inv h22; clear h22
    obtain ⟨⟨x29, st30⟩, c43, h24⟩ := optE_inv h23; clear h23
    obtain rfl := some_inv h24
    exact At.f fol hE 400 [.r [], .c false, .r [(3, {st := st28, wm := 2, fz := [76]})], .r [(0, {rs := [.row true 1 x29], st := st30, ns := [78]}), (2, {fz := [78]})], .r []] [] 0 [] (And.intro c35 (And.intro (rfl : (0 : Nat) = 0) (And.intro c41 (And.intro (median_Window_Push.snd c42) (And.intro (median_Window_Times.snd c43) (And.intro (rfl : (0 : Nat) = 0) (@rfl Nat (List.length x29)))))))) (by kernel_rfl)
theorem rule_Behind.p4_loop (st2 : List (List L)) (i_19 : Int) (at_1_0 : Int) (at_1_1 : Int) (at_1_2 : Int) (at_1_3 : Int) (at_1_4 : Int) (at_1_5 : List Int) (at_1_6 : List (List L)) (h_2_0 : Int) (h_2_1 : List Int) (h_2_2 : List Int) (h_2_3 : Int) (h_2_4 : Int) (h_2_5 : Int) (out_4 : Int) (x1 : List Int) (st25 : List (List L)) {N : Nat} {r : Int × Int × Int × Int × Int × (List Int) × (List (List L)) × (List (List L))} {g0 : G} {w0 : World} {R : Exit → Act → World → Prop}   (hE : Ends Tryd.prog Tryd.f50 g0 w0 (rule_Behind.rs r) (r.2.2.2.2.2.2.2) R)  (h : loopN (rule_Behind.p4 N  st2 at_1_0 at_1_1 at_1_2 at_1_3 at_1_4 at_1_5 at_1_6 h_2_0 h_2_1 h_2_2 h_2_3 h_2_4 h_2_5 out_4 x1) N (i_19, st25) = some r) : At g0 w0 (rule_Behind.p4.S st2 i_19 at_1_0 at_1_1 at_1_2 at_1_3 at_1_4 at_1_5 at_1_6 h_2_0 h_2_1 h_2_2 h_2_3 h_2_4 h_2_5 out_4 x1 st25) (exK Tryd.prog R (.c (.loop (csub rule_Behind.B [1, 1, 1, 1, 1, 0, 1, 0, 0])) :: [.b 0, .c (csub rule_Behind.B [1, 1, 1, 1, 1, 1])]) .normal) :=
  At.loop N (At.loopN (fun y : Int × (List (List L)) => rule_Behind.p4.S st2 y.1 at_1_0 at_1_1 at_1_2 at_1_3 at_1_4 at_1_5 at_1_6 h_2_0 h_2_1 h_2_2 h_2_3 h_2_4 h_2_5 out_4 x1 y.2) (fun c J hc y h => rule_Behind.p4_ok st2 y.1 at_1_0 at_1_1 at_1_2 at_1_3 at_1_4 at_1_5 at_1_6 h_2_0 h_2_1 h_2_2 h_2_3 h_2_4 h_2_5 out_4 x1 y.2 hE  (fun i_19 st25 hh => hc (i_19, st25) hh) h) N (i_19, st25) h)
theorem rule_Behind.p5_ok (st2 : List (List L)) (i_31 : Int) (at_1_0 : Int) (at_1_1 : Int) (at_1_2 : Int) (at_1_3 : Int) (at_1_4 : Int) (at_1_5 : List Int) (at_1_6 : List (List L)) (h_2_0 : Int) (h_2_1 : List Int) (h_2_2 : List Int) (h_2_3 : Int) (h_2_4 : Int) (h_2_5 : Int) (out_4 : Int) (x1 : List Int) (st37 : List (List L)) {N : Nat} {r : Int × Int × Int × Int × Int × (List Int) × (List (List L)) × (List (List L))} {g0 : G} {w0 : World} {R : Exit → Act → World → Prop}  {c5_ : (Int × (List (List L))) → Option (Int × Int × Int × Int × Int × (List Int) × (List (List L)) × (List (List L)))}  {J5 : Act → World → Prop} (hE : Ends Tryd.prog Tryd.f50 g0 w0 (rule_Behind.rs r) (r.2.2.2.2.2.2.2) R)  (hc5 : ∀ (i_31 : Int) (st37 : List (List L)), c5_ (i_31, st37) = some r → At g0 w0 (rule_Behind.p5.S st2 i_31 at_1_0 at_1_1 at_1_2 at_1_3 at_1_4 at_1_5 at_1_6 h_2_0 h_2_1 h_2_2 h_2_3 h_2_4 h_2_5 out_4 x1 st37) J5) (h : rule_Behind.p5 N  st2 at_1_0 at_1_1 at_1_2 at_1_3 at_1_4 at_1_5 at_1_6 h_2_0 h_2_1 h_2_2 h_2_3 h_2_4 h_2_5 out_4 x1 c5_ (i_31, st37) = some r) : At g0 w0 (rule_Behind.p5.S st2 i_31 at_1_0 at_1_1 at_1_2 at_1_3 at_1_4 at_1_5 at_1_6 h_2_0 h_2_1 h_2_2 h_2_3 h_2_4 h_2_5 out_4 x1 st37) (exK Tryd.prog R (.c (csub rule_Behind.B [1, 1, 1, 1, 1, 0, 1, 0, 0]) :: .h J5 :: [.b 0, .c (csub rule_Behind.B [1, 1, 1, 1, 1, 1])]) .normal) := by
  unfold rule_Behind.p5 at h
  refine iteB h (fun c53 h25 => ?_) (fun c53 h26 => ?_) <;> clear h
  · obtain ⟨c54, h27⟩ := chk_inv h25; clear h25
    obtain ⟨c55, h28⟩ := chk_inv h27; clear h27
    obtain ⟨h31, c56, h29⟩ := optE_inv h28; clear h28
    obtain ⟨x38, rfl, h30⟩ := dec_i64_inv h29; clear h29
    obtain ⟨c57, h32⟩ := chk_inv h30; clear h30
    obtain ⟨st39, c58, h33⟩ := optE_inv h32; clear h32
    exact At.n fol 400 [.r [], .c true, .r [(4, {oe := [L.int .i64 x38]}), (6, {st := st39, wm := 2, fz := [72]})], .r []] [4, 5, 6, 7, 8, 9] [4, 5, 6, 7] (And.intro c53 (And.intro c54 (And.intro c55 (And.intro c56 (And.intro (rfl : (0 : Nat) = 0) (And.intro c57 (median_Window_Push.snd c58))))))) (hc5 (IntKind.wrap IntKind.i64 (i_31 - 1)) st39 h33) (by kernel_rfl)
  · obtain ⟨c59, h34⟩ := chk_inv h26; clear h26
    obtain ⟨st40, c60, h35⟩ := optE_inv h34; clear h34
    obtain ⟨⟨x41, st42⟩, c61, h36⟩ := optE_inv h35; clear h35
    obtain rfl := some_inv h36
    exact At.f fol hE 400 [.r [], .c false, .r [(3, {st := st40, wm := 2, fz := [76]})], .r [(0, {rs := [.row true 1 x41], st := st42, ns := [78]}), (2, {fz := [78]})], .r []] [] 0 [] (And.intro c53 (And.intro (rfl : (0 : Nat) = 0) (And.intro c59 (And.intro (median_Window_Push.snd c60) (And.intro (median_Window_Times.snd c61) (And.intro (rfl : (0 : Nat) = 0) (@rfl Nat (List.length x41)))))))) (by kernel_rfl)
theorem rule_Behind.p5_loop (st2 : List (List L)) (i_31 : Int) (at_1_0 : Int) (at_1_1 : Int) (at_1_2 : Int) (at_1_3 : Int) (at_1_4 : Int) (at_1_5 : List Int) (at_1_6 : List (List L)) (h_2_0 : Int) (h_2_1 : List Int) (h_2_2 : List Int) (h_2_3 : Int) (h_2_4 : Int) (h_2_5 : Int) (out_4 : Int) (x1 : List Int) (st37 : List (List L)) {N : Nat} {r : Int × Int × Int × Int × Int × (List Int) × (List (List L)) × (List (List L))} {g0 : G} {w0 : World} {R : Exit → Act → World → Prop}   (hE : Ends Tryd.prog Tryd.f50 g0 w0 (rule_Behind.rs r) (r.2.2.2.2.2.2.2) R)  (h : loopN (rule_Behind.p5 N  st2 at_1_0 at_1_1 at_1_2 at_1_3 at_1_4 at_1_5 at_1_6 h_2_0 h_2_1 h_2_2 h_2_3 h_2_4 h_2_5 out_4 x1) N (i_31, st37) = some r) : At g0 w0 (rule_Behind.p5.S st2 i_31 at_1_0 at_1_1 at_1_2 at_1_3 at_1_4 at_1_5 at_1_6 h_2_0 h_2_1 h_2_2 h_2_3 h_2_4 h_2_5 out_4 x1 st37) (exK Tryd.prog R (.c (.loop (csub rule_Behind.B [1, 1, 1, 1, 1, 0, 1, 0, 0])) :: [.b 0, .c (csub rule_Behind.B [1, 1, 1, 1, 1, 1])]) .normal) :=
  At.loop N (At.loopN (fun y : Int × (List (List L)) => rule_Behind.p5.S st2 y.1 at_1_0 at_1_1 at_1_2 at_1_3 at_1_4 at_1_5 at_1_6 h_2_0 h_2_1 h_2_2 h_2_3 h_2_4 h_2_5 out_4 x1 y.2) (fun c J hc y h => rule_Behind.p5_ok st2 y.1 at_1_0 at_1_1 at_1_2 at_1_3 at_1_4 at_1_5 at_1_6 h_2_0 h_2_1 h_2_2 h_2_3 h_2_4 h_2_5 out_4 x1 y.2 hE  (fun i_31 st37 hh => hc (i_31, st37) hh) h) N (i_31, st37) h)
theorem rule_Behind.p1_ok (p_0_0 : Int) (p_0_1 : Int) (p_0_2 : Int) (p_0_3 : Int) (p_0_4 : Bool) (p_0_5 : List (List L)) (p_0_6 : List (List L)) (p_0_7 : List Int) (p_0_8 : List Int) (p_0_9 : Int) (p_0_10 : List Int) (p_0_11 : List Int) (p_0_12 : Int) (p_0_13 : Int) (p_0_14 : Int) (at_1_0 : Int) (at_1_1 : Int) (at_1_2 : Int) (at_1_3 : Int) (at_1_4 : Int) (at_1_5 : List Int) (at_1_6 : List (List L)) (h_2_0 : Int) (h_2_1 : List Int) (h_2_2 : List Int) (h_2_3 : Int) (h_2_4 : Int) (h_2_5 : Int) (out_4 : Int) (x1 : List Int) (st2 : List (List L)) {N : Nat} {r : Int × Int × Int × Int × Int × (List Int) × (List (List L)) × (List (List L))} {g0 : G} {w0 : World} {R : Exit → Act → World → Prop}   (hE : Ends Tryd.prog Tryd.f50 g0 w0 (rule_Behind.rs r) (r.2.2.2.2.2.2.2) R)  (h : rule_Behind.p1 N  p_0_0 p_0_1 p_0_2 p_0_3 p_0_4 p_0_5 p_0_6 p_0_7 p_0_8 p_0_9 p_0_10 p_0_11 p_0_12 p_0_13 p_0_14 at_1_0 at_1_1 at_1_2 at_1_3 at_1_4 at_1_5 at_1_6 h_2_0 h_2_1 h_2_2 h_2_3 h_2_4 h_2_5 out_4 x1 st2 = some r) : At g0 w0 (rule_Behind.p1.S p_0_0 p_0_1 p_0_2 p_0_3 p_0_4 p_0_5 p_0_6 p_0_7 p_0_8 p_0_9 p_0_10 p_0_11 p_0_12 p_0_13 p_0_14 at_1_0 at_1_1 at_1_2 at_1_3 at_1_4 at_1_5 at_1_6 h_2_0 h_2_1 h_2_2 h_2_3 h_2_4 h_2_5 out_4 x1 st2) (exK Tryd.prog R [.c (csub rule_Behind.B [1, 1, 1])] .normal) := by
  unfold rule_Behind.p1 at h
  refine iteB h (fun c4 h37 => ?_) (fun c4 h38 => ?_) <;> clear h
  · refine iteB h37 (fun c5 h39 => ?_) (fun c5 h40 => ?_) <;> clear h37
    · obtain ⟨x5, c6, h41⟩ := optE_inv h39; clear h39
      refine iteB h41 (fun c7 h42 => ?_) (fun c7 h43 => ?_) <;> clear h41
      · exact At.q fol 400 [.r [(14, {rs := [.one (L.bool x5)], m := 1})], .c true, .r [], .s 1] [4, 5, 6, 7] [4, 5, 6, 7] (And.intro c4 (And.intro c4 (And.intro c4 (And.intro c4 (And.intro c4 (And.intro c4 (And.intro c5 (And.intro c5 (And.intro c5 (And.intro c5 (And.intro c5 (And.intro (pace_Starts.snd c6) (And.intro c5 (And.intro c5 c7)))))))))))))) (rule_Behind.p2_ok at_1_0 at_1_1 at_1_2 at_1_3 at_1_4 at_1_5 at_1_6 h_2_0 h_2_1 h_2_2 h_2_3 h_2_4 h_2_5 out_4 at_1_4 x1 st2 hE  h42) (by kernel_rfl)
      · exact At.q fol 400 [.r [(14, {rs := [.one (L.bool x5)], m := 1})], .c false, .s 1] [4, 5, 6, 7] [4, 5, 6, 7] (And.intro c4 (And.intro c4 (And.intro c4 (And.intro c4 (And.intro c4 (And.intro c4 (And.intro c5 (And.intro c5 (And.intro c5 (And.intro c5 (And.intro c5 (And.intro (pace_Starts.snd c6) (And.intro c5 (And.intro c5 c7)))))))))))))) (rule_Behind.p2_ok at_1_0 at_1_1 at_1_2 at_1_3 at_1_4 at_1_5 at_1_6 h_2_0 h_2_1 h_2_2 h_2_3 h_2_4 h_2_5 out_4 h_2_4 x1 st2 hE  h43) (by kernel_rfl)
    · exact At.q fol 400 [.r [(10, {want := false}), (11, {want := false}), (12, {want := false}), (13, {want := false}), (14, {want := false}), (15, {want := false}), (16, {yes := false})], .c false, .r [(0, {m := 1})], .r []] [4, 5, 6, 7, 8, 9] [4, 5, 6, 7] (And.intro c4 (And.intro c4 (And.intro c4 (And.intro c4 (And.intro c4 (And.intro c4 (And.intro c5 (And.intro c5 (And.intro c5 (And.intro c5 (And.intro c5 (And.intro c5 (And.intro c5 (rfl : false = false)))))))))))))) (rule_Behind.p4_loop st2 (IntKind.wrap IntKind.i64 ((if (11 : Int) < ((List.length at_1_6 : Nat) : Int) then 11 else ((List.length at_1_6 : Nat) : Int)) - 1)) at_1_0 at_1_1 at_1_2 at_1_3 at_1_4 at_1_5 at_1_6 h_2_0 h_2_1 h_2_2 h_2_3 h_2_4 h_2_5 out_4 x1 (st2 ++ [[L.own true 1 []]]) hE  h40) (by kernel_rfl)
  · exact At.q fol 400 [.r [(3, {want := false}), (4, {want := false}), (5, {want := false}), (6, {want := false}), (7, {want := false}), (8, {yes := false}), (10, {want := false}), (11, {want := false}), (12, {want := false}), (13, {want := false}), (14, {want := false}), (15, {want := false}), (16, {yes := false})], .c false, .r [(0, {m := 1})], .r []] [4, 5, 6, 7, 8, 9] [4, 5, 6, 7] (And.intro c4 (And.intro c4 (And.intro c4 (And.intro c4 (And.intro c4 (And.intro c4 (And.intro (rfl : false = false) (And.intro (rfl : false = false) (And.intro (rfl : false = false) (And.intro (rfl : false = false) (And.intro (rfl : false = false) (And.intro (rfl : false = false) (And.intro (rfl : false = false) (rfl : false = false)))))))))))))) (rule_Behind.p5_loop st2 (IntKind.wrap IntKind.i64 ((if (11 : Int) < ((List.length at_1_6 : Nat) : Int) then 11 else ((List.length at_1_6 : Nat) : Int)) - 1)) at_1_0 at_1_1 at_1_2 at_1_3 at_1_4 at_1_5 at_1_6 h_2_0 h_2_1 h_2_2 h_2_3 h_2_4 h_2_5 out_4 x1 (st2 ++ [[L.own true 1 []]]) hE  h38) (by kernel_rfl)
theorem rule_Behind.at0 (p_0_0 : Int) (p_0_1 : Int) (p_0_2 : Int) (p_0_3 : Int) (p_0_4 : Bool) (p_0_5 : List (List L)) (p_0_6 : List (List L)) (p_0_7 : List Int) (p_0_8 : List Int) (p_0_9 : Int) (p_0_10 : List Int) (p_0_11 : List Int) (p_0_12 : Int) (p_0_13 : Int) (p_0_14 : Int) (at_1_0 : Int) (at_1_1 : Int) (at_1_2 : Int) (at_1_3 : Int) (at_1_4 : Int) (at_1_5 : List Int) (at_1_6 : List (List L)) (h_2_0 : Int) (h_2_1 : List Int) (h_2_2 : List Int) (h_2_3 : Int) (h_2_4 : Int) (h_2_5 : Int) (st : List (List L)) {N : Nat} {r : Int × Int × Int × Int × Int × (List Int) × (List (List L)) × (List (List L))} {g0 : G} {w0 : World} {R : Exit → Act → World → Prop} (hE : Ends Tryd.prog Tryd.f50 g0 w0 (rule_Behind.rs r) (r.2.2.2.2.2.2.2) R) (h : rule_Behind N p_0_0 p_0_1 p_0_2 p_0_3 p_0_4 p_0_5 p_0_6 p_0_7 p_0_8 p_0_9 p_0_10 p_0_11 p_0_12 p_0_13 p_0_14 at_1_0 at_1_1 at_1_2 at_1_3 at_1_4 at_1_5 at_1_6 h_2_0 h_2_1 h_2_2 h_2_3 h_2_4 h_2_5 st = some r) : At g0 w0 (S.enter 81 [.agg [L.int .i64 p_0_0, L.int .i64 p_0_1, L.int .i64 p_0_2, L.int .i64 p_0_3, L.bool p_0_4, L.sl 2 p_0_5, L.sl 33 p_0_6, L.arr .u64 4 p_0_7, L.arr .u64 4 p_0_8, L.int .i64 p_0_9, L.arr .u8 32 p_0_10, L.arr .u8 32 p_0_11, L.int .i64 p_0_12, L.int .i64 p_0_13, L.int .i64 p_0_14], .agg [L.int .i64 at_1_0, L.int .i64 at_1_1, L.int .i64 at_1_2, L.int .i64 at_1_3, L.int .i64 at_1_4, L.arr .u8 32 at_1_5, L.sl 1 at_1_6], .agg [L.int .i64 h_2_0, L.arr .u8 32 h_2_1, L.arr .u8 32 h_2_2, L.int .i64 h_2_3, L.int .i64 h_2_4, L.int .i64 h_2_5]] st) (exK Tryd.prog R [.c rule_Behind.B] .normal) := by
  unfold rule_Behind at h
  obtain ⟨⟨x1, st2⟩, c1, h44⟩ := optE_inv h; clear h
  obtain ⟨x3, c2, h45⟩ := optE_inv h44; clear h44
  refine iteB h45 (fun c3 h46 => ?_) (fun c3 h47 => ?_) <;> clear h45
  · exact At.qd fol 400 [.r [], .d {ds := [(15, {rs := [.agg [L.arr .u8 32 x1]], st := st2})], hv := 425984, Hs := [32768, 131072, 163840, 425984]}, .r [(4, {rs := [.one (L.bool x3)], m := 1})], .c true, .r [], .s 1] [3, 4, 5, 6, 7] [3, 4, 5, 6, 7] (And.intro (header_Id.snd c1) (And.intro (header_Id.snd c1) (And.intro (pace_Starts.snd c2) c3))) (rule_Behind.p1_ok p_0_0 p_0_1 p_0_2 p_0_3 p_0_4 p_0_5 p_0_6 p_0_7 p_0_8 p_0_9 p_0_10 p_0_11 p_0_12 p_0_13 p_0_14 at_1_0 at_1_1 at_1_2 at_1_3 at_1_4 at_1_5 at_1_6 h_2_0 h_2_1 h_2_2 h_2_3 h_2_4 h_2_5 h_2_3 x1 st2 hE  h46) (by kernel_rfl) (by kernel_rfl)
  · exact At.qd fol 400 [.r [], .d {ds := [(15, {rs := [.agg [L.arr .u8 32 x1]], st := st2})], hv := 425984, Hs := [32768, 131072, 163840, 425984]}, .r [(4, {rs := [.one (L.bool x3)], m := 1})], .c false, .s 1] [3, 4, 5, 6, 7] [3, 4, 5, 6, 7] (And.intro (header_Id.snd c1) (And.intro (header_Id.snd c1) (And.intro (pace_Starts.snd c2) c3))) (rule_Behind.p1_ok p_0_0 p_0_1 p_0_2 p_0_3 p_0_4 p_0_5 p_0_6 p_0_7 p_0_8 p_0_9 p_0_10 p_0_11 p_0_12 p_0_13 p_0_14 at_1_0 at_1_1 at_1_2 at_1_3 at_1_4 at_1_5 at_1_6 h_2_0 h_2_1 h_2_2 h_2_3 h_2_4 h_2_5 at_1_3 x1 st2 hE  h47) (by kernel_rfl) (by kernel_rfl)
theorem rule_Behind.snd {N : Nat} {p_0_0 : Int} {p_0_1 : Int} {p_0_2 : Int} {p_0_3 : Int} {p_0_4 : Bool} {p_0_5 : List (List L)} {p_0_6 : List (List L)} {p_0_7 : List Int} {p_0_8 : List Int} {p_0_9 : Int} {p_0_10 : List Int} {p_0_11 : List Int} {p_0_12 : Int} {p_0_13 : Int} {p_0_14 : Int} {at_1_0 : Int} {at_1_1 : Int} {at_1_2 : Int} {at_1_3 : Int} {at_1_4 : Int} {at_1_5 : List Int} {at_1_6 : List (List L)} {h_2_0 : Int} {h_2_1 : List Int} {h_2_2 : List Int} {h_2_3 : Int} {h_2_4 : Int} {h_2_5 : Int} {st : List (List L)} {r : Int × Int × Int × Int × Int × (List Int) × (List (List L)) × (List (List L))} (h : rule_Behind N p_0_0 p_0_1 p_0_2 p_0_3 p_0_4 p_0_5 p_0_6 p_0_7 p_0_8 p_0_9 p_0_10 p_0_11 p_0_12 p_0_13 p_0_14 at_1_0 at_1_1 at_1_2 at_1_3 at_1_4 at_1_5 at_1_6 h_2_0 h_2_1 h_2_2 h_2_3 h_2_4 h_2_5 st = some r) : Snd Tryd.prog 50 [.agg [L.int .i64 p_0_0, L.int .i64 p_0_1, L.int .i64 p_0_2, L.int .i64 p_0_3, L.bool p_0_4, L.sl 2 p_0_5, L.sl 33 p_0_6, L.arr .u64 4 p_0_7, L.arr .u64 4 p_0_8, L.int .i64 p_0_9, L.arr .u8 32 p_0_10, L.arr .u8 32 p_0_11, L.int .i64 p_0_12, L.int .i64 p_0_13, L.int .i64 p_0_14], .agg [L.int .i64 at_1_0, L.int .i64 at_1_1, L.int .i64 at_1_2, L.int .i64 at_1_3, L.int .i64 at_1_4, L.arr .u8 32 at_1_5, L.sl 1 at_1_6], .agg [L.int .i64 h_2_0, L.arr .u8 32 h_2_1, L.arr .u8 32 h_2_2, L.int .i64 h_2_3, L.int .i64 h_2_4, L.int .i64 h_2_5]] st (rule_Behind.rs r) (r.2.2.2.2.2.2.2) :=
  Snd.of (fn := Tryd.f50) (c := rule_Behind.B) Tryd.func50 (by kernel_rfl) (by kernel_rfl) (of_decide_eq_true (by kernel_rfl)) fun g w R hE => rule_Behind.at0 p_0_0 p_0_1 p_0_2 p_0_3 p_0_4 p_0_5 p_0_6 p_0_7 p_0_8 p_0_9 p_0_10 p_0_11 p_0_12 p_0_13 p_0_14 at_1_0 at_1_1 at_1_2 at_1_3 at_1_4 at_1_5 at_1_6 h_2_0 h_2_1 h_2_2 h_2_3 h_2_4 h_2_5 st hE h
/-! trailhead/rule.Begin -/
noncomputable def rule_Begin.B : Code := Tryd.f44.body.getD .skip
noncomputable def rule_Begin.rs (r : Int × Int × Int × Int × Int × (List Int) × (List (List L)) × (List (List L))) : List CV := [.agg [L.int .i64 r.1, L.int .i64 r.2.1, L.int .i64 r.2.2.1, L.int .i64 r.2.2.2.1, L.int .i64 r.2.2.2.2.1, L.arr .u8 32 r.2.2.2.2.2.1, L.sl 1 r.2.2.2.2.2.2.1]]
noncomputable def rule_Begin (N : Nat) (p_0_0 : Int) (p_0_1 : Int) (p_0_2 : Int) (p_0_3 : Int) (p_0_4 : Bool) (p_0_5 : List (List L)) (p_0_6 : List (List L)) (p_0_7 : List Int) (p_0_8 : List Int) (p_0_9 : Int) (p_0_10 : List Int) (p_0_11 : List Int) (p_0_12 : Int) (p_0_13 : Int) (p_0_14 : Int) (st : List (List L)) : Option (Int × Int × Int × Int × Int × (List Int) × (List (List L)) × (List (List L))) :=
  optE (rule_Behind N p_0_0 p_0_1 p_0_2 p_0_3 p_0_4 p_0_5 p_0_6 p_0_7 p_0_8 p_0_9 p_0_10 p_0_11 p_0_12 p_0_13 p_0_14 0 0 0 0 p_0_0 (List.replicate 32 0) [] p_0_9 p_0_10 p_0_11 p_0_12 p_0_13 p_0_14 st) fun (x1, x2, x3, x4, x5, x6, x7, st8) =>
  some (x1, x2, x3, x4, x5, x6, x7, st8)
theorem rule_Begin.at0 (p_0_0 : Int) (p_0_1 : Int) (p_0_2 : Int) (p_0_3 : Int) (p_0_4 : Bool) (p_0_5 : List (List L)) (p_0_6 : List (List L)) (p_0_7 : List Int) (p_0_8 : List Int) (p_0_9 : Int) (p_0_10 : List Int) (p_0_11 : List Int) (p_0_12 : Int) (p_0_13 : Int) (p_0_14 : Int) (st : List (List L)) {N : Nat} {r : Int × Int × Int × Int × Int × (List Int) × (List (List L)) × (List (List L))} {g0 : G} {w0 : World} {R : Exit → Act → World → Prop} (hE : Ends Tryd.prog Tryd.f44 g0 w0 (rule_Begin.rs r) (r.2.2.2.2.2.2.2) R) (h : rule_Begin N p_0_0 p_0_1 p_0_2 p_0_3 p_0_4 p_0_5 p_0_6 p_0_7 p_0_8 p_0_9 p_0_10 p_0_11 p_0_12 p_0_13 p_0_14 st = some r) : At g0 w0 (S.enter 11 [.agg [L.int .i64 p_0_0, L.int .i64 p_0_1, L.int .i64 p_0_2, L.int .i64 p_0_3, L.bool p_0_4, L.sl 2 p_0_5, L.sl 33 p_0_6, L.arr .u64 4 p_0_7, L.arr .u64 4 p_0_8, L.int .i64 p_0_9, L.arr .u8 32 p_0_10, L.arr .u8 32 p_0_11, L.int .i64 p_0_12, L.int .i64 p_0_13, L.int .i64 p_0_14]] st) (exK Tryd.prog R [.c rule_Begin.B] .normal) := by
  unfold rule_Begin at h
  obtain ⟨⟨x1, x2, x3, x4, x5, x6, x7, st8⟩, c1, h1⟩ := optE_inv h; clear h
  obtain rfl := some_inv h1
  exact At.f fol hE 400 [.r [], .r [(7, {rs := [.agg [L.int .i64 x1, L.int .i64 x2, L.int .i64 x3, L.int .i64 x4, L.int .i64 x5, L.arr .u8 32 x6, L.sl 1 x7]], st := st8})]] [] 0 [] (rule_Behind.snd c1) (by kernel_rfl)
theorem rule_Begin.snd {N : Nat} {p_0_0 : Int} {p_0_1 : Int} {p_0_2 : Int} {p_0_3 : Int} {p_0_4 : Bool} {p_0_5 : List (List L)} {p_0_6 : List (List L)} {p_0_7 : List Int} {p_0_8 : List Int} {p_0_9 : Int} {p_0_10 : List Int} {p_0_11 : List Int} {p_0_12 : Int} {p_0_13 : Int} {p_0_14 : Int} {st : List (List L)} {r : Int × Int × Int × Int × Int × (List Int) × (List (List L)) × (List (List L))} (h : rule_Begin N p_0_0 p_0_1 p_0_2 p_0_3 p_0_4 p_0_5 p_0_6 p_0_7 p_0_8 p_0_9 p_0_10 p_0_11 p_0_12 p_0_13 p_0_14 st = some r) : Snd Tryd.prog 44 [.agg [L.int .i64 p_0_0, L.int .i64 p_0_1, L.int .i64 p_0_2, L.int .i64 p_0_3, L.bool p_0_4, L.sl 2 p_0_5, L.sl 33 p_0_6, L.arr .u64 4 p_0_7, L.arr .u64 4 p_0_8, L.int .i64 p_0_9, L.arr .u8 32 p_0_10, L.arr .u8 32 p_0_11, L.int .i64 p_0_12, L.int .i64 p_0_13, L.int .i64 p_0_14]] st (rule_Begin.rs r) (r.2.2.2.2.2.2.2) :=
  Snd.of (fn := Tryd.f44) (c := rule_Begin.B) Tryd.func44 (by kernel_rfl) (by kernel_rfl) (of_decide_eq_true (by kernel_rfl)) fun g w R hE => rule_Begin.at0 p_0_0 p_0_1 p_0_2 p_0_3 p_0_4 p_0_5 p_0_6 p_0_7 p_0_8 p_0_9 p_0_10 p_0_11 p_0_12 p_0_13 p_0_14 st hE h
/-! trailhead/whole.Add -/
noncomputable def whole_Add.B : Code := Tryd.f67.body.getD .skip
noncomputable def whole_Add.rs (r : (List Int) × Bool) : List CV := [.agg [L.arr .u64 4 r.1], .one (L.bool r.2)]
noncomputable def whole_Add.p1 (N : Nat)  (b_1_0 : List Int) (c1_ : (Int × Int × (List Int)) → Option ((List Int) × Bool)) : (Int × Int × (List Int)) → Option ((List Int) × Bool) := fun (c_1, v2, a_5) =>
  if (decide (v2 < 4)) = true then
    chk (0 ≤ v2) <|
    optE (bits_Add64 N (List.getD a_5 (Int.toNat v2) 0) (List.getD b_1_0 (Int.toNat v2) 0) c_1) fun (x6, x7) =>
    c1_ (x7, IntKind.wrap IntKind.i64 (v2 + 1), List.set a_5 (Int.toNat v2) x6)
  else
  some (a_5, c_1 != 0)
noncomputable def whole_Add (N : Nat) (a_0_0 : List Int) (b_1_0 : List Int) : Option ((List Int) × Bool) :=
  loopN (whole_Add.p1 N  b_1_0) N (0, 0, a_0_0)
noncomputable def whole_Add.p1.S (c_1 : Int) (v2 : Int) (a_5 : List Int) (b_1_0 : List Int) (st : List (List L)) : S := mkS 28 [(2, .one (.adr (.site 2) 0)), (3, .one (.adr (.site 3) 0)), (4, .one (.adr (.site 4) 0)), (6, .one (.l (L.int .u64 c_1))), (8, .one (.l (L.int .i64 v2)))] [(2, .cells [L.arr .u64 4 a_5]), (3, .cells [L.arr .u64 4 b_1_0]), (4, .cells [L.arr .u64 4 (List.replicate 4 0)])] st
theorem whole_Add.p1_ok (c_1 : Int) (v2 : Int) (a_5 : List Int) (b_1_0 : List Int) (st : List (List L)) {N : Nat} {r : (List Int) × Bool} {g0 : G} {w0 : World} {R : Exit → Act → World → Prop}  {c1_ : (Int × Int × (List Int)) → Option ((List Int) × Bool)}  {J1 : Act → World → Prop} (hE : Ends Tryd.prog Tryd.f67 g0 w0 (whole_Add.rs r) st R)  (hc1 : ∀ (c_1 : Int) (v2 : Int) (a_5 : List Int), c1_ (c_1, v2, a_5) = some r → At g0 w0 (whole_Add.p1.S c_1 v2 a_5 b_1_0 st) J1) (h : whole_Add.p1 N  b_1_0 c1_ (c_1, v2, a_5) = some r) : At g0 w0 (whole_Add.p1.S c_1 v2 a_5 b_1_0 st) (exK Tryd.prog R (.c (csub whole_Add.B [1, 1, 0, 1, 0, 0]) :: .h J1 :: [.b 0, .c (csub whole_Add.B [1, 1, 1])]) .normal) := by
  unfold whole_Add.p1 at h
  refine iteB h (fun c4 h1 => ?_) (fun c4 h2 => ?_) <;> clear h
  · obtain ⟨c5, h3⟩ := chk_inv h1; clear h1
    obtain ⟨⟨x6, x7⟩, c6, h4⟩ := optE_inv h3; clear h3
    exact At.nd fol 400 [.r [], .c true, .r [], .d {ds := [(8, {rs := [.one (L.int .u64 x6), .one (L.int .u64 x7)], m := 4})], hv := 8192, Hs := [8192]}, .r []] [2, 3, 4, 6, 8] [2, 3, 4] (And.intro c4 (And.intro c5 (And.intro (of_decide_eq_true c4) (And.intro c5 (And.intro (of_decide_eq_true c4) (And.intro (bits_Add64.snd c6) (And.intro c5 (of_decide_eq_true c4)))))))) (hc1 x7 (IntKind.wrap IntKind.i64 (v2 + 1)) (List.set a_5 (Int.toNat v2) x6) h4) (by kernel_rfl) (by kernel_rfl)
  · obtain rfl := some_inv h2
    exact At.f fol hE 400 [.r [], .c false, .r []] [] 0 [] c4 (by kernel_rfl)
theorem whole_Add.p1_loop (c_1 : Int) (v2 : Int) (a_5 : List Int) (b_1_0 : List Int) (st : List (List L)) {N : Nat} {r : (List Int) × Bool} {g0 : G} {w0 : World} {R : Exit → Act → World → Prop}   (hE : Ends Tryd.prog Tryd.f67 g0 w0 (whole_Add.rs r) st R)  (h : loopN (whole_Add.p1 N  b_1_0) N (c_1, v2, a_5) = some r) : At g0 w0 (whole_Add.p1.S c_1 v2 a_5 b_1_0 st) (exK Tryd.prog R (.c (.loop (csub whole_Add.B [1, 1, 0, 1, 0, 0])) :: [.b 0, .c (csub whole_Add.B [1, 1, 1])]) .normal) :=
  At.loop N (At.loopN (fun y : Int × Int × (List Int) => whole_Add.p1.S y.1 y.2.1 y.2.2 b_1_0 st) (fun c J hc y h => whole_Add.p1_ok y.1 y.2.1 y.2.2 b_1_0 st hE  (fun c_1 v2 a_5 hh => hc (c_1, v2, a_5) hh) h) N (c_1, v2, a_5) h)
theorem whole_Add.at0 (a_0_0 : List Int) (b_1_0 : List Int) (st : List (List L)) {N : Nat} {r : (List Int) × Bool} {g0 : G} {w0 : World} {R : Exit → Act → World → Prop} (hE : Ends Tryd.prog Tryd.f67 g0 w0 (whole_Add.rs r) st R) (h : whole_Add N a_0_0 b_1_0 = some r) : At g0 w0 (S.enter 28 [.agg [L.arr .u64 4 a_0_0], .agg [L.arr .u64 4 b_1_0]] st) (exK Tryd.prog R [.c whole_Add.B] .normal) := by
  unfold whole_Add at h
  exact At.q fol 400 [.r [], .r [], .r []] [2, 3, 4, 6, 8] [2, 3, 4] trivial (whole_Add.p1_loop 0 0 a_0_0 b_1_0 st hE  h) (by kernel_rfl)
theorem whole_Add.snd {N : Nat} {a_0_0 : List Int} {b_1_0 : List Int} {r : (List Int) × Bool} (h : whole_Add N a_0_0 b_1_0 = some r) : SndQ Tryd.prog 67 [.agg [L.arr .u64 4 a_0_0], .agg [L.arr .u64 4 b_1_0]] (whole_Add.rs r) := fun st =>
  Snd.of (fn := Tryd.f67) (c := whole_Add.B) Tryd.func67 (by kernel_rfl) (by kernel_rfl) (of_decide_eq_true (by kernel_rfl)) fun g w R hE => whole_Add.at0 a_0_0 b_1_0 st hE h
/-! trailhead/whole.Not -/
noncomputable def whole_Not.B : Code := Tryd.f69.body.getD .skip
noncomputable def whole_Not.rs (r : (List Int)) : List CV := [.agg [L.arr .u64 4 r]]
noncomputable def whole_Not.p1 (N : Nat)   (c1_ : (Int × (List Int)) → Option (List Int)) : (Int × (List Int)) → Option (List Int) := fun (v1, a_2) =>
  if (decide (v1 < 4)) = true then
    chk (0 ≤ v1) <|
    c1_ (IntKind.wrap IntKind.i64 (v1 + 1), List.set a_2 (Int.toNat v1) (bitsOf .xor .u64 (IntKind.max IntKind.u64) (List.getD a_2 (Int.toNat v1) 0)))
  else
  some a_2
noncomputable def whole_Not (N : Nat) (a_0_0 : List Int) : Option (List Int) :=
  loopN (whole_Not.p1 N  ) N (0, a_0_0)
noncomputable def whole_Not.p1.S (v1 : Int) (a_2 : List Int) (st : List (List L)) : S := mkS 15 [(1, .one (.adr (.site 1) 0)), (2, .one (.adr (.site 2) 0)), (4, .one (.l (L.int .i64 v1)))] [(1, .cells [L.arr .u64 4 a_2]), (2, .cells [L.arr .u64 4 (List.replicate 4 0)])] st
theorem whole_Not.p1_ok (v1 : Int) (a_2 : List Int) (st : List (List L)) {N : Nat} {r : (List Int)} {g0 : G} {w0 : World} {R : Exit → Act → World → Prop}  {c1_ : (Int × (List Int)) → Option (List Int)}  {J1 : Act → World → Prop} (hE : Ends Tryd.prog Tryd.f69 g0 w0 (whole_Not.rs r) st R)  (hc1 : ∀ (v1 : Int) (a_2 : List Int), c1_ (v1, a_2) = some r → At g0 w0 (whole_Not.p1.S v1 a_2 st) J1) (h : whole_Not.p1 N   c1_ (v1, a_2) = some r) : At g0 w0 (whole_Not.p1.S v1 a_2 st) (exK Tryd.prog R (.c (csub whole_Not.B [1, 0, 1, 0, 0]) :: .h J1 :: [.b 0, .c (csub whole_Not.B [1, 1])]) .normal) := by
  unfold whole_Not.p1 at h
  refine iteB h (fun c3 h1 => ?_) (fun c3 h2 => ?_) <;> clear h
  · obtain ⟨c4, h3⟩ := chk_inv h1; clear h1
    exact At.n fol 400 [.r [], .c true, .r [], .r [], .r []] [1, 2, 4] [1, 2] (And.intro c3 (And.intro c4 (And.intro (of_decide_eq_true c3) (And.intro c4 (of_decide_eq_true c3))))) (hc1 (IntKind.wrap IntKind.i64 (v1 + 1)) (List.set a_2 (Int.toNat v1) (bitsOf .xor .u64 (IntKind.max IntKind.u64) (List.getD a_2 (Int.toNat v1) 0))) h3) (by kernel_rfl)
  · obtain rfl := some_inv h2
    exact At.f fol hE 400 [.r [], .c false, .r []] [] 0 [] c3 (by kernel_rfl)
theorem whole_Not.p1_loop (v1 : Int) (a_2 : List Int) (st : List (List L)) {N : Nat} {r : (List Int)} {g0 : G} {w0 : World} {R : Exit → Act → World → Prop}   (hE : Ends Tryd.prog Tryd.f69 g0 w0 (whole_Not.rs r) st R)  (h : loopN (whole_Not.p1 N  ) N (v1, a_2) = some r) : At g0 w0 (whole_Not.p1.S v1 a_2 st) (exK Tryd.prog R (.c (.loop (csub whole_Not.B [1, 0, 1, 0, 0])) :: [.b 0, .c (csub whole_Not.B [1, 1])]) .normal) :=
  At.loop N (At.loopN (fun y : Int × (List Int) => whole_Not.p1.S y.1 y.2 st) (fun c J hc y h => whole_Not.p1_ok y.1 y.2 st hE  (fun v1 a_2 hh => hc (v1, a_2) hh) h) N (v1, a_2) h)
theorem whole_Not.at0 (a_0_0 : List Int) (st : List (List L)) {N : Nat} {r : (List Int)} {g0 : G} {w0 : World} {R : Exit → Act → World → Prop} (hE : Ends Tryd.prog Tryd.f69 g0 w0 (whole_Not.rs r) st R) (h : whole_Not N a_0_0 = some r) : At g0 w0 (S.enter 15 [.agg [L.arr .u64 4 a_0_0]] st) (exK Tryd.prog R [.c whole_Not.B] .normal) := by
  unfold whole_Not at h
  exact At.q fol 400 [.r [], .r []] [1, 2, 4] [1, 2] trivial (whole_Not.p1_loop 0 a_0_0 st hE  h) (by kernel_rfl)
theorem whole_Not.snd {N : Nat} {a_0_0 : List Int} {r : (List Int)} (h : whole_Not N a_0_0 = some r) : SndQ Tryd.prog 69 [.agg [L.arr .u64 4 a_0_0]] (whole_Not.rs r) := fun st =>
  Snd.of (fn := Tryd.f69) (c := whole_Not.B) Tryd.func69 (by kernel_rfl) (by kernel_rfl) (of_decide_eq_true (by kernel_rfl)) fun g w R hE => whole_Not.at0 a_0_0 st hE h
/-! math/bits.Len64 -/
noncomputable def math_bits_Len64.B : Code := Tryd.f79.body.getD .skip
noncomputable def math_bits_Len64.rs (r : Int) : List CV := [.one (L.int .i64 r)]
noncomputable def math_bits_Len64.p3 (N : Nat)  (x_5 : Int) (n_6 : Int) : Option Int :=
  chk (0 ≤ (IntKind.wrap IntKind.u8 (x_5))) <|
  chk ((IntKind.wrap IntKind.u8 (x_5)) < ((ByteArray.size (ByteArray.mk #[0, 1, 2, 2, 3, 3, 3, 3, 4, 4, 4, 4, 4, 4, 4, 4, 5, 5, 5, 5, 5, 5, 5, 5, 5, 5, 5, 5, 5, 5, 5, 5, 6, 6, 6, 6, 6, 6, 6, 6, 6, 6, 6, 6, 6, 6, 6, 6, 6, 6, 6, 6, 6, 6, 6, 6, 6, 6, 6, 6, 6, 6, 6, 6, 7, 7, 7, 7, 7, 7, 7, 7, 7, 7, 7, 7, 7, 7, 7, 7, 7, 7, 7, 7, 7, 7, 7, 7, 7, 7, 7, 7, 7, 7, 7, 7, 7, 7, 7, 7, 7, 7, 7, 7, 7, 7, 7, 7, 7, 7, 7, 7, 7, 7, 7, 7, 7, 7, 7, 7, 7, 7, 7, 7, 7, 7, 7, 7, 8, 8, 8, 8, 8, 8, 8, 8, 8, 8, 8, 8, 8, 8, 8, 8, 8, 8, 8, 8, 8, 8, 8, 8, 8, 8, 8, 8, 8, 8, 8, 8, 8, 8, 8, 8, 8, 8, 8, 8, 8, 8, 8, 8, 8, 8, 8, 8, 8, 8, 8, 8, 8, 8, 8, 8, 8, 8, 8, 8, 8, 8, 8, 8, 8, 8, 8, 8, 8, 8, 8, 8, 8, 8, 8, 8, 8, 8, 8, 8, 8, 8, 8, 8, 8, 8, 8, 8, 8, 8, 8, 8, 8, 8, 8, 8, 8, 8, 8, 8, 8, 8, 8, 8, 8, 8, 8, 8, 8, 8, 8, 8, 8, 8, 8, 8, 8, 8, 8, 8, 8, 8, 8, 8, 8, 8, 8, 8]) : Nat) : Int)) <|
  some (IntKind.wrap IntKind.i64 (n_6 + (IntKind.wrap IntKind.i64 (((UInt8.toNat (List.getD (Array.toList (ByteArray.data (ByteArray.mk #[0, 1, 2, 2, 3, 3, 3, 3, 4, 4, 4, 4, 4, 4, 4, 4, 5, 5, 5, 5, 5, 5, 5, 5, 5, 5, 5, 5, 5, 5, 5, 5, 6, 6, 6, 6, 6, 6, 6, 6, 6, 6, 6, 6, 6, 6, 6, 6, 6, 6, 6, 6, 6, 6, 6, 6, 6, 6, 6, 6, 6, 6, 6, 6, 7, 7, 7, 7, 7, 7, 7, 7, 7, 7, 7, 7, 7, 7, 7, 7, 7, 7, 7, 7, 7, 7, 7, 7, 7, 7, 7, 7, 7, 7, 7, 7, 7, 7, 7, 7, 7, 7, 7, 7, 7, 7, 7, 7, 7, 7, 7, 7, 7, 7, 7, 7, 7, 7, 7, 7, 7, 7, 7, 7, 7, 7, 7, 7, 8, 8, 8, 8, 8, 8, 8, 8, 8, 8, 8, 8, 8, 8, 8, 8, 8, 8, 8, 8, 8, 8, 8, 8, 8, 8, 8, 8, 8, 8, 8, 8, 8, 8, 8, 8, 8, 8, 8, 8, 8, 8, 8, 8, 8, 8, 8, 8, 8, 8, 8, 8, 8, 8, 8, 8, 8, 8, 8, 8, 8, 8, 8, 8, 8, 8, 8, 8, 8, 8, 8, 8, 8, 8, 8, 8, 8, 8, 8, 8, 8, 8, 8, 8, 8, 8, 8, 8, 8, 8, 8, 8, 8, 8, 8, 8, 8, 8, 8, 8, 8, 8, 8, 8, 8, 8, 8, 8, 8, 8, 8, 8, 8, 8, 8, 8, 8, 8, 8, 8, 8, 8, 8, 8, 8, 8, 8, 8]))) (Int.toNat (IntKind.wrap IntKind.u8 (x_5))) 0) : Nat) : Int)))))
noncomputable def math_bits_Len64.p2 (N : Nat)  (x_3 : Int) (n_4 : Int) : Option Int :=
  if (decide (x_3 ≥ 256)) = true then
    math_bits_Len64.p3 N  (shrOf .u64 x_3 8) (IntKind.wrap IntKind.i64 (n_4 + 8))
  else
  math_bits_Len64.p3 N  x_3 n_4
noncomputable def math_bits_Len64.p1 (N : Nat)  (x_1 : Int) (n_2 : Int) : Option Int :=
  if (decide (x_1 ≥ 65536)) = true then
    math_bits_Len64.p2 N  (shrOf .u64 x_1 16) (IntKind.wrap IntKind.i64 (n_2 + 16))
  else
  math_bits_Len64.p2 N  x_1 n_2
noncomputable def math_bits_Len64 (N : Nat) (x_0 : Int) : Option Int :=
  if (decide (x_0 ≥ 4294967296)) = true then
    math_bits_Len64.p1 N  (shrOf .u64 x_0 32) 32
  else
  math_bits_Len64.p1 N  x_0 0
noncomputable def math_bits_Len64.p3.S (x_5 : Int) (n_6 : Int) (st : List (List L)) : S := mkS 25 [(0, .one (.l (L.int .u64 x_5))), (2, .one (.l (L.int .i64 n_6)))] [] st
noncomputable def math_bits_Len64.p2.S (x_3 : Int) (n_4 : Int) (st : List (List L)) : S := mkS 25 [(0, .one (.l (L.int .u64 x_3))), (2, .one (.l (L.int .i64 n_4)))] [] st
noncomputable def math_bits_Len64.p1.S (x_1 : Int) (n_2 : Int) (st : List (List L)) : S := mkS 25 [(0, .one (.l (L.int .u64 x_1))), (2, .one (.l (L.int .i64 n_2)))] [] st
theorem math_bits_Len64.p3_ok (x_5 : Int) (n_6 : Int) (st : List (List L)) {N : Nat} {r : Int} {g0 : G} {w0 : World} {R : Exit → Act → World → Prop}   (hE : Ends Tryd.prog Tryd.f79 g0 w0 (math_bits_Len64.rs r) st R)  (h : math_bits_Len64.p3 N  x_5 n_6 = some r) : At g0 w0 (math_bits_Len64.p3.S x_5 n_6 st) (exK Tryd.prog R [.c (csub math_bits_Len64.B [1, 1, 1, 1])] .normal) := by
  unfold math_bits_Len64.p3 at h
  obtain ⟨c4, h1⟩ := chk_inv h; clear h
  obtain ⟨c5, h2⟩ := chk_inv h1; clear h1
  obtain rfl := some_inv h2
  exact At.f fol hE 400 [.r []] [] 0 [] (And.intro c4 c5) (by kernel_rfl)
theorem math_bits_Len64.p2_ok (x_3 : Int) (n_4 : Int) (st : List (List L)) {N : Nat} {r : Int} {g0 : G} {w0 : World} {R : Exit → Act → World → Prop}   (hE : Ends Tryd.prog Tryd.f79 g0 w0 (math_bits_Len64.rs r) st R)  (h : math_bits_Len64.p2 N  x_3 n_4 = some r) : At g0 w0 (math_bits_Len64.p2.S x_3 n_4 st) (exK Tryd.prog R [.c (csub math_bits_Len64.B [1, 1, 1])] .normal) := by
  unfold math_bits_Len64.p2 at h
  refine iteB h (fun c3 h3 => ?_) (fun c3 h4 => ?_) <;> clear h
  · exact At.q fol 400 [.r [], .c true, .r [], .r [], .s 1] [0, 2] [] (And.intro c3 (by decide : (0 : Int) ≤ 8)) (math_bits_Len64.p3_ok (shrOf .u64 x_3 8) (IntKind.wrap IntKind.i64 (n_4 + 8)) st hE  h3) (by kernel_rfl)
  · exact At.q fol 400 [.r [], .c false, .s 1] [0, 2] [] c3 (math_bits_Len64.p3_ok x_3 n_4 st hE  h4) (by kernel_rfl)
theorem math_bits_Len64.p1_ok (x_1 : Int) (n_2 : Int) (st : List (List L)) {N : Nat} {r : Int} {g0 : G} {w0 : World} {R : Exit → Act → World → Prop}   (hE : Ends Tryd.prog Tryd.f79 g0 w0 (math_bits_Len64.rs r) st R)  (h : math_bits_Len64.p1 N  x_1 n_2 = some r) : At g0 w0 (math_bits_Len64.p1.S x_1 n_2 st) (exK Tryd.prog R [.c (csub math_bits_Len64.B [1, 1])] .normal) := by
  unfold math_bits_Len64.p1 at h
  refine iteB h (fun c2 h5 => ?_) (fun c2 h6 => ?_) <;> clear h
  · exact At.q fol 400 [.r [], .c true, .r [], .r [], .s 1] [0, 2] [] (And.intro c2 (by decide : (0 : Int) ≤ 16)) (math_bits_Len64.p2_ok (shrOf .u64 x_1 16) (IntKind.wrap IntKind.i64 (n_2 + 16)) st hE  h5) (by kernel_rfl)
  · exact At.q fol 400 [.r [], .c false, .s 1] [0, 2] [] c2 (math_bits_Len64.p2_ok x_1 n_2 st hE  h6) (by kernel_rfl)
theorem math_bits_Len64.at0 (x_0 : Int) (st : List (List L)) {N : Nat} {r : Int} {g0 : G} {w0 : World} {R : Exit → Act → World → Prop} (hE : Ends Tryd.prog Tryd.f79 g0 w0 (math_bits_Len64.rs r) st R) (h : math_bits_Len64 N x_0 = some r) : At g0 w0 (S.enter 25 [.one (L.int .u64 x_0)] st) (exK Tryd.prog R [.c math_bits_Len64.B] .normal) := by
  unfold math_bits_Len64 at h
  refine iteB h (fun c1 h7 => ?_) (fun c1 h8 => ?_) <;> clear h
  · exact At.q fol 400 [.r [], .r [], .c true, .r [], .r [], .s 1] [0, 2] [] (And.intro c1 (by decide : (0 : Int) ≤ 32)) (math_bits_Len64.p1_ok (shrOf .u64 x_0 32) 32 st hE  h7) (by kernel_rfl)
  · exact At.q fol 400 [.r [], .r [], .c false, .s 1] [0, 2] [] c1 (math_bits_Len64.p1_ok x_0 0 st hE  h8) (by kernel_rfl)
theorem math_bits_Len64.snd {N : Nat} {x_0 : Int} {r : Int} (h : math_bits_Len64 N x_0 = some r) : SndQ Tryd.prog 79 [.one (L.int .u64 x_0)] (math_bits_Len64.rs r) := fun st =>
  Snd.of (fn := Tryd.f79) (c := math_bits_Len64.B) Tryd.func79 (by kernel_rfl) (by kernel_rfl) (of_decide_eq_true (by kernel_rfl)) fun g w R hE => math_bits_Len64.at0 x_0 st hE h
/-! trailhead/whole.Len -/
noncomputable def whole_Len.B : Code := Tryd.f74.body.getD .skip
noncomputable def whole_Len.rs (r : Int) : List CV := [.one (L.int .i64 r)]
noncomputable def whole_Len.p1 (N : Nat)  (a_0_0 : List Int) (c1_ : Int → Option Int) : Int → Option Int := fun i_1 =>
  if (decide (i_1 ≥ 0)) = true then
    chk (0 ≤ i_1) <|
    chk (i_1 < 4) <|
    if ((List.getD a_0_0 (Int.toNat i_1) 0) != 0) = true then
      optE (math_bits_Len64 N (List.getD a_0_0 (Int.toNat i_1) 0)) fun x2 =>
      some (IntKind.wrap IntKind.i64 ((IntKind.wrap IntKind.i64 (64 * i_1)) + x2))
    else
    c1_ (IntKind.wrap IntKind.i64 (i_1 - 1))
  else
  some 0
noncomputable def whole_Len (N : Nat) (a_0_0 : List Int) : Option Int :=
  loopN (whole_Len.p1 N  a_0_0) N 3
noncomputable def whole_Len.p1.S (i_1 : Int) (a_0_0 : List Int) (st : List (List L)) : S := mkS 19 [(1, .one (.adr (.site 1) 0)), (3, .one (.l (L.int .i64 i_1)))] [(1, .cells [L.arr .u64 4 a_0_0])] st
theorem whole_Len.p1_ok (i_1 : Int) (a_0_0 : List Int) (st : List (List L)) {N : Nat} {r : Int} {g0 : G} {w0 : World} {R : Exit → Act → World → Prop}  {c1_ : Int → Option Int}  {J1 : Act → World → Prop} (hE : Ends Tryd.prog Tryd.f74 g0 w0 (whole_Len.rs r) st R)  (hc1 : ∀ (i_1 : Int), c1_ i_1 = some r → At g0 w0 (whole_Len.p1.S i_1 a_0_0 st) J1) (h : whole_Len.p1 N  a_0_0 c1_ i_1 = some r) : At g0 w0 (whole_Len.p1.S i_1 a_0_0 st) (exK Tryd.prog R (.c (csub whole_Len.B [1, 0, 1, 0, 0]) :: .h J1 :: [.b 0, .c (csub whole_Len.B [1, 1])]) .normal) := by
  unfold whole_Len.p1 at h
  refine iteB h (fun c1 h1 => ?_) (fun c1 h2 => ?_) <;> clear h
  · obtain ⟨c2, h3⟩ := chk_inv h1; clear h1
    obtain ⟨c3, h4⟩ := chk_inv h3; clear h3
    refine iteB h4 (fun c4 h5 => ?_) (fun c4 h6 => ?_) <;> clear h4
    · obtain ⟨x2, c5, h7⟩ := optE_inv h5; clear h5
      obtain rfl := some_inv h7
      exact At.f fol hE 400 [.r [], .c true, .r [], .c true, .r [(5, {rs := [.one (L.int .i64 x2)], m := 1})]] [] 0 [] (And.intro c1 (And.intro c2 (And.intro c3 (And.intro c4 (And.intro c2 (And.intro c3 (math_bits_Len64.snd c5))))))) (by kernel_rfl)
    · exact At.n fol 400 [.r [], .c true, .r [], .c false, .r []] [1, 3] [1] (And.intro c1 (And.intro c2 (And.intro c3 c4))) (hc1 (IntKind.wrap IntKind.i64 (i_1 - 1)) h6) (by kernel_rfl)
  · obtain rfl := some_inv h2
    exact At.f fol hE 400 [.r [], .c false, .r []] [] 0 [] c1 (by kernel_rfl)
theorem whole_Len.p1_loop (i_1 : Int) (a_0_0 : List Int) (st : List (List L)) {N : Nat} {r : Int} {g0 : G} {w0 : World} {R : Exit → Act → World → Prop}   (hE : Ends Tryd.prog Tryd.f74 g0 w0 (whole_Len.rs r) st R)  (h : loopN (whole_Len.p1 N  a_0_0) N i_1 = some r) : At g0 w0 (whole_Len.p1.S i_1 a_0_0 st) (exK Tryd.prog R (.c (.loop (csub whole_Len.B [1, 0, 1, 0, 0])) :: [.b 0, .c (csub whole_Len.B [1, 1])]) .normal) :=
  At.loop N (At.loopN (fun y : Int => whole_Len.p1.S y a_0_0 st) (fun c J hc y h => whole_Len.p1_ok y a_0_0 st hE  (fun i_1 hh => hc i_1 hh) h) N i_1 h)
theorem whole_Len.at0 (a_0_0 : List Int) (st : List (List L)) {N : Nat} {r : Int} {g0 : G} {w0 : World} {R : Exit → Act → World → Prop} (hE : Ends Tryd.prog Tryd.f74 g0 w0 (whole_Len.rs r) st R) (h : whole_Len N a_0_0 = some r) : At g0 w0 (S.enter 19 [.agg [L.arr .u64 4 a_0_0]] st) (exK Tryd.prog R [.c whole_Len.B] .normal) := by
  unfold whole_Len at h
  exact At.q fol 400 [.r [], .r []] [1, 3] [1] trivial (whole_Len.p1_loop 3 a_0_0 st hE  h) (by kernel_rfl)
theorem whole_Len.snd {N : Nat} {a_0_0 : List Int} {r : Int} (h : whole_Len N a_0_0 = some r) : SndQ Tryd.prog 74 [.agg [L.arr .u64 4 a_0_0]] (whole_Len.rs r) := fun st =>
  Snd.of (fn := Tryd.f74) (c := whole_Len.B) Tryd.func74 (by kernel_rfl) (by kernel_rfl) (of_decide_eq_true (by kernel_rfl)) fun g w R hE => whole_Len.at0 a_0_0 st hE h
end Go.Dn.F
