/- Contracts of functions of the program, as shallow functions, and their proofs. -/
import Derived.Test.YtbplamjmmjnibaaDoorProg
import Derived.Test.YtbplamjmmjnibaaDoorKc
set_option linter.all false
set_option maxRecDepth 100000
namespace Go.Dn.F
open Go.Proofs
noncomputable def glob_digest_steps : List Int := [1116352408, 1899447441, 3049323471, 3921009573, 961987163, 1508970993, 2453635748, 2870763221, 3624381080, 310598401, 607225278, 1426881987, 1925078388, 2162078206, 2614888103, 3248222580, 3835390401, 4022224774, 264347078, 604807628, 770255983, 1249150122, 1555081692, 1996064986, 2554220882, 2821834349, 2952996808, 3210313671, 3336571891, 3584528711, 113926993, 338241895, 666307205, 773529912, 1294757372, 1396182291, 1695183700, 1986661051, 2177026350, 2456956037, 2730485921, 2820302411, 3259730800, 3345764771, 3516065817, 3600352804, 4094571909, 275423344, 430227734, 506948616, 659060556, 883997877, 958139571, 1322822218, 1537002063, 1747873779, 1955562222, 2024104815, 2227730452, 2361852424, 2428436474, 2756734187, 3204031479, 3329325298]
noncomputable def glob_digest_starts : List Int := [1779033703, 3144134277, 1013904242, 2773480762, 1359893119, 2600822924, 528734635, 1541459225]
noncomputable instance glob : Globs := ⟨fun k => match k with
  | 0 => some [L.arr .u32 8 glob_digest_starts]
  | 3 => some [L.arr .u32 64 glob_digest_steps]
  | _ => none⟩
theorem fol : Tryd.prog.follows .mixedOrders = true := by kernel_rfl
abbrev En (f : Func) (g0 : G) (w0 : World) (rs : List CV) (st : LL) (R : Exit → Act → World → Prop) : Prop := Ends Tryd.prog f g0 w0 rs st R
variable {N : Nat} {g0 : G} {w0 : World} {R : Exit → Act → World → Prop}
structure api_Header where
  Version : Int
  Prev : List Int
  Root : List Int
  Time : Int
  Bits : Int
  Nonce : Int
noncomputable def api_Header.ls (x : api_Header) : List L := [L.int .i64 x.Version, L.arr .u8 32 x.Prev, L.arr .u8 32 x.Root, L.int .i64 x.Time, L.int .i64 x.Bits, L.int .i64 x.Nonce]
noncomputable def dec_api_Header {α : Type} (l : List L) (k : api_Header → Option α) : Option α := match l with
  | [L.int .i64 x0, L.arr .u8 32 x1, L.arr .u8 32 x2, L.int .i64 x3, L.int .i64 x4, L.int .i64 x5] => k ⟨x0, x1, x2, x3, x4, x5⟩
  | _ => none
theorem dec_api_Header_get {α : Type} {o : Option (List L)} {k : api_Header → Option α} {r : α} (h : getE o dec_api_Header k = some r) : ∃ x : api_Header, o = some x.ls ∧ k x = some r := by
  obtain ⟨l, e, k1⟩ := optE_inv h; subst e; unfold dec_api_Header at k1; split at k1
  · exact ⟨_, rfl, k1⟩
  · cases k1
@[simp] theorem dec_api_Header_ls {α : Type} (x : api_Header) (k : api_Header → Option α) : dec_api_Header x.ls k = k x := rfl
theorem api_Header.bv {st : LL} (x : api_Header) : BVs st x.ls x.ls := (bP (bP (bP (bP (bP (bP bN))))))
structure digest_Hasher where
  state : List Int
  rest : LL
  size : Int
noncomputable def digest_Hasher.lo (x : digest_Hasher) : List L := [L.arr .u32 8 x.state, L.own false 1 x.rest, L.int .u64 x.size]
noncomputable def dec_digest_Hasher_o {α : Type} (l : List L) (k : digest_Hasher → Option α) : Option α := match l with
  | [L.arr .u32 8 x0, L.own false 1 x1, L.int .u64 x2] => k ⟨x0, x1, x2⟩
  | _ => none
theorem dec_digest_Hasher_o_get {α : Type} {o : Option (List L)} {k : digest_Hasher → Option α} {r : α} (h : getE o dec_digest_Hasher_o k = some r) : ∃ x : digest_Hasher, o = some x.lo ∧ k x = some r := by
  obtain ⟨l, e, k1⟩ := optE_inv h; subst e; unfold dec_digest_Hasher_o at k1; split at k1
  · exact ⟨_, rfl, k1⟩
  · cases k1
@[simp] theorem dec_digest_Hasher_o_ls {α : Type} (x : digest_Hasher) (k : digest_Hasher → Option α) : dec_digest_Hasher_o x.lo k = k x := rfl
noncomputable def digest_Hasher.ls (x : digest_Hasher) : List L := [L.arr .u32 8 x.state, L.sl 1 x.rest, L.int .u64 x.size]
noncomputable def dec_digest_Hasher {α : Type} (l : List L) (k : digest_Hasher → Option α) : Option α := match l with
  | [L.arr .u32 8 x0, L.sl 1 x1, L.int .u64 x2] => k ⟨x0, x1, x2⟩
  | _ => none
theorem dec_digest_Hasher_get {α : Type} {o : Option (List L)} {k : digest_Hasher → Option α} {r : α} (h : getE o dec_digest_Hasher k = some r) : ∃ x : digest_Hasher, o = some x.ls ∧ k x = some r := by
  obtain ⟨l, e, k1⟩ := optE_inv h; subst e; unfold dec_digest_Hasher at k1; split at k1
  · exact ⟨_, rfl, k1⟩
  · cases k1
@[simp] theorem dec_digest_Hasher_ls {α : Type} (x : digest_Hasher) (k : digest_Hasher → Option α) : dec_digest_Hasher x.ls k = k x := rfl
theorem digest_Hasher.bv {st : LL} (x : digest_Hasher) : BVs st x.lo x.ls := (bP (bW (bP bN)))
structure api_Params where
  Limit : Int
  Interval : Int
  Spacing : Int
  Future : Int
  Easy : Bool
  Gates : LL
  Checks : LL
  MinWork : List Int
  Margin : List Int
  Genesis : api_Header
noncomputable def api_Params.ls (x : api_Params) : List L := [L.int .i64 x.Limit, L.int .i64 x.Interval, L.int .i64 x.Spacing, L.int .i64 x.Future, L.bool x.Easy, L.sl 2 x.Gates, L.sl 33 x.Checks, L.arr .u64 4 x.MinWork, L.arr .u64 4 x.Margin, L.int .i64 x.Genesis.Version, L.arr .u8 32 x.Genesis.Prev, L.arr .u8 32 x.Genesis.Root, L.int .i64 x.Genesis.Time, L.int .i64 x.Genesis.Bits, L.int .i64 x.Genesis.Nonce]
noncomputable def dec_api_Params {α : Type} (l : List L) (k : api_Params → Option α) : Option α := match l with
  | [L.int .i64 x0, L.int .i64 x1, L.int .i64 x2, L.int .i64 x3, L.bool x4, L.sl 2 x5, L.sl 33 x6, L.arr .u64 4 x7, L.arr .u64 4 x8, L.int .i64 x9, L.arr .u8 32 x10, L.arr .u8 32 x11, L.int .i64 x12, L.int .i64 x13, L.int .i64 x14] => k ⟨x0, x1, x2, x3, x4, x5, x6, x7, x8, ⟨x9, x10, x11, x12, x13, x14⟩⟩
  | _ => none
theorem dec_api_Params_get {α : Type} {o : Option (List L)} {k : api_Params → Option α} {r : α} (h : getE o dec_api_Params k = some r) : ∃ x : api_Params, o = some x.ls ∧ k x = some r := by
  obtain ⟨l, e, k1⟩ := optE_inv h; subst e; unfold dec_api_Params at k1; split at k1
  · exact ⟨_, rfl, k1⟩
  · cases k1
@[simp] theorem dec_api_Params_ls {α : Type} (x : api_Params) (k : api_Params → Option α) : dec_api_Params x.ls k = k x := rfl
structure pace_Point where
  Height : Int
  Bits : Int
  Time : Int
  First : Int
  Hard : Int
noncomputable def pace_Point.ls (x : pace_Point) : List L := [L.int .i64 x.Height, L.int .i64 x.Bits, L.int .i64 x.Time, L.int .i64 x.First, L.int .i64 x.Hard]
noncomputable def dec_pace_Point {α : Type} (l : List L) (k : pace_Point → Option α) : Option α := match l with
  | [L.int .i64 x0, L.int .i64 x1, L.int .i64 x2, L.int .i64 x3, L.int .i64 x4] => k ⟨x0, x1, x2, x3, x4⟩
  | _ => none
theorem dec_pace_Point_get {α : Type} {o : Option (List L)} {k : pace_Point → Option α} {r : α} (h : getE o dec_pace_Point k = some r) : ∃ x : pace_Point, o = some x.ls ∧ k x = some r := by
  obtain ⟨l, e, k1⟩ := optE_inv h; subst e; unfold dec_pace_Point at k1; split at k1
  · exact ⟨_, rfl, k1⟩
  · cases k1
@[simp] theorem dec_pace_Point_ls {α : Type} (x : pace_Point) (k : pace_Point → Option α) : dec_pace_Point x.ls k = k x := rfl
theorem pace_Point.bv {st : LL} (x : pace_Point) : BVs st x.ls x.ls := (bP (bP (bP (bP (bP bN)))))
structure rule_Spot where
  Point : pace_Point
  Prev : List Int
  Times : LL
noncomputable def rule_Spot.ls (x : rule_Spot) : List L := [L.int .i64 x.Point.Height, L.int .i64 x.Point.Bits, L.int .i64 x.Point.Time, L.int .i64 x.Point.First, L.int .i64 x.Point.Hard, L.arr .u8 32 x.Prev, L.sl 1 x.Times]
noncomputable def dec_rule_Spot {α : Type} (l : List L) (k : rule_Spot → Option α) : Option α := match l with
  | [L.int .i64 x0, L.int .i64 x1, L.int .i64 x2, L.int .i64 x3, L.int .i64 x4, L.arr .u8 32 x5, L.sl 1 x6] => k ⟨⟨x0, x1, x2, x3, x4⟩, x5, x6⟩
  | _ => none
theorem dec_rule_Spot_get {α : Type} {o : Option (List L)} {k : rule_Spot → Option α} {r : α} (h : getE o dec_rule_Spot k = some r) : ∃ x : rule_Spot, o = some x.ls ∧ k x = some r := by
  obtain ⟨l, e, k1⟩ := optE_inv h; subst e; unfold dec_rule_Spot at k1; split at k1
  · exact ⟨_, rfl, k1⟩
  · cases k1
@[simp] theorem dec_rule_Spot_ls {α : Type} (x : rule_Spot) (k : rule_Spot → Option α) : dec_rule_Spot x.ls k = k x := rfl
noncomputable def rule_Spot.lo (x : rule_Spot) : List L := [L.int .i64 x.Point.Height, L.int .i64 x.Point.Bits, L.int .i64 x.Point.Time, L.int .i64 x.Point.First, L.int .i64 x.Point.Hard, L.arr .u8 32 x.Prev, L.own true 1 x.Times]
noncomputable def dec_rule_Spot_o {α : Type} (l : List L) (k : rule_Spot → Option α) : Option α := match l with
  | [L.int .i64 x0, L.int .i64 x1, L.int .i64 x2, L.int .i64 x3, L.int .i64 x4, L.arr .u8 32 x5, L.own true 1 x6] => k ⟨⟨x0, x1, x2, x3, x4⟩, x5, x6⟩
  | _ => none
theorem dec_rule_Spot_o_get {α : Type} {o : Option (List L)} {k : rule_Spot → Option α} {r : α} (h : getE o dec_rule_Spot_o k = some r) : ∃ x : rule_Spot, o = some x.lo ∧ k x = some r := by
  obtain ⟨l, e, k1⟩ := optE_inv h; subst e; unfold dec_rule_Spot_o at k1; split at k1
  · exact ⟨_, rfl, k1⟩
  · cases k1
@[simp] theorem dec_rule_Spot_o_ls {α : Type} (x : rule_Spot) (k : rule_Spot → Option α) : dec_rule_Spot_o x.lo k = k x := rfl
theorem rule_Spot.bv {st : LL} (x : rule_Spot) : BVs st x.lo x.ls := (bP (bP (bP (bP (bP (bP (bW bN)))))))
noncomputable def dec_i64 {α : Type} (l : List L) (k : Int → Option α) : Option α := match l with
  | [L.int .i64 x0] => k x0
  | _ => none
theorem dec_i64_inv {α : Type} {l : List L} {k : Int → Option α} {r : α} (h : dec_i64 l k = some r) : ∃ x0, l = [L.int .i64 x0] ∧ k x0 = some r := by
  unfold dec_i64 at h; split at h
  · exact ⟨_, rfl, h⟩
  · cases h
theorem dec_i64_get {α : Type} {o : Option (List L)} {k : Int → Option α} {r : α} (h : getE o dec_i64 k = some r) : ∃ x0, o = some [L.int .i64 x0] ∧ k x0 = some r := by
  obtain ⟨l, e, k1⟩ := optE_inv h; subst e; unfold dec_i64 at k1; split at k1
  · exact ⟨_, rfl, k1⟩
  · cases k1
@[simp] theorem dec_i64_ls {α : Type} (x0 : Int) (k : Int → Option α) : dec_i64 [L.int .i64 x0] k = k x0 := rfl
noncomputable def dec_o1 {α : Type} (l : List L) (k : LL → Option α) : Option α := match l with
  | [L.own true 1 x0] => k x0
  | _ => none
theorem dec_o1_inv {α : Type} {l : List L} {k : LL → Option α} {r : α} (h : dec_o1 l k = some r) : ∃ x0, l = [L.own true 1 x0] ∧ k x0 = some r := by
  unfold dec_o1 at h; split at h
  · exact ⟨_, rfl, h⟩
  · cases h
theorem dec_o1_get {α : Type} {o : Option (List L)} {k : LL → Option α} {r : α} (h : getE o dec_o1 k = some r) : ∃ x0, o = some [L.own true 1 x0] ∧ k x0 = some r := by
  obtain ⟨l, e, k1⟩ := optE_inv h; subst e; unfold dec_o1 at k1; split at k1
  · exact ⟨_, rfl, k1⟩
  · cases k1
@[simp] theorem dec_o1_ls {α : Type} (x0 : LL) (k : LL → Option α) : dec_o1 [L.own true 1 x0] k = k x0 := rfl
noncomputable def dec_u8x32 {α : Type} (l : List L) (k : (List Int) → Option α) : Option α := match l with
  | [L.arr .u8 32 x0] => k x0
  | _ => none
theorem dec_u8x32_inv {α : Type} {l : List L} {k : (List Int) → Option α} {r : α} (h : dec_u8x32 l k = some r) : ∃ x0, l = [L.arr .u8 32 x0] ∧ k x0 = some r := by
  unfold dec_u8x32 at h; split at h
  · exact ⟨_, rfl, h⟩
  · cases h
theorem dec_u8x32_get {α : Type} {o : Option (List L)} {k : (List Int) → Option α} {r : α} (h : getE o dec_u8x32 k = some r) : ∃ x0, o = some [L.arr .u8 32 x0] ∧ k x0 = some r := by
  obtain ⟨l, e, k1⟩ := optE_inv h; subst e; unfold dec_u8x32 at k1; split at k1
  · exact ⟨_, rfl, k1⟩
  · cases k1
@[simp] theorem dec_u8x32_ls {α : Type} (x0 : List Int) (k : (List Int) → Option α) : dec_u8x32 [L.arr .u8 32 x0] k = k x0 := rfl
noncomputable def dec_t {α : Type} (l : List L) (k : ByteArray → Option α) : Option α := match l with
  | [L.str x0] => k x0
  | _ => none
theorem dec_t_inv {α : Type} {l : List L} {k : ByteArray → Option α} {r : α} (h : dec_t l k = some r) : ∃ x0, l = [L.str x0] ∧ k x0 = some r := by
  unfold dec_t at h; split at h
  · exact ⟨_, rfl, h⟩
  · cases h
theorem dec_t_get {α : Type} {o : Option (List L)} {k : ByteArray → Option α} {r : α} (h : getE o dec_t k = some r) : ∃ x0, o = some [L.str x0] ∧ k x0 = some r := by
  obtain ⟨l, e, k1⟩ := optE_inv h; subst e; unfold dec_t at k1; split at k1
  · exact ⟨_, rfl, k1⟩
  · cases k1
@[simp] theorem dec_t_ls {α : Type} (x0 : ByteArray) (k : ByteArray → Option α) : dec_t [L.str x0] k = k x0 := rfl
noncomputable def dec_u8 {α : Type} (l : List L) (k : Int → Option α) : Option α := match l with
  | [L.int .u8 x0] => k x0
  | _ => none
theorem dec_u8_inv {α : Type} {l : List L} {k : Int → Option α} {r : α} (h : dec_u8 l k = some r) : ∃ x0, l = [L.int .u8 x0] ∧ k x0 = some r := by
  unfold dec_u8 at h; split at h
  · exact ⟨_, rfl, h⟩
  · cases h
theorem dec_u8_get {α : Type} {o : Option (List L)} {k : Int → Option α} {r : α} (h : getE o dec_u8 k = some r) : ∃ x0, o = some [L.int .u8 x0] ∧ k x0 = some r := by
  obtain ⟨l, e, k1⟩ := optE_inv h; subst e; unfold dec_u8 at k1; split at k1
  · exact ⟨_, rfl, k1⟩
  · cases k1
@[simp] theorem dec_u8_ls {α : Type} (x0 : Int) (k : Int → Option α) : dec_u8 [L.int .u8 x0] k = k x0 := rfl
noncomputable def slices_Clone_int.B : Code := Tryd.f30.body.getD .skip
noncomputable def slices_Clone_int.rs (r : List (List L)) : List CV := [.row true 1 r]
noncomputable def slices_Clone_int (N : Nat) (s_0 : List (List L)) : Option (List (List L)) := chk (List.length s_0 * 8 ≤ 140737488355328) (some s_0)
theorem slices_Clone_int.snd {s_0 : LL} {r : LL} (h : slices_Clone_int N s_0 = some r) : SndQ Tryd.prog 30 [.one (.sl 1 s_0)] (slices_Clone_int.rs r) := fun st =>
  Snd.of (fn := Tryd.f30) (c := slices_Clone_int.B) Tryd.func30 (by kernel_rfl) (by kernel_rfl) (of_decide_eq_true (by kernel_rfl)) fun g w R hE => by
    unfold slices_Clone_int at h
    obtain ⟨c1, h⟩ := chk_inv h
    obtain rfl := some_inv h
    refine At.q (s' := mkS 8 [(0, .one (.l (.sl 1 s_0)))] [] st) (ks' := [.c (.seq (.region 1 #[{ dst := some 3, op := .move (.tmp 0), type := 38, pos := opPos (csub slices_Clone_int.B [1, 0]) 0, after := #[], guard := none }, { dst := some 4, op := .binOp .eql 38 (.tmp 3) (.const (.slice none 0 0)) 38, type := 4, pos := opPos (csub slices_Clone_int.B [1, 0]) 1, after := #[⟨0, .data⟩], guard := none }] false) (csub slices_Clone_int.B [1, 0, 1])), .c (csub slices_Clone_int.B [1, 1])]) fol 400 [.r [(0, {m := 2})], .s 2] [0] [] trivial ?_ (by kernel_rfl)
    refine At.nilcmp (T := 38) (E := 3) (sz := 1) (xs := s_0) (stepZ_ok _) rfl rfl rfl rfl rfl rfl Tryd.underlying38 (by kernel_rfl) (of_decide_eq_true (by kernel_rfl)) fun b hb => ?_
    cases b with
    | true =>
      obtain rfl := hb rfl
      exact At.f fol hE 400 [.c true, .r [(0, {m := 2})]] [] 0 [0] (rfl : true = true) (by kernel_rfl)
    | false =>
      exact At.f fol hE 400 [.c false, .r []] [] 0 [0] (And.intro (rfl : false = false) (And.intro (rfl : (0 : Nat) = 0) (And.intro (@rfl Nat (List.length ([] : List (List L)))) (And.intro c1 (And.intro (rfl : (0 : Nat) = 0) (@rfl Nat (List.length s_0))))))) (by kernel_rfl)
/-! trailhead/compact.Good -/
noncomputable def compact_Good.B : Code := Tryd.f34.body.getD .skip
noncomputable def compact_Good.rs (r : Bool) : List CV := [.one (L.bool r)]
noncomputable def compact_Good (N : Nat) (bits_0 : Int) : Option Bool :=
 if (decide (bits_0 ≥ 0)) = true then
  some (decide (bits_0 ≤ 4294967295))
 else
 some false
theorem compact_Good.snd {bits_0 : Int} {r : Bool} (h : compact_Good N bits_0 = some r) : SndQ Tryd.prog 34 [.one (L.int .i64 bits_0)] (compact_Good.rs r) := fun st =>
 sO compact_Good.B Tryd.func34 fun g0 w0 R hE => by
  unfold compact_Good at h
  refine iteB h (fun c1 h1 => ?_) (fun c1 h2 => ?_) <;> clear h
  · obtain rfl := some_inv h1
    exact af fol hE [.r [], .r []] [] 0 [] (aI c1 (aI c1 c1))
  · obtain rfl := some_inv h2
    exact af fol hE [.r [], .r [(3, {want := false}), (4, {want := false}), (5, {yes := false})]] [] 0 [] (aI c1 (aI c1 c1))
/-! trailhead/header.Good -/
noncomputable def header_Good.B : Code := Tryd.f20.body.getD .skip
noncomputable def header_Good.rs (r : Bool) : List CV := [.one (L.bool r)]
noncomputable def header_Good (N : Nat) (h_0 : api_Header) : Option Bool :=
 if (decide (h_0.Version ≥ (-2147483648))) = true then
  if (decide (h_0.Version < 2147483648)) = true then
   if (decide (h_0.Time ≥ 0)) = true then
    if (decide (h_0.Time < 4294967296)) = true then
     optE (compact_Good N h_0.Bits) fun x1 =>
     if x1 = true then
      if (decide (h_0.Nonce ≥ 0)) = true then
       some (decide (h_0.Nonce < 4294967296))
      else
      some false
     else
     some false
    else
    some false
   else
   some false
  else
  some false
 else
 some false
theorem header_Good.snd {h_0 : api_Header} {r : Bool} (h : header_Good N h_0 = some r) : SndQ Tryd.prog 20 [.agg h_0.ls] (header_Good.rs r) := fun st =>
 sO header_Good.B Tryd.func20 fun g0 w0 R hE => by
  unfold header_Good at h
  refine iteB h (fun c1 h1 => ?_) (fun c1 h2 => ?_) <;> clear h
  · refine iteB h1 (fun c2 h3 => ?_) (fun c2 h4 => ?_) <;> clear h1
    · refine iteB h3 (fun c3 h5 => ?_) (fun c3 h6 => ?_) <;> clear h3
      · refine iteB h5 (fun c4 h7 => ?_) (fun c4 h8 => ?_) <;> clear h5
        · obtain ⟨x1, c5, h9⟩ := optE_inv h7; clear h7
          refine iteB h9 (fun c6 h10 => ?_) (fun c6 h11 => ?_) <;> clear h9
          · refine iteB h10 (fun c7 h12 => ?_) (fun c7 h13 => ?_) <;> clear h10
            · obtain rfl := some_inv h12
              exact af fol hE [.r [], .r [(21, {rs := [.one (L.bool x1)], m := 1})]] [] 0 [] (aI c1 (aI c1 (aI c1 (aI c1 (aI c2 (aI c2 (aI c2 (aI c2 (aI c3 (aI c3 (aI c3 (aI c3 (aI c4 (aI c4 (aI c4 (aI (compact_Good.snd c5) (aI c4 (aI c6 (aI c6 (aI c6 (aI c6 (aI c7 (aI c7 (aI c7 c7))))))))))))))))))))))))
            · obtain rfl := some_inv h13
              exact af fol hE [.r [], .r [(21, {rs := [.one (L.bool x1)], m := 1}), (29, {want := false}), (30, {want := false}), (31, {want := false}), (32, {yes := false})]] [] 0 [] (aI c1 (aI c1 (aI c1 (aI c1 (aI c2 (aI c2 (aI c2 (aI c2 (aI c3 (aI c3 (aI c3 (aI c3 (aI c4 (aI c4 (aI c4 (aI (compact_Good.snd c5) (aI c4 (aI c6 (aI c6 (aI c6 (aI c6 (aI c7 (aI c7 (aI c7 c7))))))))))))))))))))))))
          · obtain rfl := some_inv h11
            exact af fol hE [.r [], .r [(21, {rs := [.one (L.bool x1)], m := 1}), (24, {want := false}), (25, {want := false}), (26, {want := false}), (27, {yes := false}), (29, {want := false}), (30, {want := false}), (31, {want := false}), (32, {yes := false})]] [] 0 [] (aI c1 (aI c1 (aI c1 (aI c1 (aI c2 (aI c2 (aI c2 (aI c2 (aI c3 (aI c3 (aI c3 (aI c3 (aI c4 (aI c4 (aI c4 (aI (compact_Good.snd c5) (aI c4 (aI c6 (aI c6 (aI c6 (aI c6 (aI (eB false) (aI (eB false) (aI (eB false) (eB false)))))))))))))))))))))))))
        · obtain rfl := some_inv h8
          exact af fol hE [.r [], .r [(19, {want := false}), (20, {want := false}), (21, {want := false}), (22, {yes := false}), (24, {want := false}), (25, {want := false}), (26, {want := false}), (27, {yes := false}), (29, {want := false}), (30, {want := false}), (31, {want := false}), (32, {yes := false})]] [] 0 [] (aI c1 (aI c1 (aI c1 (aI c1 (aI c2 (aI c2 (aI c2 (aI c2 (aI c3 (aI c3 (aI c3 (aI c3 (aI c4 (aI c4 (aI c4 (aI c4 (aI (eB false) (aI (eB false) (aI (eB false) (aI (eB false) (aI (eB false) (aI (eB false) (aI (eB false) (eB false))))))))))))))))))))))))
      · obtain rfl := some_inv h6
        exact af fol hE [.r [], .r [(14, {want := false}), (15, {want := false}), (16, {want := false}), (17, {yes := false}), (19, {want := false}), (20, {want := false}), (21, {want := false}), (22, {yes := false}), (24, {want := false}), (25, {want := false}), (26, {want := false}), (27, {yes := false}), (29, {want := false}), (30, {want := false}), (31, {want := false}), (32, {yes := false})]] [] 0 [] (aI c1 (aI c1 (aI c1 (aI c1 (aI c2 (aI c2 (aI c2 (aI c2 (aI c3 (aI c3 (aI c3 (aI c3 (aI (eB false) (aI (eB false) (aI (eB false) (aI (eB false) (aI (eB false) (aI (eB false) (aI (eB false) (aI (eB false) (aI (eB false) (aI (eB false) (aI (eB false) (eB false))))))))))))))))))))))))
    · obtain rfl := some_inv h4
      exact af fol hE [.r [], .r [(9, {want := false}), (10, {want := false}), (11, {want := false}), (12, {yes := false}), (14, {want := false}), (15, {want := false}), (16, {want := false}), (17, {yes := false}), (19, {want := false}), (20, {want := false}), (21, {want := false}), (22, {yes := false}), (24, {want := false}), (25, {want := false}), (26, {want := false}), (27, {yes := false}), (29, {want := false}), (30, {want := false}), (31, {want := false}), (32, {yes := false})]] [] 0 [] (aI c1 (aI c1 (aI c1 (aI c1 (aI c2 (aI c2 (aI c2 (aI c2 (aI (eB false) (aI (eB false) (aI (eB false) (aI (eB false) (aI (eB false) (aI (eB false) (aI (eB false) (aI (eB false) (aI (eB false) (aI (eB false) (aI (eB false) (aI (eB false) (aI (eB false) (aI (eB false) (aI (eB false) (eB false))))))))))))))))))))))))
  · obtain rfl := some_inv h2
    exact af fol hE [.r [], .r [(4, {want := false}), (5, {want := false}), (6, {want := false}), (7, {yes := false}), (9, {want := false}), (10, {want := false}), (11, {want := false}), (12, {yes := false}), (14, {want := false}), (15, {want := false}), (16, {want := false}), (17, {yes := false}), (19, {want := false}), (20, {want := false}), (21, {want := false}), (22, {yes := false}), (24, {want := false}), (25, {want := false}), (26, {want := false}), (27, {yes := false}), (29, {want := false}), (30, {want := false}), (31, {want := false}), (32, {yes := false})]] [] 0 [] (aI c1 (aI c1 (aI c1 (aI c1 (aI (eB false) (aI (eB false) (aI (eB false) (aI (eB false) (aI (eB false) (aI (eB false) (aI (eB false) (aI (eB false) (aI (eB false) (aI (eB false) (aI (eB false) (aI (eB false) (aI (eB false) (aI (eB false) (aI (eB false) (aI (eB false) (aI (eB false) (aI (eB false) (aI (eB false) (eB false))))))))))))))))))))))))
/-! (*trailhead/scroll.Pen).Put -/
noncomputable def scroll_Pen_Put.B : Code := Tryd.f56.body.getD .skip
noncomputable def scroll_Pen_Put.rs (r : LL) : List CV := []
noncomputable def scroll_Pen_Put.p2 (N : Nat) (c1_ : ((Option Nat) × Int × LL) → Option LL) (size_1 x12 : Int) (list_2 : LL) (v1 : Int) (c2_ : ((Option Nat) × Int × LL) → Option LL) : ((Option Nat) × Int × LL) → Option LL := fun (p_16, v13, st17) =>
 if (decide (v13 < (if (8 : Int) < (if (1 : Int) > size_1 then 1 else size_1) then 8 else (if (1 : Int) > size_1 then 1 else size_1)))) = true then
  optE p_16 fun i18 =>
  getE (st17[i18]?) dec_o1 fun x19 =>
  chk (0 ≤ (w64 (8 * v13))) <|
  chk (List.length (x19 ++ [[L.int .u8 (v8 (shrOf .i64 x12 (w64 (8 * v13))))]]) * 1 ≤ 140737488355328) <|
  c2_ ((some i18), w64 (v13 + 1), List.set (List.set st17 i18 [L.gone]) i18 [L.own true 1 (x19 ++ [[L.int .u8 (v8 (shrOf .i64 x12 (w64 (8 * v13))))]])])
 else
 c1_ (p_16, w64 (v1 + 1), st17)
noncomputable def scroll_Pen_Put.p1 (N : Nat) (size_1 : Int) (list_2 : LL) (c1_ : ((Option Nat) × Int × LL) → Option LL) : ((Option Nat) × Int × LL) → Option LL := fun (p_10, v1, st11) =>
 if (decide (v1 < (len list_2))) = true then
  chk (0 ≤ v1) <|
  getE (list_2[Int.toNat v1]?) dec_i64 fun x12 =>
  loopN (scroll_Pen_Put.p2 N c1_ size_1 x12 list_2 v1) N (p_10, 0, st11)
 else
 some st11
noncomputable def scroll_Pen_Put (N : Nat) (p_0 : Option Nat) (size_1 : Int) (list_2 st : LL) : Option LL :=
 loopN (scroll_Pen_Put.p1 N size_1 list_2) N (p_0, 0, st)
noncomputable def scroll_Pen_Put.p2.S (p_16 : Option Nat) (size_1 x12 : Int) (list_2 : LL) (v1 v13 : Int) (st17 : LL) : S := mkS 37 [(0, .one (.l (L.ptr p_16))), (1, .one (.l (L.int .i64 size_1))), (7, .one (.l (L.int .i64 x12))), (9, .one (.l (L.sl 1 list_2))), (10, .one (.l (L.int .i64 (len list_2)))), (11, .one (.l (L.int .i64 v1))), (17, .one (.l (L.int .i64 (if (8 : Int) < (if (1 : Int) > size_1 then 1 else size_1) then 8 else (if (1 : Int) > size_1 then 1 else size_1))))), (18, .one (.l (L.int .i64 v13)))] [] st17
noncomputable def scroll_Pen_Put.p1.S (p_10 : Option Nat) (size_1 : Int) (list_2 : LL) (v1 : Int) (st11 : LL) : S := mkS 37 [(0, .one (.l (L.ptr p_10))), (1, .one (.l (L.int .i64 size_1))), (9, .one (.l (L.sl 1 list_2))), (10, .one (.l (L.int .i64 (len list_2)))), (11, .one (.l (L.int .i64 v1)))] [] st11
theorem scroll_Pen_Put.p2_ok (p_16 : Option Nat) (size_1 x12 : Int) (list_2 : LL) (v1 v13 : Int) (st17 : LL) {r : LL} {c1_ : ((Option Nat) × Int × LL) → Option LL} {c2_ : ((Option Nat) × Int × LL) → Option LL} {J1 : Act → World → Prop} {J2 : Act → World → Prop} (hE : En Tryd.f56 g0 w0 (scroll_Pen_Put.rs r) r R) (hc1 : ∀ (p_10 : Option Nat) (v1 : Int) (st11 : LL), c1_ (p_10, v1, st11) = some r → At g0 w0 (scroll_Pen_Put.p1.S p_10 size_1 list_2 v1 st11) J1) (hc2 : ∀ (p_16 : Option Nat) (v13 : Int) (st17 : LL), c2_ (p_16, v13, st17) = some r → At g0 w0 (scroll_Pen_Put.p2.S p_16 size_1 x12 list_2 v1 v13 st17) J2) (h : scroll_Pen_Put.p2 N c1_ size_1 x12 list_2 v1 c2_ (p_16, v13, st17) = some r) : At g0 w0 (scroll_Pen_Put.p2.S p_16 size_1 x12 list_2 v1 v13 st17) (XK Tryd.prog R (.c (csub scroll_Pen_Put.B [1, 0, 0, 1, 1, 0, 0, 1, 1, 0, 0]) :: .h J2 :: [.b 2, .b 1, .c (csub scroll_Pen_Put.B [1, 0, 0, 1, 1, 1]), .h J1, .b 0])) := by
 unfold scroll_Pen_Put.p2 at h
 refine iteB h (fun c22 h1 => ?_) (fun c22 h2 => ?_) <;> clear h
 · obtain ⟨i18, rfl, h3⟩ := optE_inv h1; clear h1
   obtain ⟨x19, c24, h4⟩ := dec_o1_get h3; clear h3
   obtain ⟨c25, c26, h5⟩ := ck2 h4; clear h4
   exact and_ fol [.r [], .c true, .r [], .d {ds := [(4, {oc := [L.own true 1 x19]}), (11, {oe := [L.own true 1 x19]}), (14, {oc := [L.gone], mv := [32]})], hv := 19456, Hs := [1024, 3072, 19456]}, .r []] [0, 1, 7, 9, 10, 11, 17, 18] [] (aI c22 (aI c24 (aI c24 (aI c25 (aI z0 (aI (eN (List.length x19)) (aI c24 (aI z0 (aI (eN (1)) (aI c26 (aI (st_set_self c24 [L.gone]) (aI z0 (eN (List.length (x19 ++ [[L.int .u8 (v8 (shrOf .i64 x12 (w64 (8 * v13))))]]))))))))))))))) (hc2 (some i18) (w64 (v13 + 1)) (List.set (List.set st17 i18 [L.gone]) i18 [L.own true 1 (x19 ++ [[L.int .u8 (v8 (shrOf .i64 x12 (w64 (8 * v13))))]])]) h5)
 · exact an fol [.r [], .c false, .r []] [0, 1, 9, 10, 11] [] c22 (hc1 p_16 (w64 (v1 + 1)) st17 h2)
theorem scroll_Pen_Put.p1_ok (p_10 : Option Nat) (size_1 : Int) (list_2 : LL) (v1 : Int) (st11 : LL) {r : LL} {c1_ : ((Option Nat) × Int × LL) → Option LL} {J1 : Act → World → Prop} (hE : En Tryd.f56 g0 w0 (scroll_Pen_Put.rs r) r R) (hc1 : ∀ (p_10 : Option Nat) (v1 : Int) (st11 : LL), c1_ (p_10, v1, st11) = some r → At g0 w0 (scroll_Pen_Put.p1.S p_10 size_1 list_2 v1 st11) J1) (h : scroll_Pen_Put.p1 N size_1 list_2 c1_ (p_10, v1, st11) = some r) : At g0 w0 (scroll_Pen_Put.p1.S p_10 size_1 list_2 v1 st11) (XK Tryd.prog R (.c (csub scroll_Pen_Put.B [1, 0, 0]) :: .h J1 :: [.b 0])) := by
 unfold scroll_Pen_Put.p1 at h
 refine iteB h (fun c14 h6 => ?_) (fun c14 h7 => ?_) <;> clear h
 · obtain ⟨c15, h8⟩ := chk_inv h6; clear h6
   obtain ⟨x12, c16, h9⟩ := dec_i64_get h8; clear h8
   exact aq fol [.r [], .c true, .r [(1, {oe := [L.int .i64 x12]})], .r []] [0, 1, 7, 9, 10, 11, 17, 18] [] (aI c14 (aI c15 (aI (oD c14) c16))) (At.loop N (At.loopN (fun y : (Option Nat) × Int × LL => scroll_Pen_Put.p2.S y.1 size_1 x12 list_2 v1 y.2.1 y.2.2) (fun c J hc y h => scroll_Pen_Put.p2_ok y.1 size_1 x12 list_2 v1 y.2.1 y.2.2 hE hc1 (fun p_16 v13 st17 hh => hc (p_16, v13, st17) hh) h) N (p_10, 0, st11) h9))
 · obtain rfl := some_inv h7
   exact af fol hE [.r [], .c false] [] 0 [] c14
theorem scroll_Pen_Put.snd {p_0 : Option Nat} {size_1 : Int} {list_2 : LL} {st : LL} {r : LL} (h : scroll_Pen_Put N p_0 size_1 list_2 st = some r) : Snd Tryd.prog 56 [.one (L.ptr p_0), .one (L.int .i64 size_1), .one (L.sl 1 list_2)] st (scroll_Pen_Put.rs r) r :=
 sO scroll_Pen_Put.B Tryd.func56 fun g0 w0 R hE => by
  unfold scroll_Pen_Put at h
  exact aq fol [.r []] [0, 1, 9, 10, 11] [] trivial (At.loop N (At.loopN (fun y : (Option Nat) × Int × LL => scroll_Pen_Put.p1.S y.1 size_1 list_2 y.2.1 y.2.2) (fun c J hc y h => scroll_Pen_Put.p1_ok y.1 size_1 list_2 y.2.1 y.2.2 hE (fun p_10 v1 st11 hh => hc (p_10, v1, st11) hh) h) N (p_0, 0, st) h))
/-! (*trailhead/scroll.Pen).Names -/
noncomputable def scroll_Pen_Names.B : Code := Tryd.f57.body.getD .skip
noncomputable def scroll_Pen_Names.rs (r : LL) : List CV := []
noncomputable def scroll_Pen_Names.p1 (N : Nat) (list_1 : LL) (c1_ : ((Option Nat) × Int × LL) → Option LL) : ((Option Nat) × Int × LL) → Option LL := fun (p_5, v1, st6) =>
 if (decide (v1 < (len list_1))) = true then
  chk (0 ≤ v1) <|
  getE (list_1[Int.toNat v1]?) dec_u8x32 fun x7 =>
  optE p_5 fun i8 =>
  getE (st6[i8]?) dec_o1 fun x9 =>
  chk (List.length (x9 ++ (List.map (fun x => [L.int .u8 x]) x7)) * 1 ≤ 140737488355328) <|
  c1_ ((some i8), w64 (v1 + 1), List.set (List.set st6 i8 [L.gone]) i8 [L.own true 1 (x9 ++ (List.map (fun x => [L.int .u8 x]) x7))])
 else
 some st6
noncomputable def scroll_Pen_Names (N : Nat) (p_0 : Option Nat) (list_1 st : LL) : Option LL :=
 loopN (scroll_Pen_Names.p1 N list_1) N (p_0, 0, st)
noncomputable def scroll_Pen_Names.p1.S (p_5 : Option Nat) (list_1 : LL) (v1 : Int) (st6 : LL) : S := mkS 22 [(0, .one (.l (L.ptr p_5))), (6, .one (.l (L.sl 32 list_1))), (7, .one (.l (L.int .i64 (len list_1)))), (8, .one (.l (L.int .i64 v1)))] [] st6
theorem scroll_Pen_Names.p1_ok (p_5 : Option Nat) (list_1 : LL) (v1 : Int) (st6 : LL) {r : LL} {c1_ : ((Option Nat) × Int × LL) → Option LL} {J1 : Act → World → Prop} (hE : En Tryd.f57 g0 w0 (scroll_Pen_Names.rs r) r R) (hc1 : ∀ (p_5 : Option Nat) (v1 : Int) (st6 : LL), c1_ (p_5, v1, st6) = some r → At g0 w0 (scroll_Pen_Names.p1.S p_5 list_1 v1 st6) J1) (h : scroll_Pen_Names.p1 N list_1 c1_ (p_5, v1, st6) = some r) : At g0 w0 (scroll_Pen_Names.p1.S p_5 list_1 v1 st6) (XK Tryd.prog R (.c (csub scroll_Pen_Names.B [1, 0, 0]) :: .h J1 :: [.b 0])) := by
 unfold scroll_Pen_Names.p1 at h
 refine iteB h (fun c7 h1 => ?_) (fun c7 h2 => ?_) <;> clear h
 · obtain ⟨c8, h3⟩ := chk_inv h1; clear h1
   obtain ⟨x7, c9, h4⟩ := dec_u8x32_get h3; clear h3
   obtain ⟨i8, rfl, h5⟩ := optE_inv h4; clear h4
   obtain ⟨x9, c11, h6⟩ := dec_o1_get h5; clear h5
   obtain ⟨c12, h7⟩ := chk_inv h6; clear h6
   exact and_ fol [.r [], .c true, .r [(1, {oe := [L.arr .u8 32 x7]})], .d {ds := [(4, {oc := [L.own true 1 x9]}), (6, {oe := [L.own true 1 x9]}), (9, {oc := [L.gone], mv := [18]})], hv := 576, Hs := [64, 576]}, .r []] [0, 6, 7, 8] [] (aI c7 (aI c8 (aI (oD c7) (aI c9 (aI c11 (aI (leN 0 32) (aI (leN 32 32) (aI z0 (aI (eN (List.length x9)) (aI c11 (aI c12 (aI (st_set_self c11 [L.gone]) (aI z0 (eN (List.length (x9 ++ (List.map (fun x => [L.int .u8 x]) x7))))))))))))))))) (hc1 (some i8) (w64 (v1 + 1)) (List.set (List.set st6 i8 [L.gone]) i8 [L.own true 1 (x9 ++ (List.map (fun x => [L.int .u8 x]) x7))]) h7)
 · obtain rfl := some_inv h2
   exact af fol hE [.r [], .c false] [] 0 [] c7
theorem scroll_Pen_Names.snd {p_0 : Option Nat} {list_1 : LL} {st : LL} {r : LL} (h : scroll_Pen_Names N p_0 list_1 st = some r) : Snd Tryd.prog 57 [.one (L.ptr p_0), .one (L.sl 32 list_1)] st (scroll_Pen_Names.rs r) r :=
 sO scroll_Pen_Names.B Tryd.func57 fun g0 w0 R hE => by
  unfold scroll_Pen_Names at h
  exact aq fol [.r []] [0, 6, 7, 8] [] trivial (At.loop N (At.loopN (fun y : (Option Nat) × Int × LL => scroll_Pen_Names.p1.S y.1 list_1 y.2.1 y.2.2) (fun c J hc y h => scroll_Pen_Names.p1_ok y.1 list_1 y.2.1 y.2.2 hE (fun p_5 v1 st6 hh => hc (p_5, v1, st6) hh) h) N (p_0, 0, st) h))
/-! trailhead/header.Write -/
noncomputable def header_Write.B : Code := Tryd.f39.body.getD .skip
noncomputable def header_Write.rs (r : LL) : List CV := []
noncomputable def header_Write.p1 (N : Nat) (p_0 : Option Nat) (h_2 : api_Header) (st : LL) : Option LL :=
 optE (scroll_Pen_Put N p_0 4 [[L.int .i64 h_2.Version]] st) fun st3 =>
 optE (scroll_Pen_Names N p_0 [[L.arr .u8 32 h_2.Prev], [L.arr .u8 32 h_2.Root]] st3) fun st4 =>
 optE (scroll_Pen_Put N p_0 4 [[L.int .i64 h_2.Time], [L.int .i64 h_2.Bits], [L.int .i64 h_2.Nonce]] st4) fun st5 =>
 some st5
noncomputable def header_Write (N : Nat) (p_0 : Option Nat) (h_1 : api_Header) (st : LL) : Option LL :=
 optE (header_Good N h_1) fun x1 =>
 if (!x1) = true then
  header_Write.p1 N p_0 (api_Header.mk 0 (List.replicate 32 0) (List.replicate 32 0) 0 0 0) st
 else
 header_Write.p1 N p_0 h_1 st
noncomputable def header_Write.p1.S (p_0 : Option Nat) (h_2 : api_Header) (st : LL) : S := mkS 29 [(0, .one (.l (L.ptr p_0))), (3, .one (.adr (.site 3) 0))] [(3, .cells h_2.ls)] st
theorem header_Write.p1_ok (p_0 : Option Nat) (h_2 : api_Header) (st : LL) {r : LL} (hE : En Tryd.f39 g0 w0 (header_Write.rs r) r R) (h : header_Write.p1 N p_0 h_2 st = some r) : At g0 w0 (header_Write.p1.S p_0 h_2 st) (XK Tryd.prog R [.c (csub header_Write.B [1, 1])]) := by
 unfold header_Write.p1 at h
 obtain ⟨st3, c3, h1⟩ := optE_inv h; clear h
 obtain ⟨st4, c4, h2⟩ := optE_inv h1; clear h1
 obtain ⟨st5, c5, h3⟩ := optE_inv h2; clear h2
 obtain rfl := some_inv h3
 exact af fol hE [.r [(4, {st := st3, fz := [11]})], .r [(6, {st := st4, fz := [18]})], .r [(8, {st := st5, fz := [27]})]] [] 0 [] (aI z0 (aI (eN (1)) (aI (scroll_Pen_Put.snd c3) (aI z0 (aI (eN (2)) (aI (scroll_Pen_Names.snd c4) (aI z0 (aI (eN (3)) (scroll_Pen_Put.snd c5)))))))))
theorem header_Write.snd {p_0 : Option Nat} {h_1 : api_Header} {st : LL} {r : LL} (h : header_Write N p_0 h_1 st = some r) : Snd Tryd.prog 39 [.one (L.ptr p_0), .agg h_1.ls] st (header_Write.rs r) r :=
 sO header_Write.B Tryd.func39 fun g0 w0 R hE => by
  unfold header_Write at h
  obtain ⟨x1, c1, h4⟩ := optE_inv h; clear h
  refine iteB h4 (fun c2 h5 => ?_) (fun c2 h6 => ?_) <;> clear h4
  · exact aq fol [.r [], .r [(1, {rs := [.one (L.bool x1)], m := 1})], .c true, .r [], .s 1] [0, 3] [3] (aI (header_Good.snd c1) c2) (header_Write.p1_ok p_0 (api_Header.mk 0 (List.replicate 32 0) (List.replicate 32 0) 0 0 0) st hE h5)
  · exact aq fol [.r [], .r [(1, {rs := [.one (L.bool x1)], m := 1})], .c false, .s 1] [0, 3] [3] (aI (header_Good.snd c1) c2) (header_Write.p1_ok p_0 h_1 st hE h6)
/-! (*trailhead/scroll.Pen).Text -/
noncomputable def scroll_Pen_Text_v.B : Code := Tryd.f40.body.getD .skip
noncomputable def scroll_Pen_Text_v.rs (r : ByteArray) : List CV := [.one (L.str r)]
noncomputable def scroll_Pen_Text_v (N : Nat) (p_0 : LL) : Option ByteArray :=
 chk (isB p_0 = true) <|
 some (istr (List.map leafI p_0))
theorem scroll_Pen_Text_v.snd {p_0 : LL} {r : ByteArray} (h : scroll_Pen_Text_v N p_0 = some r) : SndQ Tryd.prog 40 [.one (L.bx 1 [L.sl 1 p_0])] (scroll_Pen_Text_v.rs r) := fun st =>
 sO scroll_Pen_Text_v.B Tryd.func40 fun g0 w0 R hE => by
  unfold scroll_Pen_Text_v at h
  obtain ⟨c1, h1⟩ := chk_inv h; clear h
  obtain rfl := some_inv h1
  exact af fol hE [.r [], .r [(3, {oe := [L.sl 1 p_0]})]] [] 0 [] (aI (eO [L.sl 1 p_0]) c1)
/-! trailhead/header.Bytes -/
noncomputable def header_Bytes.B : Code := Tryd.f28.body.getD .skip
noncomputable def header_Bytes.rs (r : ByteArray × Int × LL) : List CV := [.one (L.str r.1), .one (L.int .i64 r.2.1)]
noncomputable def header_Bytes (N : Nat) (h_0 : api_Header) (st : LL) : Option (ByteArray × Int × LL) :=
 optE (header_Good N h_0) fun x1 =>
 if (!x1) = true then
  some ((ByteArray.mk #[]), 1, st)
 else
 optE (header_Write N (some (List.length st)) h_0 (st ++ [[L.own true 1 []]])) fun st2 =>
 getE (st2[List.length st]?) dec_o1 fun x3 =>
 optE (scroll_Pen_Text_v N x3) fun x4 =>
 some (x4, 0, st2)
theorem header_Bytes.snd {h_0 : api_Header} {st : LL} {r : ByteArray × Int × LL} (h : header_Bytes N h_0 st = some r) : Snd Tryd.prog 28 [.agg h_0.ls] st (header_Bytes.rs r) r.2.2 :=
 sO header_Bytes.B Tryd.func28 fun g0 w0 R hE => by
  unfold header_Bytes at h
  obtain ⟨x1, c1, h1⟩ := optE_inv h; clear h
  refine iteB h1 (fun c2 h2 => ?_) (fun c2 h3 => ?_) <;> clear h1
  · obtain rfl := some_inv h2
    exact af fol hE [.r [], .r [(1, {rs := [.one (L.bool x1)], m := 1})], .c true, .r []] [] 0 [] (aI (header_Good.snd c1) c2)
  · obtain ⟨st2, c3, h4⟩ := optE_inv h3; clear h3
    obtain ⟨x3, c4, h5⟩ := dec_o1_get h4; clear h4
    obtain ⟨x4, c5, h6⟩ := optE_inv h5; clear h5
    obtain rfl := some_inv h6
    exact af fol hE [.r [], .r [(1, {rs := [.one (L.bool x1)], m := 1})], .c false, .r [(0, {ns := [0]}), (1, {m := 1})], .r [(2, {st := st2})], .r [(1, {rs := [.one (L.str x4)], m := 10, cv := [.one (L.bx 1 [L.sl 1 x3])]})]] [] 0 [] (aI (header_Good.snd c1) (aI c2 (aI (header_Write.snd c3) (aI (bO 1 c4 ((bW bN) : BVs st2 [L.own true 1 x3] [L.sl 1 x3])) (scroll_Pen_Text_v.snd c5)))))
/-! trailhead/digest.New -/
noncomputable def digest_New.B : Code := Tryd.f58.body.getD .skip
noncomputable def digest_New.rs (r : (Option Nat) × LL) : List CV := [.one (L.ptr r.1)]
noncomputable def digest_New (N : Nat) (st : LL) : Option ((Option Nat) × LL) :=
 some ((some (List.length st)), st ++ [digest_Hasher.lo (digest_Hasher.mk glob_digest_starts [] 0)])
theorem digest_New.snd {st : LL} {r : (Option Nat) × LL} (h : digest_New N st = some r) : Snd Tryd.prog 58 [] st (digest_New.rs r) r.2 :=
 sO digest_New.B Tryd.func58 fun g0 w0 R hE => by
  unfold digest_New at h
  obtain rfl := some_inv h
  exact af fol hE [.r [], .r [(1, {mv := [1]}), (2, {m := 1})]] [] 0 [] trivial
/-! math/bits.RotateLeft32 -/
noncomputable def math_bits_RotateLeft32.B : Code := Tryd.f90.body.getD .skip
noncomputable def math_bits_RotateLeft32.rs (r : Int) : List CV := [.one (L.int .u32 r)]
noncomputable def math_bits_RotateLeft32 (N : Nat) (x_0 k_1 : Int) : Option Int :=
 chk (0 ≤ (bitsOf .and .u64 (v64 (k_1)) 31)) <|
 chk (0 ≤ (v64 (32 - (bitsOf .and .u64 (v64 (k_1)) 31)))) <|
 some (bitsOf .or .u32 (shlOf .u32 x_0 (bitsOf .and .u64 (v64 (k_1)) 31)) (shrOf .u32 x_0 (v64 (32 - (bitsOf .and .u64 (v64 (k_1)) 31)))))
theorem math_bits_RotateLeft32.snd {x_0 k_1 : Int} {r : Int} (h : math_bits_RotateLeft32 N x_0 k_1 = some r) : SndQ Tryd.prog 90 [.one (L.int .u32 x_0), .one (L.int .i64 k_1)] (math_bits_RotateLeft32.rs r) := fun st =>
 sO math_bits_RotateLeft32.B Tryd.func90 fun g0 w0 R hE => by
  unfold math_bits_RotateLeft32 at h
  obtain ⟨c1, c2, h1⟩ := ck2 h; clear h
  obtain rfl := some_inv h1
  exact af fol hE [.r [], .r [], .r []] [] 0 [] (aI c1 c2)
/-! trailhead/digest.turn -/
noncomputable def digest_turn.B : Code := Tryd.f83.body.getD .skip
noncomputable def digest_turn.rs (r : Int) : List CV := [.one (L.int .u32 r)]
noncomputable def digest_turn.p1 (N : Nat) (x_0 : Int) (by_1 : LL) (c1_ : (Int × Int) → Option Int) : (Int × Int) → Option Int := fun (out_1, v2) =>
 if (decide (v2 < (len by_1))) = true then
  chk (0 ≤ v2) <|
  getE (by_1[Int.toNat v2]?) dec_i64 fun x3 =>
  optE (math_bits_RotateLeft32 N x_0 (w64 (0 - x3))) fun x4 =>
  c1_ (bitsOf .xor .u32 out_1 x4, w64 (v2 + 1))
 else
 some out_1
noncomputable def digest_turn (N : Nat) (x_0 : Int) (by_1 : LL) : Option Int :=
 loopN (digest_turn.p1 N x_0 by_1) N (0, 0)
noncomputable def digest_turn.p1.S (x_0 out_1 : Int) (by_1 : LL) (v2 : Int) (st : LL) : S := mkS 22 [(0, .one (.l (L.int .u32 x_0))), (5, .one (.l (L.int .u32 out_1))), (8, .one (.l (L.sl 1 by_1))), (9, .one (.l (L.int .i64 (len by_1)))), (10, .one (.l (L.int .i64 v2)))] [] st
theorem digest_turn.p1_ok (x_0 out_1 : Int) (by_1 : LL) (v2 : Int) (st : LL) {r : Int} {c1_ : (Int × Int) → Option Int} {J1 : Act → World → Prop} (hE : En Tryd.f83 g0 w0 (digest_turn.rs r) st R) (hc1 : ∀ (out_1 v2 : Int), c1_ (out_1, v2) = some r → At g0 w0 (digest_turn.p1.S x_0 out_1 by_1 v2 st) J1) (h : digest_turn.p1 N x_0 by_1 c1_ (out_1, v2) = some r) : At g0 w0 (digest_turn.p1.S x_0 out_1 by_1 v2 st) (XK Tryd.prog R (.c (csub digest_turn.B [1, 1, 0, 1, 0, 0]) :: .h J1 :: [.b 0, .c (csub digest_turn.B [1, 1, 1])])) := by
 unfold digest_turn.p1 at h
 refine iteB h (fun c1 h1 => ?_) (fun c1 h2 => ?_) <;> clear h
 · obtain ⟨c2, h3⟩ := chk_inv h1; clear h1
   obtain ⟨x3, c3, h4⟩ := dec_i64_get h3; clear h3
   obtain ⟨x4, c4, h5⟩ := optE_inv h4; clear h4
   exact an fol [.r [], .c true, .r [(1, {oe := [L.int .i64 x3]})], .r [(4, {rs := [.one (L.int .u32 x4)], m := 1})], .r []] [0, 5, 8, 9, 10] [] (aI c1 (aI c2 (aI (oD c1) (aI c3 (math_bits_RotateLeft32.snd c4))))) (hc1 (bitsOf .xor .u32 out_1 x4) (w64 (v2 + 1)) h5)
 · obtain rfl := some_inv h2
   exact af fol hE [.r [], .c false, .r []] [] 0 [] c1
theorem digest_turn.snd {x_0 : Int} {by_1 : LL} {r : Int} (h : digest_turn N x_0 by_1 = some r) : SndQ Tryd.prog 83 [.one (L.int .u32 x_0), .one (L.sl 1 by_1)] (digest_turn.rs r) := fun st =>
 sO digest_turn.B Tryd.func83 fun g0 w0 R hE => by
  unfold digest_turn at h
  exact aq fol [.r [], .r [], .r []] [0, 5, 8, 9, 10] [] trivial (At.loop N (At.loopN (fun y : Int × Int => digest_turn.p1.S x_0 y.1 by_1 y.2 st) (fun c J hc y h => digest_turn.p1_ok x_0 y.1 by_1 y.2 st hE (fun out_1 v2 hh => hc (out_1, v2) hh) h) N (0, 0) h))
/-! (*trailhead/digest.Hasher).take -/
noncomputable def digest_Hasher_take.B : Code := Tryd.f70.body.getD .skip
noncomputable def digest_Hasher_take.rs (r : LL) : List CV := []
noncomputable def digest_Hasher_take.p4 (N : Nat) (i71 : Nat) (s_80 : List Int) (c4_ : (Int × LL) → Option LL) : (Int × LL) → Option LL := fun (v83, st85) =>
 if (decide (v83 < 8)) = true then
  chk (0 ≤ v83) <|
  getE (st85[i71]?) dec_digest_Hasher_o fun x86 =>
  c4_ (w64 (v83 + 1), List.set st85 i71 (digest_Hasher.lo {x86 with state := List.set x86.state (Int.toNat v83) (v32 ((List.getD x86.state (Int.toNat v83) 0) + (List.getD s_80 (Int.toNat v83) 0)))}))
 else
 some st85
noncomputable def digest_Hasher_take.p3 (N : Nat) (i71 : Nat) (w_68 : List Int) (st : LL) (c3_ : (Int × (List Int)) → Option LL) : (Int × (List Int)) → Option LL := fun (v73, s_80) =>
 if (decide (v73 < 64)) = true then
  optE (digest_turn N (List.getD s_80 4 0) [[L.int .i64 6], [L.int .i64 11], [L.int .i64 25]]) fun x81 =>
  chk (0 ≤ v73) <|
  optE (digest_turn N (List.getD s_80 0 0) [[L.int .i64 2], [L.int .i64 13], [L.int .i64 22]]) fun x82 =>
  c3_ (w64 (v73 + 1), [v32 ((v32 ((v32 ((v32 ((v32 ((List.getD s_80 7 0) + x81)) + (bitsOf .xor .u32 (bitsOf .and .u32 (List.getD s_80 4 0) (List.getD s_80 5 0)) (bitsOf .and .u32 (bitsOf .xor .u32 (IntKind.max IntKind.u32) (List.getD s_80 4 0)) (List.getD s_80 6 0))))) + (List.getD glob_digest_steps (Int.toNat v73) 0))) + (List.getD w_68 (Int.toNat v73) 0))) + (v32 (x82 + (bitsOf .xor .u32 (bitsOf .xor .u32 (bitsOf .and .u32 (List.getD s_80 0 0) (List.getD s_80 1 0)) (bitsOf .and .u32 (List.getD s_80 0 0) (List.getD s_80 2 0))) (bitsOf .and .u32 (List.getD s_80 1 0) (List.getD s_80 2 0)))))), List.getD s_80 0 0, List.getD s_80 1 0, List.getD s_80 2 0, v32 ((List.getD s_80 3 0) + (v32 ((v32 ((v32 ((v32 ((List.getD s_80 7 0) + x81)) + (bitsOf .xor .u32 (bitsOf .and .u32 (List.getD s_80 4 0) (List.getD s_80 5 0)) (bitsOf .and .u32 (bitsOf .xor .u32 (IntKind.max IntKind.u32) (List.getD s_80 4 0)) (List.getD s_80 6 0))))) + (List.getD glob_digest_steps (Int.toNat v73) 0))) + (List.getD w_68 (Int.toNat v73) 0)))), List.getD s_80 4 0, List.getD s_80 5 0, List.getD s_80 6 0])
 else
 loopN (digest_Hasher_take.p4 N i71 s_80) N (0, st)
noncomputable def digest_Hasher_take.p2 (N : Nat) (h_0 : Option Nat) (st : LL) (c2_ : (Int × (List Int)) → Option LL) : (Int × (List Int)) → Option LL := fun (i_49, w_68) =>
 if (decide (i_49 < 64)) = true then
  chk (0 ≤ (w64 (i_49 - 15))) <|
  chk ((w64 (i_49 - 15)) < 64) <|
  chk (0 ≤ (w64 (i_49 - 2))) <|
  chk ((w64 (i_49 - 2)) < 64) <|
  chk (0 ≤ (w64 (i_49 - 16))) <|
  chk ((w64 (i_49 - 16)) < 64) <|
  optE (digest_turn N (List.getD w_68 (Int.toNat (w64 (i_49 - 15))) 0) [[L.int .i64 7], [L.int .i64 18]]) fun x69 =>
  chk (0 ≤ (w64 (i_49 - 7))) <|
  chk ((w64 (i_49 - 7)) < 64) <|
  optE (digest_turn N (List.getD w_68 (Int.toNat (w64 (i_49 - 2))) 0) [[L.int .i64 17], [L.int .i64 19]]) fun x70 =>
  chk (0 ≤ i_49) <|
  c2_ (w64 (i_49 + 1), List.set w_68 (Int.toNat i_49) (v32 ((v32 ((v32 ((List.getD w_68 (Int.toNat (w64 (i_49 - 16))) 0) + (bitsOf .xor .u32 x69 (shrOf .u32 (List.getD w_68 (Int.toNat (w64 (i_49 - 15))) 0) 3)))) + (List.getD w_68 (Int.toNat (w64 (i_49 - 7))) 0))) + (bitsOf .xor .u32 x70 (shrOf .u32 (List.getD w_68 (Int.toNat (w64 (i_49 - 2))) 0) 10)))))
 else
 optE h_0 fun i71 =>
 getE (st[i71]?) dec_digest_Hasher_o fun x72 =>
 loopN (digest_Hasher_take.p3 N i71 w_68 st) N (0, x72.state)
noncomputable def digest_Hasher_take.p1 (N : Nat) (h_0 : Option Nat) (b_1 st : LL) (c1_ : (Int × (List Int)) → Option LL) : (Int × (List Int)) → Option LL := fun (v1, w_44) =>
 if (decide (v1 < 16)) = true then
  chk (0 ≤ (w64 (4 * v1))) <|
  chk ((w64 (4 * v1)) < (len b_1)) <|
  getE (b_1[Int.toNat (w64 (4 * v1))]?) dec_u8 fun x45 =>
  chk (0 ≤ (w64 ((w64 (4 * v1)) + 1))) <|
  chk ((w64 ((w64 (4 * v1)) + 1)) < (len b_1)) <|
  getE (b_1[Int.toNat (w64 ((w64 (4 * v1)) + 1))]?) dec_u8 fun x46 =>
  chk (0 ≤ (w64 ((w64 (4 * v1)) + 2))) <|
  chk ((w64 ((w64 (4 * v1)) + 2)) < (len b_1)) <|
  getE (b_1[Int.toNat (w64 ((w64 (4 * v1)) + 2))]?) dec_u8 fun x47 =>
  chk (0 ≤ (w64 ((w64 (4 * v1)) + 3))) <|
  chk ((w64 ((w64 (4 * v1)) + 3)) < (len b_1)) <|
  getE (b_1[Int.toNat (w64 ((w64 (4 * v1)) + 3))]?) dec_u8 fun x48 =>
  chk (0 ≤ v1) <|
  chk (v1 < 64) <|
  c1_ (w64 (v1 + 1), List.set w_44 (Int.toNat v1) (bitsOf .or .u32 (bitsOf .or .u32 (bitsOf .or .u32 (shlOf .u32 (v32 (x45)) 24) (shlOf .u32 (v32 (x46)) 16)) (shlOf .u32 (v32 (x47)) 8)) (v32 (x48))))
 else
 loopN (digest_Hasher_take.p2 N h_0 st) N (16, w_44)
noncomputable def digest_Hasher_take (N : Nat) (h_0 : Option Nat) (b_1 st : LL) : Option LL :=
 loopN (digest_Hasher_take.p1 N h_0 b_1 st) N (0, List.replicate 64 0)
noncomputable def digest_Hasher_take.p4.S (i71 : Nat) (v83 : Int) (s_80 : List Int) (st85 : LL) : S := mkS 189 [(0, .one (.l (L.ptr (some i71)))), (9, .one (.adr (.site 9) 0)), (172, .one (.l (L.int .i64 v83)))] [(9, .cells [L.arr .u32 8 s_80])] st85
noncomputable def digest_Hasher_take.p3.S (i71 : Nat) (v73 : Int) (w_68 s_80 : List Int) (st : LL) : S := mkS 189 [(0, .one (.l (L.ptr (some i71)))), (4, .one (.adr (.site 4) 0)), (9, .one (.adr (.site 9) 0)), (96, .one (.l (L.int .i64 v73)))] [(4, .cells [L.arr .u32 64 w_68]), (9, .cells [L.arr .u32 8 s_80])] st
noncomputable def digest_Hasher_take.p2.S (h_0 : Option Nat) (i_49 : Int) (w_68 : List Int) (st : LL) : S := mkS 189 [(0, .one (.l (L.ptr h_0))), (4, .one (.adr (.site 4) 0)), (6, .one (.l (L.int .i64 i_49)))] [(4, .cells [L.arr .u32 64 w_68])] st
noncomputable def digest_Hasher_take.p1.S (h_0 : Option Nat) (b_1 : LL) (v1 : Int) (w_44 : List Int) (st : LL) : S := mkS 189 [(0, .one (.l (L.ptr h_0))), (1, .one (.l (L.sl 1 b_1))), (4, .one (.adr (.site 4) 0)), (16, .one (.l (L.int .i64 v1)))] [(4, .cells [L.arr .u32 64 w_44])] st
theorem digest_Hasher_take.p4_ok (i71 : Nat) (v83 : Int) (s_80 : List Int) (st85 : LL) {r : LL} {c4_ : (Int × LL) → Option LL} {J4 : Act → World → Prop} (hE : En Tryd.f70 g0 w0 (digest_Hasher_take.rs r) r R) (hc4 : ∀ (v83 : Int) (st85 : LL), c4_ (v83, st85) = some r → At g0 w0 (digest_Hasher_take.p4.S i71 v83 s_80 st85) J4) (h : digest_Hasher_take.p4 N i71 s_80 c4_ (v83, st85) = some r) : At g0 w0 (digest_Hasher_take.p4.S i71 v83 s_80 st85) (XK Tryd.prog R (.c (csub digest_Hasher_take.B [1, 1, 1, 1, 1, 1, 0, 0]) :: .h J4 :: [.b 6])) := by
 unfold digest_Hasher_take.p4 at h
 refine iteB h (fun c164 h1 => ?_) (fun c164 h2 => ?_) <;> clear h
 · obtain ⟨c165, h3⟩ := chk_inv h1; clear h1
   obtain ⟨x86, c166, h4⟩ := dec_digest_Hasher_o_get h3; clear h3
   exact and_ fol [.r [], .c true, .r [], .d {ds := [(5, {oc := x86.lo}), (13, {oc := x86.lo})], hv := 8192, Hs := [8192]}, .r []] [0, 9, 172] [9] (aI c164 (aI c165 (aI (oD c164) (aI c166 (aI c165 (aI (oD c164) (aI c165 (aI (oD c164) c166)))))))) (hc4 (w64 (v83 + 1)) (List.set st85 i71 (digest_Hasher.lo {x86 with state := List.set x86.state (Int.toNat v83) (v32 ((List.getD x86.state (Int.toNat v83) 0) + (List.getD s_80 (Int.toNat v83) 0)))})) h4)
 · obtain rfl := some_inv h2
   exact af fol hE [.r [], .c false] [] 0 [] c164
theorem digest_Hasher_take.p3_ok (i71 : Nat) (v73 : Int) (w_68 s_80 : List Int) (st : LL) {r : LL} {c3_ : (Int × (List Int)) → Option LL} {J3 : Act → World → Prop} (hE : En Tryd.f70 g0 w0 (digest_Hasher_take.rs r) r R) (hc3 : ∀ (v73 : Int) (s_80 : List Int), c3_ (v73, s_80) = some r → At g0 w0 (digest_Hasher_take.p3.S i71 v73 w_68 s_80 st) J3) (h : digest_Hasher_take.p3 N i71 w_68 st c3_ (v73, s_80) = some r) : At g0 w0 (digest_Hasher_take.p3.S i71 v73 w_68 s_80 st) (XK Tryd.prog R (.c (csub digest_Hasher_take.B [1, 1, 1, 1, 0, 1, 0, 0]) :: .h J3 :: [.b 4, .c (csub digest_Hasher_take.B [1, 1, 1, 1, 1])])) := by
 unfold digest_Hasher_take.p3 at h
 refine iteB h (fun c157 h5 => ?_) (fun c157 h6 => ?_) <;> clear h
 · obtain ⟨x81, c158, h7⟩ := optE_inv h5; clear h5
   obtain ⟨c159, h8⟩ := chk_inv h7; clear h7
   obtain ⟨x82, c160, h9⟩ := optE_inv h8; clear h8
   exact and_ fol [.r [], .c true, .r [], .r [], .r [], .d {ds := [(5, {rs := [.one (L.int .u32 x81)], m := 2})], hv := 16, Hs := [16]}, .r [(3, {rs := [.one (L.int .u32 x82)], m := 2})], .r [(19, {m := 3})], .r []] [0, 4, 9, 96] [4, 9] (aI c157 (ix 4 8 (ix 5 8 (ix 4 8 (ix 6 8 (ix 0 8 (ix 1 8 (ix 0 8 (ix 2 8 (ix 1 8 (ix 2 8 (ix 7 8 (ix 7 8 (ix 4 8 (ix 4 8 (aI z0 (aI (eN (3)) (aI (digest_turn.snd c158) (aI c159 (aI (oD c157) (aI c159 (aI (oD c157) (aI c159 (aI (oD c157) (aI c159 (aI (oD c157) (ix 0 8 (aI z0 (aI (eN (3)) (aI (digest_turn.snd c160) (ix 0 8 (ix 1 8 (ix 2 8 (ix 3 8 (ix 4 8 (ix 5 8 (aI (leI 0 6) (ltI 6 8)))))))))))))))))))))))))))))))))))))) (hc3 (w64 (v73 + 1)) [v32 ((v32 ((v32 ((v32 ((v32 ((List.getD s_80 7 0) + x81)) + (bitsOf .xor .u32 (bitsOf .and .u32 (List.getD s_80 4 0) (List.getD s_80 5 0)) (bitsOf .and .u32 (bitsOf .xor .u32 (IntKind.max IntKind.u32) (List.getD s_80 4 0)) (List.getD s_80 6 0))))) + (List.getD glob_digest_steps (Int.toNat v73) 0))) + (List.getD w_68 (Int.toNat v73) 0))) + (v32 (x82 + (bitsOf .xor .u32 (bitsOf .xor .u32 (bitsOf .and .u32 (List.getD s_80 0 0) (List.getD s_80 1 0)) (bitsOf .and .u32 (List.getD s_80 0 0) (List.getD s_80 2 0))) (bitsOf .and .u32 (List.getD s_80 1 0) (List.getD s_80 2 0)))))), List.getD s_80 0 0, List.getD s_80 1 0, List.getD s_80 2 0, v32 ((List.getD s_80 3 0) + (v32 ((v32 ((v32 ((v32 ((List.getD s_80 7 0) + x81)) + (bitsOf .xor .u32 (bitsOf .and .u32 (List.getD s_80 4 0) (List.getD s_80 5 0)) (bitsOf .and .u32 (bitsOf .xor .u32 (IntKind.max IntKind.u32) (List.getD s_80 4 0)) (List.getD s_80 6 0))))) + (List.getD glob_digest_steps (Int.toNat v73) 0))) + (List.getD w_68 (Int.toNat v73) 0)))), List.getD s_80 4 0, List.getD s_80 5 0, List.getD s_80 6 0] h9)
 · exact aq fol [.r [], .c false, .r []] [0, 9, 172] [9] c157 (At.loop N (At.loopN (fun y : Int × LL => digest_Hasher_take.p4.S i71 y.1 s_80 y.2) (fun c J hc y h => digest_Hasher_take.p4_ok i71 y.1 s_80 y.2 hE (fun v83 st85 hh => hc (v83, st85) hh) h) N (0, st) h6))
theorem digest_Hasher_take.p2_ok (h_0 : Option Nat) (i_49 : Int) (w_68 : List Int) (st : LL) {r : LL} {c2_ : (Int × (List Int)) → Option LL} {J2 : Act → World → Prop} (hE : En Tryd.f70 g0 w0 (digest_Hasher_take.rs r) r R) (hc2 : ∀ (i_49 : Int) (w_68 : List Int), c2_ (i_49, w_68) = some r → At g0 w0 (digest_Hasher_take.p2.S h_0 i_49 w_68 st) J2) (h : digest_Hasher_take.p2 N h_0 st c2_ (i_49, w_68) = some r) : At g0 w0 (digest_Hasher_take.p2.S h_0 i_49 w_68 st) (XK Tryd.prog R (.c (csub digest_Hasher_take.B [1, 1, 0, 1, 0, 0]) :: .h J2 :: [.b 2, .c (csub digest_Hasher_take.B [1, 1, 1])])) := by
 unfold digest_Hasher_take.p2 at h
 refine iteB h (fun c133 h10 => ?_) (fun c133 h11 => ?_) <;> clear h
 · obtain ⟨c134, c135, c136, c137, c138, c139, h12⟩ := ck6 h10; clear h10
   obtain ⟨x69, c140, h13⟩ := optE_inv h12; clear h12
   obtain ⟨c141, c142, h14⟩ := ck2 h13; clear h13
   obtain ⟨x70, c143, h15⟩ := optE_inv h14; clear h14
   obtain ⟨c144, h16⟩ := chk_inv h15; clear h15
   exact and_ fol [.r [], .c true, .d {ds := [], hv := 0, Hs := []}, .d {ds := [(7, {rs := [.one (L.int .u32 x69)], m := 2}), (19, {rs := [.one (L.int .u32 x70)], m := 2})], hv := 33816640, Hs := [64, 262144, 262208, 33816640]}, .r []] [0, 4, 6] [4] (aI c133 (aI c134 (aI c135 (aI c136 (aI c137 (aI c138 (aI c139 (aI c138 (aI c139 (aI c138 (aI c139 (aI c138 (aI c139 (aI z0 (aI (eN (2)) (aI (digest_turn.snd c140) (aI z0 (aI (eN (2)) (aI (digest_turn.snd c140) (aI (leI 0 3) (aI (leI 0 3) (aI (leI 0 3) (aI (leI 0 3) (aI c141 (aI c142 (aI c141 (aI c142 (aI c141 (aI c142 (aI c141 (aI c142 (aI z0 (aI (eN (2)) (aI (digest_turn.snd c143) (aI (leI 0 10) (aI (leI 0 10) (aI (leI 0 10) (aI (leI 0 10) (aI c144 (oD c133)))))))))))))))))))))))))))))))))))))))) (hc2 (w64 (i_49 + 1)) (List.set w_68 (Int.toNat i_49) (v32 ((v32 ((v32 ((List.getD w_68 (Int.toNat (w64 (i_49 - 16))) 0) + (bitsOf .xor .u32 x69 (shrOf .u32 (List.getD w_68 (Int.toNat (w64 (i_49 - 15))) 0) 3)))) + (List.getD w_68 (Int.toNat (w64 (i_49 - 7))) 0))) + (bitsOf .xor .u32 x70 (shrOf .u32 (List.getD w_68 (Int.toNat (w64 (i_49 - 2))) 0) 10))))) h16)
 · obtain ⟨i71, rfl, h17⟩ := optE_inv h11; clear h11
   obtain ⟨x72, c146, h18⟩ := dec_digest_Hasher_o_get h17; clear h17
   exact aq fol [.r [], .c false, .r [(3, {oc := x72.lo})], .r []] [0, 4, 9, 96] [4, 9] (aI c133 c146) (At.loop N (At.loopN (fun y : Int × (List Int) => digest_Hasher_take.p3.S i71 y.1 w_68 y.2 st) (fun c J hc y h => digest_Hasher_take.p3_ok i71 y.1 w_68 y.2 st hE (fun v73 s_80 hh => hc (v73, s_80) hh) h) N (0, x72.state) h18))
theorem digest_Hasher_take.p1_ok (h_0 : Option Nat) (b_1 : LL) (v1 : Int) (w_44 : List Int) (st : LL) {r : LL} {c1_ : (Int × (List Int)) → Option LL} {J1 : Act → World → Prop} (hE : En Tryd.f70 g0 w0 (digest_Hasher_take.rs r) r R) (hc1 : ∀ (v1 : Int) (w_44 : List Int), c1_ (v1, w_44) = some r → At g0 w0 (digest_Hasher_take.p1.S h_0 b_1 v1 w_44 st) J1) (h : digest_Hasher_take.p1 N h_0 b_1 st c1_ (v1, w_44) = some r) : At g0 w0 (digest_Hasher_take.p1.S h_0 b_1 v1 w_44 st) (XK Tryd.prog R (.c (csub digest_Hasher_take.B [1, 0, 1, 0, 0]) :: .h J1 :: [.b 0, .c (csub digest_Hasher_take.B [1, 1])])) := by
 unfold digest_Hasher_take.p1 at h
 refine iteB h (fun c84 h19 => ?_) (fun c84 h20 => ?_) <;> clear h
 · obtain ⟨c85, c86, h21⟩ := ck2 h19; clear h19
   obtain ⟨x45, c87, h22⟩ := dec_u8_get h21; clear h21
   obtain ⟨c88, c89, h23⟩ := ck2 h22; clear h22
   obtain ⟨x46, c90, h24⟩ := dec_u8_get h23; clear h23
   obtain ⟨c91, c92, h25⟩ := ck2 h24; clear h24
   obtain ⟨x47, c93, h26⟩ := dec_u8_get h25; clear h25
   obtain ⟨c94, c95, h27⟩ := ck2 h26; clear h26
   obtain ⟨x48, c96, h28⟩ := dec_u8_get h27; clear h27
   obtain ⟨c97, c98, h29⟩ := ck2 h28; clear h28
   exact and_ fol [.r [], .c true, .r [], .d {ds := [(5, {oe := [L.int .u8 x45]}), (13, {oe := [L.int .u8 x46]}), (22, {oe := [L.int .u8 x47]}), (31, {oe := [L.int .u8 x48]})], hv := 34359738368, Hs := [34359738368]}, .r []] [0, 1, 4, 16] [4] (aI c84 (aI c85 (aI c86 (aI c87 (aI (leI 0 24) (aI c88 (aI c89 (aI c90 (aI (leI 0 16) (aI c91 (aI c92 (aI c93 (aI (leI 0 8) (aI c94 (aI c95 (aI c96 (aI c97 c98))))))))))))))))) (hc1 (w64 (v1 + 1)) (List.set w_44 (Int.toNat v1) (bitsOf .or .u32 (bitsOf .or .u32 (bitsOf .or .u32 (shlOf .u32 (v32 (x45)) 24) (shlOf .u32 (v32 (x46)) 16)) (shlOf .u32 (v32 (x47)) 8)) (v32 (x48)))) h29)
 · exact aq fol [.r [], .c false, .r []] [0, 4, 6] [4] c84 (At.loop N (At.loopN (fun y : Int × (List Int) => digest_Hasher_take.p2.S h_0 y.1 y.2 st) (fun c J hc y h => digest_Hasher_take.p2_ok h_0 y.1 y.2 st hE (fun i_49 w_68 hh => hc (i_49, w_68) hh) h) N (16, w_44) h20))
theorem digest_Hasher_take.snd {h_0 : Option Nat} {b_1 : LL} {st : LL} {r : LL} (h : digest_Hasher_take N h_0 b_1 st = some r) : Snd Tryd.prog 70 [.one (L.ptr h_0), .one (L.sl 1 b_1)] st (digest_Hasher_take.rs r) r :=
 sO digest_Hasher_take.B Tryd.func70 fun g0 w0 R hE => by
  unfold digest_Hasher_take at h
  exact aq fol [.r [], .r []] [0, 1, 4, 16] [4] trivial (At.loop N (At.loopN (fun y : Int × (List Int) => digest_Hasher_take.p1.S h_0 b_1 y.1 y.2 st) (fun c J hc y h => digest_Hasher_take.p1_ok h_0 b_1 y.1 y.2 st hE (fun v1 w_44 hh => hc (v1, w_44) hh) h) N (0, List.replicate 64 0) h))
/-! (*trailhead/digest.Hasher).Write -/
noncomputable def digest_Hasher_Write.B : Code := Tryd.f59.body.getD .skip
noncomputable def digest_Hasher_Write.rs (r : LL) : List CV := []
noncomputable def digest_Hasher_Write.p2 (N : Nat) (c1_ : ((Option Nat) × Int × LL) → Option LL) (i15 : Nat) (parts_1 : LL) (v1 : Int) (c2_ : LL → Option LL) : LL → Option LL := fun st20 =>
 getE (st20[i15]?) dec_digest_Hasher_o fun x21 =>
 if (decide ((len x21.rest) ≥ 64)) = true then
  chk (64 ≤ (List.length x21.rest)) <|
  optE (digest_Hasher_take N (some i15) (List.take 64 x21.rest) st20) fun st22 =>
  getE (st22[i15]?) dec_digest_Hasher_o fun x23 =>
  chk (64 ≤ (List.length x23.rest)) <|
  c2_ (List.set st22 i15 (digest_Hasher.lo {x23 with rest := List.drop 64 x23.rest}))
 else
 c1_ ((some i15), w64 (v1 + 1), st20)
noncomputable def digest_Hasher_Write.p1 (N : Nat) (parts_1 : LL) (c1_ : ((Option Nat) × Int × LL) → Option LL) : ((Option Nat) × Int × LL) → Option LL := fun (h_12, v1, st13) =>
 if (decide (v1 < (len parts_1))) = true then
  chk (0 ≤ v1) <|
  getE (parts_1[Int.toNat v1]?) dec_t fun x14 =>
  optE h_12 fun i15 =>
  getE (st13[i15]?) dec_digest_Hasher_o fun x16 =>
  chk (List.length (x16.rest ++ (byteL x14)) * 1 ≤ 140737488355328) <|
  loopN (digest_Hasher_Write.p2 N c1_ i15 parts_1 v1) N (List.set (List.set (List.set st13 i15 (digest_Hasher.lo {x16 with size := v64 (x16.size + (v64 (((ByteArray.size x14 : Nat) : Int))))})) i15 (gs (digest_Hasher.lo {x16 with size := v64 (x16.size + (v64 (((ByteArray.size x14 : Nat) : Int))))}) 1)) i15 (digest_Hasher.lo (digest_Hasher.mk x16.state (x16.rest ++ (byteL x14)) (v64 (x16.size + (v64 (((ByteArray.size x14 : Nat) : Int))))))))
 else
 some st13
noncomputable def digest_Hasher_Write (N : Nat) (h_0 : Option Nat) (parts_1 st : LL) : Option LL :=
 if (Option.isNone h_0) = true then
  some st
 else
 loopN (digest_Hasher_Write.p1 N parts_1) N (h_0, 0, st)
noncomputable def digest_Hasher_Write.p2.S (i15 : Nat) (parts_1 : LL) (v1 : Int) (st20 : LL) : S := mkS 55 [(0, .one (.l (L.ptr (some i15)))), (8, .one (.l (L.sl 1 parts_1))), (9, .one (.l (L.int .i64 (len parts_1)))), (10, .one (.l (L.int .i64 v1)))] [] st20
noncomputable def digest_Hasher_Write.p1.S (h_12 : Option Nat) (parts_1 : LL) (v1 : Int) (st13 : LL) : S := mkS 55 [(0, .one (.l (L.ptr h_12))), (8, .one (.l (L.sl 1 parts_1))), (9, .one (.l (L.int .i64 (len parts_1)))), (10, .one (.l (L.int .i64 v1)))] [] st13
theorem digest_Hasher_Write.p2_ok (i15 : Nat) (parts_1 : LL) (v1 : Int) (st20 : LL) {r : LL} {c1_ : ((Option Nat) × Int × LL) → Option LL} {c2_ : LL → Option LL} {J1 : Act → World → Prop} {J2 : Act → World → Prop} (hE : En Tryd.f59 g0 w0 (digest_Hasher_Write.rs r) r R) (hc1 : ∀ (h_12 : Option Nat) (v1 : Int) (st13 : LL), c1_ (h_12, v1, st13) = some r → At g0 w0 (digest_Hasher_Write.p1.S h_12 parts_1 v1 st13) J1) (hc2 : ∀ (st20 : LL), c2_ st20 = some r → At g0 w0 (digest_Hasher_Write.p2.S i15 parts_1 v1 st20) J2) (h : digest_Hasher_Write.p2 N c1_ i15 parts_1 v1 c2_ st20 = some r) : At g0 w0 (digest_Hasher_Write.p2.S i15 parts_1 v1 st20) (XK Tryd.prog R (.c (csub digest_Hasher_Write.B [1, 1, 0, 0, 1, 1, 0, 0, 1, 1, 1, 0, 0]) :: .h J2 :: [.b 2, .b 1, .c (csub digest_Hasher_Write.B [1, 1, 0, 0, 1, 1, 1]), .h J1, .b 0])) := by
 unfold digest_Hasher_Write.p2 at h
 obtain ⟨x21, c32, h1⟩ := dec_digest_Hasher_o_get h; clear h
 refine iteB h1 (fun c33 h2 => ?_) (fun c33 h3 => ?_) <;> clear h1
 · obtain ⟨c34, h4⟩ := chk_inv h2; clear h2
   obtain ⟨st22, c35, h5⟩ := optE_inv h4; clear h4
   obtain ⟨x23, c36, h6⟩ := dec_digest_Hasher_o_get h5; clear h5
   obtain ⟨c37, h7⟩ := chk_inv h6; clear h6
   exact an fol [.r [(3, {oc := x21.lo})], .c true, .r [(4, {oc := x21.lo}), (5, {oc := x21.lo}), (6, {oc := x21.lo, st := st22, wm := 2})], .r [(4, {oc := x23.lo}), (5, {oc := x23.lo}), (8, {oc := x23.lo, m := 8, wm := 1})]] [0, 8, 9, 10] [] (aI c32 (aI c33 (aI c32 (aI (leI 0 64) (aI (leN 0 64) (aI c34 (aI c32 (aI z0 (aI c34 (aI c32 (aI (digest_Hasher_take.snd c35) (aI c36 (aI (leI 0 64) (aI c37 (aI (Nat.le_refl (List.length x23.rest)) (aI c36 (aI (rfl : Root.obj i15 = Root.obj i15) (aI c36 (aI c37 (eN ((List.length x23.rest) - 64))))))))))))))))))))) (hc2 (List.set st22 i15 (digest_Hasher.lo {x23 with rest := List.drop 64 x23.rest})) h7)
 · exact an fol [.r [(3, {oc := x21.lo})], .c false, .r []] [0, 8, 9, 10] [] (aI c32 c33) (hc1 (some i15) (w64 (v1 + 1)) st20 h3)
theorem digest_Hasher_Write.p1_ok (h_12 : Option Nat) (parts_1 : LL) (v1 : Int) (st13 : LL) {r : LL} {c1_ : ((Option Nat) × Int × LL) → Option LL} {J1 : Act → World → Prop} (hE : En Tryd.f59 g0 w0 (digest_Hasher_Write.rs r) r R) (hc1 : ∀ (h_12 : Option Nat) (v1 : Int) (st13 : LL), c1_ (h_12, v1, st13) = some r → At g0 w0 (digest_Hasher_Write.p1.S h_12 parts_1 v1 st13) J1) (h : digest_Hasher_Write.p1 N parts_1 c1_ (h_12, v1, st13) = some r) : At g0 w0 (digest_Hasher_Write.p1.S h_12 parts_1 v1 st13) (XK Tryd.prog R (.c (csub digest_Hasher_Write.B [1, 1, 0, 0]) :: .h J1 :: [.b 0])) := by
 unfold digest_Hasher_Write.p1 at h
 refine iteB h (fun c20 h8 => ?_) (fun c20 h9 => ?_) <;> clear h
 · obtain ⟨c21, h10⟩ := chk_inv h8; clear h8
   obtain ⟨x14, c22, h11⟩ := dec_t_get h10; clear h10
   obtain ⟨i15, rfl, h12⟩ := optE_inv h11; clear h11
   obtain ⟨x16, c24, h13⟩ := dec_digest_Hasher_o_get h12; clear h12
   obtain ⟨c25, h14⟩ := chk_inv h13; clear h13
   exact aq fol [.r [], .c true, .r [(1, {oe := [L.str x14]})], .r [(3, {oc := x16.lo}), (10, {oc := x16.lo})], .r [(4, {oc := digest_Hasher.lo {x16 with size := v64 (x16.size + (v64 (((ByteArray.size x14 : Nat) : Int))))}}), (6, {oe := digest_Hasher.lo {x16 with size := v64 (x16.size + (v64 (((ByteArray.size x14 : Nat) : Int))))}}), (9, {oc := gs (digest_Hasher.lo {x16 with size := v64 (x16.size + (v64 (((ByteArray.size x14 : Nat) : Int))))}) 1, mv := [30]})]] [0, 8, 9, 10] [] (aI c20 (aI c21 (aI (oD c20) (aI c22 (aI c24 (aI c24 (aI (st_set_self c24 (digest_Hasher.lo {x16 with size := v64 (x16.size + (v64 (((ByteArray.size x14 : Nat) : Int))))})) (aI z0 (aI (eN (List.length x16.rest)) (aI (st_set_self c24 (digest_Hasher.lo {x16 with size := v64 (x16.size + (v64 (((ByteArray.size x14 : Nat) : Int))))})) (aI c25 (aI (st_set_self (st_set_self c24 (digest_Hasher.lo {x16 with size := v64 (x16.size + (v64 (((ByteArray.size x14 : Nat) : Int))))})) (gs (digest_Hasher.lo {x16 with size := v64 (x16.size + (v64 (((ByteArray.size x14 : Nat) : Int))))}) 1)) (aI z0 (eN (List.length (x16.rest ++ (byteL x14))))))))))))))))) (At.loop N (At.loopN (fun y : LL => digest_Hasher_Write.p2.S i15 parts_1 v1 y) (fun c J hc y h => digest_Hasher_Write.p2_ok i15 parts_1 v1 y hE hc1 (fun st20 hh => hc st20 hh) h) N (List.set (List.set (List.set st13 i15 (digest_Hasher.lo {x16 with size := v64 (x16.size + (v64 (((ByteArray.size x14 : Nat) : Int))))})) i15 (gs (digest_Hasher.lo {x16 with size := v64 (x16.size + (v64 (((ByteArray.size x14 : Nat) : Int))))}) 1)) i15 (digest_Hasher.lo (digest_Hasher.mk x16.state (x16.rest ++ (byteL x14)) (v64 (x16.size + (v64 (((ByteArray.size x14 : Nat) : Int)))))))) h14))
 · obtain rfl := some_inv h9
   exact af fol hE [.r [], .c false] [] 0 [] c20
theorem digest_Hasher_Write.snd {h_0 : Option Nat} {parts_1 : LL} {st : LL} {r : LL} (h : digest_Hasher_Write N h_0 parts_1 st = some r) : Snd Tryd.prog 59 [.one (L.ptr h_0), .one (L.sl 1 parts_1)] st (digest_Hasher_Write.rs r) r :=
 sO digest_Hasher_Write.B Tryd.func59 fun g0 w0 R hE => by
  unfold digest_Hasher_Write at h
  refine iteB h (fun c1 h15 => ?_) (fun c1 h16 => ?_) <;> clear h
  · obtain rfl := some_inv h15
    exact af fol hE [.r [], .c true] [] 0 [] c1
  · exact aq fol [.r [], .c false, .r []] [0, 8, 9, 10] [] c1 (At.loop N (At.loopN (fun y : (Option Nat) × Int × LL => digest_Hasher_Write.p1.S y.1 parts_1 y.2.1 y.2.2) (fun c J hc y h => digest_Hasher_Write.p1_ok y.1 parts_1 y.2.1 y.2.2 hE (fun h_12 v1 st13 hh => hc (h_12, v1, st13) hh) h) N (h_0, 0, st) h16))
/-! (*trailhead/digest.Hasher).Sum -/
noncomputable def digest_Hasher_Sum_v.B : Code := Tryd.f60.body.getD .skip
noncomputable def digest_Hasher_Sum_v.rs (r : (List Int) × LL) : List CV := [.agg [L.arr .u8 32 r.1]]
noncomputable def digest_Hasher_Sum_v.p4 (N : Nat) (x47 : digest_Hasher) (st45 : LL) (c4_ : (Int × (List Int)) → Option ((List Int) × LL)) : (Int × (List Int)) → Option ((List Int) × LL) := fun (v48, out_49) =>
 if (decide (v48 < 8)) = true then
  chk (0 ≤ v48) <|
  chk (0 ≤ (w64 (4 * v48))) <|
  chk ((w64 (4 * v48)) < 32) <|
  chk (0 ≤ (w64 ((w64 (4 * v48)) + 1))) <|
  chk ((w64 ((w64 (4 * v48)) + 1)) < 32) <|
  chk (0 ≤ (w64 ((w64 (4 * v48)) + 2))) <|
  chk ((w64 ((w64 (4 * v48)) + 2)) < 32) <|
  chk (0 ≤ (w64 ((w64 (4 * v48)) + 3))) <|
  chk ((w64 ((w64 (4 * v48)) + 3)) < 32) <|
  c4_ (w64 (v48 + 1), List.set (List.set (List.set (List.set out_49 (Int.toNat (w64 (4 * v48))) (v8 (shrOf .u32 (List.getD x47.state (Int.toNat v48) 0) 24))) (Int.toNat (w64 ((w64 (4 * v48)) + 1))) (v8 (shrOf .u32 (List.getD x47.state (Int.toNat v48) 0) 16))) (Int.toNat (w64 ((w64 (4 * v48)) + 2))) (v8 (shrOf .u32 (List.getD x47.state (Int.toNat v48) 0) 8))) (Int.toNat (w64 ((w64 (4 * v48)) + 3))) (v8 (List.getD x47.state (Int.toNat v48) 0)))
 else
 some (out_49, st45)
noncomputable def digest_Hasher_Sum_v.p3 (N : Nat) (st v38 : LL) (c3_ : (Nat × Nat × LL) → Option ((List Int) × LL)) : (Nat × Nat × LL) → Option ((List Int) × LL) := fun (tail_43, tail_44, st45) =>
 if (decide (((tail_44 : Nat) : Int) > 0)) = true then
  chk ((tail_43 + 64) ≤ (List.length v38)) <|
  optE (digest_Hasher_take N (some (List.length st)) (List.take 64 (List.drop tail_43 v38)) st45) fun st46 =>
  chk (64 ≤ tail_44) <|
  c3_ (tail_43 + 64, tail_44 - 64, st46)
 else
 getE (st45[List.length st]?) dec_digest_Hasher_o fun x47 =>
 loopN (digest_Hasher_Sum_v.p4 N x47 st45) N (0, List.replicate 32 0)
noncomputable def digest_Hasher_Sum_v.p2 (N : Nat) (h_0 : digest_Hasher) (st : LL) (c2_ : (LL × Int) → Option ((List Int) × LL)) : (LL × Int) → Option ((List Int) × LL) := fun (v38, i_26) =>
 if (decide (i_26 ≥ 0)) = true then
  chk (0 ≤ (w64 (8 * i_26))) <|
  chk (List.length (v38 ++ [[L.int .u8 (v8 (shrOf .u64 (v64 (h_0.size * 8)) (w64 (8 * i_26))))]]) * 1 ≤ 140737488355328) <|
  c2_ (v38 ++ [[L.int .u8 (v8 (shrOf .u64 (v64 (h_0.size * 8)) (w64 (8 * i_26))))]], w64 (i_26 - 1))
 else
 loopN (digest_Hasher_Sum_v.p3 N st v38) N (0, List.length v38, st ++ [digest_Hasher.lo (digest_Hasher.mk h_0.state [] 0)])
noncomputable def digest_Hasher_Sum_v.p1 (N : Nat) (h_0 : digest_Hasher) (st : LL) (c1_ : LL → Option ((List Int) × LL)) : LL → Option ((List Int) × LL) := fun v25 =>
 if ((Int.tmod (len v25) 64) != 56) = true then
  chk (List.length (v25 ++ [[L.int .u8 0]]) * 1 ≤ 140737488355328) <|
  c1_ (v25 ++ [[L.int .u8 0]])
 else
 loopN (digest_Hasher_Sum_v.p2 N h_0 st) N (v25, 7)
noncomputable def digest_Hasher_Sum_v (N : Nat) (h_0 : digest_Hasher) (st : LL) : Option ((List Int) × LL) :=
 chk (List.length ([] ++ h_0.rest) * 1 ≤ 140737488355328) <|
 chk (List.length (([] ++ h_0.rest) ++ [[L.int .u8 128]]) * 1 ≤ 140737488355328) <|
 loopN (digest_Hasher_Sum_v.p1 N h_0 st) N (([] ++ h_0.rest) ++ [[L.int .u8 128]])
noncomputable def digest_Hasher_Sum_v.p4.S (x47 : digest_Hasher) (v48 : Int) (out_49 : List Int) (st45 : LL) : S := mkS 94 [(2, .one (.adr (.site 2) 0)), (6, .one (.adr (.site 6) 0)), (61, .agg [.l (L.arr .u32 8 x47.state)]), (62, .one (.l (L.int .i64 v48)))] [(2, .cells [L.arr .u8 32 (List.replicate 32 0)]), (6, .cells [L.arr .u8 32 out_49])] st45
noncomputable def digest_Hasher_Sum_v.p3.S (st : LL) (tail_43 tail_44 : Nat) (v38 st45 : LL) : S := mkS 94 [(2, .one (.adr (.site 2) 0)), (3, .one (.l (L.ptr (some (List.length st))))), (4, .one (.h (.row 22 0) 1 tail_43 tail_44))] [(2, .cells [L.arr .u8 32 (List.replicate 32 0)]), (22, .row 0 false 1 v38)] st45
noncomputable def digest_Hasher_Sum_v.p2.S (h_0 : digest_Hasher) (st v38 : LL) (i_26 : Int) : S := mkS 94 [(0, .one (.l (L.bx 10 h_0.ls))), (2, .one (.adr (.site 2) 0)), (3, .one (.l (L.ptr (some (List.length st))))), (4, .one (.h (.row 22 0) 1 0 (List.length v38))), (5, .one (.l (L.int .i64 i_26)))] [(2, .cells [L.arr .u8 32 (List.replicate 32 0)]), (22, .row 0 false 1 v38)] (st ++ [digest_Hasher.lo (digest_Hasher.mk h_0.state [] 0)])
noncomputable def digest_Hasher_Sum_v.p1.S (h_0 : digest_Hasher) (st v25 : LL) : S := mkS 94 [(0, .one (.l (L.bx 10 h_0.ls))), (2, .one (.adr (.site 2) 0)), (3, .one (.l (L.ptr (some (List.length st))))), (4, .one (.h (.row 22 0) 1 0 (List.length v25)))] [(2, .cells [L.arr .u8 32 (List.replicate 32 0)]), (22, .row 0 false 1 v25)] (st ++ [digest_Hasher.lo (digest_Hasher.mk h_0.state [] 0)])
theorem digest_Hasher_Sum_v.p4_ok (x47 : digest_Hasher) (v48 : Int) (out_49 : List Int) (st45 : LL) {r : (List Int) × LL} {c4_ : (Int × (List Int)) → Option ((List Int) × LL)} {J4 : Act → World → Prop} (hE : En Tryd.f60 g0 w0 (digest_Hasher_Sum_v.rs r) r.2 R) (hc4 : ∀ (v48 : Int) (out_49 : List Int), c4_ (v48, out_49) = some r → At g0 w0 (digest_Hasher_Sum_v.p4.S x47 v48 out_49 st45) J4) (h : digest_Hasher_Sum_v.p4 N x47 st45 c4_ (v48, out_49) = some r) : At g0 w0 (digest_Hasher_Sum_v.p4.S x47 v48 out_49 st45) (XK Tryd.prog R (.c (csub digest_Hasher_Sum_v.B [1, 1, 1, 1, 1, 1, 1, 1, 1, 0, 1, 0, 0]) :: .h J4 :: [.b 6, .c (csub digest_Hasher_Sum_v.B [1, 1, 1, 1, 1, 1, 1, 1, 1, 1])])) := by
 unfold digest_Hasher_Sum_v.p4 at h
 refine iteB h (fun c205 h1 => ?_) (fun c205 h2 => ?_) <;> clear h
 · obtain ⟨c206, c207, c208, c209, c210, c211, c212, c213, h3⟩ := ck8 h1; clear h1
   obtain ⟨c214, h4⟩ := chk_inv h3; clear h3
   exact an fol [.r [], .c true, .r [], .r [], .r []] [2, 6, 61, 62] [2, 6] (aI c205 (aI c206 (aI (oD c205) (aI (leI 0 24) (aI (leI 0 16) (aI (leI 0 8) (aI c207 (aI c208 (aI c209 (aI c210 (aI c211 (aI c212 (aI c213 c214))))))))))))) (hc4 (w64 (v48 + 1)) (List.set (List.set (List.set (List.set out_49 (Int.toNat (w64 (4 * v48))) (v8 (shrOf .u32 (List.getD x47.state (Int.toNat v48) 0) 24))) (Int.toNat (w64 ((w64 (4 * v48)) + 1))) (v8 (shrOf .u32 (List.getD x47.state (Int.toNat v48) 0) 16))) (Int.toNat (w64 ((w64 (4 * v48)) + 2))) (v8 (shrOf .u32 (List.getD x47.state (Int.toNat v48) 0) 8))) (Int.toNat (w64 ((w64 (4 * v48)) + 3))) (v8 (List.getD x47.state (Int.toNat v48) 0))) h4)
 · obtain rfl := some_inv h2
   exact af fol hE [.r [], .c false, .r []] [] 0 [] c205
theorem digest_Hasher_Sum_v.p3_ok (st : LL) (tail_43 tail_44 : Nat) (v38 st45 : LL) {r : (List Int) × LL} {c3_ : (Nat × Nat × LL) → Option ((List Int) × LL)} {J3 : Act → World → Prop} (hE : En Tryd.f60 g0 w0 (digest_Hasher_Sum_v.rs r) r.2 R) (hc3 : ∀ (tail_43 tail_44 : Nat) (st45 : LL), c3_ (tail_43, tail_44, st45) = some r → At g0 w0 (digest_Hasher_Sum_v.p3.S st tail_43 tail_44 v38 st45) J3) (h : digest_Hasher_Sum_v.p3 N st v38 c3_ (tail_43, tail_44, st45) = some r) : At g0 w0 (digest_Hasher_Sum_v.p3.S st tail_43 tail_44 v38 st45) (XK Tryd.prog R (.c (csub digest_Hasher_Sum_v.B [1, 1, 1, 1, 1, 1, 1, 0, 0, 0]) :: .h J3 :: [.b 4, .c (csub digest_Hasher_Sum_v.B [1, 1, 1, 1, 1, 1, 1, 1])])) := by
 unfold digest_Hasher_Sum_v.p3 at h
 refine iteB h (fun c190 h5 => ?_) (fun c190 h6 => ?_) <;> clear h
 · obtain ⟨c191, h7⟩ := chk_inv h5; clear h5
   obtain ⟨st46, c192, h8⟩ := optE_inv h7; clear h7
   obtain ⟨c193, h9⟩ := chk_inv h8; clear h8
   exact an fol [.r [], .c true, .r [(2, {m := 9}), (3, {st := st46, wm := 3, fz := [22]})], .r []] [2, 3, 4] [2, 22] (aI c190 (aI (leI 0 64) (aI (leN 0 64) (aI c191 (aI c191 (aI (digest_Hasher_take.snd c192) (aI (leI 0 64) (aI c193 (Nat.le_refl (tail_44)))))))))) (hc3 (tail_43 + 64) (tail_44 - 64) st46 h9)
 · obtain ⟨x47, c194, h10⟩ := dec_digest_Hasher_o_get h6; clear h6
   exact aq fol [.r [], .c false, .r [], .r [(3, {oc := x47.lo})]] [2, 6, 61, 62] [2, 6] (aI c190 c194) (At.loop N (At.loopN (fun y : Int × (List Int) => digest_Hasher_Sum_v.p4.S x47 y.1 y.2 st45) (fun c J hc y h => digest_Hasher_Sum_v.p4_ok x47 y.1 y.2 st45 hE (fun v48 out_49 hh => hc (v48, out_49) hh) h) N (0, List.replicate 32 0) h10))
theorem digest_Hasher_Sum_v.p2_ok (h_0 : digest_Hasher) (st v38 : LL) (i_26 : Int) {r : (List Int) × LL} {c2_ : (LL × Int) → Option ((List Int) × LL)} {J2 : Act → World → Prop} (hE : En Tryd.f60 g0 w0 (digest_Hasher_Sum_v.rs r) r.2 R) (hc2 : ∀ (v38 : LL) (i_26 : Int), c2_ (v38, i_26) = some r → At g0 w0 (digest_Hasher_Sum_v.p2.S h_0 st v38 i_26) J2) (h : digest_Hasher_Sum_v.p2 N h_0 st c2_ (v38, i_26) = some r) : At g0 w0 (digest_Hasher_Sum_v.p2.S h_0 st v38 i_26) (XK Tryd.prog R (.c (csub digest_Hasher_Sum_v.B [1, 1, 1, 1, 1, 1, 0, 1, 0, 0]) :: .h J2 :: [.b 2, .c (csub digest_Hasher_Sum_v.B [1, 1, 1, 1, 1, 1, 1])])) := by
 unfold digest_Hasher_Sum_v.p2 at h
 refine iteB h (fun c163 h11 => ?_) (fun c163 h12 => ?_) <;> clear h
 · obtain ⟨c164, c165, h13⟩ := ck2 h11; clear h11
   exact an fol [.r [], .c true, .r [(4, {oe := h_0.ls})], .r []] [0, 2, 3, 4, 5] [2, 22] (aI c163 (aI (eO h_0.ls) (aI c164 (aI z0 (aI (eN (List.length v38)) (aI z0 (aI (eN (1)) c165))))))) (hc2 (v38 ++ [[L.int .u8 (v8 (shrOf .u64 (v64 (h_0.size * 8)) (w64 (8 * i_26))))]]) (w64 (i_26 - 1)) h13)
 · exact aq fol [.r [], .c false] [2, 3, 4] [2, 22] c163 (At.loop N (At.loopN (fun y : Nat × Nat × LL => digest_Hasher_Sum_v.p3.S st y.1 y.2.1 v38 y.2.2) (fun c J hc y h => digest_Hasher_Sum_v.p3_ok st y.1 y.2.1 v38 y.2.2 hE (fun tail_43 tail_44 st45 hh => hc (tail_43, tail_44, st45) hh) h) N (0, List.length v38, st ++ [digest_Hasher.lo (digest_Hasher.mk h_0.state [] 0)]) h12))
theorem digest_Hasher_Sum_v.p1_ok (h_0 : digest_Hasher) (st v25 : LL) {r : (List Int) × LL} {c1_ : LL → Option ((List Int) × LL)} {J1 : Act → World → Prop} (hE : En Tryd.f60 g0 w0 (digest_Hasher_Sum_v.rs r) r.2 R) (hc1 : ∀ (v25 : LL), c1_ v25 = some r → At g0 w0 (digest_Hasher_Sum_v.p1.S h_0 st v25) J1) (h : digest_Hasher_Sum_v.p1 N h_0 st c1_ v25 = some r) : At g0 w0 (digest_Hasher_Sum_v.p1.S h_0 st v25) (XK Tryd.prog R (.c (csub digest_Hasher_Sum_v.B [1, 1, 1, 1, 1, 0, 0, 0]) :: .h J1 :: [.b 0, .c (csub digest_Hasher_Sum_v.B [1, 1, 1, 1, 1, 1])])) := by
 unfold digest_Hasher_Sum_v.p1 at h
 refine iteB h (fun c109 h14 => ?_) (fun c109 h15 => ?_) <;> clear h
 · obtain ⟨c110, h16⟩ := chk_inv h14; clear h14
   exact an fol [.r [], .c true, .r []] [0, 2, 3, 4] [2, 22] (aI (neI 64) (aI c109 (aI z0 (aI (eN (List.length v25)) (aI z0 (aI (eN (1)) c110)))))) (hc1 (v25 ++ [[L.int .u8 0]]) h16)
 · exact aq fol [.r [], .c false, .r []] [0, 2, 3, 4, 5] [2, 22] (aI (neI 64) c109) (At.loop N (At.loopN (fun y : LL × Int => digest_Hasher_Sum_v.p2.S h_0 st y.1 y.2) (fun c J hc y h => digest_Hasher_Sum_v.p2_ok h_0 st y.1 y.2 hE (fun v38 i_26 hh => hc (v38, i_26) hh) h) N (v25, 7) h15))
theorem digest_Hasher_Sum_v.snd {h_0 : digest_Hasher} {st : LL} {r : (List Int) × LL} (h : digest_Hasher_Sum_v N h_0 st = some r) : Snd Tryd.prog 60 [.one (L.bx 10 h_0.ls)] st (digest_Hasher_Sum_v.rs r) r.2 :=
 sO digest_Hasher_Sum_v.B Tryd.func60 fun g0 w0 R hE => by
  unfold digest_Hasher_Sum_v at h
  obtain ⟨c1, c2, h17⟩ := ck2 h; clear h
  exact aq fol [.r [], .r [], .c false, .r [(3, {oe := h_0.ls}), (4, {mv := [1]}), (5, {m := 1})], .r [(3, {oe := h_0.ls}), (5, {fz := [22]})], .r []] [0, 2, 3, 4] [2, 22] (aI (eB false) (aI (eO h_0.ls) (aI (eO h_0.ls) (aI c1 (aI z0 (aI (eN (List.length ([] ++ h_0.rest))) (aI z0 (aI (eN (1)) c2)))))))) (At.loop N (At.loopN (fun y : LL => digest_Hasher_Sum_v.p1.S h_0 st y) (fun c J hc y h => digest_Hasher_Sum_v.p1_ok h_0 st y hE (fun v25 hh => hc v25 hh) h) N (([] ++ h_0.rest) ++ [[L.int .u8 128]]) h17))
/-! (*trailhead/digest.Hasher).Sum -/
noncomputable def digest_Hasher_Sum.B : Code := Tryd.f60.body.getD .skip
noncomputable def digest_Hasher_Sum.rs (r : (List Int) × LL) : List CV := [.agg [L.arr .u8 32 r.1]]
noncomputable def digest_Hasher_Sum.p4 (N : Nat) (x53 : digest_Hasher) (st51 : LL) (c4_ : (Int × (List Int)) → Option ((List Int) × LL)) : (Int × (List Int)) → Option ((List Int) × LL) := fun (v54, out_55) =>
 if (decide (v54 < 8)) = true then
  chk (0 ≤ v54) <|
  chk (0 ≤ (w64 (4 * v54))) <|
  chk ((w64 (4 * v54)) < 32) <|
  chk (0 ≤ (w64 ((w64 (4 * v54)) + 1))) <|
  chk ((w64 ((w64 (4 * v54)) + 1)) < 32) <|
  chk (0 ≤ (w64 ((w64 (4 * v54)) + 2))) <|
  chk ((w64 ((w64 (4 * v54)) + 2)) < 32) <|
  chk (0 ≤ (w64 ((w64 (4 * v54)) + 3))) <|
  chk ((w64 ((w64 (4 * v54)) + 3)) < 32) <|
  c4_ (w64 (v54 + 1), List.set (List.set (List.set (List.set out_55 (Int.toNat (w64 (4 * v54))) (v8 (shrOf .u32 (List.getD x53.state (Int.toNat v54) 0) 24))) (Int.toNat (w64 ((w64 (4 * v54)) + 1))) (v8 (shrOf .u32 (List.getD x53.state (Int.toNat v54) 0) 16))) (Int.toNat (w64 ((w64 (4 * v54)) + 2))) (v8 (shrOf .u32 (List.getD x53.state (Int.toNat v54) 0) 8))) (Int.toNat (w64 ((w64 (4 * v54)) + 3))) (v8 (List.getD x53.state (Int.toNat v54) 0)))
 else
 some (out_55, st51)
noncomputable def digest_Hasher_Sum.p3 (N : Nat) (st v43 : LL) (c3_ : (Nat × Nat × LL) → Option ((List Int) × LL)) : (Nat × Nat × LL) → Option ((List Int) × LL) := fun (tail_49, tail_50, st51) =>
 if (decide (((tail_50 : Nat) : Int) > 0)) = true then
  chk ((tail_49 + 64) ≤ (List.length v43)) <|
  optE (digest_Hasher_take N (some (List.length st)) (List.take 64 (List.drop tail_49 v43)) st51) fun st52 =>
  chk (64 ≤ tail_50) <|
  c3_ (tail_49 + 64, tail_50 - 64, st52)
 else
 getE (st51[List.length st]?) dec_digest_Hasher_o fun x53 =>
 loopN (digest_Hasher_Sum.p4 N x53 st51) N (0, List.replicate 32 0)
noncomputable def digest_Hasher_Sum.p2 (N : Nat) (i1 : Nat) (st : LL) (x2 : digest_Hasher) (c2_ : (LL × Int) → Option ((List Int) × LL)) : (LL × Int) → Option ((List Int) × LL) := fun (v43, i_30) =>
 if (decide (i_30 ≥ 0)) = true then
  getE ((st ++ [digest_Hasher.lo (digest_Hasher.mk x2.state [] 0)])[i1]?) dec_digest_Hasher_o fun x44 =>
  chk (0 ≤ (w64 (8 * i_30))) <|
  chk (List.length (v43 ++ [[L.int .u8 (v8 (shrOf .u64 (v64 (x44.size * 8)) (w64 (8 * i_30))))]]) * 1 ≤ 140737488355328) <|
  c2_ (v43 ++ [[L.int .u8 (v8 (shrOf .u64 (v64 (x44.size * 8)) (w64 (8 * i_30))))]], w64 (i_30 - 1))
 else
 loopN (digest_Hasher_Sum.p3 N st v43) N (0, List.length v43, st ++ [digest_Hasher.lo (digest_Hasher.mk x2.state [] 0)])
noncomputable def digest_Hasher_Sum.p1 (N : Nat) (i1 : Nat) (st : LL) (x2 : digest_Hasher) (c1_ : LL → Option ((List Int) × LL)) : LL → Option ((List Int) × LL) := fun v29 =>
 if ((Int.tmod (len v29) 64) != 56) = true then
  chk (List.length (v29 ++ [[L.int .u8 0]]) * 1 ≤ 140737488355328) <|
  c1_ (v29 ++ [[L.int .u8 0]])
 else
 loopN (digest_Hasher_Sum.p2 N i1 st x2) N (v29, 7)
noncomputable def digest_Hasher_Sum (N : Nat) (h_0 : Option Nat) (st : LL) : Option ((List Int) × LL) :=
 if (Option.isNone h_0) = true then
  some (List.replicate 32 0, st)
 else
 optE h_0 fun i1 =>
 getE (st[i1]?) dec_digest_Hasher_o fun x2 =>
 chk (List.length ([] ++ x2.rest) * 1 ≤ 140737488355328) <|
 chk (List.length (([] ++ x2.rest) ++ [[L.int .u8 128]]) * 1 ≤ 140737488355328) <|
 loopN (digest_Hasher_Sum.p1 N i1 st x2) N (([] ++ x2.rest) ++ [[L.int .u8 128]])
noncomputable def digest_Hasher_Sum.p4.S (x53 : digest_Hasher) (v54 : Int) (out_55 : List Int) (st51 : LL) : S := mkS 94 [(2, .one (.adr (.site 2) 0)), (6, .one (.adr (.site 6) 0)), (61, .agg [.l (L.arr .u32 8 x53.state)]), (62, .one (.l (L.int .i64 v54)))] [(2, .cells [L.arr .u8 32 (List.replicate 32 0)]), (6, .cells [L.arr .u8 32 out_55])] st51
noncomputable def digest_Hasher_Sum.p3.S (st : LL) (tail_49 tail_50 : Nat) (v43 st51 : LL) : S := mkS 94 [(2, .one (.adr (.site 2) 0)), (3, .one (.l (L.ptr (some (List.length st))))), (4, .one (.h (.row 22 0) 1 tail_49 tail_50))] [(2, .cells [L.arr .u8 32 (List.replicate 32 0)]), (22, .row 0 false 1 v43)] st51
noncomputable def digest_Hasher_Sum.p2.S (i1 : Nat) (st v43 : LL) (i_30 : Int) (x2 : digest_Hasher) : S := mkS 94 [(0, .one (.l (L.ptr (some i1)))), (2, .one (.adr (.site 2) 0)), (3, .one (.l (L.ptr (some (List.length st))))), (4, .one (.h (.row 22 0) 1 0 (List.length v43))), (5, .one (.l (L.int .i64 i_30)))] [(2, .cells [L.arr .u8 32 (List.replicate 32 0)]), (22, .row 0 false 1 v43)] (st ++ [digest_Hasher.lo (digest_Hasher.mk x2.state [] 0)])
noncomputable def digest_Hasher_Sum.p1.S (i1 : Nat) (st v29 : LL) (x2 : digest_Hasher) : S := mkS 94 [(0, .one (.l (L.ptr (some i1)))), (2, .one (.adr (.site 2) 0)), (3, .one (.l (L.ptr (some (List.length st))))), (4, .one (.h (.row 22 0) 1 0 (List.length v29)))] [(2, .cells [L.arr .u8 32 (List.replicate 32 0)]), (22, .row 0 false 1 v29)] (st ++ [digest_Hasher.lo (digest_Hasher.mk x2.state [] 0)])
theorem digest_Hasher_Sum.p4_ok (x53 : digest_Hasher) (v54 : Int) (out_55 : List Int) (st51 : LL) {r : (List Int) × LL} {c4_ : (Int × (List Int)) → Option ((List Int) × LL)} {J4 : Act → World → Prop} (hE : En Tryd.f60 g0 w0 (digest_Hasher_Sum.rs r) r.2 R) (hc4 : ∀ (v54 : Int) (out_55 : List Int), c4_ (v54, out_55) = some r → At g0 w0 (digest_Hasher_Sum.p4.S x53 v54 out_55 st51) J4) (h : digest_Hasher_Sum.p4 N x53 st51 c4_ (v54, out_55) = some r) : At g0 w0 (digest_Hasher_Sum.p4.S x53 v54 out_55 st51) (XK Tryd.prog R (.c (csub digest_Hasher_Sum.B [1, 1, 1, 1, 1, 1, 1, 1, 1, 0, 1, 0, 0]) :: .h J4 :: [.b 6, .c (csub digest_Hasher_Sum.B [1, 1, 1, 1, 1, 1, 1, 1, 1, 1])])) := by
 unfold digest_Hasher_Sum.p4 at h
 refine iteB h (fun c212 h1 => ?_) (fun c212 h2 => ?_) <;> clear h
 · obtain ⟨c213, c214, c215, c216, c217, c218, c219, c220, h3⟩ := ck8 h1; clear h1
   obtain ⟨c221, h4⟩ := chk_inv h3; clear h3
   exact an fol [.r [], .c true, .r [], .r [], .r []] [2, 6, 61, 62] [2, 6] (aI c212 (aI c213 (aI (oD c212) (aI (leI 0 24) (aI (leI 0 16) (aI (leI 0 8) (aI c214 (aI c215 (aI c216 (aI c217 (aI c218 (aI c219 (aI c220 c221))))))))))))) (hc4 (w64 (v54 + 1)) (List.set (List.set (List.set (List.set out_55 (Int.toNat (w64 (4 * v54))) (v8 (shrOf .u32 (List.getD x53.state (Int.toNat v54) 0) 24))) (Int.toNat (w64 ((w64 (4 * v54)) + 1))) (v8 (shrOf .u32 (List.getD x53.state (Int.toNat v54) 0) 16))) (Int.toNat (w64 ((w64 (4 * v54)) + 2))) (v8 (shrOf .u32 (List.getD x53.state (Int.toNat v54) 0) 8))) (Int.toNat (w64 ((w64 (4 * v54)) + 3))) (v8 (List.getD x53.state (Int.toNat v54) 0))) h4)
 · obtain rfl := some_inv h2
   exact af fol hE [.r [], .c false, .r []] [] 0 [] c212
theorem digest_Hasher_Sum.p3_ok (st : LL) (tail_49 tail_50 : Nat) (v43 st51 : LL) {r : (List Int) × LL} {c3_ : (Nat × Nat × LL) → Option ((List Int) × LL)} {J3 : Act → World → Prop} (hE : En Tryd.f60 g0 w0 (digest_Hasher_Sum.rs r) r.2 R) (hc3 : ∀ (tail_49 tail_50 : Nat) (st51 : LL), c3_ (tail_49, tail_50, st51) = some r → At g0 w0 (digest_Hasher_Sum.p3.S st tail_49 tail_50 v43 st51) J3) (h : digest_Hasher_Sum.p3 N st v43 c3_ (tail_49, tail_50, st51) = some r) : At g0 w0 (digest_Hasher_Sum.p3.S st tail_49 tail_50 v43 st51) (XK Tryd.prog R (.c (csub digest_Hasher_Sum.B [1, 1, 1, 1, 1, 1, 1, 0, 0, 0]) :: .h J3 :: [.b 4, .c (csub digest_Hasher_Sum.B [1, 1, 1, 1, 1, 1, 1, 1])])) := by
 unfold digest_Hasher_Sum.p3 at h
 refine iteB h (fun c197 h5 => ?_) (fun c197 h6 => ?_) <;> clear h
 · obtain ⟨c198, h7⟩ := chk_inv h5; clear h5
   obtain ⟨st52, c199, h8⟩ := optE_inv h7; clear h7
   obtain ⟨c200, h9⟩ := chk_inv h8; clear h8
   exact an fol [.r [], .c true, .r [(2, {m := 9}), (3, {st := st52, wm := 3, fz := [22]})], .r []] [2, 3, 4] [2, 22] (aI c197 (aI (leI 0 64) (aI (leN 0 64) (aI c198 (aI c198 (aI (digest_Hasher_take.snd c199) (aI (leI 0 64) (aI c200 (Nat.le_refl (tail_50)))))))))) (hc3 (tail_49 + 64) (tail_50 - 64) st52 h9)
 · obtain ⟨x53, c201, h10⟩ := dec_digest_Hasher_o_get h6; clear h6
   exact aq fol [.r [], .c false, .r [], .r [(3, {oc := x53.lo})]] [2, 6, 61, 62] [2, 6] (aI c197 c201) (At.loop N (At.loopN (fun y : Int × (List Int) => digest_Hasher_Sum.p4.S x53 y.1 y.2 st51) (fun c J hc y h => digest_Hasher_Sum.p4_ok x53 y.1 y.2 st51 hE (fun v54 out_55 hh => hc (v54, out_55) hh) h) N (0, List.replicate 32 0) h10))
theorem digest_Hasher_Sum.p2_ok (i1 : Nat) (st v43 : LL) (i_30 : Int) (x2 : digest_Hasher) {r : (List Int) × LL} {c2_ : (LL × Int) → Option ((List Int) × LL)} {J2 : Act → World → Prop} (hE : En Tryd.f60 g0 w0 (digest_Hasher_Sum.rs r) r.2 R) (hc2 : ∀ (v43 : LL) (i_30 : Int), c2_ (v43, i_30) = some r → At g0 w0 (digest_Hasher_Sum.p2.S i1 st v43 i_30 x2) J2) (h : digest_Hasher_Sum.p2 N i1 st x2 c2_ (v43, i_30) = some r) : At g0 w0 (digest_Hasher_Sum.p2.S i1 st v43 i_30 x2) (XK Tryd.prog R (.c (csub digest_Hasher_Sum.B [1, 1, 1, 1, 1, 1, 0, 1, 0, 0]) :: .h J2 :: [.b 2, .c (csub digest_Hasher_Sum.B [1, 1, 1, 1, 1, 1, 1])])) := by
 unfold digest_Hasher_Sum.p2 at h
 refine iteB h (fun c169 h11 => ?_) (fun c169 h12 => ?_) <;> clear h
 · obtain ⟨x44, c170, h13⟩ := dec_digest_Hasher_o_get h11; clear h11
   obtain ⟨c171, c172, h14⟩ := ck2 h13; clear h13
   exact an fol [.r [], .c true, .r [(4, {oc := x44.lo})], .r []] [0, 2, 3, 4, 5] [2, 22] (aI c169 (aI c170 (aI c171 (aI z0 (aI (eN (List.length v43)) (aI z0 (aI (eN (1)) c172))))))) (hc2 (v43 ++ [[L.int .u8 (v8 (shrOf .u64 (v64 (x44.size * 8)) (w64 (8 * i_30))))]]) (w64 (i_30 - 1)) h14)
 · exact aq fol [.r [], .c false] [2, 3, 4] [2, 22] c169 (At.loop N (At.loopN (fun y : Nat × Nat × LL => digest_Hasher_Sum.p3.S st y.1 y.2.1 v43 y.2.2) (fun c J hc y h => digest_Hasher_Sum.p3_ok st y.1 y.2.1 v43 y.2.2 hE (fun tail_49 tail_50 st51 hh => hc (tail_49, tail_50, st51) hh) h) N (0, List.length v43, st ++ [digest_Hasher.lo (digest_Hasher.mk x2.state [] 0)]) h12))
theorem digest_Hasher_Sum.p1_ok (i1 : Nat) (st v29 : LL) (x2 : digest_Hasher) {r : (List Int) × LL} {c1_ : LL → Option ((List Int) × LL)} {J1 : Act → World → Prop} (hE : En Tryd.f60 g0 w0 (digest_Hasher_Sum.rs r) r.2 R) (hc1 : ∀ (v29 : LL), c1_ v29 = some r → At g0 w0 (digest_Hasher_Sum.p1.S i1 st v29 x2) J1) (h : digest_Hasher_Sum.p1 N i1 st x2 c1_ v29 = some r) : At g0 w0 (digest_Hasher_Sum.p1.S i1 st v29 x2) (XK Tryd.prog R (.c (csub digest_Hasher_Sum.B [1, 1, 1, 1, 1, 0, 0, 0]) :: .h J1 :: [.b 0, .c (csub digest_Hasher_Sum.B [1, 1, 1, 1, 1, 1])])) := by
 unfold digest_Hasher_Sum.p1 at h
 refine iteB h (fun c114 h15 => ?_) (fun c114 h16 => ?_) <;> clear h
 · obtain ⟨c115, h17⟩ := chk_inv h15; clear h15
   exact an fol [.r [], .c true, .r []] [0, 2, 3, 4] [2, 22] (aI (neI 64) (aI c114 (aI z0 (aI (eN (List.length v29)) (aI z0 (aI (eN (1)) c115)))))) (hc1 (v29 ++ [[L.int .u8 0]]) h17)
 · exact aq fol [.r [], .c false, .r []] [0, 2, 3, 4, 5] [2, 22] (aI (neI 64) c114) (At.loop N (At.loopN (fun y : LL × Int => digest_Hasher_Sum.p2.S i1 st y.1 y.2 x2) (fun c J hc y h => digest_Hasher_Sum.p2_ok i1 st y.1 y.2 x2 hE (fun v43 i_30 hh => hc (v43, i_30) hh) h) N (v29, 7) h16))
theorem digest_Hasher_Sum.snd {h_0 : Option Nat} {st : LL} {r : (List Int) × LL} (h : digest_Hasher_Sum N h_0 st = some r) : Snd Tryd.prog 60 [.one (L.ptr h_0)] st (digest_Hasher_Sum.rs r) r.2 :=
 sO digest_Hasher_Sum.B Tryd.func60 fun g0 w0 R hE => by
  unfold digest_Hasher_Sum at h
  refine iteB h (fun c1 h18 => ?_) (fun c1 h19 => ?_) <;> clear h
  · obtain rfl := some_inv h18
    exact af fol hE [.r [], .r [], .c true, .r []] [] 0 [] c1
  · obtain ⟨i1, rfl, h20⟩ := optE_inv h19; clear h19
    obtain ⟨x2, c3, h21⟩ := dec_digest_Hasher_o_get h20; clear h20
    obtain ⟨c4, c5, h22⟩ := ck2 h21; clear h21
    exact aq fol [.r [], .r [], .c false, .r [(3, {oc := x2.lo}), (4, {mv := [1]}), (5, {m := 1})], .r [(3, {oc := x2.lo}), (4, {oc := x2.lo}), (5, {fz := [22]})], .r []] [0, 2, 3, 4] [2, 22] (aI c1 (aI c3 (aI (st_old c3 (digest_Hasher.lo (digest_Hasher.mk x2.state [] 0))) (aI z0 (aI (eN (List.length x2.rest)) (aI (st_old c3 (digest_Hasher.lo (digest_Hasher.mk x2.state [] 0))) (aI c4 (aI z0 (aI (eN (List.length ([] ++ x2.rest))) (aI z0 (aI (eN (1)) c5))))))))))) (At.loop N (At.loopN (fun y : LL => digest_Hasher_Sum.p1.S i1 st y x2) (fun c J hc y h => digest_Hasher_Sum.p1_ok i1 st y x2 hE (fun v29 hh => hc v29 hh) h) N (([] ++ x2.rest) ++ [[L.int .u8 128]]) h22))
/-! trailhead/digest.Of -/
noncomputable def digest_Of.B : Code := Tryd.f41.body.getD .skip
noncomputable def digest_Of.rs (r : (List Int) × LL) : List CV := [.agg [L.arr .u8 32 r.1]]
noncomputable def digest_Of (N : Nat) (parts_0 st : LL) : Option ((List Int) × LL) :=
 optE (digest_New N st) fun (x1, st2) =>
 optE (digest_Hasher_Write N x1 parts_0 st2) fun st3 =>
 optE (digest_Hasher_Sum N x1 st3) fun (x4, st5) =>
 some (x4, st5)
theorem digest_Of.snd {parts_0 : LL} {st : LL} {r : (List Int) × LL} (h : digest_Of N parts_0 st = some r) : Snd Tryd.prog 41 [.one (L.sl 1 parts_0)] st (digest_Of.rs r) r.2 :=
 sO digest_Of.B Tryd.func41 fun g0 w0 R hE => by
  unfold digest_Of at h
  obtain ⟨⟨x1, st2⟩, c1, h1⟩ := optE_inv h; clear h
  obtain ⟨st3, c2, h2⟩ := optE_inv h1; clear h1
  obtain ⟨⟨x4, st5⟩, c3, h3⟩ := optE_inv h2; clear h2
  obtain rfl := some_inv h3
  exact af fol hE [.r [], .r [(0, {rs := [.one (L.ptr x1)], st := st2})], .r [(2, {st := st3})], .r [(1, {rs := [.agg [L.arr .u8 32 x4]], st := st5})]] [] 0 [] (aI (digest_New.snd c1) (aI (digest_Hasher_Write.snd c2) (digest_Hasher_Sum.snd c3)))
/-! trailhead/digest.Double -/
noncomputable def digest_Double.B : Code := Tryd.f29.body.getD .skip
noncomputable def digest_Double.rs (r : (List Int) × LL) : List CV := [.agg [L.arr .u8 32 r.1]]
noncomputable def digest_Double (N : Nat) (parts_0 st : LL) : Option ((List Int) × LL) :=
 optE (digest_Of N parts_0 st) fun (x1, st2) =>
 optE (digest_Of N [[L.str (istr x1)]] st2) fun (x3, st4) =>
 some (x3, st4)
theorem digest_Double.snd {parts_0 : LL} {st : LL} {r : (List Int) × LL} (h : digest_Double N parts_0 st = some r) : Snd Tryd.prog 29 [.one (L.sl 1 parts_0)] st (digest_Double.rs r) r.2 :=
 sO digest_Double.B Tryd.func29 fun g0 w0 R hE => by
  unfold digest_Double at h
  obtain ⟨⟨x1, st2⟩, c1, h1⟩ := optE_inv h; clear h
  obtain ⟨⟨x3, st4⟩, c2, h2⟩ := optE_inv h1; clear h1
  obtain rfl := some_inv h2
  exact af fol hE [.r [], .r [(1, {rs := [.agg [L.arr .u8 32 x1]], st := st2})], .r [(3, {rs := [.agg [L.arr .u8 32 x3]], st := st4, fz := [8]})]] [] 0 [] (aI (digest_Of.snd c1) (aI (leN 0 32) (aI (leN 32 32) (aI z0 (aI (eN (1)) (digest_Of.snd c2))))))
/-! trailhead/header.Id -/
noncomputable def header_Id.B : Code := Tryd.f13.body.getD .skip
noncomputable def header_Id.rs (r : (List Int) × LL) : List CV := [.agg [L.arr .u8 32 r.1]]
noncomputable def header_Id (N : Nat) (h_0 : api_Header) (st : LL) : Option ((List Int) × LL) :=
 optE (header_Bytes N h_0 st) fun (x1, x2, st3) =>
 if (x2 != 0) = true then
  some (List.replicate 32 0, st3)
 else
 optE (digest_Double N [[L.str x1]] st3) fun (x4, st5) =>
 some (x4, st5)
theorem header_Id.snd {h_0 : api_Header} {st : LL} {r : (List Int) × LL} (h : header_Id N h_0 st = some r) : Snd Tryd.prog 13 [.agg h_0.ls] st (header_Id.rs r) r.2 :=
 sO header_Id.B Tryd.func13 fun g0 w0 R hE => by
  unfold header_Id at h
  obtain ⟨⟨x1, x2, st3⟩, c1, h1⟩ := optE_inv h; clear h
  refine iteB h1 (fun c2 h2 => ?_) (fun c2 h3 => ?_) <;> clear h1
  · obtain rfl := some_inv h2
    exact af fol hE [.r [], .r [(1, {rs := [.one (L.str x1), .one (L.int .i64 x2)], st := st3})], .r [], .c true, .r []] [] 0 [] (aI (header_Bytes.snd c1) c2)
  · obtain ⟨⟨x4, st5⟩, c3, h4⟩ := optE_inv h3; clear h3
    obtain rfl := some_inv h4
    exact af fol hE [.r [], .r [(1, {rs := [.one (L.str x1), .one (L.int .i64 x2)], st := st3})], .r [], .c false, .r [(2, {rs := [.agg [L.arr .u8 32 x4]], st := st5, fz := [14]})]] [] 0 [] (aI (header_Bytes.snd c1) (aI c2 (aI z0 (aI (eN (1)) (digest_Double.snd c3)))))
/-! (*trailhead/median.Window).Push -/
noncomputable def median_Window_Push.B : Code := Tryd.f15.body.getD .skip
noncomputable def median_Window_Push.rs (r : LL) : List CV := []
noncomputable def median_Window_Push.p1 (N : Nat) (times_1 : LL) (c1_ : ((Option Nat) × Int × LL) → Option LL) : ((Option Nat) × Int × LL) → Option LL := fun (w_5, v1, st6) =>
 if (decide (v1 < (len times_1))) = true then
  chk (0 ≤ v1) <|
  getE (times_1[Int.toNat v1]?) dec_i64 fun x7 =>
  optE w_5 fun i8 =>
  getE (st6[i8]?) dec_o1 fun x9 =>
  chk (0 ≤ (if (10 : Int) < (len x9) then 10 else (len x9))) <|
  chk ((Int.toNat (if (10 : Int) < (len x9) then 10 else (len x9))) ≤ (List.length x9)) <|
  chk (List.length ([[L.int .i64 x7]] ++ (List.take (Int.toNat (if (10 : Int) < (len x9) then 10 else (len x9))) x9)) * 8 ≤ 140737488355328) <|
  c1_ ((some i8), w64 (v1 + 1), List.set st6 i8 [L.own true 1 ([[L.int .i64 x7]] ++ (List.take (Int.toNat (if (10 : Int) < (len x9) then 10 else (len x9))) x9))])
 else
 some st6
noncomputable def median_Window_Push (N : Nat) (w_0 : Option Nat) (times_1 st : LL) : Option LL :=
 if (Option.isNone w_0) = true then
  some st
 else
 loopN (median_Window_Push.p1 N times_1) N (w_0, 0, st)
noncomputable def median_Window_Push.p1.S (w_5 : Option Nat) (times_1 : LL) (v1 : Int) (st6 : LL) : S := mkS 32 [(0, .one (.l (L.ptr w_5))), (8, .one (.l (L.sl 1 times_1))), (9, .one (.l (L.int .i64 (len times_1)))), (10, .one (.l (L.int .i64 v1)))] [] st6
theorem median_Window_Push.p1_ok (w_5 : Option Nat) (times_1 : LL) (v1 : Int) (st6 : LL) {r : LL} {c1_ : ((Option Nat) × Int × LL) → Option LL} {J1 : Act → World → Prop} (hE : En Tryd.f15 g0 w0 (median_Window_Push.rs r) r R) (hc1 : ∀ (w_5 : Option Nat) (v1 : Int) (st6 : LL), c1_ (w_5, v1, st6) = some r → At g0 w0 (median_Window_Push.p1.S w_5 times_1 v1 st6) J1) (h : median_Window_Push.p1 N times_1 c1_ (w_5, v1, st6) = some r) : At g0 w0 (median_Window_Push.p1.S w_5 times_1 v1 st6) (XK Tryd.prog R (.c (csub median_Window_Push.B [1, 1, 0, 0]) :: .h J1 :: [.b 0])) := by
 unfold median_Window_Push.p1 at h
 refine iteB h (fun c10 h1 => ?_) (fun c10 h2 => ?_) <;> clear h
 · obtain ⟨c11, h3⟩ := chk_inv h1; clear h1
   obtain ⟨x7, c12, h4⟩ := dec_i64_get h3; clear h3
   obtain ⟨i8, rfl, h5⟩ := optE_inv h4; clear h4
   obtain ⟨x9, c14, h6⟩ := dec_o1_get h5; clear h5
   obtain ⟨c15, c16, c17, h7⟩ := ck3 h6; clear h6
   exact and_ fol [.r [], .c true, .r [(1, {oe := [L.int .i64 x7]})], .d {ds := [(6, {oc := [L.own true 1 x9]}), (10, {oc := [L.own true 1 x9]}), (13, {oc := [L.own true 1 x9]}), (14, {oc := [L.own true 1 x9], wm := 2}), (17, {oc := [L.own true 1 x9], mv := [16]})], hv := 147460, Hs := [4, 16388, 147460]}, .r []] [0, 8, 9, 10] [] (aI c10 (aI c11 (aI (oD c10) (aI c12 (aI c14 (aI c14 (aI c14 (aI c14 (aI c15 (aI (Nat.zero_le (Int.toNat (if (10 : Int) < (len x9) then 10 else (len x9)))) (aI c16 (aI c14 (aI c15 (aI (Nat.zero_le (Int.toNat (if (10 : Int) < (len x9) then 10 else (len x9)))) (aI c16 (aI c14 (aI z0 (aI (eN (1)) (aI z0 (aI c16 (aI c14 (aI c17 (aI c14 (aI z0 (eN (List.length ([[L.int .i64 x7]] ++ (List.take (Int.toNat (if (10 : Int) < (len x9) then 10 else (len x9))) x9)))))))))))))))))))))))))))) (hc1 (some i8) (w64 (v1 + 1)) (List.set st6 i8 [L.own true 1 ([[L.int .i64 x7]] ++ (List.take (Int.toNat (if (10 : Int) < (len x9) then 10 else (len x9))) x9))]) h7)
 · obtain rfl := some_inv h2
   exact af fol hE [.r [], .c false] [] 0 [] c10
theorem median_Window_Push.snd {w_0 : Option Nat} {times_1 : LL} {st : LL} {r : LL} (h : median_Window_Push N w_0 times_1 st = some r) : Snd Tryd.prog 15 [.one (L.ptr w_0), .one (L.sl 1 times_1)] st (median_Window_Push.rs r) r :=
 sO median_Window_Push.B Tryd.func15 fun g0 w0 R hE => by
  unfold median_Window_Push at h
  refine iteB h (fun c1 h8 => ?_) (fun c1 h9 => ?_) <;> clear h
  · obtain rfl := some_inv h8
    exact af fol hE [.r [], .c true] [] 0 [] c1
  · exact aq fol [.r [], .c false, .r []] [0, 8, 9, 10] [] c1 (At.loop N (At.loopN (fun y : (Option Nat) × Int × LL => median_Window_Push.p1.S y.1 times_1 y.2.1 y.2.2) (fun c J hc y h => median_Window_Push.p1_ok y.1 times_1 y.2.1 y.2.2 hE (fun w_5 v1 st6 hh => hc (w_5, v1, st6) hh) h) N (w_0, 0, st) h9))
/-! (*trailhead/median.Window).Times -/
noncomputable def median_Window_Times.B : Code := Tryd.f16.body.getD .skip
noncomputable def median_Window_Times.rs (r : LL × LL) : List CV := [.row true 1 r.1]
noncomputable def median_Window_Times (N : Nat) (w_0 : Option Nat) (st : LL) : Option (LL × LL) :=
 if (Option.isNone w_0) = true then
  some ([], st)
 else
 optE w_0 fun i1 =>
 getE (st[i1]?) dec_o1 fun x2 =>
 optE (slices_Clone_int N x2) fun x3 =>
 chk (plainRow x3 = true) <|
 some (x3, st)
theorem median_Window_Times.snd {w_0 : Option Nat} {st : LL} {r : LL × LL} (h : median_Window_Times N w_0 st = some r) : Snd Tryd.prog 16 [.one (L.ptr w_0)] st (median_Window_Times.rs r) r.2 :=
 sO median_Window_Times.B Tryd.func16 fun g0 w0 R hE => by
  unfold median_Window_Times at h
  refine iteB h (fun c1 h1 => ?_) (fun c1 h2 => ?_) <;> clear h
  · obtain rfl := some_inv h1
    exact af fol hE [.r [(0, {m := 2})], .r [], .c true, .r [(0, {m := 2})]] [] 0 [0] c1
  · obtain ⟨i1, rfl, h3⟩ := optE_inv h2; clear h2
    obtain ⟨x2, c3, h4⟩ := dec_o1_get h3; clear h3
    obtain ⟨x3, c4, h5⟩ := optE_inv h4; clear h4
    obtain ⟨c5, h6⟩ := chk_inv h5; clear h5
    obtain rfl := some_inv h6
    exact af fol hE [.r [(0, {m := 2})], .r [], .c false, .r [(3, {oc := [L.own true 1 x2]}), (4, {oc := [L.own true 1 x2], rs := [.row true 1 x3], ns := [9], m := 2})]] [] 0 [0] (aI c1 (aI c3 (aI z0 (aI (eN (List.length x2)) (aI c3 (aI c5 (aI (slices_Clone_int.snd c4) (aI z0 (eN (List.length x3))))))))))
/-! trailhead/pace.Starts -/
noncomputable def pace_Starts.B : Code := Tryd.f14.body.getD .skip
noncomputable def pace_Starts.rs (r : Bool) : List CV := [.one (L.bool r)]
noncomputable def pace_Starts (N : Nat) (p_0 : api_Params) (height_1 : Int) : Option Bool :=
 if (decide (p_0.Interval > 0)) = true then
  chk (p_0.Interval ≠ 0) <|
  some ((Int.tmod height_1 p_0.Interval) == 0)
 else
 some false
theorem pace_Starts.snd {p_0 : api_Params} {height_1 : Int} {r : Bool} (h : pace_Starts N p_0 height_1 = some r) : SndQ Tryd.prog 14 [.agg p_0.ls, .one (L.int .i64 height_1)] (pace_Starts.rs r) := fun st =>
 sO pace_Starts.B Tryd.func14 fun g0 w0 R hE => by
  unfold pace_Starts at h
  refine iteB h (fun c1 h1 => ?_) (fun c1 h2 => ?_) <;> clear h
  · obtain ⟨c2, h3⟩ := chk_inv h1; clear h1
    obtain rfl := some_inv h3
    exact af fol hE [.r [], .r []] [] 0 [] (aI c1 (aI c1 (aI c1 (aI c1 (aI c2 (aI c1 c1))))))
  · obtain rfl := some_inv h2
    exact af fol hE [.r [], .r [(4, {want := false}), (5, {want := false}), (6, {want := false}), (7, {want := false}), (8, {want := false}), (9, {yes := false})]] [] 0 [] (aI c1 (aI c1 (aI c1 (aI c1 (aI c1 c1)))))
/-! (*trailhead/median.Window).Times -/
noncomputable def median_Window_Times_v.B : Code := Tryd.f16.body.getD .skip
noncomputable def median_Window_Times_v.rs (r : LL) : List CV := [.row true 1 r]
noncomputable def median_Window_Times_v (N : Nat) (w_0 : LL) : Option LL :=
 optE (slices_Clone_int N w_0) fun x1 =>
 some x1
theorem median_Window_Times_v.snd {w_0 : LL} {r : LL} (h : median_Window_Times_v N w_0 = some r) : SndQ Tryd.prog 16 [.one (L.bx 1 [L.sl 1 w_0])] (median_Window_Times_v.rs r) := fun st =>
 sO median_Window_Times_v.B Tryd.func16 fun g0 w0 R hE => by
  unfold median_Window_Times_v at h
  obtain ⟨x1, c1, h1⟩ := optE_inv h; clear h
  obtain rfl := some_inv h1
  exact af fol hE [.r [(0, {m := 2})], .r [], .c false, .r [(3, {oe := [L.sl 1 w_0]}), (4, {rs := [.row true 1 x1], ns := [9], m := 1})]] [] 0 [0] (aI (eB false) (aI (eO [L.sl 1 w_0]) (aI (slices_Clone_int.snd c1) (aI z0 (eN (List.length x1))))))
/-! trailhead/rule.Behind -/
noncomputable def rule_Behind.B : Code := Tryd.f8.body.getD .skip
noncomputable def rule_Behind.rs (r : rule_Spot × LL) : List CV := [.agg r.1.ls]
noncomputable def rule_Behind.p3 (N : Nat) (st2 : LL) (at_1 : rule_Spot) (h_2 : api_Header) (out_8 : rule_Spot) (c3_ : (Int × LL) → Option (rule_Spot × LL)) : (Int × LL) → Option (rule_Spot × LL) := fun (i_9, st15) =>
 if (decide (i_9 ≥ 0)) = true then
  chk (0 ≤ i_9) <|
  chk (i_9 < (len at_1.Times)) <|
  getE (at_1.Times[Int.toNat i_9]?) dec_i64 fun x16 =>
  optE (median_Window_Push N (some (List.length st2)) [[L.int .i64 x16]] st15) fun st17 =>
  c3_ (w64 (i_9 - 1), st17)
 else
 optE (median_Window_Push N (some (List.length st2)) [[L.int .i64 h_2.Time]] st15) fun st18 =>
 getE (st18[List.length st2]?) dec_o1 fun x19 =>
 optE (median_Window_Times_v N x19) fun x20 =>
 chk (plainRow x20 = true) <|
 some ({out_8 with Times := x20}, st18)
noncomputable def rule_Behind.p2 (N : Nat) (at_1 : rule_Spot) (h_2 : api_Header) (out_8 : rule_Spot) (st2 : LL) : Option (rule_Spot × LL) :=
 loopN (rule_Behind.p3 N st2 at_1 h_2 out_8) N (w64 ((if (11 : Int) < (len at_1.Times) then 11 else (len at_1.Times)) - 1), st2 ++ [[L.own true 1 []]])
noncomputable def rule_Behind.p1 (N : Nat) (p_0 : api_Params) (at_1 : rule_Spot) (h_2 : api_Header) (out_5 : rule_Spot) (st2 : LL) : Option (rule_Spot × LL) :=
 if p_0.Easy = true then
  if (h_2.Bits == p_0.Limit) = true then
   optE (pace_Starts N p_0 at_1.Point.Height) fun x6 =>
   if (!x6) = true then
    rule_Behind.p2 N at_1 h_2 {out_5 with Point := {out_5.Point with Hard := at_1.Point.Hard}} st2
   else
   rule_Behind.p2 N at_1 h_2 out_5 st2
  else
  rule_Behind.p2 N at_1 h_2 out_5 st2
 else
 rule_Behind.p2 N at_1 h_2 out_5 st2
noncomputable def rule_Behind (N : Nat) (p_0 : api_Params) (at_1 : rule_Spot) (h_2 : api_Header) (st : LL) : Option (rule_Spot × LL) :=
 optE (header_Id N h_2 st) fun (x1, st2) =>
 optE (pace_Starts N p_0 at_1.Point.Height) fun x3 =>
 if x3 = true then
  rule_Behind.p1 N p_0 at_1 h_2 (rule_Spot.mk (pace_Point.mk (w64 (at_1.Point.Height + 1)) h_2.Bits h_2.Time h_2.Time h_2.Bits) x1 []) st2
 else
 rule_Behind.p1 N p_0 at_1 h_2 (rule_Spot.mk (pace_Point.mk (w64 (at_1.Point.Height + 1)) h_2.Bits h_2.Time at_1.Point.First h_2.Bits) x1 []) st2
noncomputable def rule_Behind.p3.S (st2 : LL) (i_9 : Int) (at_1 : rule_Spot) (h_2 : api_Header) (out_8 : rule_Spot) (st15 : LL) : S := mkS 81 [(4, .one (.adr (.site 4) 0)), (5, .one (.adr (.site 5) 0)), (6, .one (.adr (.site 6) 0)), (7, .one (.adr (.site 7) 0)), (8, .one (.l (L.ptr (some (List.length st2))))), (9, .one (.l (L.int .i64 i_9)))] [(4, .cells at_1.ls), (5, .cells h_2.ls), (6, .cells [L.int .i64 0, L.int .i64 0, L.int .i64 0, L.int .i64 0, L.int .i64 0, L.arr .u8 32 (List.replicate 32 0), L.own true 1 []]), (7, .cells out_8.ls)] st15
noncomputable def rule_Behind.p2.S (at_1 : rule_Spot) (h_2 : api_Header) (out_8 : rule_Spot) (st2 : LL) : S := mkS 81 [(4, .one (.adr (.site 4) 0)), (5, .one (.adr (.site 5) 0)), (6, .one (.adr (.site 6) 0)), (7, .one (.adr (.site 7) 0))] [(4, .cells at_1.ls), (5, .cells h_2.ls), (6, .cells [L.int .i64 0, L.int .i64 0, L.int .i64 0, L.int .i64 0, L.int .i64 0, L.arr .u8 32 (List.replicate 32 0), L.own true 1 []]), (7, .cells out_8.ls)] st2
noncomputable def rule_Behind.p1.S (p_0 : api_Params) (at_1 : rule_Spot) (h_2 : api_Header) (out_5 : rule_Spot) (st2 : LL) : S := mkS 81 [(3, .one (.adr (.site 3) 0)), (4, .one (.adr (.site 4) 0)), (5, .one (.adr (.site 5) 0)), (6, .one (.adr (.site 6) 0)), (7, .one (.adr (.site 7) 0))] [(3, .cells p_0.ls), (4, .cells at_1.ls), (5, .cells h_2.ls), (6, .cells [L.int .i64 0, L.int .i64 0, L.int .i64 0, L.int .i64 0, L.int .i64 0, L.arr .u8 32 (List.replicate 32 0), L.own true 1 []]), (7, .cells out_5.ls)] st2
theorem rule_Behind.p3_ok (st2 : LL) (i_9 : Int) (at_1 : rule_Spot) (h_2 : api_Header) (out_8 : rule_Spot) (st15 : LL) {r : rule_Spot × LL} {c3_ : (Int × LL) → Option (rule_Spot × LL)} {J3 : Act → World → Prop} (hE : En Tryd.f8 g0 w0 (rule_Behind.rs r) r.2 R) (hc3 : ∀ (i_9 : Int) (st15 : LL), c3_ (i_9, st15) = some r → At g0 w0 (rule_Behind.p3.S st2 i_9 at_1 h_2 out_8 st15) J3) (h : rule_Behind.p3 N st2 at_1 h_2 out_8 c3_ (i_9, st15) = some r) : At g0 w0 (rule_Behind.p3.S st2 i_9 at_1 h_2 out_8 st15) (XK Tryd.prog R (.c (csub rule_Behind.B [1, 1, 1, 1, 1, 0, 1, 0, 0]) :: .h J3 :: [.b 0, .c (csub rule_Behind.B [1, 1, 1, 1, 1, 1])])) := by
 unfold rule_Behind.p3 at h
 refine iteB h (fun c17 h1 => ?_) (fun c17 h2 => ?_) <;> clear h
 · obtain ⟨c18, c19, h3⟩ := ck2 h1; clear h1
   obtain ⟨x16, c20, h4⟩ := dec_i64_get h3; clear h3
   obtain ⟨st17, c21, h5⟩ := optE_inv h4; clear h4
   exact an fol [.r [], .c true, .r [(4, {oe := [L.int .i64 x16]}), (6, {st := st17, fz := [72]})], .r []] [4, 5, 6, 7, 8, 9] [4, 5, 6, 7] (aI c17 (aI c18 (aI c19 (aI c20 (aI z0 (aI (eN (1)) (median_Window_Push.snd c21))))))) (hc3 (w64 (i_9 - 1)) st17 h5)
 · obtain ⟨st18, c22, h6⟩ := optE_inv h2; clear h2
   obtain ⟨x19, c23, h7⟩ := dec_o1_get h6; clear h6
   obtain ⟨x20, c24, h8⟩ := optE_inv h7; clear h7
   obtain ⟨c25, h9⟩ := chk_inv h8; clear h8
   obtain rfl := some_inv h9
   exact af fol hE [.r [], .c false, .r [(3, {st := st18, fz := [76]})], .r [(0, {rs := [.row true 1 x20], ns := [78], m := 10, cv := [.one (L.bx 1 [L.sl 1 x19])]}), (2, {fz := [78]})], .r []] [] 0 [] (aI c17 (aI z0 (aI (eN (1)) (aI (median_Window_Push.snd c22) (aI (bO 1 c23 ((bW bN) : BVs st18 [L.own true 1 x19] [L.sl 1 x19])) (aI c25 (aI (median_Window_Times_v.snd c24) (aI z0 (eN (List.length x20))))))))))
theorem rule_Behind.p2_ok (at_1 : rule_Spot) (h_2 : api_Header) (out_8 : rule_Spot) (st2 : LL) {r : rule_Spot × LL} (hE : En Tryd.f8 g0 w0 (rule_Behind.rs r) r.2 R) (h : rule_Behind.p2 N at_1 h_2 out_8 st2 = some r) : At g0 w0 (rule_Behind.p2.S at_1 h_2 out_8 st2) (XK Tryd.prog R [.c (csub rule_Behind.B [1, 1, 1, 1])]) := by
 unfold rule_Behind.p2 at h
 exact aq fol [.r [(0, {m := 1})], .r []] [4, 5, 6, 7, 8, 9] [4, 5, 6, 7] trivial (At.loop N (At.loopN (fun y : Int × LL => rule_Behind.p3.S st2 y.1 at_1 h_2 out_8 y.2) (fun c J hc y h => rule_Behind.p3_ok st2 y.1 at_1 h_2 out_8 y.2 hE (fun i_9 st15 hh => hc (i_9, st15) hh) h) N (w64 ((if (11 : Int) < (len at_1.Times) then 11 else (len at_1.Times)) - 1), st2 ++ [[L.own true 1 []]]) h))
theorem rule_Behind.p1_ok (p_0 : api_Params) (at_1 : rule_Spot) (h_2 : api_Header) (out_5 : rule_Spot) (st2 : LL) {r : rule_Spot × LL} (hE : En Tryd.f8 g0 w0 (rule_Behind.rs r) r.2 R) (h : rule_Behind.p1 N p_0 at_1 h_2 out_5 st2 = some r) : At g0 w0 (rule_Behind.p1.S p_0 at_1 h_2 out_5 st2) (XK Tryd.prog R [.c (csub rule_Behind.B [1, 1, 1])]) := by
 unfold rule_Behind.p1 at h
 refine iteB h (fun c4 h10 => ?_) (fun c4 h11 => ?_) <;> clear h
 · refine iteB h10 (fun c5 h12 => ?_) (fun c5 h13 => ?_) <;> clear h10
   · obtain ⟨x6, c6, h14⟩ := optE_inv h12; clear h12
     refine iteB h14 (fun c7 h15 => ?_) (fun c7 h16 => ?_) <;> clear h14
     · exact aq fol [.r [(14, {rs := [.one (L.bool x6)], m := 1})], .c true, .r [], .s 1] [4, 5, 6, 7] [4, 5, 6, 7] (aI c4 (aI c4 (aI c4 (aI c4 (aI c4 (aI c4 (aI c5 (aI c5 (aI c5 (aI c5 (aI c5 (aI (pace_Starts.snd c6) (aI c5 (aI c5 c7)))))))))))))) (rule_Behind.p2_ok at_1 h_2 {out_5 with Point := {out_5.Point with Hard := at_1.Point.Hard}} st2 hE h15)
     · exact aq fol [.r [(14, {rs := [.one (L.bool x6)], m := 1})], .c false, .s 1] [4, 5, 6, 7] [4, 5, 6, 7] (aI c4 (aI c4 (aI c4 (aI c4 (aI c4 (aI c4 (aI c5 (aI c5 (aI c5 (aI c5 (aI c5 (aI (pace_Starts.snd c6) (aI c5 (aI c5 c7)))))))))))))) (rule_Behind.p2_ok at_1 h_2 out_5 st2 hE h16)
   · exact aq fol [.r [(10, {want := false}), (11, {want := false}), (12, {want := false}), (13, {want := false}), (14, {want := false}), (15, {want := false}), (16, {yes := false})], .c false, .s 1] [4, 5, 6, 7] [4, 5, 6, 7] (aI c4 (aI c4 (aI c4 (aI c4 (aI c4 (aI c4 (aI c5 (aI c5 (aI c5 (aI c5 (aI c5 (aI c5 (aI c5 (eB false)))))))))))))) (rule_Behind.p2_ok at_1 h_2 out_5 st2 hE h13)
 · exact aq fol [.r [(3, {want := false}), (4, {want := false}), (5, {want := false}), (6, {want := false}), (7, {want := false}), (8, {yes := false}), (10, {want := false}), (11, {want := false}), (12, {want := false}), (13, {want := false}), (14, {want := false}), (15, {want := false}), (16, {yes := false})], .c false, .s 1] [4, 5, 6, 7] [4, 5, 6, 7] (aI c4 (aI c4 (aI c4 (aI c4 (aI c4 (aI c4 (aI (eB false) (aI (eB false) (aI (eB false) (aI (eB false) (aI (eB false) (aI (eB false) (aI (eB false) (eB false)))))))))))))) (rule_Behind.p2_ok at_1 h_2 out_5 st2 hE h11)
theorem rule_Behind.snd {p_0 : api_Params} {at_1 : rule_Spot} {h_2 : api_Header} {st : LL} {r : rule_Spot × LL} (h : rule_Behind N p_0 at_1 h_2 st = some r) : Snd Tryd.prog 8 [.agg p_0.ls, .agg at_1.ls, .agg h_2.ls] st (rule_Behind.rs r) r.2 :=
 sO rule_Behind.B Tryd.func8 fun g0 w0 R hE => by
  unfold rule_Behind at h
  obtain ⟨⟨x1, st2⟩, c1, h17⟩ := optE_inv h; clear h
  obtain ⟨x3, c2, h18⟩ := optE_inv h17; clear h17
  refine iteB h18 (fun c3 h19 => ?_) (fun c3 h20 => ?_) <;> clear h18
  · exact aqd fol [.r [], .d {ds := [(15, {rs := [.agg [L.arr .u8 32 x1]], st := st2})], hv := 425984, Hs := [32768, 131072, 163840, 425984]}, .r [(4, {rs := [.one (L.bool x3)], m := 1})], .c true, .r [], .s 1] [3, 4, 5, 6, 7] [3, 4, 5, 6, 7] (aI (header_Id.snd c1) (aI (header_Id.snd c1) (aI (pace_Starts.snd c2) c3))) (rule_Behind.p1_ok p_0 at_1 h_2 (rule_Spot.mk (pace_Point.mk (w64 (at_1.Point.Height + 1)) h_2.Bits h_2.Time h_2.Time h_2.Bits) x1 []) st2 hE h19)
  · exact aqd fol [.r [], .d {ds := [(15, {rs := [.agg [L.arr .u8 32 x1]], st := st2})], hv := 425984, Hs := [32768, 131072, 163840, 425984]}, .r [(4, {rs := [.one (L.bool x3)], m := 1})], .c false, .s 1] [3, 4, 5, 6, 7] [3, 4, 5, 6, 7] (aI (header_Id.snd c1) (aI (header_Id.snd c1) (aI (pace_Starts.snd c2) c3))) (rule_Behind.p1_ok p_0 at_1 h_2 (rule_Spot.mk (pace_Point.mk (w64 (at_1.Point.Height + 1)) h_2.Bits h_2.Time at_1.Point.First h_2.Bits) x1 []) st2 hE h20)
/-! trailhead/rule.Begin -/
noncomputable def rule_Begin.B : Code := Tryd.f12.body.getD .skip
noncomputable def rule_Begin.rs (r : rule_Spot × LL) : List CV := [.agg r.1.ls]
noncomputable def rule_Begin (N : Nat) (p_0 : api_Params) (st : LL) : Option (rule_Spot × LL) :=
 optE (rule_Behind N p_0 (rule_Spot.mk (pace_Point.mk 0 0 0 0 p_0.Limit) (List.replicate 32 0) []) p_0.Genesis st) fun (x1, st2) =>
 some (x1, st2)
theorem rule_Begin.snd {p_0 : api_Params} {st : LL} {r : rule_Spot × LL} (h : rule_Begin N p_0 st = some r) : Snd Tryd.prog 12 [.agg p_0.ls] st (rule_Begin.rs r) r.2 :=
 sO rule_Begin.B Tryd.func12 fun g0 w0 R hE => by
  unfold rule_Begin at h
  obtain ⟨⟨x1, st2⟩, c1, h1⟩ := optE_inv h; clear h
  obtain rfl := some_inv h1
  exact af fol hE [.r [], .r [(7, {rs := [.agg x1.ls], st := st2})]] [] 0 [] (rule_Behind.snd c1)
end Go.Dn.F
