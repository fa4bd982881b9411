/- The board of points, as plain Lean: what Points, Blame, Forget, Sum, Shuns and Shunned make of it. -/
import Derived.Test.YtgminfbhlipobaaDoorScob
import Derived.Test.YtgminfbhlipobaaDoorKc
set_option linter.unusedSimpArgs false
set_option linter.unusedVariables false
namespace Go.Dn.F
open Go.Proofs

/-- A fault's points. -/
noncomputable def pt (x : Int) : Int := if 1 ≤ x ∧ x < 8 then glob_score_points.getD x.toNat 0 else 0
noncomputable def pts : List Int → Int
  | [] => 0
  | x :: l => pt x + pts l
theorem pt_rng (x : Int) : 0 ≤ pt x ∧ pt x ≤ 100 := by
  unfold pt
  split
  · rename_i h
    have : x = 1 ∨ x = 2 ∨ x = 3 ∨ x = 4 ∨ x = 5 ∨ x = 6 ∨ x = 7 := by omega
    rcases this with rfl | rfl | rfl | rfl | rfl | rfl | rfl <;> decide +kernel
  · omega
theorem pts_rng : ∀ l : List Int, 0 ≤ pts l ∧ pts l ≤ 100 * (l.length : Int)
  | [] => by simp [pts]
  | x :: l => by
    have h1 := pt_rng x
    have h2 := pts_rng l
    simp only [pts, List.length_cons, Int.natCast_add]
    omega

theorem points_loop (N : Nat) (l : List Int) (hl : l.length ≤ 1000) : ∀ (m j k : Nat) (n : Int), m + j = l.length → m < k → 0 ≤ n → n ≤ 100 * (j : Int) →
    loopN (score_Points.p1 N (rowI l)) k (n, (j : Int)) = some (n + pts (l.drop j)) := by
  intro m
  induction m with
  | zero =>
    intro j k n hj hk h0 h1
    obtain ⟨k, rfl⟩ : ∃ q, k = q + 1 := ⟨k - 1, by omega⟩
    rw [loopN_succ]
    unfold score_Points.p1
    dsimp only
    rw [if_neg (by simp; omega), List.drop_eq_nil_of_le (by omega)]
    simp [pts]
  | succ m ih =>
    intro j k n hj hk h0 h1
    obtain ⟨k, rfl⟩ : ∃ q, k = q + 1 := ⟨k - 1, by omega⟩
    have hj' : j < l.length := by omega
    have hp := pt_rng l[j]
    have ih' := ih (j + 1) k (n + pt l[j]) (by omega) (by omega) (by omega) (by omega)
    rw [loopN_succ, List.drop_eq_getElem_cons hj', pts, ← Int.add_assoc, ← ih']
    generalize loopN (score_Points.p1 N (rowI l)) k = G
    unfold score_Points.p1 score_Points.p2
    dsimp only
    rw [if_pos (by simp; omega), chk_pos (by omega), rowI_gx (List.getElem?_eq_getElem hj'), optE_some, dec_i64]
    try dsimp only
    have ej : IntKind.wrap .i64 ((j : Int) + 1) = ((j + 1 : Nat) : Int) := by rw [wrap_i64 (by omega) (by omega)]; rfl
    rw [ej]
    by_cases c1 : l[j] ≥ 1
    · rw [if_pos (by simpa using c1)]
      by_cases c2 : l[j] < 8
      · have e : pt l[j] = glob_score_points.getD (l[j]).toNat 0 := by unfold pt; rw [if_pos ⟨c1, c2⟩]
        rw [if_pos (by simpa using c2), chk_pos (by omega), ← e, wrap_i64 (by omega) (by omega)]
      · have e : pt l[j] = 0 := by unfold pt; rw [if_neg (fun h => c2 h.2)]
        rw [if_neg (by simpa using c2), e, Int.add_zero]
    · have e : pt l[j] = 0 := by unfold pt; rw [if_neg (fun h => c1 h.1)]
      rw [if_neg (by simpa using c1), e, Int.add_zero]

theorem Points_eq (N : Nat) (l : List Int) (hl : l.length ≤ 1000) (hN : 1000 < N) : score_Points N (rowI l) = some (pts l) := by
  have := points_loop N l hl l.length 0 N 0 (by omega) (by omega) (by omega) (by omega)
  simpa [score_Points] using this

theorem index_loop (N : Nat) (l : List Int) (p : Int) (hl : l.length ≤ 1000) : ∀ (m j k : Nat), m + j = l.length → m < k → (∀ (x : Nat) (h : x < l.length), x < j → l[x] ≠ p) →
    (p ∉ l ∧ loopN (slices_Index_int.p1 N (rowI l) p) k (j : Int) = some (-1)) ∨ ∃ (r : Nat) (h : r < l.length), l[r] = p ∧ (∀ (x : Nat) (h : x < l.length), x < r → l[x] ≠ p) ∧ loopN (slices_Index_int.p1 N (rowI l) p) k (j : Int) = some (r : Int) := by
  intro m
  induction m with
  | zero =>
    intro j k hj hk hno
    obtain ⟨k, rfl⟩ : ∃ q, k = q + 1 := ⟨k - 1, by omega⟩
    left
    refine ⟨fun h => ?_, ?_⟩
    · obtain ⟨x, hx, e⟩ := List.getElem_of_mem h
      exact hno x hx (by omega) e
    · rw [loopN_succ]
      unfold slices_Index_int.p1
      rw [if_neg (by simp; omega)]
  | succ m ih =>
    intro j k hj hk hno
    obtain ⟨k, rfl⟩ : ∃ q, k = q + 1 := ⟨k - 1, by omega⟩
    have hj' : j < l.length := by omega
    rw [loopN_succ]
    by_cases e : l[j] = p
    · right
      refine ⟨j, hj', e, hno, ?_⟩
      unfold slices_Index_int.p1
      rw [if_pos (by simp; omega), chk_pos (by omega), rowI_gx (List.getElem?_eq_getElem hj'), optE_some, dec_i64]
      try dsimp only
      rw [if_pos (by simp [e])]
    · have ih' := ih (j + 1) k (by omega) (by omega) (fun x hx hxj => by
        by_cases ex : x = j
        · subst ex; exact e
        · exact hno x hx (by omega))
      have step : slices_Index_int.p1 N (rowI l) p (loopN (slices_Index_int.p1 N (rowI l) p) k) (j : Int) = loopN (slices_Index_int.p1 N (rowI l) p) k ((j + 1 : Nat) : Int) := by
        generalize loopN (slices_Index_int.p1 N (rowI l) p) k = G
        unfold slices_Index_int.p1
        rw [if_pos (by simp; omega), chk_pos (by omega), rowI_gx (List.getElem?_eq_getElem hj'), optE_some, dec_i64]
        try dsimp only
        rw [if_neg (by simpa using fun h : p = l[j] => e h.symm), wrap_i64 (by omega) (by omega)]
        rfl
      rw [step]
      exact ih'

theorem Contains_eq (N : Nat) (l : List Int) (p : Int) (hl : l.length ≤ 1000) (hN : 1000 < N) : slices_Contains_int N (rowI l) p = some (l.contains p) := by
  unfold slices_Contains_int slices_Index_int
  rcases index_loop N l p hl l.length 0 N (by omega) (by omega) (fun x _ h => by omega) with ⟨h1, h2⟩ | ⟨r, hr, h1, _, h2⟩
  · have h2' : loopN (slices_Index_int.p1 N (rowI l) p) N 0 = some (-1) := h2
    rw [h2', optE_some]
    simp [h1]
  · have h2' : loopN (slices_Index_int.p1 N (rowI l) p) N 0 = some (r : Int) := h2
    rw [h2', optE_some]
    have : p ∈ l := h1 ▸ List.getElem_mem hr
    simp [this]

theorem indexF_loop (N : Nat) (l : List Int) (p : Int) (hl : l.length ≤ 1000) : ∀ (m j k : Nat), m + j = l.length → m < k → (∀ (x : Nat) (h : x < l.length), x < j → l[x] ≠ p) →
    (p ∉ l ∧ loopN (slices_IndexFunc_int_score_Board_Blame_1.p1 N (rowI l) p) k (j : Int) = some (-1)) ∨ ∃ (r : Nat) (h : r < l.length), l[r] = p ∧ (∀ (x : Nat) (h : x < l.length), x < r → l[x] ≠ p) ∧ loopN (slices_IndexFunc_int_score_Board_Blame_1.p1 N (rowI l) p) k (j : Int) = some (r : Int) := by
  intro m
  induction m with
  | zero =>
    intro j k hj hk hno
    obtain ⟨k, rfl⟩ : ∃ q, k = q + 1 := ⟨k - 1, by omega⟩
    left
    refine ⟨fun h => ?_, ?_⟩
    · obtain ⟨x, hx, e⟩ := List.getElem_of_mem h
      exact hno x hx (by omega) e
    · rw [loopN_succ]
      unfold slices_IndexFunc_int_score_Board_Blame_1.p1
      rw [if_neg (by simp; omega)]
  | succ m ih =>
    intro j k hj hk hno
    obtain ⟨k, rfl⟩ : ∃ q, k = q + 1 := ⟨k - 1, by omega⟩
    have hj' : j < l.length := by omega
    rw [loopN_succ]
    by_cases e : l[j] = p
    · right
      refine ⟨j, hj', e, hno, ?_⟩
      unfold slices_IndexFunc_int_score_Board_Blame_1.p1
      rw [if_pos (by simp; omega), chk_pos (by omega), rowI_gx (List.getElem?_eq_getElem hj'), optE_some, dec_i64]
      try dsimp only
      rw [score_Board_Blame_1, optE_some, if_pos (by simp [e])]
    · have ih' := ih (j + 1) k (by omega) (by omega) (fun x hx hxj => by
        by_cases ex : x = j
        · subst ex; exact e
        · exact hno x hx (by omega))
      have step : slices_IndexFunc_int_score_Board_Blame_1.p1 N (rowI l) p (loopN (slices_IndexFunc_int_score_Board_Blame_1.p1 N (rowI l) p) k) (j : Int) = loopN (slices_IndexFunc_int_score_Board_Blame_1.p1 N (rowI l) p) k ((j + 1 : Nat) : Int) := by
        generalize loopN (slices_IndexFunc_int_score_Board_Blame_1.p1 N (rowI l) p) k = G
        unfold slices_IndexFunc_int_score_Board_Blame_1.p1
        rw [if_pos (by simp; omega), chk_pos (by omega), rowI_gx (List.getElem?_eq_getElem hj'), optE_some, dec_i64]
        try dsimp only
        rw [score_Board_Blame_1, optE_some, if_neg (by simpa using e), wrap_i64 (by omega) (by omega)]
        rfl
      rw [step]
      exact ih'

/-- A row without a number. -/
def wo (p : Int) (l : List Int) : List Int := l.filter fun x => x != p

theorem del_loop (N : Nat) (l : List Int) (p : Int) (hl : l.length ≤ 1000) : ∀ (m j k i : Nat) (t : List Int), m + j = l.length → m < k → t.length = l.length → i ≤ j → t.take i = wo p (l.take j) → t.drop j = l.drop j →
    loopN (slices_DeleteFunc_int_score_Board_Blame_1.p1 N (rowI l) p) k ((i : Int), (j : Int), rowI t) = some (rowI (wo p l)) := by
  intro m
  induction m with
  | zero =>
    intro j k i t hj hk ht hij h1 h2
    obtain ⟨k, rfl⟩ : ∃ q, k = q + 1 := ⟨k - 1, by omega⟩
    rw [loopN_succ]
    unfold slices_DeleteFunc_int_score_Board_Blame_1.p1
    dsimp only
    rw [if_neg (by simp; omega)]
    simp only [Int.toNat_natCast, Nat.zero_add, rowI_length, rowI_take, rowI_rep, rowI_append]
    rw [chk_pos (by omega), chk_pos (by omega), chk_pos (by omega), chk_pos (by simp; omega), chk_pos (by simp; omega)]
    have e1 : l.take j = l := List.take_of_length_le (by omega)
    rw [e1] at h1
    have e2 : (t.take i).length = i := by simp; omega
    congr 2
    rw [List.take_append_of_le_length (by omega), List.take_take, Nat.min_self, h1]
  | succ m ih =>
    intro j k i t hj hk ht hij h1 h2
    obtain ⟨k, rfl⟩ : ∃ q, k = q + 1 := ⟨k - 1, by omega⟩
    have hj' : j < l.length := by omega
    have htj : t[j]? = some l[j] := by
      have := congrArg (fun q : List Int => q[0]?) h2
      simp only [List.getElem?_drop, Nat.add_zero] at this
      rw [this, List.getElem?_eq_getElem hj']
    have htk : l.take (j + 1) = l.take j ++ [l[j]] := List.take_succ_eq_append_getElem hj'
    have hd : t.drop (j + 1) = l.drop (j + 1) := by
      have := congrArg (List.drop 1) h2
      simpa [List.drop_drop] using this
    rw [loopN_succ]
    have ih' := fun i t' => ih (j + 1) k i t' (by omega) (by omega)
    generalize loopN (slices_DeleteFunc_int_score_Board_Blame_1.p1 N (rowI l) p) k = G at ih' ⊢
    unfold slices_DeleteFunc_int_score_Board_Blame_1.p1 slices_DeleteFunc_int_score_Board_Blame_1.p2
    dsimp only
    rw [if_pos (by simp; omega), chk_pos (by omega), Nat.zero_add, rowI_gx htj, optE_some, dec_i64]
    try dsimp only
    rw [score_Board_Blame_1, optE_some, wrap_i64 (n := (j : Int) + 1) (by omega) (by omega)]
    by_cases e : l[j] = p
    · rw [if_neg (by simp [e])]
      exact ih' i t ht (by omega) (by rw [htk, h1]; simp [wo, e]) hd
    · rw [if_pos (by simpa using e), chk_pos (by omega), chk_pos (by simp; omega), wrap_i64 (by omega) (by omega), Nat.zero_add, Int.toNat_natCast, rowI_set]
      refine ih' (i + 1) (t.set i l[j]) (by simpa using ht) (by omega) ?_ ?_
      · have hi : i < (t.set i l[j]).length := by simp; omega
        rw [List.take_succ_eq_append_getElem hi, List.take_set_of_le (Nat.le_refl _), h1, htk, List.getElem_set_self]
        have e4 : [l[j]] = wo p [l[j]] := by simp [wo, e]
        show _ = List.filter _ _
        rw [List.filter_append]
        exact congrArg _ e4
      · rw [List.drop_set_of_lt (by omega)]; exact hd

theorem DeleteFunc_eq (N : Nat) (l : List Int) (p : Int) (hl : l.length ≤ 1000) (hN : 1000 < N) : slices_DeleteFunc_int_score_Board_Blame_1 N (rowI l) p = some (rowI (wo p l)) := by
  unfold slices_DeleteFunc_int_score_Board_Blame_1 slices_IndexFunc_int_score_Board_Blame_1
  rcases indexF_loop N l p hl l.length 0 N (by omega) (by omega) (fun x _ h => by omega) with ⟨h1, h2⟩ | ⟨r, hr, h1, h3, h2⟩
  · have h2' : loopN (slices_IndexFunc_int_score_Board_Blame_1.p1 N (rowI l) p) N 0 = some (-1) := h2
    rw [h2', optE_some, if_pos (by rfl)]
    have : wo p l = l := List.filter_eq_self.2 fun a ha => by simpa using fun e : a = p => h1 (e ▸ ha)
    rw [this]
  · have h2' : loopN (slices_IndexFunc_int_score_Board_Blame_1.p1 N (rowI l) p) N 0 = some (r : Int) := h2
    rw [h2', optE_some, if_neg (by simp), wrap_i64 (by omega) (by omega)]
    refine del_loop N l p hl (l.length - (r + 1)) (r + 1) N r l (by omega) (by omega) rfl (by omega) ?_ rfl
    rw [List.take_succ_eq_append_getElem hr, h1]
    have : wo p (l.take r) = l.take r := List.filter_eq_self.2 fun a ha => by
      obtain ⟨x, hx, e⟩ := List.getElem_of_mem ha
      have hx' : x < r := by simp at hx; omega
      rw [List.getElem_take] at e
      have := h3 x (by omega) hx'
      rw [e] at this
      simpa using this
    unfold wo at this ⊢
    rw [List.filter_append, this]
    simp

theorem Delete_eq (N : Nat) (l : List Int) (hl : 0 < l.length) : slices_Delete_int N (rowI l) 0 1 = some (rowI (l.drop 1)) := by
  unfold slices_Delete_int
  simp only [rowI_length, Int.toNat_natCast, rowI_take, rowI_drop, rowI_append, rowI_rep]
  have t0 : Int.toNat 0 = 0 := rfl
  have t1 : Int.toNat 1 = 1 := rfl
  simp only [t0, t1, Nat.zero_add, List.take_zero, List.nil_append]
  rw [chk_pos (by omega), chk_pos (by omega), chk_pos (by omega), chk_pos (by omega), chk_pos (by omega), if_neg (by simp), chk_pos (by omega), chk_pos (by omega), chk_pos (by omega), chk_pos (by omega), chk_pos (by omega), chk_pos (by simp; try omega), chk_pos (by simp; try omega), chk_pos (by simp)]
  congr 2
  rw [List.take_append_of_le_length (by simp; try omega), List.take_take, Nat.min_self, List.take_append_of_le_length (by simp), List.take_take, Nat.min_self, List.take_of_length_le (by simp)]
end Go.Dn.F
