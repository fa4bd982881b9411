/- Of and Late answer what the document says; the order of the times that count plays no part. -/
import Derived.Test.YtgminfbhlipobaaMedRef
set_option linter.unusedSimpArgs false
set_option linter.unusedVariables false
namespace Go.Dn.F
open Go.Proofs

theorem M_take (zs : List Int) : M (zs.take 11) = M zs := by
  have : (zs.take 11).take 11 = zs.take 11 := by rw [List.take_take]; rfl
  simp only [M, this]

theorem take_min (zs : List Int) : zs.take (min zs.length 11) = zs.take 11 := by
  rcases Nat.le_total zs.length 11 with h | h
  · rw [Nat.min_eq_left h, List.take_length, List.take_of_length_le h]
  · rw [Nat.min_eq_right h]

theorem MedianOf_true (a0 : List Int) (a1 : Int) (w0 : ∀ n ∈ a0, (Lit.int .i64 n).wf = true) (l0 : a0.length ≤ maxLen) (w1 : (Lit.int .i64 a1).wf = true) :
    Snd Try.prog 4 [.one (.sl 1 (rowI a0)), .one (.int .i64 a1)] [] [.one (.bool true)] [] := by
  refine Tlaw09_MedianOf.snd (N := 1000) (r := true) ?_ []
  unfold Tlaw09_MedianOf
  rw [alive_eq, optE_some, if_neg (by simp)]
  simp only [rowI_length]
  by_cases h0 : (a0.length : Int) > 100
  · rw [if_pos (by simpa using h0)]
  rw [if_neg (by simpa using h0), Ref_eq 1000 (by omega), Of_eq, optE_some, optE_some, if_pos (by simp)]
  simp only [min11, List.drop_zero]
  rw [chk_pos (by omega), chk_pos (by omega)]
  simp only [Int.toNat_natCast, rowI_take, take_min]
  rw [Of_eq, M_take, optE_some, if_pos (by simp), Late_eq, optE_some]
  by_cases h1 : a0.length = 0
  · simp [h1]
  · rw [if_neg (by simpa using h1)]
    simp [h1]

theorem isMid_perm {l m : List Int} (h : l.Perm m) {y : Int} : isMid l y ↔ isMid m y := by
  unfold isMid
  rw [h.countP_eq, h.countP_eq, h.length_eq]

theorem M_perm {l m : List Int} (h : l.Perm m) (hl : l.length ≤ 11) : M l = M m := by
  have hm : m.length ≤ 11 := h.length_eq ▸ hl
  have e1 := List.take_of_length_le hl
  have e2 := List.take_of_length_le hm
  by_cases h0 : l = []
  · subst h0
    have := h.length_eq
    have : m = [] := List.length_eq_zero_iff.1 this.symm
    rw [this]
  · have h0' : m ≠ [] := fun e => h0 (List.length_eq_zero_iff.1 (by rw [h.length_eq, e]; rfl))
    have k := (mid_of h0).1
    have : (srt l).getD (l.length / 2) 0 = M l := by simp only [M, e1]
    rw [this] at k
    exact mid_M (by rw [e2]; exact h0') (by rw [e2]; exact (isMid_perm h).1 k)

theorem turned_loop (N : Nat) (zs : List Int) (a1 : Int) (k0 : Nat) (hk : k0 ≤ zs.length) (hk0 : Int.toNat (IntKind.wrap IntKind.i64 (Int.tmod (IntKind.wrap IntKind.u64 a1) (IntKind.wrap IntKind.u64 ((zs.length : Nat) : Int)))) = k0) (hz : zs.length ≤ 11) :
    ∀ (m j k : Nat), m + j = zs.length → m < k → loopN (Tlaw09_MedianTurned.p1 N (rowI zs) a1) k (rowI (zs.reverse.take j), (j : Int)) = some true := by
  intro m
  induction m with
  | zero =>
    intro j k hj hk'
    obtain ⟨k, rfl⟩ : ∃ l, k = l + 1 := ⟨k - 1, by omega⟩
    rw [loopN_succ]
    unfold Tlaw09_MedianTurned.p1
    simp only [rowI_length]
    rw [if_neg (by simp only [decide_eq_true_eq]; omega), Of_eq, optE_some, hk0]
    simp only [rowI_take, rowI_drop, List.take_nil, List.nil_append, List.drop_zero, rowI_append]
    rw [Of_eq, optE_some]
    have e1 : M ((zs.drop k0).take (zs.length - k0) ++ zs.take k0) = M zs := by
      rw [List.take_of_length_le (by simp)]
      refine (M_perm ?_ hz).symm
      have := List.perm_append_comm (l₁ := zs.take k0) (l₂ := zs.drop k0)
      rwa [List.take_append_drop] at this
    have e2 : M (zs.reverse.take j) = M zs := by
      rw [List.take_of_length_le (by simp; omega)]
      exact M_perm (List.reverse_perm zs) (by simpa using hz)
    rw [e1, if_pos (by simp), Of_eq, optE_some, e2]
    simp
  | succ m ih =>
    intro j k hj hk'
    obtain ⟨k, rfl⟩ : ∃ l, k = l + 1 := ⟨k - 1, by omega⟩
    rw [loopN_succ]
    have ih' := ih (j + 1) k (by omega) (by omega)
    generalize loopN (Tlaw09_MedianTurned.p1 N (rowI zs) a1) k = G at ih' ⊢
    unfold Tlaw09_MedianTurned.p1
    simp only [rowI_length]
    have hr : (zs.length - 1 - j) < zs.length := by omega
    have e : IntKind.wrap .i64 (IntKind.wrap .i64 ((zs.length : Int) - 1) - (j : Int)) = ((zs.length - 1 - j : Nat) : Int) := by
      rw [wrap_i64 (n := (zs.length : Int) - 1) (by omega) (by omega), wrap_i64 (by omega) (by omega)]; omega
    rw [if_pos (by simp only [decide_eq_true_eq]; omega), e, chk_pos (by omega), chk_pos (by omega), rowI_gx (List.getElem?_eq_getElem hr), optE_some, dec_i64_one, rowI_one, rowI_take, rowI_append, rowI_length, rowI_length, chk_pos (by simp), chk_pos (by simp; omega), wrap_i64 (by omega) (by omega)]
    have t : zs.reverse.take j ++ List.take 1 [zs[zs.length - 1 - j]] = zs.reverse.take (j + 1) := by
      have hj' : j < zs.reverse.length := by simp; omega
      rw [List.take_succ_eq_append_getElem hj', List.getElem_reverse]
      rfl
    rw [t]
    exact ih'

theorem MedianTurned_true (a0 : List Int) (a1 : Int) (w0 : ∀ n ∈ a0, (Lit.int .i64 n).wf = true) (l0 : a0.length ≤ maxLen) (w1 : (Lit.int .i64 a1).wf = true) :
    Snd Try.prog 5 [.one (.sl 1 (rowI a0)), .one (.int .i64 a1)] [] [.one (.bool true)] [] := by
  refine Tlaw09_MedianTurned.snd (N := 1000) (r := true) ?_ []
  unfold Tlaw09_MedianTurned
  rw [alive_eq, optE_some, if_neg (by simp)]
  simp only [rowI_length]
  by_cases h0 : a0.length = 0
  · rw [if_pos (by simp [h0])]
  rw [if_neg (by simpa using h0)]
  by_cases h1 : (a0.length : Int) > 11
  · rw [if_pos (by simpa using h1)]
  rw [if_neg (by simpa using h1)]
  have u : IntKind.wrap .u64 ((a0.length : Nat) : Int) = (a0.length : Int) := by simp only [IntKind.wrap, IntKind.signed, IntKind.bits]; simp; omega
  have v : 0 ≤ IntKind.wrap .u64 a1 := by simp only [IntKind.wrap, IntKind.signed, IntKind.bits]; simp; omega
  have t1 : 0 ≤ Int.tmod (IntKind.wrap .u64 a1) (a0.length : Int) := by rw [Int.tmod_eq_emod_of_nonneg v]; exact Int.emod_nonneg _ (by omega)
  have t2 : Int.tmod (IntKind.wrap .u64 a1) (a0.length : Int) < (a0.length : Int) := by rw [Int.tmod_eq_emod_of_nonneg v]; exact Int.emod_lt_of_pos _ (by omega)
  have key := turned_loop 1000 a0 a1 (Int.toNat (Int.tmod (IntKind.wrap .u64 a1) (a0.length : Int))) (by omega) (by rw [u, wrap_i64 (by omega) (by omega)]) (by omega) a0.length 0 1000 (by omega) (by omega)
  rw [u, wrap_i64 (n := Int.tmod _ _) (by omega) (by omega), chk_pos (by omega), chk_pos (by omega), chk_pos (by omega)]
  rw [chk_pos (by simp; omega), chk_pos (by simp; omega)]
  exact key
end Go.Dn.F
