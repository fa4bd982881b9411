/- The middle of times is one of the first eleven, and no time is late that is not above it. -/
import Derived.Test.YtgminfbhlipobaaMedOf
set_option linter.unusedSimpArgs false
set_option linter.unusedVariables false
namespace Go.Dn.F
open Go.Proofs

def lo : Int → List Int → Int := List.foldl fun a x => if x < a then x else a
def hi : Int → List Int → Int := List.foldl fun a x => if x > a then x else a

theorem lo_le {l : List Int} : ∀ {a : Int}, lo a l ≤ a ∧ ∀ x ∈ l, lo a l ≤ x := by
  induction l with
  | nil => intro a; exact ⟨Int.le_refl _, fun x h => by cases h⟩
  | cons y l ih =>
    intro a
    obtain ⟨h1, h2⟩ := ih (a := if y < a then y else a)
    have e : lo a (y :: l) = lo (if y < a then y else a) l := rfl
    rw [e]
    refine ⟨?_, fun x hx => ?_⟩
    · refine Int.le_trans h1 ?_; split <;> omega
    · rcases List.mem_cons.1 hx with rfl | hx
      · refine Int.le_trans h1 ?_; split <;> omega
      · exact h2 x hx
theorem hi_ge {l : List Int} : ∀ {a : Int}, a ≤ hi a l ∧ ∀ x ∈ l, x ≤ hi a l := by
  induction l with
  | nil => intro a; exact ⟨Int.le_refl _, fun x h => by cases h⟩
  | cons y l ih =>
    intro a
    obtain ⟨h1, h2⟩ := ih (a := if y > a then y else a)
    have e : hi a (y :: l) = hi (if y > a then y else a) l := rfl
    rw [e]
    refine ⟨?_, fun x hx => ?_⟩
    · refine Int.le_trans ?_ h1; split <;> omega
    · rcases List.mem_cons.1 hx with rfl | hx
      · refine Int.le_trans ?_ h1; split <;> omega
      · exact h2 x hx
theorem hi_mem {l : List Int} : ∀ {a : Int}, hi a l = a ∨ hi a l ∈ l := by
  induction l with
  | nil => intro a; exact .inl rfl
  | cons y l ih =>
    intro a
    have e : hi a (y :: l) = hi (if y > a then y else a) l := rfl
    rw [e]
    rcases ih (a := if y > a then y else a) with h | h
    · rw [h]; split
      · exact .inr (by simp)
      · exact .inl rfl
    · exact .inr (List.mem_cons_of_mem _ h)

theorem among_loop (N : Nat) (zs : List Int) (w : ∀ n ∈ zs, n ≤ 9223372036854775807 ∧ -9223372036854775808 ≤ n) (h0 : zs ≠ []) : ∀ (m j k : Nat) (a b : Int) (c : Bool), m + j = (zs.take 11).length → m < k →
    lo a ((zs.take 11).drop j) ≤ M zs → M zs ≤ hi b ((zs.take 11).drop j) → (hi b ((zs.take 11).drop j) ∈ zs) → (c || ((zs.take 11).drop j).contains (M zs)) = true →
    loopN (Tlaw09_MedianAmong.p1 N (rowI zs) (M zs)) k (a, b, c, (j : Int)) = some true := by
  have hn : (zs.take 11).length ≤ 11 := by simp; omega
  intro m
  induction m with
  | zero =>
    intro j k a b c hj hk hl hh hm hc
    obtain ⟨k, rfl⟩ : ∃ l, k = l + 1 := ⟨k - 1, by omega⟩
    rw [loopN_succ]
    unfold Tlaw09_MedianAmong.p1
    simp only [rowI_length, min11, List.drop_zero, Int.toNat_natCast, rowI_take, take_min]
    have hd : (zs.take 11).drop j = [] := List.drop_eq_nil_of_le (by omega)
    rw [hd] at hl hh hm hc
    have hl' : a ≤ M zs := hl
    have hh' : M zs ≤ b := hh
    have hm' : b ∈ zs := hm
    have hb := w b hm'
    have hz : zs.length ≠ 0 := fun e => h0 (List.length_eq_zero_iff.1 e)
    have hcc : c = true := by simpa using hc
    subst hcc
    rw [if_neg (by simp only [decide_eq_true_eq]; omega), if_pos rfl, if_pos (by simpa using hl'), if_pos (by simpa using hh'), Late_eq, optE_some]
    have e1 : (zs.length == 0 || decide (a > M zs)) = false := by simp [h0]; exact hl'
    rw [e1, if_pos (by rfl)]
    by_cases e2 : b = 9223372036854775807
    · rw [if_pos (by simpa using e2)]
    · rw [if_neg (by simpa using e2), wrap_i64 (by omega) (by omega), Late_eq, optE_some]
      have e3 : (zs.length == 0 || decide (b + 1 > M zs)) = true := by simp; right; omega
      rw [e3]
  | succ m ih =>
    intro j k a b c hj hk hl hh hm hc
    obtain ⟨k, rfl⟩ : ∃ l, k = l + 1 := ⟨k - 1, by omega⟩
    rw [loopN_succ]
    have hj' : j < (zs.take 11).length := by omega
    have hd := List.drop_eq_getElem_cons hj'
    rw [hd] at hl hh hm hc
    have ih' := fun c' hc' => ih (j + 1) k (if (zs.take 11)[j] < a then (zs.take 11)[j] else a) (if (zs.take 11)[j] > b then (zs.take 11)[j] else b) c' (by omega) (by omega) hl hh hm hc'
    generalize loopN (Tlaw09_MedianAmong.p1 N (rowI zs) (M zs)) k = G at ih' ⊢
    unfold Tlaw09_MedianAmong.p1
    simp only [rowI_length, min11, List.drop_zero, Int.toNat_natCast, rowI_take, take_min]
    rw [if_pos (by simp only [decide_eq_true_eq]; omega), chk_pos (by omega)]
    have hg : (rowI (zs.take 11))[j]? = some [L.int .i64 (zs.take 11)[j]] := rowI_get hj'
    rw [hg, optE_some, dec_i64_one, wrap_i64 (n := _ + 1) (by omega) (by omega)]
    cases c with
    | true =>
      rw [if_pos rfl]
      exact ih' true rfl
    | false =>
      rw [if_neg (by simp)]
      refine ih' _ ?_
      rw [List.contains_cons] at hc
      simp only [Bool.false_or] at hc
      rw [← hc]
      congr 1
      rw [Bool.eq_iff_iff]; simp only [beq_iff_eq]; exact eq_comm

theorem MedianAmong_true (a0 : List Int) (w0 : ∀ n ∈ a0, (Lit.int .i64 n).wf = true) (l0 : a0.length ≤ maxLen) :
    Snd Try.prog 7 [.one (.sl 1 (rowI a0))] [] [.one (.bool true)] [] := by
  refine Tlaw09_MedianAmong.snd (N := 1000) (r := true) ?_ []
  unfold Tlaw09_MedianAmong
  rw [alive_eq, optE_some, if_neg (by simp)]
  simp only [rowI_length, min11]
  by_cases h1 : (a0.length : Int) > 100
  · rw [if_pos (by simpa using h1)]
  rw [if_neg (by simpa using h1)]
  by_cases h0 : a0 = []
  · rw [if_pos (by simp [h0])]
  have hz : a0.length ≠ 0 := fun e => h0 (List.length_eq_zero_iff.1 e)
  rw [if_neg (by simp; omega), Of_eq, optE_some, chk_pos (by omega)]
  have hg : (rowI a0)[0]? = some [L.int .i64 a0[0]] := rowI_get (by omega)
  rw [hg, optE_some, dec_i64_one, chk_pos (by omega), chk_pos (by omega)]
  have ht : a0.take 11 ≠ [] := fun e => by have := congrArg List.length e; simp at this; exact h0 this
  have hmem := (mid_of ht).2
  have hM : M a0 ∈ a0.take 11 := hmem
  refine among_loop 1000 a0 (fun n hn => ?_) h0 (a0.take 11).length 0 1000 a0[0] a0[0] false (by omega) (by simp; omega) (lo_le.2 _ hM) (hi_ge.2 _ hM) ?_ ?_
  · have := bounds_i64 (w0 n hn); omega
  · rcases hi_mem (a := a0[0]) (l := (a0.take 11).drop 0) with h | h
    · rw [h]; exact List.getElem_mem _
    · exact List.mem_of_mem_take h
  · simpa using hM
end Go.Dn.F
