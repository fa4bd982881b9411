/- Near: what it answers is what the document's sum says, of times and clocks from 0 on. -/
import Derived.Test.YtgminfbhlipobaaMedPure
set_option linter.unusedSimpArgs false
set_option linter.unusedVariables false
namespace Go.Dn.F
open Go.Proofs

theorem wrap_u64 {n : Int} (a : 0 ≤ n) (b : n < 18446744073709551616) : IntKind.wrap .u64 n = n := by
  simp only [IntKind.wrap, IntKind.signed, IntKind.bits]
  simp
  omega

theorem Near_eq (N : Nat) (t n f : Int) (ht : 0 ≤ t) (hn : 0 ≤ n) (ht' : t < 9223372036854775808) (hn' : n < 9223372036854775808) (hf' : f < 9223372036854775808) :
    median_Near N t n f = some (decide (0 ≤ f) && decide (t ≤ n + f)) := by
  unfold median_Near
  by_cases h : 0 ≤ f
  · rw [if_pos (by simpa using h)]
    by_cases h1 : t ≤ n
    · rw [if_pos (by simpa using h1)]; simp; omega
    · rw [if_neg (by simpa using h1), wrap_i64 (by omega) (by omega)]; congr 1; rw [Bool.eq_iff_iff]; simp; omega
  · rw [if_neg (by simpa using h)]; simp; omega

theorem MedianNear_true (a0 a1 a2 : Int) (w0 : (Lit.int .i64 a0).wf = true) (w1 : (Lit.int .i64 a1).wf = true) (w2 : (Lit.int .i64 a2).wf = true) :
    Snd Try.prog 6 [.one (.int .i64 a0), .one (.int .i64 a1), .one (.int .i64 a2)] [] [.one (.bool true)] [] := by
  have b0 := bounds_i64 w0; have b1 := bounds_i64 w1; have b2 := bounds_i64 w2
  refine Tlaw09_MedianNear.snd (N := 1000) (r := true) ?_ []
  unfold Tlaw09_MedianNear
  rw [alive_eq, optE_some, if_neg (by simp)]
  by_cases h0 : a0 < 0
  · rw [if_pos (by simpa using h0)]
  rw [if_neg (by simpa using h0)]
  by_cases h1 : a1 < 0
  · rw [if_pos (by simpa using h1)]
  rw [if_neg (by simpa using h1), Near_eq _ _ _ _ (by omega) (by omega) (by omega) (by omega) (by omega), optE_some]
  by_cases h2 : 0 ≤ a2
  · rw [if_pos (by simpa using h2), wrap_u64 (n := a0) (by omega) (by omega), wrap_u64 (n := a1) (by omega) (by omega), wrap_u64 (n := a2) (by omega) (by omega), wrap_u64 (by omega) (by omega)]
    simp [h2]
  · rw [if_neg (by simpa using h2)]
    simp; omega
end Go.Dn.F
