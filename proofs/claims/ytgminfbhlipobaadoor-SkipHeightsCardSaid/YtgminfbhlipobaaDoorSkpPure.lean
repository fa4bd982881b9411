/- Height answers what the document says: a number without its lowest bit, by digits or by the bits' and. -/
import Derived.Test.YtgminfbhlipobaaDoorSkpb
set_option linter.unusedSimpArgs false
set_option linter.unusedVariables false
namespace Go.Dn.F
open Go.Proofs

theorem chk_pos {α : Type} {p : Prop} [Decidable p] {A : Option α} (h : p) : chk p A = A := if_pos h
@[simp] theorem optE_some {α β : Type} (x : β) (f : β → Option α) : optE (some x) f = f x := rfl
theorem loopN_succ {α ρ : Type} (body : (α → Option ρ) → α → Option ρ) (k : Nat) (x : α) : loopN body (k + 1) x = body (loopN body k) x := rfl
theorem wrap_i64 {n : Int} (a : -9223372036854775808 ≤ n) (b : n < 9223372036854775808) : IntKind.wrap .i64 n = n := by
  simp only [IntKind.wrap, IntKind.signed, IntKind.bits]
  simp
  omega

theorem alive_eq : ∃ st, Tlaw13_alive 1000 [] = some (true, st) := by
  have h : ((Tlaw13_alive 1000 []).map (·.1)) = some true := by kernel_rfl
  cases e : Tlaw13_alive 1000 [] with
  | none => rw [e] at h; cases h
  | some x => rw [e] at h; obtain ⟨b, st⟩ := x; cases h; exact ⟨st, rfl⟩

theorem bits_and (a b : Nat) (ha : a < 9223372036854775808) (hb : b < 9223372036854775808) : bitsOf .and .i64 (a : Int) (b : Int) = ((a &&& b : Nat) : Int) := by
  have h1 : (BitVec.ofInt 64 (a : Int)) = BitVec.ofNat 64 a := BitVec.ofInt_natCast 64 a
  have h2 : (BitVec.ofInt 64 (b : Int)) = BitVec.ofNat 64 b := BitVec.ofInt_natCast 64 b
  have h3 : a &&& b ≤ a := Nat.and_le_left
  show IntKind.wrap .i64 ((BitVec.ofInt 64 (a : Int) &&& BitVec.ofInt 64 (b : Int)).toNat : Int) = _
  rw [h1, h2, BitVec.toNat_and, BitVec.toNat_ofNat, BitVec.toNat_ofNat]
  rw [Nat.mod_eq_of_lt (by omega), Nat.mod_eq_of_lt (by omega), wrap_i64 (by omega) (by omega)]

theorem and_odd {a : Nat} (h : a % 2 = 1) : a &&& (a - 1) = a - 1 := by
  have h1 : (a &&& (a - 1)) / 2 = a / 2 &&& (a - 1) / 2 := Nat.and_div_two
  have h2 := @Nat.and_mod_two_eq_one a (a - 1)
  have h3 : (a - 1) / 2 = a / 2 := by omega
  rw [h3, Nat.and_self] at h1
  omega
theorem and_even {c : Nat} (h : 0 < c) : 2 * c &&& (2 * c - 1) = 2 * (c &&& (c - 1)) := by
  have h1 : (2 * c &&& (2 * c - 1)) / 2 = (2 * c) / 2 &&& (2 * c - 1) / 2 := Nat.and_div_two
  have h2 := @Nat.and_mod_two_eq_one (2 * c) (2 * c - 1)
  have h3 : (2 * c) / 2 = c := by omega
  have h4 : (2 * c - 1) / 2 = c - 1 := by omega
  rw [h3, h4] at h1
  omega

/-- A number without its lowest bit. -/
def cut (n : Nat) : Nat := n &&& (n - 1)
theorem cut_le (n : Nat) : cut n ≤ n - 1 := Nat.and_le_right

theorem ref_low (N : Nat) (c : Int × Int → Option Int) (h : Int) (kk : Int) (n : Nat) (hn : 0 < n) (hb : n < 9223372036854775808) : ∀ (k a low : Nat), 0 < a → a < 2 ^ k → low * a = n → 
    loopN (Tref13_Height.p2 N c h n kk) (k + 1) (low : Int) = Tref13_Height.p3 N c h ((n - low * (a - cut a) : Nat) : Int) kk
  | 0, a, low, h0, h1, h2 => by simp at h1; omega
  | k + 1, a, low, h0, h1, h2 => by
    have hl : 0 < low := Nat.pos_of_ne_zero fun e => by subst e; simp at h2; omega
    have ha : a ≤ n := by rw [← h2]; exact Nat.le_mul_of_pos_left a hl
    have hln : low ≤ n := by rw [← h2]; exact Nat.le_mul_of_pos_right low h0
    have hd : Int.tdiv (n : Int) (low : Int) = (a : Int) := by
      rw [← h2, Int.natCast_mul]; exact Int.mul_tdiv_cancel_left _ (by omega)
    have hm : Int.tmod (a : Int) 2 = ((a % 2 : Nat) : Int) := by rw [Int.tmod_eq_emod_of_nonneg (by omega)]; omega
    rw [loopN_succ]
    by_cases e : a % 2 = 0
    · obtain ⟨c0, rfl⟩ : ∃ c0, a = 2 * c0 := ⟨a / 2, by omega⟩
      have hc0 : 0 < c0 := by omega
      have hlow2 : 2 * low ≤ n := by
        rw [← h2, show low * (2 * c0) = 2 * low * c0 by rw [Nat.mul_comm 2 low, Nat.mul_assoc]]
        exact Nat.le_mul_of_pos_right _ hc0
      have h2' : (2 * low) * c0 = n := by rw [← h2]; rw [Nat.mul_comm 2 low, Nat.mul_assoc]
      have ih := ref_low N c h kk n hn hb k c0 (2 * low) hc0 (by rw [Nat.pow_succ] at h1; omega) h2'
      have e2 : low * (2 * c0 - cut (2 * c0)) = 2 * low * (c0 - cut c0) := by
        unfold cut
        rw [and_even hc0, ← Nat.mul_sub, Nat.mul_comm 2 low, Nat.mul_assoc]
      rw [e2, ← ih]
      generalize loopN (Tref13_Height.p2 N c h n kk) (k + 1) = G
      unfold Tref13_Height.p2
      rw [if_pos (by simp; omega), chk_pos (by omega), hd, wrap_i64 (by omega) (by omega), hm, if_pos (by simp), wrap_i64 (by omega) (by omega)]
      rfl
    · have e1 : cut a = a - 1 := and_odd (by omega)
      generalize loopN (Tref13_Height.p2 N c h n kk) (k + 1) = G
      unfold Tref13_Height.p2
      rw [if_pos (by simp; omega), chk_pos (by omega), hd, wrap_i64 (by omega) (by omega), hm, if_neg (by simp; omega), wrap_i64 (by omega) (by omega), e1]
      congr 1
      have : low * (a - (a - 1)) = low := by rw [show a - (a - 1) = 1 by omega, Nat.mul_one]
      rw [this]; omega

theorem ref_cut (N : Nat) (hN : 65 ≤ N) (c : Int × Int → Option Int) (h : Int) (kk : Int) (n : Nat) (hb : n < 9223372036854775808) (hk : kk = 0 ∨ kk = 1) : loopN (Tref13_Height.p2 N c h n kk) N 1 = c ((cut n : Nat), kk + 1) := by
  obtain ⟨N', e⟩ : ∃ N', N = N' + 1 := ⟨N - 1, by omega⟩
  by_cases hn : 0 < n
  · have := ref_low N c h kk n hn hb N' n 1 hn (Nat.lt_of_lt_of_le hb (by
      have : (2 : Nat) ^ 63 ≤ 2 ^ N' := Nat.pow_le_pow_right (by omega) (by omega)
      omega)) (by omega)
    rw [← e] at this
    refine Eq.trans this ?_
    have hc := cut_le n
    unfold Tref13_Height.p3
    rw [wrap_i64 (by omega) (by omega), show n - 1 * (n - cut n) = cut n by omega]
  · obtain rfl : n = 0 := by omega
    have key : ∀ k, loopN (Tref13_Height.p2 N c h (0 : Nat) kk) (k + 1) 1 = c ((cut 0 : Nat), kk + 1) := fun k => by
      rw [loopN_succ]
      unfold Tref13_Height.p2
      rw [if_neg (by simp)]
      unfold Tref13_Height.p3
      rw [wrap_i64 (by omega) (by omega)]
      rfl
    have := key N'
    rw [← e] at this
    exact this

theorem ref_height (N : Nat) (hN : 65 ≤ N) (h : Nat) (hb : h < 9223372036854775808) (h2 : 2 ≤ h) : Tref13_Height N (h : Int) = some (if h % 2 = 0 then (cut h : Int) else (cut (cut (h - 1)) : Int) + 1) := by
  have hm : Int.tmod (h : Int) 2 = ((h % 2 : Nat) : Int) := by rw [Int.tmod_eq_emod_of_nonneg (by omega)]; omega
  have c1 := cut_le h
  have c2 := cut_le (h - 1)
  have c3 := cut_le (cut (h - 1))
  unfold Tref13_Height
  rw [if_neg (by simp; omega), hm]
  obtain ⟨N', e⟩ : ∃ N', N = N' + 1 + 1 + 1 := ⟨N - 3, by omega⟩
  have step : ∀ (k n : Nat) (kk : Int), n < 9223372036854775808 → (kk = 0 ∨ kk = 1) → kk ≤ ((h % 2 : Nat) : Int) → loopN (Tref13_Height.p1 N (h : Int)) (k + 1) ((n : Int), kk) = loopN (Tref13_Height.p1 N (h : Int)) k ((cut n : Nat), kk + 1) := by
    intro k n kk hn hk hle
    rw [loopN_succ]
    generalize loopN (Tref13_Height.p1 N (h : Int)) k = G
    unfold Tref13_Height.p1
    dsimp only
    rw [hm, if_pos (by simpa using hle)]
    exact ref_cut N hN G h kk n hn hk
  have stop : ∀ (k n : Nat) (kk : Int), n < 9223372036854775807 → ¬ kk ≤ ((h % 2 : Nat) : Int) → loopN (Tref13_Height.p1 N (h : Int)) (k + 1) ((n : Int), kk) = some ((n : Int) + ((h % 2 : Nat) : Int)) := by
    intro k n kk hn hle
    rw [loopN_succ]
    unfold Tref13_Height.p1
    dsimp only
    rw [hm, if_neg (by simpa using hle), wrap_i64 (by omega) (by omega)]
  have en : IntKind.wrap .i64 ((h : Int) - ((h % 2 : Nat) : Int)) = ((h - h % 2 : Nat) : Int) := by rw [wrap_i64 (by omega) (by omega)]; omega
  rw [en]
  have goal : ∀ k, loopN (Tref13_Height.p1 N (h : Int)) (k + 1 + 1 + 1) (((h - h % 2 : Nat) : Int), 0) = some (if h % 2 = 0 then (cut h : Int) else (cut (cut (h - 1)) : Int) + 1) := by
    intro k
    rw [step _ _ 0 (by omega) (.inl rfl) (by omega)]
    have c4 := cut_le (h - h % 2)
    have c5 := cut_le (cut (h - h % 2))
    by_cases e0 : h % 2 = 0
    · rw [stop _ _ _ (by omega) (by omega), if_pos e0, e0]; simp
    · have e1 : h % 2 = 1 := by omega
      rw [step _ _ (0 + 1) (by omega) (.inr rfl) (by omega), stop _ _ _ (by omega) (by omega), if_neg e0, e1]; rfl
  have := goal N'
  rw [← e] at this
  exact this

theorem own_height (N : Nat) (h : Nat) (hb : h < 9223372036854775808) (h2 : 2 ≤ h) : skip_Height N (h : Int) = some (if h % 2 = 0 then (cut h : Int) else (cut (cut (h - 1)) : Int) + 1) := by
  have c1 := cut_le h
  have c2 := cut_le (h - 1)
  have c3 := cut_le (cut (h - 1))
  have low : ∀ n : Nat, n < 9223372036854775808 → skip_lower N (n : Int) = some (cut n : Int) := by
    intro n hn
    unfold skip_lower
    by_cases h0 : n = 0
    · subst h0; rfl
    · rw [wrap_i64 (by omega) (by omega), show (n : Int) - 1 = ((n - 1 : Nat) : Int) by omega, bits_and n (n - 1) hn (by omega)]; rfl
  have hand : bitsOf .and .i64 (h : Int) 1 = ((h % 2 : Nat) : Int) := by
    have := bits_and h 1 hb (by omega)
    rw [Nat.and_one_is_mod] at this
    exact this
  unfold skip_Height
  rw [if_neg (by simp; omega), hand]
  by_cases e0 : h % 2 = 0
  · rw [if_pos (by simp [e0]), low h hb, optE_some, if_pos e0]
  · rw [if_neg (by simp; omega), wrap_i64 (by omega) (by omega), show (h : Int) - 1 = ((h - 1 : Nat) : Int) by omega, low _ (by omega), optE_some, low _ (by omega), optE_some, if_neg e0, wrap_i64 (by omega) (by omega)]

theorem SkipHeights_true (a0 : Int) (w0 : (Lit.int .i64 a0).wf = true) : ∃ st', Snd Tryd.prog 7 [.one (.int .i64 a0)] [] [.one (.bool true)] st' := by
  suffices h : ∃ st', Tlaw13_SkipHeights 1000 a0 [] = some (true, st') from h.elim fun st' h => ⟨_, Tlaw13_SkipHeights.snd h⟩
  obtain ⟨st, ha⟩ := alive_eq
  have b := bounds_i64 w0
  unfold Tlaw13_SkipHeights
  rw [ha, optE_some]
  refine ⟨st, ?_⟩
  show (if (!true) = true then _ else _) = _
  rw [if_neg (by simp)]
  by_cases h2 : a0 < 2
  · have e1 : skip_Height 1000 a0 = some 0 := by unfold skip_Height; rw [if_pos (by simpa using h2)]
    have e2 : Tref13_Height 1000 a0 = some 0 := by unfold Tref13_Height; rw [if_pos (by simpa using h2)]
    rw [e1, e2, optE_some, optE_some, if_pos (by simp), if_pos (by simpa using h2), if_pos (by simp)]
  · obtain ⟨h, rfl⟩ : ∃ h : Nat, a0 = (h : Int) := ⟨a0.toNat, by omega⟩
    have c1 := cut_le h
    have c2 := cut_le (h - 1)
    have c3 := cut_le (cut (h - 1))
    have hx : 0 ≤ (if h % 2 = 0 then (cut h : Int) else (cut (cut (h - 1)) : Int) + 1) ∧ (if h % 2 = 0 then (cut h : Int) else (cut (cut (h - 1)) : Int) + 1) < (h : Int) := by split <;> omega
    rw [own_height 1000 h (by omega) (by omega), ref_height 1000 (by omega) h (by omega) (by omega), optE_some, optE_some]
    generalize (if h % 2 = 0 then (cut h : Int) else (cut (cut (h - 1)) : Int) + 1) = x at hx
    rw [if_pos (beq_self_eq_true x), if_neg (by simpa using h2), if_pos (decide_eq_true (show (h : Int) ≥ 2 by omega)), if_pos (decide_eq_true (show x ≥ 0 from hx.1)), decide_eq_true hx.2]
end Go.Dn.F
