/- Compact numbers: what bits stand for, and the target. -/
import Derived.Test.YtbplamjmmjnibaaGreatDoorNumG
set_option linter.unusedSimpArgs false
set_option linter.unusedVariables false
set_option maxRecDepth 40000
namespace Go.Dn.F
open Go.Dn
variable {N : Nat}
def isU (x : Int) : Prop := 0 ≤ x ∧ x < 9223372036854775808
theorem of_i (x : Int) (h : isU x) : (BitVec.ofInt 64 x).toNat = x.toNat := by
  unfold isU at h
  rw [BitVec.toNat_ofInt]; omega
theorem wrapi (n : Nat) (h : n < 9223372036854775808) : IntKind.wrap .i64 (n : Int) = n := ZaC (by omega) (by omega)
theorem and_i {x y : Int} (hx : isU x) (hy : isU y) : bitsOf .and .i64 x y = ((x.toNat &&& y.toNat : Nat) : Int) := by
  show IntKind.wrap .i64 (((BitVec.ofInt 64 x &&& BitVec.ofInt 64 y).toNat : Nat) : Int) = _
  have : x.toNat &&& y.toNat ≤ x.toNat := Nat.and_le_left
  unfold isU at *
  rw [BitVec.toNat_and, of_i x hx, of_i y hy, wrapi _ (by omega)]
theorem or_i {x y : Int} (hx : isU x) (hy : isU y) : bitsOf .or .i64 x y = ((x.toNat ||| y.toNat : Nat) : Int) := by
  show IntKind.wrap .i64 (((BitVec.ofInt 64 x ||| BitVec.ofInt 64 y).toNat : Nat) : Int) = _
  have : x.toNat ||| y.toNat < 2 ^ 63 := Nat.or_lt_two_pow (by unfold isU at hx; omega) (by unfold isU at hy; omega)
  rw [BitVec.toNat_or, of_i x hx, of_i y hy, wrapi _ (by omega)]
theorem and_pow2 (x i : Nat) : x &&& 2 ^ i = if x.testBit i then 2 ^ i else 0 := by
  apply Nat.eq_of_testBit_eq
  intro j
  rw [Nat.testBit_and, Nat.testBit_two_pow]
  by_cases h : i = j
  · subst h
    cases hx : x.testBit i <;> simp [Nat.testBit_two_pow]
  · cases hx : x.testBit i <;> simp [Nat.testBit_two_pow, h]
theorem and_word {b : Int} (h : isU b) : bitsOf .and .i64 b 8388607 = b % 8388608 := by
  rw [and_i h (by unfold isU; omega), show (8388607 : Int).toNat = 2 ^ 23 - 1 from rfl, Nat.and_two_pow_sub_one_eq_mod]
  unfold isU at h
  omega
theorem ZjW {b : Int} (h : isU b) : (bitsOf .and .i64 b 8388608 != 0) = decide (b / 8388608 % 2 = 1) := by
  rw [and_i h (by unfold isU; omega), show (8388608 : Int).toNat = 2 ^ 23 from rfl, and_pow2]
  have t : b.toNat.testBit 23 = decide (b / 8388608 % 2 = 1) := by
    rw [Nat.testBit_eq_decide_div_mod_eq]
    unfold isU at h
    rw [decide_eq_decide]; omega
  rw [t]
  by_cases k : b / 8388608 % 2 = 1
  · simp [k]
  · simp [k]
theorem Zjy {b : Int} : shrOf .i64 b 24 = b / 16777216 := ZiZ b 24 (by omega)
def cWord (b : Int) : Int := b % 8388608
def cSize (b : Int) : Nat := (b / 16777216).toNat
def cN (b : Int) : Int := if cSize b ≤ 3 then cWord b / 2 ^ (8 * (3 - cSize b)) else cWord b * 2 ^ (8 * (cSize b - 3)) % 115792089237316195423570985008687907853269984665640564039457584007913129639936
def cNeg (b : Int) : Bool := decide (cWord b ≠ 0 ∧ b / 8388608 % 2 = 1)
def cOver (b : Int) : Bool := decide (cWord b ≠ 0 ∧ (34 < cSize b ∨ 255 < cWord b ∧ 33 < cSize b ∨ 65535 < cWord b ∧ 32 < cSize b))
def cGood (b : Int) : Bool := decide (0 ≤ b ∧ b < 4294967296)
def cDec (b : Int) : Int × Bool × Bool := if cGood b then (cN b, cNeg b, cOver b) else (0, false, false)
theorem cN_isN {b : Int} (h : cGood b = true) : isN (cN b) := by
  simp only [cGood, decide_eq_true_eq] at h
  unfold cN isN
  have w : 0 ≤ cWord b ∧ cWord b < 8388608 := by unfold cWord; omega
  split
  · have p := Zbr (8 * (3 - cSize b))
    have : cWord b / 2 ^ (8 * (3 - cSize b)) ≤ cWord b := Int.ediv_le_self _ w.1
    have : 0 ≤ cWord b / 2 ^ (8 * (3 - cSize b)) := Int.ediv_nonneg w.1 (by omega)
    omega
  · omega
theorem Zec (b : Int) : isN (cDec b).1 := by
  unfold cDec
  split
  · rename_i h; exact cN_isN h
  · unfold isN; dsimp only; omega
theorem ZdM (hN : 10 ≤ N) (b : Int) : Zaw N b = some (nw (cDec b).1, (cDec b).2.1, (cDec b).2.2) := by
  unfold Zaw
  rw [Zex, Zak]
  cases hg : cGood b with
  | false =>
    have : decide (0 ≤ b ∧ b < 4294967296) = false := hg
    rw [this, if_pos (by rfl)]
    unfold cDec; rw [hg, Zda]; rfl
  | true =>
    have hg' : decide (0 ≤ b ∧ b < 4294967296) = true := hg
    rw [hg', if_neg (by simp)]
    simp only [decide_eq_true_eq] at hg'
    have hu : isU b := by unfold isU; omega
    have w : 0 ≤ cWord b ∧ cWord b < 8388608 := by unfold cWord; omega
    have s : b / 16777216 = (cSize b : Int) := by unfold cSize; omega
    have s2 : cSize b < 256 := by unfold cSize; omega
    have e : bitsOf .and .i64 b 8388607 = cWord b := and_word hu
    have wN : isN (cWord b) := by unfold isN; omega
    have p2 : ∀ (neg : Bool) (l : List Int), Zaw.p2 N b neg l = some (l, neg, cOver b) := fun neg l => by
      unfold Zaw.p2
      rw [e, Zjy, s]
      simp only [bne_iff_ne, ne_eq, decide_eq_true_eq, gt_iff_lt]
      unfold cOver
      repeat' split
      all_goals (congr 2; congr 1; rw [Bool.eq_iff_iff]; simp only [decide_eq_true_eq, iff_true, true_iff, Bool.false_eq_true, false_iff, ne_eq]; omega)
    have p1 : ∀ l : List Int, Zaw.p1 N b l = some (l, cNeg b, cOver b) := fun l => by
      unfold Zaw.p1
      rw [e, ZjW hu, p2, p2]
      unfold cNeg
      by_cases h0 : cWord b = 0
      · rw [if_neg (by simp [h0])]; simp [h0]
      · rw [if_pos (by simp [h0])]; simp [h0]
    rw [e, ZbC w.1 (by omega), ZdR (by unfold isW; omega), Zak, Zjy, s]
    unfold cDec
    rw [hg, if_pos rfl]
    dsimp only
    unfold cN
    by_cases h3 : cSize b ≤ 3
    · rw [if_pos (by simp; omega), if_pos h3, show (3 : Int) - (cSize b : Int) = ((3 - cSize b : Nat) : Int) by omega, ZaC (n := ((3 - cSize b : Nat) : Int)) (by omega) (by omega), show (8 : Int) * ((3 - cSize b : Nat) : Int) = ((8 * (3 - cSize b) : Nat) : Int) by omega, ZaC (by omega) (by omega), ZeS hN wN _ (by omega), Zak, p1]
    · rw [if_neg (by simp; omega), if_neg h3, show (cSize b : Int) - 3 = ((cSize b - 3 : Nat) : Int) by omega, ZaC (n := ((cSize b - 3 : Nat) : Int)) (by omega) (by omega), show (8 : Int) * ((cSize b - 3 : Nat) : Int) = ((8 * (cSize b - 3) : Nat) : Int) by omega, ZaC (by omega) (by omega), Zgf hN wN _ (by omega), Zak, p1]
def tgt (b l : Int) : Int × Bool :=
  if (cDec b).2.1 || (cDec b).2.2 || (cDec l).2.1 || (cDec l).2.2 || decide ((cDec b).1 = 0) || decide ((cDec l).1 < (cDec b).1) then (0, false) else ((cDec b).1, true)
theorem Zfu (b l : Int) : isN (tgt b l).1 := by
  unfold tgt
  split
  · unfold isN; dsimp only; omega
  · exact Zec b
theorem ZcL (hN : 10 ≤ N) (b l : Int) : ZaG N b l = some (nw (tgt b l).1, (tgt b l).2) := by
  unfold ZaG
  rw [ZdM hN, Zak]
  dsimp only
  rw [ZdM hN, Zak]
  dsimp only
  unfold tgt
  have z := Zdl (N := N) (Zec b)
  have le := ZdS hN (Zec l) (Zec b)
  rw [z, Zak, le, Zak, Zda]
  cases (cDec b).2.1 <;> cases (cDec b).2.2 <;> cases (cDec l).2.1 <;> cases (cDec l).2.2 <;> cases (decide ((cDec b).1 = 0)) <;> cases (decide ((cDec l).1 < (cDec b).1)) <;> rfl
end Go.Dn.F
