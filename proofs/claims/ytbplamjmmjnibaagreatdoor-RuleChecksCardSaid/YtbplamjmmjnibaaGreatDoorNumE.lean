/- Numbers of 256 bits: times a word. -/
import Derived.Test.YtbplamjmmjnibaaGreatDoorNumD
set_option linter.unusedSimpArgs false
set_option linter.unusedVariables false
set_option maxRecDepth 4000
namespace Go.Dn.F
open Go.Dn
variable {N : Nat}
theorem and_mask {x : Int} (hx : isW x) (k : Nat) (hk : k ≤ 64) : bitsOf .and .u64 x (2 ^ k - 1) = x % 2 ^ k := by
  have p := Zbr k
  have q := Zbr (64 - k)
  have s := Zdo hk
  have l : (2 : Int) ^ k ≤ 18446744073709551616 := by
    have := Int.mul_le_mul_of_nonneg_left (show (1 : Int) ≤ 2 ^ (64 - k) by omega) (show (0 : Int) ≤ 2 ^ k by omega)
    omega
  rw [and64 hx (by unfold isW; omega)]
  have : ((2 : Int) ^ k - 1).toNat = 2 ^ k - 1 := by
    have : ((2 ^ k : Nat) : Int) = (2 : Int) ^ k := by push_cast; rfl
    omega
  rw [this, Nat.and_two_pow_sub_one_eq_mod]
  unfold isW at hx
  push_cast
  rw [Int.toNat_of_nonneg hx.1]
theorem and32 {x : Int} (hx : isW x) : bitsOf .and .u64 x 4294967295 = x % 4294967296 := and_mask hx 32 (by omega)
theorem shr32 (x : Int) : shrOf .u64 x 32 = x / 4294967296 := shr64 x (k := 32) (by omega)
theorem mul64 {x y : Int} (hx : isW x) (hy : isW y) : Zbw N x y = some (x * y / 18446744073709551616, x * y % 18446744073709551616) := by
  unfold Zbw
  rw [shr32 x, shr32 y, and32 hx, and32 hy]
  unfold isW at hx hy
  obtain ⟨x1, x0, ex, hx1, hx2, hx3, hx4⟩ : ∃ x1 x0 : Int, x = x1 * 4294967296 + x0 ∧ 0 ≤ x1 ∧ x1 ≤ 4294967295 ∧ 0 ≤ x0 ∧ x0 ≤ 4294967295 := ⟨x / 4294967296, x % 4294967296, by omega, by omega, by omega, by omega, by omega⟩
  obtain ⟨y1, y0, ey, hy1, hy2, hy3, hy4⟩ : ∃ x1 x0 : Int, y = x1 * 4294967296 + x0 ∧ 0 ≤ x1 ∧ x1 ≤ 4294967295 ∧ 0 ≤ x0 ∧ x0 ≤ 4294967295 := ⟨y / 4294967296, y % 4294967296, by omega, by omega, by omega, by omega, by omega⟩
  rw [show x / 4294967296 = x1 by omega, show x % 4294967296 = x0 by omega, show y / 4294967296 = y1 by omega, show y % 4294967296 = y0 by omega]
  have b : ∀ {u v : Int}, 0 ≤ u → u ≤ 4294967295 → 0 ≤ v → v ≤ 4294967295 → 0 ≤ u * v ∧ u * v ≤ 18446744065119617025 := fun h1 h2 h3 h4 => ⟨Int.mul_nonneg h1 h3, by
    have := Int.mul_le_mul h2 h4 h3 (by omega : (0 : Int) ≤ 4294967295)
    omega⟩
  obtain ⟨p1, p2⟩ := b hx1 hx2 hy1 hy2
  obtain ⟨q1, q2⟩ := b hx1 hx2 hy3 hy4
  obtain ⟨r1, r2⟩ := b hx3 hx4 hy1 hy2
  obtain ⟨s1, s2⟩ := b hx3 hx4 hy3 hy4
  have prod : x * y = 18446744073709551616 * (x1 * y1) + 4294967296 * (x1 * y0) + 4294967296 * (x0 * y1) + x0 * y0 := by
    rw [ex, ey, Int.add_mul, Int.mul_add, Int.mul_add]
    have e1 : x1 * 4294967296 * (y1 * 4294967296) = 18446744073709551616 * (x1 * y1) := by
      rw [Int.mul_assoc, Int.mul_left_comm 4294967296 y1, ← Int.mul_assoc x1 y1]; omega
    have e2 : x1 * 4294967296 * y0 = 4294967296 * (x1 * y0) := by rw [Int.mul_comm x1, Int.mul_assoc]
    have e3 : x0 * (y1 * 4294967296) = 4294967296 * (x0 * y1) := by rw [← Int.mul_assoc, Int.mul_comm]
    rw [e1, e2, e3]; omega
  rw [prod]
  generalize x1 * y1 = P at *
  generalize x1 * y0 = Q at *
  generalize x0 * y1 = R at *
  generalize x0 * y0 = S at *
  rw [ZbC (n := S) (by omega) (by omega), ZbC (n := Q) (by omega) (by omega), ZbC (n := R) (by omega) (by omega), ZbC (n := P) (by omega) (by omega), shr32 S, ZbC (n := Q + S / 4294967296) (by omega) (by omega), shr32, and32 (by unfold isW; omega), ZbC (n := P + (Q + S / 4294967296) / 4294967296) (by omega) (by omega), ZbC (n := (Q + S / 4294967296) % 4294967296 + R) (by omega) (by omega), shr32, ZbC (by omega) (by omega), ZcW]
  have : P + (Q + S / 4294967296) / 4294967296 + ((Q + S / 4294967296) % 4294967296 + R) / 4294967296 = (18446744073709551616 * P + 4294967296 * Q + 4294967296 * R + S) / 18446744073709551616 := by omega
  rw [this]
theorem mulc {x y c : Int} (hx : isW x) (hy : isW y) (hc : isW c) : ∃ hi lo s c' : Int, Zbw N x y = some (hi, lo) ∧ Zcl N lo c 0 = some (s, c') ∧ isW s ∧ isW (v64 (hi + c')) ∧ s + 18446744073709551616 * (v64 (hi + c')) = x * y + c := by
  have h := mul64 (N := N) hx hy
  obtain ⟨s, c', e, k, l, m, n⟩ := add64 (N := N) (x := x * y % 18446744073709551616) (y := c) (c := 0) (by unfold isW; omega) hc (by omega)
  refine ⟨_, _, s, c', h, e, k, ?_⟩
  have : 0 ≤ x * y ∧ x * y ≤ 340282366920938463426481119284349108225 := by
    unfold isW at hx hy
    refine ⟨Int.mul_nonneg hx.1 hy.1, ?_⟩
    have := Int.mul_le_mul (show x ≤ 18446744073709551615 by omega) (show y ≤ 18446744073709551615 by omega) hy.1 (by omega)
    omega
  unfold isW at *
  generalize x * y = P at *
  rw [ZbC (by omega) (by omega)]
  omega
theorem ZgO (hN : 10 ≤ N) {m y : Int} (hm : isN m) (hy : isW y) :
    ZaW N (nw m) y = some (nw (m * y % 115792089237316195423570985008687907853269984665640564039457584007913129639936), decide (115792089237316195423570985008687907853269984665640564039457584007913129639936 ≤ m * y)) := by
  obtain ⟨a, b, c, d, ha, hb, hc, hd, rfl⟩ := Zcu hm
  rw [Zcy ha hb hc hd]
  obtain ⟨N, rfl⟩ : ∃ q, N = q + 5 := ⟨N - 5, by omega⟩
  obtain ⟨x0, l0, s0, c0, e0, f0, g0, h0, i0⟩ := mulc (N := N + 5) ha hy isW0
  obtain ⟨x1, l1, s1, c1, e1, f1, g1, h1, i1⟩ := mulc (N := N + 5) hb hy h0
  obtain ⟨x2, l2, s2, c2, e2, f2, g2, h2, i2⟩ := mulc (N := N + 5) hc hy h1
  obtain ⟨x3, l3, s3, c3, e3, f3, g3, h3, i3⟩ := mulc (N := N + 5) hd hy h2
  unfold ZaW
  have t : ∀ (G : Int × Int × List Int → Option (List Int × Bool)) (j : Nat) (l : List Int) (c hi lo s c' : Int), j < 4 → Zbw (N + 5) (l.getD j 0) y = some (hi, lo) → Zcl (N + 5) lo c 0 = some (s, c') →
      ZaW.p1 (N + 5) y G (c, (j : Int), l) = G (v64 (hi + c'), (j : Int) + 1, l.set j s) := fun G j l c hi lo s c' hj h h' => by
    unfold ZaW.p1
    dsimp only
    rw [if_pos (by simp; omega), Zaj (by omega), Int.toNat_natCast, h, Zak]
    dsimp only
    rw [h', Zak, ZaC (by omega) (by omega)]
  have u : ∀ (G : Int × Int × List Int → Option (List Int × Bool)) (l : List Int) (c : Int), ZaW.p1 (N + 5) y G (c, 4, l) = some (l, c != 0) := fun G l c => by
    unfold ZaW.p1
    dsimp only
    rw [if_neg (by simp)]
  rw [Zau]
  refine Eq.trans (t _ 0 [a, b, c, d] 0 x0 l0 s0 c0 (by omega) e0 f0) ?_
  rw [Zau]
  refine Eq.trans (t _ 1 [s0, b, c, d] _ x1 l1 s1 c1 (by omega) e1 f1) ?_
  rw [Zau]
  refine Eq.trans (t _ 2 [s0, s1, c, d] _ x2 l2 s2 c2 (by omega) e2 f2) ?_
  rw [Zau]
  refine Eq.trans (t _ 3 [s0, s1, s2, d] _ x3 l3 s3 c3 (by omega) e3 f3) ?_
  rw [Zau]
  refine Eq.trans (u _ [s0, s1, s2, s3] _) ?_
  rw [← Zcy g0 g1 g2 g3]
  have ex : vw a b c d * y = a * y + 18446744073709551616 * (b * y) + 340282366920938463463374607431768211456 * (c * y) + 6277101735386680763835789423207666416102355444464034512896 * (d * y) := by
    unfold vw
    rw [Int.add_mul, Int.add_mul, Int.add_mul, Int.mul_assoc, Int.mul_assoc, Int.mul_assoc]
  have key : vw a b c d * y = vw s0 s1 s2 s3 + 115792089237316195423570985008687907853269984665640564039457584007913129639936 * (v64 (x3 + c3)) := by rw [ex]; unfold vw; omega
  have r := Zgh g0 g1 g2 g3
  unfold isN at r
  unfold isW at h3
  have e5 : (vw a b c d * y) % 115792089237316195423570985008687907853269984665640564039457584007913129639936 = vw s0 s1 s2 s3 := by omega
  rw [e5]
  have e6 : (v64 (x3 + c3) != 0) = decide (115792089237316195423570985008687907853269984665640564039457584007913129639936 ≤ vw a b c d * y) := by
    rw [Bool.eq_iff_iff]; simp only [bne_iff_ne, ne_eq, decide_eq_true_eq]; omega
  rw [e6]
end Go.Dn.F
