/- Numbers of 256 bits: moved down. -/
import Derived.Test.YtbplamjmmjnibaaGreatDoorNumC
set_option linter.unusedSimpArgs false
set_option linter.unusedVariables false
set_option maxRecDepth 4000
namespace Go.Dn.F
open Go.Dn
variable {N : Nat}
theorem Ziu {x y : Int} (hx : isW x) (hy : isW y) : bitsOf .or .u64 x y = bitsOf .or .u64 y x := by rw [or64 hx hy, or64 hy hx, Nat.or_comm]
theorem ZjQ {m A S T U : Int} (hT : 0 < T) (hU : 0 < U) (hTU : T * U = 18446744073709551616) (hA : 0 ≤ A ∧ A < 18446744073709551616) (h : m * U = A + 18446744073709551616 * S) : m / T = S := by
  rw [← Int.mul_ediv_mul_of_pos_left m T hU, hTU, h]; omega
theorem ZeS (hN : 10 ≤ N) {m : Int} (hm : isN m) (n : Nat) (hn : n < 1000000) :
    ZaL N (nw m) (n : Int) = some (nw (m / 2 ^ n)) := by
  unfold ZaL
  by_cases h256 : 256 ≤ n
  · rw [if_pos (by simp; omega), Zda]
    have : m / 2 ^ n = 0 := by
      have e : (2 : Int) ^ n = 2 ^ 256 * 2 ^ (n - 256) := by rw [← Int.pow_add, show 256 + (n - 256) = n by omega]
      rw [e, ← Int.ediv_ediv_of_nonneg (by decide)]
      unfold isN at hm
      rw [show m / 2 ^ 256 = 0 by rw [show (2 : Int) ^ 256 = 115792089237316195423570985008687907853269984665640564039457584007913129639936 from rfl]; omega]
      simp
    rw [this]
  rw [if_neg (by simp; omega)]
  obtain ⟨a, b, c, d, ha, hb, hc, hd, rfl⟩ := Zcu hm
  rw [Zcy ha hb hc hd]
  have hk : 64 - n % 64 ≤ 64 := by omega
  obtain ⟨A, x, a1, a2, a3, a4, a5, a6, a7, a8⟩ := Zca ha hk
  obtain ⟨B, y, b1, b2, b3, b4, b5, b6, b7, b8⟩ := Zca hb hk
  obtain ⟨C, z, c1, c2, c3, c4, c5, c6, c7, c8⟩ := Zca hc hk
  obtain ⟨D, u, d1, d2, d3, d4, d5, d6, d7, d8⟩ := Zca hd hk
  rw [show 64 - (64 - n % 64) = n % 64 by omega] at a2 b2 c2 d2
  have pT := Zbr (n % 64)
  have pU := Zbr (64 - n % 64)
  have tu := Zdo (k := n % 64) (by omega)
  have o1 := ZfN hk b3 b4 b8 a5 a6
  have o2 := ZfN hk c3 c4 c8 b5 b6
  have o3 := ZfN hk d3 d4 d8 c5 c6
  rw [Ziu (by unfold isW; omega) (by unfold isW; omega), Int.add_comm] at o1 o2 o3
  have hq : Int.tdiv (if (0 : Int) > (n : Int) then 0 else (n : Int)) 64 = ((n / 64 : Nat) : Int) := by rw [if_neg (by omega), Int.tdiv_eq_ediv_of_nonneg (by omega)]; omega
  have hr : Int.tmod (if (0 : Int) > (n : Int) then 0 else (n : Int)) 64 = ((n % 64 : Nat) : Int) := by rw [if_neg (by omega), Int.tmod_eq_emod_of_nonneg (by omega)]; omega
  obtain ⟨N, rfl⟩ : ∃ q, N = q + 5 := ⟨N - 5, by omega⟩
  have top : ∀ (G : Int × List Int → Option (List Int)) (j : Nat) (l : List Int) (s X : Int), n / 64 + j = 3 → [a, b, c, d].getD 3 0 = s → shrOf .u64 s ((n % 64 : Nat) : Int) = X →
      ZaL.p1 (N + 5) (n : Int) [a, b, c, d] G ((j : Int), l) = G ((j : Int) + 1, l.set j X) := fun G j l s X hl hs hX => by
    unfold ZaL.p1
    dsimp only
    rw [hq, hr, ZaC (n := ((n / 64 : Nat) : Int)) (by omega) (by omega), show (4 : Int) - ((n / 64 : Nat) : Int) = ((4 - n / 64 : Nat) : Int) by omega, ZaC (n := ((4 - n / 64 : Nat) : Int)) (by omega) (by omega), show ((j : Int) + ((n / 64 : Nat) : Int)) = ((3 : Nat) : Int) by omega, ZaC (n := ((3 : Nat) : Int)) (by omega) (by omega), if_pos (by simp; omega), Zaj (by omega), Zaj (by omega), Zaj (by omega), Zaj (by omega), Zaj (by omega), if_neg (by rw [ZaC (by omega) (by omega)]; simp)]
    unfold ZaL.p2
    rw [ZaC (by omega) (by omega), Int.toNat_natCast, Int.toNat_natCast, hs, hX]
  have next : ∀ (G : Int × List Int → Option (List Int)) (j : Nat) (l : List Int) (s t X : Int), n / 64 + j < 3 → l.length = 4 → [a, b, c, d].getD (n / 64 + j) 0 = s → [a, b, c, d].getD (n / 64 + j + 1) 0 = t →
      bitsOf .or .u64 (shrOf .u64 s ((n % 64 : Nat) : Int)) (shlOf .u64 t ((64 - n % 64 : Nat) : Int)) = X →
      ZaL.p1 (N + 5) (n : Int) [a, b, c, d] G ((j : Int), l) = G ((j : Int) + 1, l.set j X) := fun G j l s t X hl hl4 hs ht hX => by
    unfold ZaL.p1
    dsimp only
    rw [hq, hr, ZaC (n := ((n / 64 : Nat) : Int)) (by omega) (by omega), show (4 : Int) - ((n / 64 : Nat) : Int) = ((4 - n / 64 : Nat) : Int) by omega, ZaC (n := ((4 - n / 64 : Nat) : Int)) (by omega) (by omega), show ((j : Int) + ((n / 64 : Nat) : Int)) = ((n / 64 + j : Nat) : Int) by omega, ZaC (n := ((n / 64 + j : Nat) : Int)) (by omega) (by omega), show ((n / 64 + j : Nat) : Int) + 1 = ((n / 64 + j + 1 : Nat) : Int) by omega, ZaC (n := ((n / 64 + j + 1 : Nat) : Int)) (by omega) (by omega), show (64 : Int) - ((n % 64 : Nat) : Int) = ((64 - n % 64 : Nat) : Int) by omega, ZaC (n := ((64 - n % 64 : Nat) : Int)) (by omega) (by omega),
      if_pos (by simp; omega), Zaj (by omega), Zaj (by omega), Zaj (by omega), Zaj (by omega), Zaj (by omega), if_pos (by simp; omega), Zaj (by omega), Zaj (by omega)]
    unfold ZaL.p2
    rw [ZaC (by omega) (by omega), Int.toNat_natCast, Int.toNat_natCast, Int.toNat_natCast, hs, ht, List.set_set]
    have : (l.set j (shrOf .u64 s ((n % 64 : Nat) : Int))).getD j 0 = shrOf .u64 s ((n % 64 : Nat) : Int) := by
      rw [List.getD_eq_getElem?_getD, List.getElem?_set_self (by omega)]; rfl
    rw [this, hX]
  have last : ∀ (G : Int × List Int → Option (List Int)) (l : List Int) (j : Nat), n / 64 + j = 4 → ZaL.p1 (N + 5) (n : Int) [a, b, c, d] G ((j : Int), l) = some l := fun G l j hj => by
    unfold ZaL.p1
    dsimp only
    rw [hq, ZaC (n := ((n / 64 : Nat) : Int)) (by omega) (by omega), ZaC (by omega) (by omega), if_neg (by simp; omega)]
  have pw := Ziq n
  have cases4 : n / 64 = 0 ∨ n / 64 = 1 ∨ n / 64 = 2 ∨ n / 64 = 3 := by omega
  have fin : ∀ (a b c d A S : Int), isW A → vw a b c d * 2 ^ (64 - n % 64) = A + 18446744073709551616 * S → vw a b c d / 2 ^ (n % 64) = S := fun a b c d A S hA h => ZjQ pT pU tu hA h
  have vT : ∀ (a b c d A B C D x y z u : Int), a * 2 ^ (64 - n % 64) = A + 18446744073709551616 * x → b * 2 ^ (64 - n % 64) = B + 18446744073709551616 * y → c * 2 ^ (64 - n % 64) = C + 18446744073709551616 * z → d * 2 ^ (64 - n % 64) = D + 18446744073709551616 * u →
      vw a b c d * 2 ^ (64 - n % 64) = A + 18446744073709551616 * vw (x + B) (y + C) (z + D) u := fun a b c d A B C D x y z u a7 b7 c7 d7 => by
    have : vw a b c d * 2 ^ (64 - n % 64) = A + 18446744073709551616 * x + 18446744073709551616 * (B + 18446744073709551616 * y) + 340282366920938463463374607431768211456 * (C + 18446744073709551616 * z) + 6277101735386680763835789423207666416102355444464034512896 * (D + 18446744073709551616 * u) := by
      rw [← a7, ← b7, ← c7, ← d7]
      unfold vw
      rw [Int.add_mul, Int.add_mul, Int.add_mul, Int.mul_assoc, Int.mul_assoc, Int.mul_assoc]
    rw [this]; unfold vw; omega
  have z0 : (0 : Int) * 2 ^ (64 - n % 64) = 0 + 18446744073709551616 * 0 := by omega
  have W0 : isW A ∧ isW B ∧ isW C ∧ isW D := by unfold isW; omega
  rcases cases4 with q | q | q | q
  · rw [q] at next top last pw
    rw [Zau]; refine Eq.trans (next _ 0 [0, 0, 0, 0] a b (x + B) (by omega) rfl rfl rfl (by rw [a2, b1]; exact o1)) ?_
    rw [Zau]; refine Eq.trans (next _ 1 [_, 0, 0, 0] b c (y + C) (by omega) rfl rfl rfl (by rw [b2, c1]; exact o2)) ?_
    rw [Zau]; refine Eq.trans (next _ 2 [_, _, 0, 0] c d (z + D) (by omega) rfl rfl rfl (by rw [c2, d1]; exact o3)) ?_
    rw [Zau]; refine Eq.trans (top _ 3 [_, _, _, 0] _ _ (by omega) rfl d2) ?_
    rw [Zau]; refine Eq.trans (last _ _ 4 (by omega)) ?_
    rw [pw, show (2 : Int) ^ (64 * 0) = 1 from rfl, Int.one_mul, fin a b c d A _ W0.1 (vT _ _ _ _ _ _ _ _ _ _ _ _ a7 b7 c7 d7), Zcy (by unfold isW; omega) (by unfold isW; omega) (by unfold isW; omega) (by unfold isW; omega)]
    simp
  · rw [q] at next top last pw
    rw [Zau]; refine Eq.trans (next _ 0 [0, 0, 0, 0] b c (y + C) (by omega) rfl rfl rfl (by rw [b2, c1]; exact o2)) ?_
    rw [Zau]; refine Eq.trans (next _ 1 [_, 0, 0, 0] c d (z + D) (by omega) rfl rfl rfl (by rw [c2, d1]; exact o3)) ?_
    rw [Zau]; refine Eq.trans (top _ 2 [_, _, 0, 0] _ _ (by omega) rfl d2) ?_
    rw [Zau]; refine Eq.trans (last _ _ 3 (by omega)) ?_
    have : vw a b c d / 18446744073709551616 = vw b c d 0 := by unfold isW vw at *; omega
    rw [pw, show (2 : Int) ^ (64 * 1) = 18446744073709551616 from rfl, ← Int.ediv_ediv_of_nonneg (by omega), this, fin b c d 0 B _ W0.2.1 (vT _ _ _ _ _ _ _ _ _ _ _ _ b7 c7 d7 z0), Zcy (by unfold isW; omega) (by unfold isW; omega) (by unfold isW; omega) (by unfold isW; omega)]
    simp
  · rw [q] at next top last pw
    rw [Zau]; refine Eq.trans (next _ 0 [0, 0, 0, 0] c d (z + D) (by omega) rfl rfl rfl (by rw [c2, d1]; exact o3)) ?_
    rw [Zau]; refine Eq.trans (top _ 1 [_, 0, 0, 0] _ _ (by omega) rfl d2) ?_
    rw [Zau]; refine Eq.trans (last _ _ 2 (by omega)) ?_
    have : vw a b c d / 340282366920938463463374607431768211456 = vw c d 0 0 := by unfold isW vw at *; omega
    rw [pw, show (2 : Int) ^ (64 * 2) = 340282366920938463463374607431768211456 from rfl, ← Int.ediv_ediv_of_nonneg (by omega), this, fin c d 0 0 C _ W0.2.2.1 (vT _ _ _ _ _ _ _ _ _ _ _ _ c7 d7 z0 z0), Zcy (by unfold isW; omega) (by unfold isW; omega) (by unfold isW; omega) (by unfold isW; omega)]
    simp
  · rw [q] at next top last pw
    rw [Zau]; refine Eq.trans (top _ 0 [0, 0, 0, 0] _ _ (by omega) rfl d2) ?_
    rw [Zau]; refine Eq.trans (last _ _ 1 (by omega)) ?_
    have : vw a b c d / 6277101735386680763835789423207666416102355444464034512896 = vw d 0 0 0 := by unfold isW vw at *; omega
    rw [pw, show (2 : Int) ^ (64 * 3) = 6277101735386680763835789423207666416102355444464034512896 from rfl, ← Int.ediv_ediv_of_nonneg (by omega), this, fin d 0 0 0 D _ W0.2.2.2 (vT _ _ _ _ _ _ _ _ _ _ _ _ d7 z0 z0 z0), Zcy (by unfold isW; omega) (by unfold isW; omega) (by unfold isW; omega) (by unfold isW; omega)]
    simp
end Go.Dn.F
