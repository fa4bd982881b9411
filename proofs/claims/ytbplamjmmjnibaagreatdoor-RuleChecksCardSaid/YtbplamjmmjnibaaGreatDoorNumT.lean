/- The document's numbers: moved. -/
import Derived.Test.YtbplamjmmjnibaaGreatDoorNumR
set_option linter.unusedSimpArgs false
set_option linter.unusedVariables false
set_option maxRecDepth 40000
namespace Go.Dn.F
open Go.Dn
variable {N : Nat}
theorem Zix {a b c d A B C D x y z u T : Int} (a7 : a * T = A + 18446744073709551616 * x) (b7 : b * T = B + 18446744073709551616 * y) (c7 : c * T = C + 18446744073709551616 * z) (d7 : d * T = D + 18446744073709551616 * u) :
    vw a b c d * T = A + 18446744073709551616 * vw (x + B) (y + C) (z + D) u := by
  have : vw a b c d * T = A + 18446744073709551616 * x + 18446744073709551616 * (B + 18446744073709551616 * y) + 340282366920938463463374607431768211456 * (C + 18446744073709551616 * z) + 6277101735386680763835789423207666416102355444464034512896 * (D + 18446744073709551616 * u) := by
    rw [← a7, ← b7, ← c7, ← d7]
    unfold vw
    rw [Int.add_mul, Int.add_mul, Int.add_mul, Int.mul_assoc, Int.mul_assoc, Int.mul_assoc]
  rw [this]; unfold vw; omega
theorem Zff {l : List Int} {i : Nat} (h : i < l.length) (x : Int) : (l.set i x).getD i 0 = x := by
  rw [List.getD_eq_getElem?_getD, List.getElem?_set_self h]; rfl
theorem Zke (hN : 10 ≤ N) {m : Int} (hm : isN m) {n : Nat} (h0 : 0 < n) (h1 : n < 64) :
    loopN (Zah.p3 N (n : Int) (nw m)) N (0, List.replicate 4 0) = some (nw (m * 2 ^ n % 115792089237316195423570985008687907853269984665640564039457584007913129639936)) := by
  obtain ⟨a, b, c, d, ha, hb, hc, hd, rfl⟩ := Zcu hm
  rw [Zcy ha hb hc hd]
  have hk : n ≤ 64 := by omega
  obtain ⟨A, x, a1, a2, a3, a4, a5, a6, a7, a8⟩ := Zca ha hk
  obtain ⟨B, y, b1, b2, b3, b4, b5, b6, b7, b8⟩ := Zca hb hk
  obtain ⟨C, z, c1, c2, c3, c4, c5, c6, c7, c8⟩ := Zca hc hk
  obtain ⟨D, u, d1, d2, d3, d4, d5, d6, d7, d8⟩ := Zca hd hk
  have pT := Zbr n
  have v1 : v64 (n : Int) = ((n : Nat) : Int) := ZbC (by omega) (by omega)
  have v2 : v64 (w64 (64 - (n : Int))) = ((64 - n : Nat) : Int) := by rw [ZaC (by omega) (by omega), ZbC (by omega) (by omega)]; omega
  obtain ⟨N, rfl⟩ : ∃ q, N = q + 5 := ⟨N - 5, by omega⟩
  have first : ∀ (G : Int × List Int → Option (List Int)) (l : List Int), Zah.p3 (N + 5) (n : Int) [a, b, c, d] G (0, l) = G (1, l.set 0 A) := fun G l => by
    unfold Zah.p3 Zah.p4
    dsimp only
    rw [if_pos (by simp), if_pos (by simp <;> omega), Zaj (by omega), Zaj (by rw [v1]; omega), if_neg (by simp), v1, show List.getD [a, b, c, d] (Int.toNat 0) 0 = a from rfl, a1, ZaC (by omega) (by omega)]
    rfl
  have next : ∀ (G : Int × List Int → Option (List Int)) (j : Nat) (l : List Int) (s t A' h' : Int), j < 3 → l.length = 4 → [a, b, c, d].getD (j + 1) 0 = s → [a, b, c, d].getD j 0 = t →
      shlOf .u64 s (n : Int) = A' → shrOf .u64 t ((64 - n : Nat) : Int) = h' → isW (A' + h') →
      Zah.p3 (N + 5) (n : Int) [a, b, c, d] G (((j + 1 : Nat) : Int), l) = G (((j + 2 : Nat) : Int), l.set (j + 1) (A' + h')) := fun G j l s t A' h' hj hl hs ht hA hh hw => by
    unfold isW at hw
    unfold Zah.p3 Zah.p4
    dsimp only
    rw [if_pos (by simp <;> omega), if_pos (by simp <;> omega), Zaj (by omega), Zaj (by rw [v1]; omega), if_pos (by simp <;> omega), show ((j + 1 : Nat) : Int) - 1 = (j : Int) by omega, ZaC (n := (j : Int)) (by omega) (by omega), Zaj (by omega), Zaj (by omega), Zaj (by rw [v2]; omega), v1, v2, Int.toNat_natCast, Int.toNat_natCast, hs, ht, hA, hh, List.set_set, Zff (by omega), ZbC hw.1 hw.2, ZaC (by omega) (by omega)]
    rfl
  have last : ∀ (G : Int × List Int → Option (List Int)) (l : List Int), Zah.p3 (N + 5) (n : Int) [a, b, c, d] G (4, l) = some l := fun G l => by
    unfold Zah.p3
    dsimp only
    rw [if_neg (by simp)]
  rw [Zau]; refine Eq.trans (first _ [0, 0, 0, 0]) ?_
  rw [Zau]; refine Eq.trans (next _ 0 [A, 0, 0, 0] b a B x (by omega) rfl rfl rfl b1 a2 (by unfold isW; omega)) ?_
  rw [Zau]; refine Eq.trans (next _ 1 [A, B + x, 0, 0] c b C y (by omega) rfl rfl rfl c1 b2 (by unfold isW; omega)) ?_
  rw [Zau]; refine Eq.trans (next _ 2 [A, B + x, C + y, 0] d c D z (by omega) rfl rfl rfl d1 c2 (by unfold isW; omega)) ?_
  rw [Zau]; refine Eq.trans (last _ [A, B + x, C + y, D + z]) ?_
  rw [← Zcy (a := A) (b := B + x) (c := C + y) (d := D + z) (by unfold isW; omega) (by unfold isW; omega) (by unfold isW; omega) (by unfold isW; omega)]
  congr 2
  rw [Zix a7 b7 c7 d7]
  unfold vw; omega
theorem Ziy (hN : 10 ≤ N) {m : Int} (hm : isN m) {n : Nat} (h0 : 0 < n) (h1 : n < 64) :
    loopN (Zah.p3 N (-(n : Int)) (nw m)) N (0, List.replicate 4 0) = some (nw (m / 2 ^ n)) := by
  obtain ⟨a, b, c, d, ha, hb, hc, hd, rfl⟩ := Zcu hm
  rw [Zcy ha hb hc hd]
  have hk : 64 - n ≤ 64 := by omega
  obtain ⟨A, x, a1, a2, a3, a4, a5, a6, a7, a8⟩ := Zca ha hk
  obtain ⟨B, y, b1, b2, b3, b4, b5, b6, b7, b8⟩ := Zca hb hk
  obtain ⟨C, z, c1, c2, c3, c4, c5, c6, c7, c8⟩ := Zca hc hk
  obtain ⟨D, u, d1, d2, d3, d4, d5, d6, d7, d8⟩ := Zca hd hk
  rw [show 64 - (64 - n) = n by omega] at a2 b2 c2 d2
  have pT := Zbr n
  have pU := Zbr (64 - n)
  have tu := Zdo (k := n) (by omega)
  have v1 : v64 (w64 (0 - -(n : Int))) = ((n : Nat) : Int) := by rw [ZaC (by omega) (by omega), ZbC (by omega) (by omega)]; omega
  have v2 : v64 (w64 (64 + -(n : Int))) = ((64 - n : Nat) : Int) := by rw [ZaC (by omega) (by omega), ZbC (by omega) (by omega)]; omega
  obtain ⟨N, rfl⟩ : ∃ q, N = q + 5 := ⟨N - 5, by omega⟩
  have next : ∀ (G : Int × List Int → Option (List Int)) (j : Nat) (l : List Int) (s t A' h' : Int), j < 3 → l.length = 4 → [a, b, c, d].getD j 0 = s → [a, b, c, d].getD (j + 1) 0 = t →
      shrOf .u64 s (n : Int) = h' → shlOf .u64 t ((64 - n : Nat) : Int) = A' → isW (h' + A') →
      Zah.p3 (N + 5) (-(n : Int)) [a, b, c, d] G ((j : Int), l) = G (((j + 1 : Nat) : Int), l.set j (h' + A')) := fun G j l s t A' h' hj hl hs ht hh hA hw => by
    unfold isW at hw
    unfold Zah.p3 Zah.p4
    dsimp only
    rw [if_pos (by simp <;> omega), if_neg (by simp <;> omega), Zaj (by omega), Zaj (by rw [v1]; omega), if_pos (by simp <;> omega), show (j : Int) + 1 = ((j + 1 : Nat) : Int) by omega, ZaC (n := ((j + 1 : Nat) : Int)) (by omega) (by omega), Zaj (by omega), Zaj (by omega), Zaj (by rw [v2]; omega), v1, v2, Int.toNat_natCast, Int.toNat_natCast, hs, ht, hA, hh, List.set_set, Zff (by omega), ZbC hw.1 hw.2]
  have top : ∀ (G : Int × List Int → Option (List Int)) (l : List Int), Zah.p3 (N + 5) (-(n : Int)) [a, b, c, d] G (3, l) = G (4, l.set 3 u) := fun G l => by
    unfold Zah.p3 Zah.p4
    dsimp only
    rw [if_pos (by simp), if_neg (by simp <;> omega), Zaj (by omega), Zaj (by rw [v1]; omega), if_neg (by simp), v1, show List.getD [a, b, c, d] (Int.toNat 3) 0 = d from rfl, d2, ZaC (by omega) (by omega)]
    rfl
  have last : ∀ (G : Int × List Int → Option (List Int)) (l : List Int), Zah.p3 (N + 5) (-(n : Int)) [a, b, c, d] G (4, l) = some l := fun G l => by
    unfold Zah.p3
    dsimp only
    rw [if_neg (by simp)]
  rw [Zau]; refine Eq.trans (next _ 0 [0, 0, 0, 0] a b B x (by omega) rfl rfl rfl a2 b1 (by unfold isW; omega)) ?_
  rw [Zau]; refine Eq.trans (next _ 1 [x + B, 0, 0, 0] b c C y (by omega) rfl rfl rfl b2 c1 (by unfold isW; omega)) ?_
  rw [Zau]; refine Eq.trans (next _ 2 [x + B, y + C, 0, 0] c d D z (by omega) rfl rfl rfl c2 d1 (by unfold isW; omega)) ?_
  rw [Zau]; refine Eq.trans (top _ [x + B, y + C, z + D, 0]) ?_
  rw [Zau]; refine Eq.trans (last _ [x + B, y + C, z + D, u]) ?_
  rw [← Zcy (a := x + B) (b := y + C) (c := z + D) (d := u) (by unfold isW; omega) (by unfold isW; omega) (by unfold isW; omega) (by unfold isW; omega)]
  congr 2
  exact (ZjQ pT pU tu (by omega) (Zix a7 b7 c7 d7)).symm
theorem Zkf (hN : 10 ≤ N) {m : Int} (hm : isN m) {n : Nat} (h1 : n < 64) :
    loopN (Zah.p2 N) N ((n : Int), nw m) = some (nw (m * 2 ^ n % 115792089237316195423570985008687907853269984665640564039457584007913129639936)) := by
  obtain ⟨K, e⟩ : ∃ q, N = q + 1 := ⟨N - 1, by omega⟩
  rw [show loopN (Zah.p2 N) N = loopN (Zah.p2 N) (K + 1) by rw [← e], Zau]
  unfold Zah.p2
  dsimp only
  rw [if_neg (by simp <;> omega)]
  by_cases h0 : n = 0
  · subst h0
    unfold isN at hm
    rw [if_pos (by rfl), show (2 : Int) ^ 0 = 1 from rfl, Int.mul_one, Int.emod_eq_of_lt hm.1 hm.2]
  · rw [if_neg (by simp <;> omega), Zke hN hm (by omega) h1]
theorem ZfO (hN : 10 ≤ N) : ∀ (K : Nat) {m : Int}, isN m → ∀ n : Nat, n < 64 * K → n < 1000 → loopN (Zah.p2 N) K (-(n : Int), nw m) = some (nw (m / 2 ^ n))
  | 0, _, _, n, h, _ => by omega
  | K + 1, m, hm, n, h, hk => by
    rw [Zau]
    have ih := ZfO hN K (m := m / 18446744073709551616) (by unfold isN at *; omega) (n - 64)
    generalize loopN (Zah.p2 N) K = G at ih ⊢
    unfold Zah.p2
    dsimp only
    by_cases h64 : 64 ≤ n
    · rw [if_pos (by simp <;> omega), ZaC (by omega) (by omega)]
      have e : [List.getD (nw m) 1 0, List.getD (nw m) 2 0, List.getD (nw m) 3 0, 0] = nw (m / 18446744073709551616) := by
        obtain ⟨a, b, c, d, ha, hb, hc, hd, rfl⟩ := Zcu hm
        have : vw a b c d / 18446744073709551616 = vw b c d 0 := by unfold isW vw at *; omega
        rw [this, Zcy ha hb hc hd, Zcy hb hc hd isW0]; rfl
      rw [e, show -(n : Int) + 64 = -((n - 64 : Nat) : Int) by omega, ih (by omega) (by omega), Int.ediv_ediv_of_nonneg (by omega), show (18446744073709551616 : Int) = 2 ^ 64 from rfl, ← Int.pow_add, show 64 + (n - 64) = n by omega]
    · rw [if_neg (by simp <;> omega)]
      by_cases h0 : n = 0
      · subst h0
        rw [if_pos (by rfl), show (2 : Int) ^ 0 = 1 from rfl, Int.ediv_one]
      · rw [if_neg (by simp <;> omega), Ziy hN hm (by omega) (by omega)]
theorem Zhg (hN : 10 ≤ N) : ∀ (K : Nat) {m : Int}, isN m → ∀ n : Nat, n < 64 * K → n < 1000 → loopN (Zah.p1 N) K ((n : Int), nw m) = some (nw (m * 2 ^ n % 115792089237316195423570985008687907853269984665640564039457584007913129639936))
  | 0, _, _, n, h, _ => by omega
  | K + 1, m, hm, n, h, hk => by
    rw [Zau]
    have ih := Zhg hN K (m := m * 18446744073709551616 % 115792089237316195423570985008687907853269984665640564039457584007913129639936) (by unfold isN at *; omega) (n - 64)
    generalize loopN (Zah.p1 N) K = G at ih ⊢
    unfold Zah.p1
    dsimp only
    by_cases h64 : 64 ≤ n
    · rw [if_pos (by simp <;> omega), ZaC (by omega) (by omega)]
      have e : [0, List.getD (nw m) 0 0, List.getD (nw m) 1 0, List.getD (nw m) 2 0] = nw (m * 18446744073709551616 % 115792089237316195423570985008687907853269984665640564039457584007913129639936) := by
        obtain ⟨a, b, c, d, ha, hb, hc, hd, rfl⟩ := Zcu hm
        have : vw a b c d * 18446744073709551616 % 115792089237316195423570985008687907853269984665640564039457584007913129639936 = vw 0 a b c := by unfold isW vw at *; omega
        rw [this, Zcy ha hb hc hd, Zcy isW0 ha hb hc]; rfl
      rw [e, show (n : Int) - 64 = ((n - 64 : Nat) : Int) by omega, ih (by omega) (by omega)]
      have e2 : m * 2 ^ n = m * 18446744073709551616 * 2 ^ (n - 64) := by
        rw [Int.mul_assoc, show (18446744073709551616 : Int) = 2 ^ 64 from rfl, ← Int.pow_add, show 64 + (n - 64) = n by omega]
      rw [e2, Int.mul_emod (_ % _), Int.emod_emod, ← Int.mul_emod]
    · rw [if_neg (by simp <;> omega), Zkf hN hm (by omega)]
theorem Zjk (hN : 10 ≤ N) {m : Int} (hm : isN m) (n : Nat) : Zah N (nw m) (n : Int) = some (nw (m * 2 ^ n % 115792089237316195423570985008687907853269984665640564039457584007913129639936)) := by
  unfold Zah
  rw [if_neg (by simp <;> omega)]
  by_cases h : 256 ≤ n
  · have : m * 2 ^ n % 115792089237316195423570985008687907853269984665640564039457584007913129639936 = 0 := by
      have e : (2 : Int) ^ n = 2 ^ (n - 256) * 2 ^ 256 := by rw [← Int.pow_add, show n - 256 + 256 = n by omega]
      rw [e, ← Int.mul_assoc]
      exact Int.mul_emod_left _ _
    rw [if_pos (by simp <;> omega), this, Zda]
  · rw [if_neg (by simp <;> omega), Zhg hN N hm n (by omega) (by omega)]
theorem Zfb (hN : 10 ≤ N) {m : Int} (hm : isN m) (n : Nat) : Zah N (nw m) (-(n : Int)) = some (nw (m / 2 ^ n)) := by
  unfold Zah
  by_cases h : 256 ≤ n
  · have : m / 2 ^ n = 0 := by
      have l := ZcS h
      exact Int.ediv_eq_zero_of_lt hm.1 (Int.lt_of_lt_of_le hm.2 l)
    rw [if_pos (by simp <;> omega), this, Zda]
  · rw [if_neg (by simp <;> omega), if_neg (by simp <;> omega)]
    obtain ⟨K, e⟩ : ∃ q, N = q + 1 := ⟨N - 1, by omega⟩
    rw [show loopN (Zah.p1 N) N = loopN (Zah.p1 N) (K + 1) by rw [← e], Zau]
    conv => lhs; unfold Zah.p1
    dsimp only
    rw [if_neg (by simp <;> omega), ZfO hN N hm n (by omega) (by omega)]
end Go.Dn.F
