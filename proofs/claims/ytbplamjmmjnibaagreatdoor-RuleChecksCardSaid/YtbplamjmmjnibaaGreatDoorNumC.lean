/- Numbers of 256 bits: moved up and down. -/
import Derived.Test.YtbplamjmmjnibaaGreatDoorNumB
set_option linter.unusedSimpArgs false
set_option linter.unusedVariables false
set_option maxRecDepth 4000
namespace Go.Dn.F
open Go.Dn
variable {N : Nat}
theorem shl64 (x : Int) {k : Nat} (h : k ≤ 64) : shlOf .u64 x (k : Int) = x * 2 ^ k % 18446744073709551616 := by
  have e : min (Int.toNat (k : Int)) (IntKind.bits .u64) = k := by simp only [IntKind.bits, Int.toNat_natCast]; omega
  unfold shlOf
  rw [e]
  show v64 _ = _
  rw [ZcW]
theorem shr64 (x : Int) {k : Nat} (h : k ≤ 64) : shrOf .u64 x (k : Int) = x / 2 ^ k := by
  have e : min (Int.toNat (k : Int)) (IntKind.bits .u64) = k := by simp only [IntKind.bits, Int.toNat_natCast]; omega
  unfold shrOf
  rw [e, Int.fdiv_eq_ediv_of_nonneg _ (Int.le_of_lt (Int.pow_pos (by decide)))]
theorem Zbr (k : Nat) : (0 : Int) < 2 ^ k := Int.pow_pos (by decide)
theorem Zdo {k : Nat} (h : k ≤ 64) : (2 : Int) ^ k * 2 ^ (64 - k) = 18446744073709551616 := by
  rw [← Int.pow_add, show k + (64 - k) = 64 by omega]; rfl
theorem ZfN {A h : Int} {k : Nat} (hk : k ≤ 64) (hA : 0 ≤ A) (hA2 : A + 2 ^ k ≤ 18446744073709551616) (hd : A % 2 ^ k = 0) (h0 : 0 ≤ h) (h1 : h < 2 ^ k) : bitsOf .or .u64 A h = A + h := by
  have p := Zbr k
  rw [or64 (by unfold isW; omega) (by unfold isW; omega)]
  have e1 : A.toNat = (A / 2 ^ k).toNat <<< k := by
    rw [Nat.shiftLeft_eq]
    have e := Int.ediv_mul_add_emod A (2 ^ k)
    rw [hd, Int.add_zero] at e
    have q : 0 ≤ A / 2 ^ k := Int.ediv_nonneg hA (by omega)
    apply Int.ofNat_inj.1
    push_cast
    rw [Int.toNat_of_nonneg hA, Int.toNat_of_nonneg q, e]
  have e2 : h.toNat < 2 ^ k := by
    have : ((h.toNat : Nat) : Int) < ((2 ^ k : Nat) : Int) := by push_cast; omega
    omega
  rw [e1, ← Nat.shiftLeft_add_eq_or_of_lt e2, ← e1]
  omega
theorem Zca {a : Int} (ha : isW a) {k : Nat} (hk : k ≤ 64) : ∃ A h : Int, shlOf .u64 a (k : Int) = A ∧ shrOf .u64 a ((64 - k : Nat) : Int) = h ∧ 0 ≤ A ∧ A + 2 ^ k ≤ 18446744073709551616 ∧ 0 ≤ h ∧ h < 2 ^ k ∧ a * 2 ^ k = A + 18446744073709551616 * h ∧ A % 2 ^ k = 0 := by
  have p := Zbr k
  have p' := Zbr (64 - k)
  have s := Zdo hk
  unfold isW at ha
  refine ⟨_, _, shl64 a hk, shr64 a (by omega), ?_⟩
  generalize (2 : Int) ^ (64 - k) = U at *
  generalize (2 : Int) ^ k = T at *
  have e := Int.ediv_mul_add_emod a U
  have r0 := Int.emod_nonneg a (b := U) (by omega)
  have r1 := Int.emod_lt_of_pos a p'
  have hq : 0 ≤ a / U := Int.ediv_nonneg ha.1 (by omega)
  have hT : a / U < T := Int.ediv_lt_of_lt_mul p' (by rw [s]; exact ha.2)
  have aT : a * T = (a % U) * T + 18446744073709551616 * (a / U) := by
    conv => lhs; rw [← e, Int.add_mul, Int.mul_assoc, Int.mul_comm U T, s, Int.add_comm, Int.mul_comm (a / U)]
  have l1 : (a % U) * T + T ≤ 18446744073709551616 := by
    have : (a % U + 1) * T ≤ U * T := Int.mul_le_mul_of_nonneg_right (by omega) (by omega)
    rw [Int.mul_comm U T, s, Int.add_mul, Int.one_mul] at this
    exact this
  have l0 : 0 ≤ (a % U) * T := Int.mul_nonneg r0 (by omega)
  have e3 : a * T % 18446744073709551616 = (a % U) * T := by rw [aT]; omega
  rw [e3]
  exact ⟨l0, l1, hq, hT, aT, Int.mul_emod_left _ _⟩
theorem nw_0 (h : isW 0) : nw (vw 0 0 0 0) = [0, 0, 0, 0] := Zcy h h h h
theorem isW0 : isW 0 := by unfold isW; omega
theorem Ziq (n : Nat) : (2 : Int) ^ n = 2 ^ (64 * (n / 64)) * 2 ^ (n % 64) := by rw [← Int.pow_add, Nat.div_add_mod]
theorem Zgf (hN : 10 ≤ N) {m : Int} (hm : isN m) (n : Nat) (hn : n < 1000000) :
    Zbd N (nw m) (n : Int) = some (nw (m * 2 ^ n % 115792089237316195423570985008687907853269984665640564039457584007913129639936)) := by
  unfold Zbd
  by_cases h256 : 256 ≤ n
  · rw [if_pos (by simp; omega), Zda]
    have : m * 2 ^ n % 115792089237316195423570985008687907853269984665640564039457584007913129639936 = 0 := by
      have e : (2 : Int) ^ n = 2 ^ (n - 256) * 2 ^ 256 := by rw [← Int.pow_add, show n - 256 + 256 = n by omega]
      rw [e, ← Int.mul_assoc]
      exact Int.mul_emod_left _ _
    rw [this]
  rw [if_neg (by simp; omega)]
  obtain ⟨a, b, c, d, ha, hb, hc, hd, rfl⟩ := Zcu hm
  rw [Zcy ha hb hc hd]
  have hk : n % 64 ≤ 64 := by omega
  obtain ⟨A, x, a1, a2, a3, a4, a5, a6, a7, a8⟩ := Zca ha hk
  obtain ⟨B, y, b1, b2, b3, b4, b5, b6, b7, b8⟩ := Zca hb hk
  obtain ⟨C, z, c1, c2, c3, c4, c5, c6, c7, c8⟩ := Zca hc hk
  obtain ⟨D, u, d1, d2, d3, d4, d5, d6, d7, d8⟩ := Zca hd hk
  have o1 := ZfN hk b3 b4 b8 a5 a6
  have o2 := ZfN hk c3 c4 c8 b5 b6
  have o3 := ZfN hk d3 d4 d8 c5 c6
  have pT := Zbr (n % 64)
  have hq : Int.tdiv (if (0 : Int) > (n : Int) then 0 else (n : Int)) 64 = ((n / 64 : Nat) : Int) := by rw [if_neg (by omega), Int.tdiv_eq_ediv_of_nonneg (by omega)]; omega
  have hr : Int.tmod (if (0 : Int) > (n : Int) then 0 else (n : Int)) 64 = ((n % 64 : Nat) : Int) := by rw [if_neg (by omega), Int.tmod_eq_emod_of_nonneg (by omega)]; omega
  obtain ⟨N, rfl⟩ : ∃ q, N = q + 5 := ⟨N - 5, by omega⟩
  rw [hq, ZaC (by omega) (by omega)]
  have first : ∀ (G : Int × List Int → Option (List Int)) (l : List Int), n / 64 < 4 →
      Zbd.p1 (N + 5) (n : Int) [a, b, c, d] G (((n / 64 : Nat) : Int), l) = G (((n / 64 : Nat) : Int) + 1, l.set (n / 64) A) := fun G l hl => by
    unfold Zbd.p1
    dsimp only
    rw [hq, hr, ZaC (n := ((n / 64 : Nat) : Int)) (by omega) (by omega), Int.sub_self, ZaC (n := 0) (by omega) (by omega), if_pos (by simp; omega), Zaj (by omega), Zaj (by omega), Zaj (by omega), Zaj (by omega), if_neg (by simp)]
    unfold Zbd.p2
    rw [ZaC (by omega) (by omega), Int.toNat_natCast, show List.getD [a, b, c, d] (Int.toNat 0) 0 = a from rfl, a1]
  have next : ∀ (G : Int × List Int → Option (List Int)) (j : Nat) (l : List Int) (s t X : Int), n / 64 + j + 1 < 4 → l.length = 4 → [a, b, c, d].getD (j + 1) 0 = s → [a, b, c, d].getD j 0 = t →
      bitsOf .or .u64 (shlOf .u64 s ((n % 64 : Nat) : Int)) (shrOf .u64 t ((64 - n % 64 : Nat) : Int)) = X →
      Zbd.p1 (N + 5) (n : Int) [a, b, c, d] G (((n / 64 + j + 1 : Nat) : Int), l) = G (((n / 64 + j + 1 : Nat) : Int) + 1, l.set (n / 64 + j + 1) X) := fun G j l s t X hl hl4 hs ht hX => by
    unfold Zbd.p1
    dsimp only
    rw [hq, hr, ZaC (n := ((n / 64 : Nat) : Int)) (by omega) (by omega), show (((n / 64 + j + 1 : Nat) : Int) - ((n / 64 : Nat) : Int)) = ((j + 1 : Nat) : Int) by omega, ZaC (n := ((j + 1 : Nat) : Int)) (by omega) (by omega), show ((j + 1 : Nat) : Int) - 1 = (j : Int) by omega, ZaC (n := (j : Int)) (by omega) (by omega), show (64 : Int) - ((n % 64 : Nat) : Int) = ((64 - n % 64 : Nat) : Int) by omega, ZaC (n := ((64 - n % 64 : Nat) : Int)) (by omega) (by omega),
      if_pos (by simp; omega), Zaj (by omega), Zaj (by omega), Zaj (by omega), Zaj (by omega), if_pos (by simp; omega), Zaj (by omega), Zaj (by omega), Zaj (by omega)]
    unfold Zbd.p2
    rw [ZaC (by omega) (by omega), Int.toNat_natCast, Int.toNat_natCast, Int.toNat_natCast, hs, ht, List.set_set]
    have : (l.set (n / 64 + j + 1) (shlOf .u64 s ((n % 64 : Nat) : Int))).getD (n / 64 + j + 1) 0 = shlOf .u64 s ((n % 64 : Nat) : Int) := by
      rw [List.getD_eq_getElem?_getD, List.getElem?_set_self (by omega)]; rfl
    rw [this, hX]
  have last : ∀ (G : Int × List Int → Option (List Int)) (l : List Int), Zbd.p1 (N + 5) (n : Int) [a, b, c, d] G (4, l) = some l := fun G l => by
    unfold Zbd.p1
    dsimp only
    rw [if_neg (by simp)]
  have n1 := fun G l X e => next G 0 l b a X e
  have n2 := fun G l X e => next G 1 l c b X e
  have n3 := fun G l X e => next G 2 l d c X e
  rw [b1, a2] at n1
  rw [c1, b2] at n2
  rw [d1, c2] at n3
  have pw := Ziq n
  have cases4 : n / 64 = 0 ∨ n / 64 = 1 ∨ n / 64 = 2 ∨ n / 64 = 3 := by omega
  have vT : vw a b c d * 2 ^ (n % 64) = A + 18446744073709551616 * x + 18446744073709551616 * (B + 18446744073709551616 * y) + 340282366920938463463374607431768211456 * (C + 18446744073709551616 * z) + 6277101735386680763835789423207666416102355444464034512896 * (D + 18446744073709551616 * u) := by
    rw [← a7, ← b7, ← c7, ← d7]
    unfold vw
    rw [Int.add_mul, Int.add_mul, Int.add_mul, Int.mul_assoc, Int.mul_assoc, Int.mul_assoc]
  rcases cases4 with q | q | q | q
  · rw [q] at first n1 n2 n3 pw ⊢
    rw [Zau]; refine Eq.trans (first _ [0, 0, 0, 0] (by omega)) ?_
    rw [Zau]; refine Eq.trans (n1 _ [A, 0, 0, 0] _ (by omega) rfl rfl rfl o1) ?_
    rw [Zau]; refine Eq.trans (n2 _ [A, B + x, 0, 0] _ (by omega) rfl rfl rfl o2) ?_
    rw [Zau]; refine Eq.trans (n3 _ [A, B + x, C + y, 0] _ (by omega) rfl rfl rfl o3) ?_
    rw [Zau]; refine Eq.trans (last _ [A, B + x, C + y, D + z]) ?_
    rw [← Zcy (a := A) (b := B + x) (c := C + y) (d := D + z) (by unfold isW; omega) (by unfold isW; omega) (by unfold isW; omega) (by unfold isW; omega)]
    congr 2
    rw [pw, show (2 : Int) ^ (64 * 0) = 1 from rfl, Int.one_mul, vT]
    unfold vw; omega
  · rw [q] at first n1 n2 n3 pw ⊢
    rw [Zau]; refine Eq.trans (first _ [0, 0, 0, 0] (by omega)) ?_
    rw [Zau]; refine Eq.trans (n1 _ [0, A, 0, 0] _ (by omega) rfl rfl rfl o1) ?_
    rw [Zau]; refine Eq.trans (n2 _ [0, A, B + x, 0] _ (by omega) rfl rfl rfl o2) ?_
    rw [Zau]; refine Eq.trans (last _ [0, A, B + x, C + y]) ?_
    rw [← Zcy (a := 0) (b := A) (c := B + x) (d := C + y) (by unfold isW; omega) (by unfold isW; omega) (by unfold isW; omega) (by unfold isW; omega)]
    congr 2
    rw [pw, show (2 : Int) ^ (64 * 1) = 18446744073709551616 from rfl, Int.mul_left_comm, vT]
    unfold vw; omega
  · rw [q] at first n1 n2 n3 pw ⊢
    rw [Zau]; refine Eq.trans (first _ [0, 0, 0, 0] (by omega)) ?_
    rw [Zau]; refine Eq.trans (n1 _ [0, 0, A, 0] _ (by omega) rfl rfl rfl o1) ?_
    rw [Zau]; refine Eq.trans (last _ [0, 0, A, B + x]) ?_
    rw [← Zcy (a := 0) (b := 0) (c := A) (d := B + x) (by unfold isW; omega) (by unfold isW; omega) (by unfold isW; omega) (by unfold isW; omega)]
    congr 2
    rw [pw, show (2 : Int) ^ (64 * 2) = 340282366920938463463374607431768211456 from rfl, Int.mul_left_comm, vT]
    unfold vw; omega
  · rw [q] at first n1 n2 n3 pw ⊢
    rw [Zau]; refine Eq.trans (first _ [0, 0, 0, 0] (by omega)) ?_
    rw [Zau]; refine Eq.trans (last _ [0, 0, 0, A]) ?_
    rw [← Zcy (a := 0) (b := 0) (c := 0) (d := A) (by unfold isW; omega) (by unfold isW; omega) (by unfold isW; omega) (by unfold isW; omega)]
    congr 2
    rw [pw, show (2 : Int) ^ (64 * 3) = 6277101735386680763835789423207666416102355444464034512896 from rfl, Int.mul_left_comm, vT]
    unfold vw; omega
end Go.Dn.F
