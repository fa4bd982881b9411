/- Numbers of 256 bits: sums, differences, complements. -/
import Derived.Test.YtbplamjmmjnibaaGreatDoorNumA
set_option linter.unusedSimpArgs false
set_option linter.unusedVariables false
set_option maxRecDepth 4000
namespace Go.Dn.F
open Go.Dn
variable {N : Nat}
theorem add64 {x y c : Int} (hx : isW x) (hy : isW y) (hc : 0 ≤ c ∧ c ≤ 1) : ∃ s c' : Int, Zcl N x y c = some (s, c') ∧ isW s ∧ 0 ≤ c' ∧ c' ≤ 1 ∧ s + 18446744073709551616 * c' = x + y + c := by
  unfold isW at *
  refine ⟨(x + y + c) % 18446744073709551616, (x + y + c) / 18446744073709551616, ?_, by omega, by omega, by omega, by omega⟩
  unfold Zcl
  rw [Zaj (by omega), Zaj (by omega), Zaj (by omega), Zaj (by omega)]
theorem sub64 {x y c : Int} (hx : isW x) (hy : isW y) (hc : 0 ≤ c ∧ c ≤ 1) : ∃ s c' : Int, ZeI N x y c = some (s, c') ∧ isW s ∧ 0 ≤ c' ∧ c' ≤ 1 ∧ s - 18446744073709551616 * c' = x - y - c := by
  unfold isW at *
  unfold ZeI
  rw [Zaj (by omega), Zaj (by omega), Zaj (by omega), Zaj (by omega), Zaj (by omega)]
  refine ⟨_, _, rfl, ?_⟩
  split <;> refine ⟨by omega, by omega, by omega, by omega⟩
theorem Zib (hN : 10 ≤ N) {m n : Int} (hm : isN m) (hn : isN n) :
    Zbq N (nw m) (nw n) = some (nw ((m + n) % 115792089237316195423570985008687907853269984665640564039457584007913129639936), decide (115792089237316195423570985008687907853269984665640564039457584007913129639936 ≤ m + n)) := by
  obtain ⟨a, b, c, d, ha, hb, hc, hd, rfl⟩ := Zcu hm
  obtain ⟨e, f, g, i, he, hf, hg, hi, rfl⟩ := Zcu hn
  rw [Zcy ha hb hc hd, Zcy he hf hg hi]
  obtain ⟨N, rfl⟩ : ∃ q, N = q + 5 := ⟨N - 5, by omega⟩
  obtain ⟨s0, c0, e0, k0, l0, m0, n0⟩ := add64 (N := N + 5) ha he (c := 0) (by omega)
  obtain ⟨s1, c1, e1, k1, l1, m1, n1⟩ := add64 (N := N + 5) hb hf (c := c0) (by omega)
  obtain ⟨s2, c2, e2, k2, l2, m2, n2⟩ := add64 (N := N + 5) hc hg (c := c1) (by omega)
  obtain ⟨s3, c3, e3, k3, l3, m3, n3⟩ := add64 (N := N + 5) hd hi (c := c2) (by omega)
  unfold Zbq
  have t : ∀ (G : Int × Int × List Int → Option (List Int × Bool)) (j : Nat) (l : List Int) (c s c' : Int), j < 4 → Zcl (N + 5) (l.getD j 0) ([e, f, g, i].getD j 0) c = some (s, c') →
      Zbq.p1 (N + 5) [e, f, g, i] G (c, (j : Int), l) = G (c', (j : Int) + 1, l.set j s) := fun G j l c s c' hj h => by
    unfold Zbq.p1
    dsimp only
    rw [if_pos (by simp; omega), Zaj (by omega), Int.toNat_natCast, h, Zak, ZaC (by omega) (by omega)]
  have u : ∀ (G : Int × Int × List Int → Option (List Int × Bool)) (l : List Int) (c : Int), Zbq.p1 (N + 5) [e, f, g, i] G (c, 4, l) = some (l, c != 0) := fun G l c => by
    unfold Zbq.p1
    dsimp only
    rw [if_neg (by simp)]
  rw [Zau]
  refine Eq.trans (t _ 0 [a, b, c, d] 0 s0 c0 (by omega) e0) ?_
  rw [Zau]
  refine Eq.trans (t _ 1 [s0, b, c, d] c0 s1 c1 (by omega) e1) ?_
  rw [Zau]
  refine Eq.trans (t _ 2 [s0, s1, c, d] c1 s2 c2 (by omega) e2) ?_
  rw [Zau]
  refine Eq.trans (t _ 3 [s0, s1, s2, d] c2 s3 c3 (by omega) e3) ?_
  rw [Zau]
  refine Eq.trans (u _ [s0, s1, s2, s3] c3) ?_
  rw [← Zcy k0 k1 k2 k3]
  have key : vw a b c d + vw e f g i = vw s0 s1 s2 s3 + 115792089237316195423570985008687907853269984665640564039457584007913129639936 * c3 := by unfold vw; omega
  have r := Zgh k0 k1 k2 k3
  unfold isN at r
  have e5 : (vw a b c d + vw e f g i) % 115792089237316195423570985008687907853269984665640564039457584007913129639936 = vw s0 s1 s2 s3 := by omega
  rw [e5]
  have e6 : (c3 != 0) = decide (115792089237316195423570985008687907853269984665640564039457584007913129639936 ≤ vw a b c d + vw e f g i) := by
    rw [Bool.eq_iff_iff]; simp only [bne_iff_ne, ne_eq, decide_eq_true_eq]; omega
  rw [e6]
theorem of_w (x : Int) (h : isW x) : (BitVec.ofInt 64 x).toNat = x.toNat := by
  unfold isW at h
  rw [BitVec.toNat_ofInt]; omega
theorem wrap64 (n : Nat) (h : n < 18446744073709551616) : IntKind.wrap .u64 (n : Int) = n := ZbC (by omega) (by omega)
theorem and64 {x y : Int} (hx : isW x) (hy : isW y) : bitsOf .and .u64 x y = ((x.toNat &&& y.toNat : Nat) : Int) := by
  show IntKind.wrap .u64 (((BitVec.ofInt 64 x &&& BitVec.ofInt 64 y).toNat : Nat) : Int) = _
  rw [wrap64 _ (BitVec.isLt _), BitVec.toNat_and, of_w x hx, of_w y hy]
theorem or64 {x y : Int} (hx : isW x) (hy : isW y) : bitsOf .or .u64 x y = ((x.toNat ||| y.toNat : Nat) : Int) := by
  show IntKind.wrap .u64 (((BitVec.ofInt 64 x ||| BitVec.ofInt 64 y).toNat : Nat) : Int) = _
  rw [wrap64 _ (BitVec.isLt _), BitVec.toNat_or, of_w x hx, of_w y hy]
theorem xor_max {x : Int} (h : isW x) : bitsOf .xor .u64 (IntKind.max IntKind.u64) x = 18446744073709551615 - x := by
  show IntKind.wrap .u64 (((BitVec.ofInt 64 (IntKind.max IntKind.u64) ^^^ BitVec.ofInt 64 x).toNat : Nat) : Int) = _
  rw [wrap64 _ (BitVec.isLt _), show BitVec.ofInt 64 (IntKind.max IntKind.u64) = BitVec.allOnes 64 by decide, BitVec.allOnes_xor, BitVec.toNat_not, of_w x h]
  unfold isW at h
  omega
end Go.Dn.F
