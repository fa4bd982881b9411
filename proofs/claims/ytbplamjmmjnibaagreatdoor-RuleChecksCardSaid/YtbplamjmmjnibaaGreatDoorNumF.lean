/- Numbers of 256 bits: how many bits they have; by a small word. -/
import Derived.Test.YtbplamjmmjnibaaGreatDoorNumE
set_option linter.unusedSimpArgs false
set_option linter.unusedVariables false
set_option maxRecDepth 40000
namespace Go.Dn.F
open Go.Dn
variable {N : Nat}
def blen (x : Int) : Nat := if x.toNat = 0 then 0 else Nat.log2 x.toNat + 1
theorem blen_zero : blen 0 = 0 := rfl
theorem ZeR {x : Int} {k : Nat} (h : x < 2 ^ k) : blen x ≤ k := by
  unfold blen
  split
  · omega
  · rename_i h0
    have : x.toNat < 2 ^ k := by
      have : ((2 ^ k : Nat) : Int) = (2 : Int) ^ k := by push_cast; rfl
      omega
    have := (Nat.log2_lt h0).2 this
    omega
theorem Zlt {x : Int} {k : Nat} (h : 2 ^ k ≤ x) : k < blen x := by
  unfold blen
  have c : ((2 ^ k : Nat) : Int) = (2 : Int) ^ k := by push_cast; rfl
  have p := Nat.two_pow_pos k
  have : 2 ^ k ≤ x.toNat := by omega
  rw [if_neg (by omega)]
  have := (Nat.le_log2 (by omega)).2 this
  omega
theorem blen_eq {x : Int} {k : Nat} (h : 2 ^ k ≤ x) (h2 : x < 2 ^ (k + 1)) : blen x = k + 1 := by
  have := ZeR h2
  have := Zlt h
  omega
theorem Zjr {x : Int} (h : 0 ≤ x) : x < 2 ^ blen x := by
  unfold blen
  split
  · have : x = 0 := by omega
    subst this; decide
  · rename_i h0
    have := @Nat.lt_log2_self x.toNat
    have c : ((2 ^ (Nat.log2 x.toNat + 1) : Nat) : Int) = (2 : Int) ^ (Nat.log2 x.toNat + 1) := by push_cast; rfl
    omega
theorem Zlu {x : Int} (h : 0 < x) : 2 ^ (blen x - 1) ≤ x ∧ 0 < blen x := by
  unfold blen
  rw [if_neg (by omega)]
  have := Nat.log2_self_le (n := x.toNat) (by omega)
  have c : ((2 ^ (Nat.log2 x.toNat) : Nat) : Int) = (2 : Int) ^ (Nat.log2 x.toNat) := by push_cast; rfl
  rw [Nat.add_sub_cancel]
  omega
theorem Zdq {x : Int} (k : Nat) (h : 0 ≤ x) (h2 : 2 ^ k ≤ x) : blen x = k + blen (x / 2 ^ k) := by
  have p := Zbr k
  have q : 0 < x / 2 ^ k := Int.lt_of_lt_of_le (by omega) ((Int.le_ediv_iff_mul_le p).2 (by omega : (1 : Int) * 2 ^ k ≤ x))
  have a := Zjr (x := x / 2 ^ k) (by omega)
  obtain ⟨b, b0⟩ := Zlu q
  have e := Int.ediv_mul_add_emod x (2 ^ k)
  have r0 := Int.emod_nonneg x (b := 2 ^ k) (by omega)
  have r1 := Int.emod_lt_of_pos x p
  obtain ⟨j, hj⟩ : ∃ j, blen (x / 2 ^ k) = j + 1 := ⟨blen (x / 2 ^ k) - 1, by omega⟩
  rw [hj] at a b ⊢
  rw [Nat.add_sub_cancel] at b
  refine blen_eq (k := k + j) ?_ ?_
  · rw [Int.pow_add]
    have := Int.mul_le_mul_of_nonneg_left b (show (0 : Int) ≤ 2 ^ k by omega)
    rw [Int.mul_comm (2 ^ k) (x / 2 ^ k)] at this
    omega
  · rw [show k + j + 1 = k + (j + 1) by omega, Int.pow_add]
    have := Int.mul_le_mul_of_nonneg_left (show x / 2 ^ k + 1 ≤ 2 ^ (j + 1) by omega) (show (0 : Int) ≤ 2 ^ k by omega)
    rw [Int.mul_add, Int.mul_comm (2 ^ k) (x / 2 ^ k), Int.mul_one] at this
    omega
def tab8 : List UInt8 := (List.range 256).map fun i : Nat => UInt8.ofNat (blen (i : Int))
theorem ZjK (x : Int) (hx : 0 ≤ x ∧ x < 256) (n : Int) (hn : 0 ≤ n ∧ n < 1000) : Zaq.p3 N x n = some (n + blen x) := by
  unfold Zaq.p3
  rw [v8_id hx.1 hx.2, Zaj hx.1]
  rw [Zaj (by
    refine Int.lt_of_lt_of_le hx.2 ?_
    decide +kernel)]
  have tb : ∀ i : Fin 256, (UInt8.toNat (List.getD tab8 i.val 0) : Nat) = blen (i.val : Int) := by decide +kernel
  have := tb ⟨x.toNat, by omega⟩
  rw [show ((x.toNat : Nat) : Int) = x by omega] at this
  have te : (UInt8.toNat (List.getD tab8 (Int.toNat x) 0)) = blen x := this
  have hb : blen x ≤ 8 := ZeR (k := 8) (by omega)
  rw [show ∀ (l : List UInt8), l = tab8 → (UInt8.toNat (List.getD l (Int.toNat x) 0)) = blen x from fun l e => by rw [e]; exact te]
  · rw [ZaC (n := (blen x : Int)) (by omega) (by omega), ZaC (by omega) (by omega)]
  · decide +kernel
theorem len64 {x : Int} (hx : isW x) : Zaq N x = some (blen x : Int) := by
  have sh : ∀ y : Int, shrOf .u64 y 16 = y / 65536 := fun y => shr64 y (k := 16) (by omega)
  have sh8 : ∀ y : Int, shrOf .u64 y 8 = y / 256 := fun y => shr64 y (k := 8) (by omega)
  unfold isW at hx
  have p2 : ∀ (y n : Int), 0 ≤ y ∧ y < 65536 → 0 ≤ n ∧ n < 900 → Zaq.p2 N y n = some (n + blen y) := fun y n hy hn => by
    unfold Zaq.p2
    by_cases h : 256 ≤ y
    · rw [if_pos (by simpa using h), sh8, ZaC (by omega) (by omega), ZjK _ (by omega) _ (by omega), Zdq (x := y) 8 (by omega) (by omega), show (2 : Int) ^ 8 = 256 from rfl]
      congr 1; omega
    · rw [if_neg (by simpa using h), ZjK _ (by omega) _ (by omega)]
  have p1 : ∀ (y n : Int), 0 ≤ y ∧ y < 4294967296 → 0 ≤ n ∧ n < 800 → Zaq.p1 N y n = some (n + blen y) := fun y n hy hn => by
    unfold Zaq.p1
    by_cases h : 65536 ≤ y
    · rw [if_pos (by simpa using h), sh, ZaC (by omega) (by omega), p2 _ _ (by omega) (by omega), Zdq (x := y) 16 (by omega) (by omega), show (2 : Int) ^ 16 = 65536 from rfl]
      congr 1; omega
    · rw [if_neg (by simpa using h), p2 _ _ (by omega) (by omega)]
  unfold Zaq
  by_cases h : 4294967296 ≤ x
  · rw [if_pos (by simpa using h), shr32, p1 _ _ (by omega) (by omega), Zdq (x := x) 32 (by omega) (by omega), show (2 : Int) ^ 32 = 4294967296 from rfl]
    congr 1
  · rw [if_neg (by simpa using h), p1 _ _ (by omega) (by omega), Int.zero_add]
theorem Zia (hN : 10 ≤ N) {m : Int} (hm : isN m) : Zbs N (nw m) = some (blen m : Int) := by
  obtain ⟨a, b, c, d, ha, hb, hc, hd, rfl⟩ := Zcu hm
  rw [Zcy ha hb hc hd]
  obtain ⟨N, rfl⟩ : ∃ q, N = q + 5 := ⟨N - 5, by omega⟩
  have bl : ∀ {x : Int}, isW x → blen x ≤ 64 := fun h => ZeR (by unfold isW at h; exact h.2)
  unfold Zbs
  have t : ∀ (G : Int → Option Int) (j : Nat) (x : Int), j < 4 → [a, b, c, d].getD j 0 = x → isW x → Zbs.p1 (N + 5) [a, b, c, d] G (j : Int) = if x ≠ 0 then some ((64 * j + blen x : Nat) : Int) else G ((j : Int) - 1) := fun G j x hj h hx => by
    have := bl hx
    unfold Zbs.p1
    rw [if_pos (by simp), Zaj (by omega), Zaj (by omega), Int.toNat_natCast, h, len64 hx, Zak, ZaC (n := 64 * (j : Int)) (by omega) (by omega), ZaC (by omega) (by omega), ZaC (by omega) (by omega)]
    simp only [bne_iff_ne]
    push_cast
    rfl
  have u : ∀ G : Int → Option Int, Zbs.p1 (N + 5) [a, b, c, d] G (-1) = some 0 := fun G => by
    unfold Zbs.p1
    rw [if_neg (by simp)]
  rw [Zau]
  refine Eq.trans (t _ 3 d (by omega) rfl hd) ?_
  have ha' := ha; have hb' := hb; have hc' := hc; have hd' := hd
  unfold isW at ha' hb' hc' hd'
  by_cases h3 : d = 0
  · rw [if_neg (by simpa using h3), Zau]
    refine Eq.trans (t _ 2 c (by omega) rfl hc) ?_
    by_cases h2 : c = 0
    · rw [if_neg (by simpa using h2), Zau]
      refine Eq.trans (t _ 1 b (by omega) rfl hb) ?_
      by_cases h1 : b = 0
      · rw [if_neg (by simpa using h1), Zau]
        refine Eq.trans (t _ 0 a (by omega) rfl ha) ?_
        have : vw a b c d = a := by unfold vw; omega
        rw [this]
        by_cases h0 : a = 0
        · rw [if_neg (by simpa using h0), Zau]
          refine Eq.trans (u _) ?_
          rw [h0]; rfl
        · rw [if_pos h0]; congr 2; omega
      · rw [if_pos h1]
        have e : vw a b c d / 2 ^ 64 = b := by rw [show (2 : Int) ^ 64 = 18446744073709551616 from rfl]; unfold vw; omega
        rw [Zdq (x := vw a b c d) 64 (by unfold vw; omega) (by rw [show (2 : Int) ^ 64 = 18446744073709551616 from rfl]; unfold vw; omega), e]
    · rw [if_pos h2]
      have e : vw a b c d / 2 ^ 128 = c := by rw [show (2 : Int) ^ 128 = 340282366920938463463374607431768211456 from rfl]; unfold vw; omega
      rw [Zdq (x := vw a b c d) 128 (by unfold vw; omega) (by rw [show (2 : Int) ^ 128 = 340282366920938463463374607431768211456 from rfl]; unfold vw; omega), e]
  · rw [if_pos h3]
    have e : vw a b c d / 2 ^ 192 = d := by rw [show (2 : Int) ^ 192 = 6277101735386680763835789423207666416102355444464034512896 from rfl]; unfold vw; omega
    rw [Zdq (x := vw a b c d) 192 (by unfold vw; omega) (by rw [show (2 : Int) ^ 192 = 6277101735386680763835789423207666416102355444464034512896 from rfl]; unfold vw; omega), e]
end Go.Dn.F
