/- Numbers of 256 bits as four words: comparing, adding. -/
import Derived.Test.YtbplamjmmjnibaaGreatDoorWrd
import Derived.Test.YtbplamjmmjnibaaGreatDoorFbb
set_option linter.unusedSimpArgs false
set_option linter.unusedVariables false
set_option maxRecDepth 4000
namespace Go.Dn.F
open Go.Dn
def isW (a : Int) : Prop := 0 ≤ a ∧ a < 18446744073709551616
def isN (n : Int) : Prop := 0 ≤ n ∧ n < 115792089237316195423570985008687907853269984665640564039457584007913129639936
def nw (n : Int) : List Int := [n % 18446744073709551616, n / 18446744073709551616 % 18446744073709551616, n / 340282366920938463463374607431768211456 % 18446744073709551616, n / 6277101735386680763835789423207666416102355444464034512896 % 18446744073709551616]
def vw (a b c d : Int) : Int := a + 18446744073709551616 * b + 340282366920938463463374607431768211456 * c + 6277101735386680763835789423207666416102355444464034512896 * d
theorem Zcy {a b c d : Int} (ha : isW a) (hb : isW b) (hc : isW c) (hd : isW d) : nw (vw a b c d) = [a, b, c, d] := by
  unfold isW at *
  unfold nw vw
  have e1 : (a + 18446744073709551616 * b + 340282366920938463463374607431768211456 * c + 6277101735386680763835789423207666416102355444464034512896 * d) / 18446744073709551616 = b + 18446744073709551616 * c + 340282366920938463463374607431768211456 * d := by omega
  have e2 : (a + 18446744073709551616 * b + 340282366920938463463374607431768211456 * c + 6277101735386680763835789423207666416102355444464034512896 * d) / 340282366920938463463374607431768211456 = c + 18446744073709551616 * d := by omega
  have e3 : (a + 18446744073709551616 * b + 340282366920938463463374607431768211456 * c + 6277101735386680763835789423207666416102355444464034512896 * d) / 6277101735386680763835789423207666416102355444464034512896 = d := by omega
  rw [e1, e2, e3]
  congr 1
  · omega
  congr 1
  · omega
  congr 1
  · omega
  congr 1
  omega
theorem Zgh {a b c d : Int} (ha : isW a) (hb : isW b) (hc : isW c) (hd : isW d) : isN (vw a b c d) := by
  unfold isW at *; unfold isN vw; omega
theorem Zcu {n : Int} (h : isN n) : ∃ a b c d, isW a ∧ isW b ∧ isW c ∧ isW d ∧ n = vw a b c d := by
  unfold isN at h
  refine ⟨n % 18446744073709551616, n / 18446744073709551616 % 18446744073709551616, n / 18446744073709551616 / 18446744073709551616 % 18446744073709551616, n / 18446744073709551616 / 18446744073709551616 / 18446744073709551616, ?_⟩
  unfold isW vw
  refine ⟨by omega, by omega, by omega, by omega, by omega⟩
theorem vw_lt {a b c d e f g h : Int} (ha : isW a) (hb : isW b) (hc : isW c) (hd : isW d) (he : isW e) (hf : isW f) (hg : isW g) (hh : isW h) :
    vw a b c d < vw e f g h ↔ (d < h ∨ d = h ∧ (c < g ∨ c = g ∧ (b < f ∨ b = f ∧ a < e))) := by
  unfold isW vw at *; omega
theorem vw_eq {a b c d e f g h : Int} (ha : isW a) (hb : isW b) (hc : isW c) (hd : isW d) (he : isW e) (hf : isW f) (hg : isW g) (hh : isW h) :
    vw a b c d = vw e f g h ↔ (a = e ∧ b = f ∧ c = g ∧ d = h) := by
  unfold isW vw at *; omega
theorem nw_inj {m n : Int} (hm : isN m) (hn : isN n) (h : nw m = nw n) : m = n := by
  obtain ⟨a, b, c, d, ha, hb, hc, hd, rfl⟩ := Zcu hm
  obtain ⟨e, f, g, i, he, hf, hg, hi, rfl⟩ := Zcu hn
  rw [Zcy ha hb hc hd, Zcy he hf hg hi] at h
  simp only [List.cons.injEq, and_true] at h
  exact (vw_eq ha hb hc hd he hf hg hi).2 h
theorem nw_of_list {l : List Int} (hl : l.length = 4) (h : ∀ x ∈ l, isW x) : ∃ n, isN n ∧ l = nw n := by
  match l, hl with
  | [a, b, c, d], _ =>
    have ha := h a (by simp)
    have hb := h b (by simp)
    have hc := h c (by simp)
    have hd := h d (by simp)
    exact ⟨vw a b c d, Zgh ha hb hc hd, (Zcy ha hb hc hd).symm⟩
theorem Zda : List.replicate 4 0 = nw 0 := by decide +kernel
variable {N : Nat}
theorem ZdR {n : Int} (h : isW n) : ZbY N n = some (nw n) := by
  have : nw n = [n, 0, 0, 0] := by
    have := Zcy h (b := 0) (c := 0) (d := 0) (by unfold isW; omega) (by unfold isW; omega) (by unfold isW; omega)
    rw [← this]; congr 1; unfold vw; omega
  unfold ZbY; rw [this]
theorem Zdl {n : Int} (h : isN n) : ZbU N (nw n) = some (decide (n = 0)) := by
  unfold ZbU
  rw [Zda]
  refine Zdc ⟨fun e => nw_inj h (by unfold isN; omega) (by simpa using e), fun e => by subst e; simp⟩
def cmp (a b : Int) : Int := if a < b then -1 else if b < a then 1 else 0
theorem ZfS (hN : 10 ≤ N) {m n : Int} (hm : isN m) (hn : isN n) : ZaS N (nw m) (nw n) = some (cmp m n) := by
  obtain ⟨a, b, c, d, ha, hb, hc, hd, rfl⟩ := Zcu hm
  obtain ⟨e, f, g, i, he, hf, hg, hi, rfl⟩ := Zcu hn
  have k1 := vw_lt ha hb hc hd he hf hg hi
  have k2 := vw_lt he hf hg hi ha hb hc hd
  rw [Zcy ha hb hc hd, Zcy he hf hg hi]
  obtain ⟨N, rfl⟩ : ∃ q, N = q + 5 := ⟨N - 5, by omega⟩
  unfold ZaS
  have t : ∀ G : Int → Option Int, ∀ j : Nat, j < 4 → ZaS.p1 (N + 5) [a, b, c, d] [e, f, g, i] G (j : Int) = if [a, b, c, d].getD j 0 < [e, f, g, i].getD j 0 then some (-1) else if [e, f, g, i].getD j 0 < [a, b, c, d].getD j 0 then some 1 else G ((j : Int) - 1) := fun G j hj => by
    unfold ZaS.p1
    rw [if_pos (by simp), Zaj (by omega), Zaj (by omega), Int.toNat_natCast, ZaC (by omega) (by omega)]
    simp only [decide_eq_true_eq, gt_iff_lt]
  have u : ∀ G : Int → Option Int, ZaS.p1 (N + 5) [a, b, c, d] [e, f, g, i] G (-1) = some 0 := fun G => by
    unfold ZaS.p1
    rw [if_neg (by simp)]
  rw [Zau, show (3 : Int) = ((3 : Nat) : Int) from rfl, t _ 3 (by omega), Zau, show ((3 : Nat) : Int) - 1 = ((2 : Nat) : Int) from rfl, t _ 2 (by omega), Zau, show ((2 : Nat) : Int) - 1 = ((1 : Nat) : Int) from rfl, t _ 1 (by omega), Zau, show ((1 : Nat) : Int) - 1 = ((0 : Nat) : Int) from rfl, t _ 0 (by omega), Zau, show ((0 : Nat) : Int) - 1 = -1 from rfl, u]
  have g0 : ∀ a b c d : Int, [a, b, c, d].getD 0 0 = a := fun _ _ _ _ => rfl
  have g1 : ∀ a b c d : Int, [a, b, c, d].getD 1 0 = b := fun _ _ _ _ => rfl
  have g2 : ∀ a b c d : Int, [a, b, c, d].getD 2 0 = c := fun _ _ _ _ => rfl
  have g3 : ∀ a b c d : Int, [a, b, c, d].getD 3 0 = d := fun _ _ _ _ => rfl
  simp only [g0, g1, g2, g3]
  unfold cmp
  simp only [k1, k2]
  repeat' split
  all_goals first | rfl | (exfalso; omega)
theorem ZdS (hN : 10 ≤ N) {m n : Int} (hm : isN m) (hn : isN n) : ZbI N (nw m) (nw n) = some (decide (m < n)) := by
  unfold ZbI
  rw [ZfS hN hm hn, Zak]
  refine Zdc ?_
  simp only [decide_eq_true_eq]
  unfold cmp
  repeat' split
  all_goals omega
end Go.Dn.F
