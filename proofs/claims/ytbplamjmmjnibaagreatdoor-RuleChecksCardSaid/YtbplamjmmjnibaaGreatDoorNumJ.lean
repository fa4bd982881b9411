/- The bits that are asked for behind a spot. -/
import Derived.Test.YtbplamjmmjnibaaGreatDoorNumI
set_option linter.unusedSimpArgs false
set_option linter.unusedVariables false
set_option maxRecDepth 40000
namespace Go.Dn.F
open Go.Dn
variable {N : Nat}
def pgood (p : Zac) : Bool := (tgt p.Limit p.Limit).2 && decide (2 ≤ p.Interval ∧ p.Interval ≤ 64 ∧ 1 ≤ p.Spacing ∧ p.Spacing ≤ 10000 ∧ 0 ≤ p.Future ∧ p.Future < 4294967296)
theorem Zit (hN : 10 ≤ N) (p : Zac) : ZbJ N p = some (pgood p) := by
  unfold ZbJ
  rw [ZcL hN, Zak]
  dsimp only
  unfold pgood
  cases (tgt p.Limit p.Limit).2
  · rfl
  · simp only [if_pos, Bool.true_and, decide_eq_true_eq]
    repeat' split
    all_goals (congr 1; rw [Bool.eq_iff_iff]; simp only [decide_eq_true_eq, Bool.false_eq_true, false_iff]; omega)
def pdue (p : Zac) : Int := p.Interval * p.Spacing
theorem ZdG {p : Zac} (h : pgood p = true) : 2 ≤ pdue p ∧ pdue p ≤ 640000 := by
  simp only [pgood, Bool.and_eq_true, decide_eq_true_eq] at h
  obtain ⟨_, h1, h2, h3, h4, _⟩ := h
  unfold pdue
  have a := Int.mul_le_mul h1 h3 (by omega) (by omega : 0 ≤ p.Interval)
  have b := Int.mul_le_mul h2 h4 (by omega) (by omega : (0 : Int) ≤ 64)
  omega
def pspan (p : Zac) (f t : Int) : Int :=
  if pdue p * 4 < (if pdue p / 4 > w64 (t - f) then pdue p / 4 else w64 (t - f)) then pdue p * 4 else (if pdue p / 4 > w64 (t - f) then pdue p / 4 else w64 (t - f))
theorem Zgw {p : Zac} (h : pgood p = true) (f t : Int) : 0 ≤ pspan p f t ∧ pspan p f t ≤ 2560000 := by
  have := ZdG h
  unfold pspan
  split <;> split <;> omega
theorem Zgg {p : Zac} (h : pgood p = true) : w64 (p.Interval * p.Spacing) = pdue p := by
  have := ZdG h
  exact ZaC (by unfold pdue at this; omega) (by unfold pdue at this; omega)
theorem Zir {p : Zac} (h : pgood p = true) (f t : Int) : Zcm N p f t = some (pspan p f t) := by
  have := ZdG h
  unfold Zcm pspan
  rw [Zgg h, ZcM (by omega), ZaC (n := pdue p * 4) (by omega) (by omega), ZaC (n := pdue p / 4) (by omega) (by omega)]
def retg (p : Zac) (b f t : Int) : Int :=
  if pgood p = true ∧ (tgt b p.Limit).2 = true ∧ (tgt b p.Limit).1 * pspan p f t / pdue p < 115792089237316195423570985008687907853269984665640564039457584007913129639936 ∧ (tgt b p.Limit).1 * pspan p f t / pdue p ≤ (tgt p.Limit p.Limit).1
  then cEnc (if (tgt b p.Limit).1 * pspan p f t / pdue p = 0 then 1 else (tgt b p.Limit).1 * pspan p f t / pdue p) else p.Limit
theorem Zlk {n S D : Int} (hD : 0 < D) : n * S / D = n / D * S + n % D * S / D := by
  have e := Int.ediv_mul_add_emod n D
  have : n * S = D * (n / D * S) + n % D * S := by
    conv => lhs; rw [← e, Int.add_mul]
    rw [Int.mul_right_comm, Int.mul_comm _ D]
  rw [this, Int.mul_add_ediv_left _ _ (by omega)]
theorem ZfT (hN : 10 ≤ N) (p : Zac) (b f t : Int) : ZaY N p b f t = some (retg p b f t) := by
  unfold ZaY retg
  rw [ZcL hN, Zak]
  dsimp only
  rw [Zit hN, Zak]
  cases hg : pgood p with
  | false => rw [if_pos (by rfl), if_neg (by simp)]
  | true =>
    rw [if_neg (by simp)]
    cases ht : (tgt b p.Limit).2 with
    | false => rw [if_pos (by rfl), if_neg (by simp)]
    | true =>
      rw [if_neg (by simp)]
      have hn := Zfu b p.Limit
      have hL := Zfu p.Limit p.Limit
      have D := ZdG hg
      have S := Zgw hg f t
      rw [Zir hg, Zak, Zgg hg, ZbC (n := pdue p) (by omega) (by omega), ZbC (n := pspan p f t) (by omega) (by omega), Zhp hN hn (by omega) (by omega), Zak]
      dsimp only
      have hLt := ZcL hN p.Limit p.Limit
      have dp := Zlk (n := (tgt b p.Limit).1) (S := pspan p f t) (D := pdue p) (by omega)
      rw [dp]
      generalize (tgt b p.Limit).1 = n at *
      generalize (tgt p.Limit p.Limit).1 = L at *
      generalize pspan p f t = S' at *
      generalize pdue p = D' at *
      have q0 : isN (n / D') := by
        unfold isN at *
        have : n / D' ≤ n := Int.ediv_le_self _ hn.1
        have : 0 ≤ n / D' := Int.ediv_nonneg hn.1 (by omega)
        omega
      have r0 := Int.emod_nonneg n (b := D') (by omega)
      have r1 := Int.emod_lt_of_pos n (b := D') (by omega)
      have rs0 : 0 ≤ n % D' * S' := Int.mul_nonneg r0 S.1
      have rs1 : n % D' * S' ≤ 640000 * 2560000 := Int.mul_le_mul (by omega) (by omega) S.1 (by omega)
      have rs2 : n % D' * S' / D' ≤ n % D' * S' := Int.ediv_le_self _ rs0
      have rs3 : 0 ≤ n % D' * S' / D' := Int.ediv_nonneg rs0 (by omega)
      have qs0 : 0 ≤ n / D' * S' := Int.mul_nonneg (by unfold isN at q0; omega) S.1
      rw [ZgO hN q0 (by unfold isW; omega), Zak]
      dsimp only
      rw [Zaj (by omega), ZbC (n := n % D' * S') (by omega) (by omega), ZcM rs0, ZbC (n := n % D' * S' / D') (by omega) (by omega), ZdR (by unfold isW; omega), Zak, Zib hN (by unfold isN; omega) (by unfold isN; omega), Zak]
      dsimp only
      rw [hLt, Zak]
      dsimp only
      generalize n / D' * S' = Q at *
      generalize n % D' * S' / D' = R at *
      have big : (115792089237316195423570985008687907853269984665640564039457584007913129639936 : Int) ≤ Q ∨ Q < 115792089237316195423570985008687907853269984665640564039457584007913129639936 := by omega
      rcases big with big | big
      · rw [if_pos (by simpa using big), if_neg (by omega)]
      rw [if_neg (by simpa using big), Int.emod_eq_of_lt qs0 big]
      by_cases big2 : (115792089237316195423570985008687907853269984665640564039457584007913129639936 : Int) ≤ Q + R
      · rw [if_pos (by simpa using big2), if_neg (by omega)]
      rw [if_neg (by simpa using big2), Int.emod_eq_of_lt (by omega) (by omega)]
      have qr : isN (Q + R) := by unfold isN; omega
      rw [ZdS hN hL qr, Zak]
      by_cases hl : L < Q + R
      · rw [if_pos (by simpa using hl), if_neg (by omega)]
      rw [if_neg (by simpa using hl), Zdl qr, Zak, if_pos (c := true = true ∧ true = true ∧ Q + R < 115792089237316195423570985008687907853269984665640564039457584007913129639936 ∧ Q + R ≤ L) ⟨rfl, rfl, by omega, by omega⟩]
      have enc : ∀ {x : Int}, isN x → ZaY.p1 N (nw x) = some (cEnc x) := fun h => by
        unfold ZaY.p1
        rw [ZfF hN h, Zak]
      by_cases h0 : Q + R = 0
      · rw [if_pos (by simpa using h0), if_pos h0, ZdR (by unfold isW; omega), Zak, enc (by unfold isN; omega)]
      · rw [if_neg (by simpa using h0), if_neg h0, enc qr]
def nextB (p : Zac) (at_ : ZbA) (time : Int) : Int :=
  if at_.Height ≤ 0 then p.Limit
  else if starts p at_.Height then retg p at_.Bits at_.First at_.Time
  else if p.Easy = false then at_.Bits
  else if w64 (time - at_.Time) > w64 (2 * p.Spacing) then p.Limit else at_.Hard
theorem Zis (hN : 10 ≤ N) (p : Zac) (at_ : ZbA) (time : Int) : Zcc N p at_ time = some (nextB p at_ time) := by
  unfold Zcc nextB
  rw [ZgN, Zak, ZfT hN, Zak]
  cases p.Easy <;> cases starts p at_.Height <;> (simp only [decide_eq_true_eq]; repeat' split) <;> first | rfl | simp_all | omega
end Go.Dn.F
