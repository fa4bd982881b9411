/- The document's numbers: bits, comparing, compact numbers. -/
import Derived.Test.YtbplamjmmjnibaaGreatDoorNumT
set_option linter.unusedSimpArgs false
set_option linter.unusedVariables false
set_option maxRecDepth 40000
namespace Go.Dn.F
open Go.Dn
variable {N : Nat}
theorem bit_low (x : Int) {r : Nat} (h : r < 64) : (x % 18446744073709551616) / 2 ^ r % 2 = x / 2 ^ r % 2 := by
  have p := Zbr r
  have e := Int.ediv_mul_add_emod x 18446744073709551616
  have s : (18446744073709551616 : Int) = 2 ^ r * (2 * 2 ^ (63 - r)) := by
    rw [show (2 : Int) * 2 ^ (63 - r) = 2 ^ (64 - r) by rw [show 64 - r = (63 - r) + 1 by omega, Int.pow_succ]; omega, Zdo (by omega)]
  have k : x = x % 18446744073709551616 + 2 ^ r * (2 * 2 ^ (63 - r) * (x / 18446744073709551616)) := by
    rw [← Int.mul_assoc, ← s]; omega
  conv => rhs; rw [k, Int.add_mul_ediv_left _ _ (by omega)]
  rw [Int.mul_assoc 2]
  omega
theorem Zhd {m : Int} (hm : isN m) {i : Nat} (hi : i < 256) : ZbO N (nw m) (i : Int) = some (m / 2 ^ i % 2) := by
  unfold ZbO
  have e1 : w64 (Int.tdiv (i : Int) 64) = ((i / 64 : Nat) : Int) := by rw [ZcM (by omega), ZaC (by omega) (by omega)]; omega
  have e2 : v64 (Int.tmod (i : Int) 64) = ((i % 64 : Nat) : Int) := by rw [ZcX (by omega), ZbC (by omega) (by omega)]; omega
  have p := Zbr (i % 64)
  have q := Zbr (64 * (i / 64))
  have nn : 0 ≤ (m / 2 ^ (64 * (i / 64)) % 18446744073709551616) / 2 ^ (i % 64) := Int.ediv_nonneg (by omega) (by omega)
  rw [if_neg (by simp <;> omega), if_neg (by simp <;> omega), e1, e2, Zaj (by omega), Zaj (by omega), Zaj (by omega), Int.toNat_natCast, ZhG hm (by omega), shr64 _ (k := i % 64) (by omega), ZcX nn, bit_low _ (by omega), Int.ediv_ediv_of_nonneg (by omega), ← Int.pow_add, Nat.div_add_mod, ZaC (by omega) (by omega)]
theorem half (x : Int) (i : Nat) : x / 2 ^ i = 2 * (x / 2 ^ (i + 1)) + x / 2 ^ i % 2 := by
  have : x / 2 ^ (i + 1) = x / 2 ^ i / 2 := by rw [Int.ediv_ediv_of_nonneg (Int.le_of_lt (Zbr i)), Int.pow_succ]
  omega
theorem ZkX {a b : Int} (i : Nat) (h : a / 2 ^ i < b / 2 ^ i) : a < b := by
  rcases Int.lt_or_le a b with k | k
  · exact k
  · have := Int.ediv_le_ediv (Zbr i) k
    omega
theorem ZeN (hN : 300 ≤ N) {a b : Int} (ha : isN a) (hb : isN b) : ZaX N (nw a) (nw b) = some (decide (a < b)) := by
  unfold ZaX
  refine Zby (fun m (x : Int) => m ≤ 256 ∧ x = (m : Int) - 1 ∧ a / 2 ^ m = b / 2 ^ m) ?_ N 256 255 ⟨by omega, by omega, ?_⟩ (by omega)
  · rintro G m _ ⟨hm, rfl, he⟩ hG
    unfold ZaX.p1
    by_cases h0 : m = 0
    · subst h0
      rw [if_neg (by simp)]
      have e : a = b := by simpa using he
      simp [e]
    · obtain ⟨i, rfl⟩ : ∃ i, m = i + 1 := ⟨m - 1, by omega⟩
      have h1 := half a i
      have h2 := half b i
      rw [if_pos (by simp <;> omega), show ((i + 1 : Nat) : Int) - 1 = (i : Int) by omega, Zhd ha (by omega), Zhd hb (by omega), Zak, Zak]
      by_cases hd : a / 2 ^ i % 2 = b / 2 ^ i % 2
      · rw [if_neg (by simp [hd]), ZaC (by omega) (by omega)]
        exact hG i _ (by omega) ⟨by omega, by omega, by omega⟩
      · rw [if_pos (by simpa using hd)]
        congr 1
        rw [decide_eq_decide]
        constructor
        · intro h; exact ZkX i (by omega)
        · intro h
          have := Int.ediv_le_ediv (Zbr i) (Int.le_of_lt h)
          omega
  · rw [show (2 : Int) ^ 256 = 115792089237316195423570985008687907853269984665640564039457584007913129639936 from rfl, Int.ediv_eq_zero_of_lt ha.1 ha.2, Int.ediv_eq_zero_of_lt hb.1 hb.2]
theorem ZkR {x : Int} (h : isW x) : [x, 0, 0, 0] = nw x := by
  have := ZdR (N := 0) h
  unfold ZbY at this
  exact Option.some.inj this
theorem ZeW (hN : 300 ≤ N) (b : Int) : Zax N b = some (nw (cDec b).1, (cDec b).2.1, (cDec b).2.2) := by
  unfold Zax cDec
  by_cases h0 : b < 0
  · rw [if_pos (by simpa using h0), if_neg (by simp [cGood] <;> omega), Zda]
  rw [if_neg (by simpa using h0)]
  by_cases h1 : b > 4294967295
  · rw [if_pos (by simpa using h1), if_neg (by simp [cGood] <;> omega), Zda]
  rw [if_neg (by simpa using h1), if_pos (by simp [cGood] <;> omega)]
  have w : 0 ≤ cWord b ∧ cWord b < 8388608 := by unfold cWord; omega
  have e1 : Int.tmod b 8388608 = cWord b := by rw [ZcX (by omega)]; rfl
  have s : Int.tdiv b 16777216 = (cSize b : Int) := by rw [ZcM (by omega)]; unfold cSize; omega
  have s2 : cSize b < 256 := by unfold cSize; omega
  have e3 : Int.tmod (w64 (Int.tdiv b 8388608)) 2 = b / 8388608 % 2 := by rw [ZcM (by omega), ZaC (by omega) (by omega), ZcX (by omega)]
  have wN : isN (cWord b) := by unfold isN; omega
  have mv : Zah N [v64 (cWord b), 0, 0, 0] (w64 (8 * w64 (w64 (cSize b : Int) - 3))) = some (nw (cN b)) := by
    rw [ZbC w.1 (by omega), ZkR (by unfold isW; omega), ZaC (n := (cSize b : Int)) (by omega) (by omega), ZaC (n := (cSize b : Int) - 3) (by omega) (by omega), ZaC (by omega) (by omega)]
    unfold cN
    by_cases h3 : 3 < cSize b
    · rw [if_neg (by omega), show (8 : Int) * ((cSize b : Int) - 3) = ((8 * (cSize b - 3) : Nat) : Int) by omega, Zjk (by omega) wN]
    · rw [if_pos (by omega), show (8 : Int) * ((cSize b : Int) - 3) = -((8 * (3 - cSize b) : Nat) : Int) by omega, Zfb (by omega) wN]
  rw [e1, s, mv, Zak, ZaC (n := (cSize b : Int)) (by omega) (by omega)]
  have p1 : ∀ o : Bool, Zax.p1 N b o (nw (cN b)) = some (nw (cN b), cNeg b, o) := fun o => by
    unfold Zax.p1
    rw [e1, e3]
    unfold cNeg
    by_cases h : cWord b = 0
    · rw [if_neg (by simp [h])]; simp [h]
    · rw [if_pos (by simp <;> omega)]
      congr 3
      rw [Bool.eq_iff_iff]; simp [h]
  simp only [p1, decide_eq_true_eq, gt_iff_lt]
  unfold cOver
  repeat' split
  all_goals (congr 3; rw [Bool.eq_iff_iff]; simp only [decide_eq_true_eq, iff_true, true_iff, Bool.false_eq_true, false_iff, ne_eq]; omega)
theorem Zdm (hN : 300 ≤ N) (b l : Int) : ZaR N b l = some (nw (tgt b l).1, (tgt b l).2) := by
  unfold ZaR
  rw [ZeW hN, Zak]
  dsimp only
  rw [ZeW hN, Zak]
  dsimp only
  unfold tgt
  have z : (nw (cDec b).1 == List.replicate 4 0) = decide ((cDec b).1 = 0) := Option.some.inj (Zdl (N := 0) (Zec b))
  have le := ZeN hN (Zec l) (Zec b)
  rw [z, le, Zak, Zda]
  cases (cDec b).2.1 <;> cases (cDec b).2.2 <;> cases (cDec l).2.1 <;> cases (cDec l).2.2 <;> cases (decide ((cDec b).1 = 0)) <;> cases (decide ((cDec l).1 < (cDec b).1)) <;> rfl
theorem Ziv {x : Int} : (nw x).getD 0 0 = x % 18446744073709551616 := rfl
theorem Zhx (hN : 300 ≤ N) {h : List Int} (hl : h.length = 32) (hb : bys h) : ZaZ N h = some (nw (hv h)) := by
  unfold ZaZ
  refine Zby (fun m (x : Int × List Int) => m ≤ 32 ∧ x = ((m : Int) - 1, nw (hv (h.drop m)))) ?_ N 32 _ ⟨by omega, ?_⟩ (by omega)
  · rintro G m _ ⟨hm, rfl⟩ hG
    unfold ZaZ.p1
    dsimp only
    by_cases h0 : m = 0
    · subst h0
      rw [if_neg (by simp)]; rfl
    · obtain ⟨i, rfl⟩ : ∃ i, m = i + 1 := ⟨m - 1, by omega⟩
      have hi : i < h.length := by omega
      have x := hb h[i] (List.getElem_mem hi)
      have r := Zgb (l := h.drop (i + 1)) fun y hy => hb y (List.mem_of_mem_drop hy)
      have mono := ZcS (a := 8 * (h.drop (i + 1)).length) (b := 248) (by rw [List.length_drop]; omega)
      have r2 : hv (h.drop (i + 1)) < 452312848583266388373324160190187140051835877600158453279131187530910662656 := by
        rw [show (452312848583266388373324160190187140051835877600158453279131187530910662656 : Int) = 2 ^ 248 from rfl]; omega
      have hN' : isN (hv (h.drop (i + 1))) := by unfold isN; omega
      have hN2 : isN (hv (h.drop (i + 1)) * 256) := by unfold isN; omega
      have hx : List.getD h i 0 = h[i] := by rw [List.getD_eq_getElem?_getD, List.getElem?_eq_getElem hi]; rfl
      have st := (ZkS hN2 (j := 0) (by omega) x.1 (by rw [Ziv]; omega)).1
      rw [if_pos (by simp <;> omega), show (8 : Int) = ((8 : Nat) : Int) from rfl, Zjk (by omega) hN', Zak, show ((i + 1 : Nat) : Int) - 1 = (i : Int) by omega, Zaj (by omega), Zaj (by omega), Int.toNat_natCast, hx, show (2 : Int) ^ 8 = 256 from rfl, Int.emod_eq_of_lt hN2.1 hN2.2, ZbC (n := h[i]) x.1 (by omega), ZbC (by rw [Ziv]; omega) (by rw [Ziv]; omega), st, ZaC (by omega) (by omega)]
      refine hG i _ (by omega) ⟨by omega, ?_⟩
      rw [List.drop_eq_getElem_cons hi, hv, show (2 : Int) ^ (64 * 0) = 1 from rfl, Int.mul_one, Int.add_comm, Int.mul_comm 256]
  · rw [List.drop_of_length_le (by omega), Zda]; rfl
theorem cLen_of {x : Int} {i : Nat} (h : 2 ^ (8 * i) ≤ x) (h2 : x < 2 ^ (8 * (i + 1))) : cLen x = i + 1 := by
  have := Zlt h
  have := ZeR h2
  unfold cLen; omega
theorem Zhy (hN : 300 ≤ N) {m : Int} (hm : isN m) : Zap N (nw m) = some (cEnc m) := by
  have t := Zhn hm
  have l := Zlo hm
  unfold Zap
  refine Zby (fun k (x : Int × Int) => ∃ i : Nat, i + k = 32 ∧ x = ((cLen (m % 2 ^ (8 * i)) : Int), (i : Int))) ?_ N 32 (0, 0) ⟨0, by omega, ?_⟩ (by omega)
  · rintro G k _ ⟨i, hi, rfl⟩ hG
    have st : Zap.p1 N (nw m) G ((cLen (m % 2 ^ (8 * i)) : Int), (i : Int)) = some (cEnc m) := by
      unfold Zap.p1 Zap.p2
      dsimp only
      by_cases hlt : i < 32
      · have p := Zbr (8 * i)
        have nn : 0 ≤ m / 2 ^ (8 * i) := Int.ediv_nonneg hm.1 (by omega)
        rw [if_pos (by simp <;> omega), show (-8 : Int) * (i : Int) = -((8 * i : Nat) : Int) by omega, ZaC (by omega) (by omega), Zfb (by omega) hm, Zak, Ziv, ZcX (by omega), ZaC (n := (i : Int) + 1) (by omega) (by omega)]
        have nx : m % 2 ^ (8 * (i + 1)) = m % 2 ^ (8 * i) + 2 ^ (8 * i) * (m / 2 ^ (8 * i) % 256) := by
          rw [show (2 : Int) ^ (8 * (i + 1)) = 2 ^ (8 * i) * 256 by rw [show 8 * (i + 1) = 8 * i + 8 by omega, Int.pow_add]; rfl]
          have a1 := Int.ediv_mul_add_emod m (2 ^ (8 * i) * 256)
          have a2 := Int.ediv_mul_add_emod m (2 ^ (8 * i))
          have a3 : m / (2 ^ (8 * i) * 256) = m / 2 ^ (8 * i) / 256 := (Int.ediv_ediv_of_nonneg (by omega)).symm
          have a4 := Int.ediv_mul_add_emod (m / 2 ^ (8 * i)) 256
          rw [a3, Int.mul_comm (2 ^ (8 * i)) 256, ← Int.mul_assoc] at a1
          have a5 : m / 2 ^ (8 * i) * 2 ^ (8 * i) = m / 2 ^ (8 * i) / 256 * 256 * 2 ^ (8 * i) + 2 ^ (8 * i) * (m / 2 ^ (8 * i) % 256) := by
            conv => lhs; rw [← a4, Int.add_mul]
            rw [Int.mul_comm (2 ^ (8 * i)) (m / 2 ^ (8 * i) % 256)]
          rw [Int.mul_comm (2 ^ (8 * i)) 256]
          omega
        have lo := Int.emod_nonneg m (b := 2 ^ (8 * i)) (by omega)
        have lo2 := Int.emod_lt_of_pos m p
        have low : m / 2 ^ (8 * i) % 18446744073709551616 % 256 = m / 2 ^ (8 * i) % 256 := by omega
        rw [low]
        by_cases hz : m / 2 ^ (8 * i) % 256 > 0
        · rw [if_pos (by simpa using hz)]
          have : cLen (m % 2 ^ (8 * (i + 1))) = i + 1 := by
            refine cLen_of ?_ (Int.emod_lt_of_pos m (Zbr _))
            rw [nx]
            have := Int.mul_le_mul_of_nonneg_left (show (1 : Int) ≤ m / 2 ^ (8 * i) % 256 by omega) (show (0 : Int) ≤ 2 ^ (8 * i) by omega)
            rw [Int.mul_one] at this
            omega
          exact hG (k - 1) _ (by omega) ⟨i + 1, by omega, by rw [this]; rfl⟩
        · rw [if_neg (by simpa using hz)]
          have z : m / 2 ^ (8 * i) % 256 = 0 := by omega
          rw [z, Int.mul_zero, Int.add_zero] at nx
          exact hG (k - 1) _ (by omega) ⟨i + 1, by omega, by rw [nx]; rfl⟩
      · have hi32 : i = 32 := by omega
        subst hi32
        have e : m % 2 ^ (8 * 32) = m := Int.emod_eq_of_lt hm.1 hm.2
        rw [if_neg (by simp), e]
        have p3 : ∀ w : Int, w = cTop m → Zap.p3 N (cLen m : Int) w = some (cEnc m) := fun w hw => by
          subst hw
          unfold Zap.p3 Zap.p4 cEnc
          by_cases h : 8388608 ≤ cTop m
          · rw [if_pos (by simpa using h), if_pos h, ZcM t.1, ZaC (n := cTop m / 256) (by omega) (by omega), ZaC (n := (cLen m : Int) + 1) (by omega) (by omega), ZaC (n := ((cLen m : Int) + 1) * 16777216) (by omega) (by omega), ZaC (by omega) (by omega)]; rfl
          · rw [if_neg (by simpa using h), if_neg h, ZaC (n := (cLen m : Int) * 16777216) (by omega) (by omega), ZaC (by omega) (by omega)]
        have ct : cTop m = if cLen m ≤ 3 then m * 2 ^ (8 * (3 - cLen m)) else m / 2 ^ (8 * (cLen m - 3)) := rfl
        have low : ∀ {w : Int}, w = cTop m → w64 (Int.tmod (List.getD (nw w) 0 0) 16777216) = cTop m := fun {w} hw => by
          subst hw
          rw [Ziv, ZcX (by omega), ZaC (by omega) (by omega)]; omega
        by_cases h3 : 3 < cLen m
        · rw [if_neg (by omega)] at ct
          rw [ZaC (n := (3 : Int) - (cLen m : Int)) (by omega) (by omega), ZaC (n := 8 * ((3 : Int) - (cLen m : Int))) (by omega) (by omega), show (8 : Int) * ((3 : Int) - (cLen m : Int)) = -((8 * (cLen m - 3) : Nat) : Int) by omega, Zfb (by omega) hm, Zak, if_pos (by simp <;> omega), ZaC (n := (cLen m : Int) - 3) (by omega) (by omega), ZaC (n := (-8) * ((cLen m : Int) - 3)) (by omega) (by omega), show (-8 : Int) * ((cLen m : Int) - 3) = -((8 * (cLen m - 3) : Nat) : Int) by omega, Zfb (by omega) hm, Zak, p3 _ (low ct.symm)]
        · rw [if_pos (by omega)] at ct
          rw [ZaC (n := (3 : Int) - (cLen m : Int)) (by omega) (by omega), ZaC (n := 8 * ((3 : Int) - (cLen m : Int))) (by omega) (by omega), show (8 : Int) * ((3 : Int) - (cLen m : Int)) = ((8 * (3 - cLen m) : Nat) : Int) by omega, Zjk (by omega) hm, Zak, if_neg (by simp <;> omega), ← ct, Int.emod_eq_of_lt t.1 (by omega), p3 _ (low rfl)]
    exact st
  · simp
    decide
end Go.Dn.F
