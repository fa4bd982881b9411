/- A header's name, by the document. -/
import Derived.Test.YtbplamjmmjnibaaGreatDoorShaF
import Derived.Test.YtbplamjmmjnibaaGreatDoorPurS
set_option linter.unusedSimpArgs false
set_option linter.unusedVariables false
set_option maxRecDepth 4000
namespace Go.Dn.F
open Go.Dn
theorem le_u64 (n : Int) (j : Nat) (hj : j < 8) : (n % 18446744073709551616) / 256 ^ j % 256 = n / 256 ^ j % 256 := by
  have : j = 0 ∨ j = 1 ∨ j = 2 ∨ j = 3 ∨ j = 4 ∨ j = 5 ∨ j = 6 ∨ j = 7 := by omega
  rcases this with rfl | rfl | rfl | rfl | rfl | rfl | rfl | rfl <;> simp only [Int.reducePow] <;> omega
section
variable {N : Nat}
theorem Zdz (hN : 20 ≤ N) (size n : Int) : ZaP N size n = some (mkB (le (szOf size) n)) := by
  have hs := ZiW size
  unfold ZaP
  rw [ZhJ]
  refine Zby (fun m (y : Int × ByteArray × Int) => ∃ j : Nat, y = ((n % 18446744073709551616) / 256 ^ j, mkB (le j n), (j : Int)) ∧ m + j = szOf size) ?_ N (szOf size) _ ⟨0, by rw [ZcW]; simp [le], by omega⟩ (by omega)
  rintro G m _ ⟨j, rfl, hj⟩ ih
  unfold ZaP.p1
  dsimp only
  rw [Zif]
  by_cases hm : j < szOf size
  · obtain ⟨q, hq⟩ : ∃ q, q = (n % 18446744073709551616) / 256 ^ j := ⟨_, rfl⟩
    have hp : (0 : Int) < 256 ^ j := Int.pow_pos (by decide)
    have hq0 : 0 ≤ q := by rw [hq]; exact Int.ediv_nonneg (by omega) (by omega)
    have hq1 : q < 18446744073709551616 := by
      rw [hq]
      refine Int.lt_of_le_of_lt (Int.ediv_le_self _ (by omega)) (by omega)
    have h1 : v8 (Int.tmod q 256) = byI (leB n j) := by
      rw [Int.tmod_eq_emod_of_nonneg hq0, ZfI, Int.emod_emod, ← ZfI, v8_by, leB, hq, le_u64 n j (by omega)]
    have h2 : v64 (Int.tdiv q 256) = (n % 18446744073709551616) / 256 ^ (j + 1) := by
      rw [Int.tdiv_eq_ediv_of_nonneg hq0, ZbC (by omega) (by omega), hq, Int.ediv_ediv_of_nonneg (by omega), Int.pow_succ]
    rw [if_pos (by simp; omega), ← hq, Zaj (ZhN _), h1, ZfZ, ZbF, ZbF, Zaj (by simp [Zeg]; omega), Zcp, ← le_succ, h2, Zci (by omega)]
    exact ih (m - 1) _ (by omega) ⟨j + 1, rfl, by omega⟩
  · obtain rfl : j = szOf size := by omega
    rw [if_neg (by simp)]
theorem Zhe (hN : 50 ≤ N) (p : Bs) (hp : p.length = 32) : Zbi N (p.map byI) = some (mkB p) := by
  unfold Zbi
  rw [ZhJ]
  refine Zby (fun m (y : ByteArray × Int) => ∃ k : Nat, y = (mkB (p.take k), (k : Int)) ∧ m + k = 32) ?_ N 32 _ ⟨0, rfl, rfl⟩ (by omega)
  rintro G m _ ⟨k, rfl, hk⟩ ih
  unfold Zbi.p1
  dsimp only
  by_cases hk8 : k < 32
  · have hg : (p.map byI).getD k 0 = byI p[k] := by simp [List.getD, hp, hk8]
    have e : p.take k ++ [p[k]] = p.take (k + 1) := (List.take_succ_eq_append_getElem (by omega)).symm
    rw [if_pos (by simp; omega), Zaj (by omega), Int.toNat_natCast, hg, Zaj (ZhN _), ZfZ, ZbF, ZbF, Zaj (by simp; omega), Zcp, e, Zci (by omega)]
    exact ih (m - 1) _ (by omega) ⟨k + 1, rfl, by omega⟩
  · rw [if_neg (by simp; omega), List.take_of_length_le (by omega)]
theorem Zjf (hN : 50 ≤ N) (h : Zae) {p r : Bs} (hw : HW h p r) : Zce N h = some (mkB (hbytes h)) := by
  have h4 : szOf 4 = 4 := rfl
  unfold Zce
  rw [Zdz (by omega), Zak, hw.prev, Zhe hN p hw.lp, Zak, ZbF, ZbF, Zaj (by simp [Zeg, hw.lp]; omega), hw.root, Zhe hN r hw.lr, Zak, Zcp, ZbF, ZbF, Zaj (by simp [Zeg, hw.lp, hw.lr]; omega), Zdz (by omega), Zak, Zcp, ZbF, ZbF, Zaj (by simp [Zeg, hw.lp, hw.lr]; omega), Zdz (by omega), Zak, Zcp, ZbF, ZbF, Zaj (by simp [Zeg, hw.lp, hw.lr]; omega),
    Zdz (by omega), Zak, Zcp, ZbF, ZbF, Zaj (by simp [Zeg, hw.lp, hw.lr]; omega), Zcp, h4]
  congr 2
  simp [hbytes, hw.prev, hw.root, Zge]
theorem Zfz (h : Zae) : Zbx N h = some (hgood h) := by
  unfold Zbx hgood
  repeat' split
  all_goals (refine Zdc ⟨fun h => ?_, fun h => ?_⟩ <;> simp only [decide_eq_true_eq, Bool.false_eq_true] at * <;> omega)
theorem Zhz (hN : 600 ≤ N) (h : Zae) (hw : wfH h = true) : Zcd N h = some (hid h) := by
  obtain ⟨p, r, hw⟩ := (Zkx h).1 hw
  unfold Zcd hid
  rw [Zfz, Zak]
  cases hg : hgood h with
  | false => rfl
  | true =>
    have hl : (hbytes h).length = 80 := by simp [hbytes, Zeg, hw.prev, hw.root, Zge, hw.lp, hw.lr]
    rw [if_neg (by simp), Zjf (by omega) h hw, Zak, Zio _ (by omega) (by omega), Zak]
    rfl
end
end Go.Dn.F
