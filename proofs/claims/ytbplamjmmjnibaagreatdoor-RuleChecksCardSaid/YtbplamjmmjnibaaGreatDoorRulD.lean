/- The document's Check, of every header behind every chain. -/
import Derived.Test.YtbplamjmmjnibaaGreatDoorRulC
set_option linter.unusedSimpArgs false
set_option linter.unusedVariables false
set_option maxRecDepth 40000
namespace Go.Dn.F
open Go.Dn Go.Proofs
variable {N : Nat}
theorem ZhE (zs : List Int) (hN : zs.length + 2 ≤ N) (hz : zs.length ≤ 1000) : Zbm N (rowI zs) = some (rowI (zs.reverse.take 11)) := by
  unfold Zbm
  rw [ZcU, ZaC (by omega) (by omega)]
  refine Zby (fun m (x : LL × Int) => ∃ i : Nat, i + m = zs.length ∧ i ≤ 11 ∧ x = (rowI (zs.reverse.take i), (zs.length : Int) - 1 - (i : Int))) ?_ N zs.length _ ⟨0, by omega, by omega, by simp; rfl⟩ (by omega)
  rintro G m _ ⟨i, hi, h11, rfl⟩ hG
  unfold Zbm.p1
  dsimp only
  by_cases hlt : i < zs.length
  · rw [if_pos (by simp <;> omega)]
    have ll : (zs.reverse.take i).length = i := by rw [List.length_take, List.length_reverse]; omega
    by_cases h : i < 11
    · have hr : zs.length - 1 - i < zs.length := by omega
      have t : zs.reverse.take (i + 1) = zs.reverse.take i ++ [zs[zs.length - 1 - i]] := by
        rw [List.take_succ_eq_append_getElem (by simp; omega), List.getElem_reverse]
      rw [if_pos (by rw [ZcU, ll]; simp <;> omega), ZcU, Zaj (by omega), Zaj (by omega), show Int.toNat ((zs.length : Int) - 1 - (i : Int)) = zs.length - 1 - i by omega, ZjC hr, Zbc, Zcw, ZjB, Zgs, Zaj (by rw [Zct, List.length_append, ll]; simp <;> omega), ← t, ZaC (by omega) (by omega)]
      exact hG (m - 1) _ (by omega) ⟨i + 1, by omega, by omega, by congr 1; omega⟩
    · have : i = 11 := by omega
      subst this
      rw [if_neg (by rw [ZcU, ll]; simp)]
  · rw [if_neg (by simp <;> omega), List.take_of_length_le (by simp; omega), List.take_of_length_le (by simp; omega)]
theorem Zjt (height : Int) (gs : List ZbW) (v : Int) (hv : -2147483648 ≤ v) : v < verOf height gs ↔ ∃ g ∈ gs, g.Height ≤ height ∧ v < g.Version := by
  revert gs
  refine Zgu ?_ (fun gs g ih => ?_)
  · simp [verOf]; omega
  · have e : verOf height (gs ++ [g]) = if height ≥ g.Height ∧ g.Version > verOf height gs then g.Version else verOf height gs := by unfold verOf; rw [List.foldl_append]; rfl
    rw [e]
    constructor
    · intro h
      split at h
      · rename_i hc; exact ⟨g, by simp, hc.1, h⟩
      · obtain ⟨g', h1, h2⟩ := ih.1 h
        exact ⟨g', by simp [h1], h2⟩
    · rintro ⟨g', h1, h2, h3⟩
      rcases List.mem_append.1 h1 with h1 | h1
      · have := ih.2 ⟨g', h1, h2, h3⟩
        split <;> omega
      · cases List.mem_singleton.1 h1
        split
        · exact h3
        · rename_i hc
          omega
theorem ref11_p6 (hN : 600 ≤ N) (l : List Zae) (hl : l.length ≤ 200) {p : Zac} {cs : List ZbG} (hc : p.Checks = rowC cs) (lc : cs.length ≤ 400) {h : Zae} (hw : wfH h = true) :
    loopN (Zam.p6 N (rowH l) p h) N 0 = some (if tracked (l.length : Int) (hid h) cs = false then 8 else 0) := by
  refine Zby (fun m (x : Int) => ∃ i : Nat, i + m = cs.length ∧ x = (i : Int) ∧ tracked (l.length : Int) (hid h) cs = tracked (l.length : Int) (hid h) (cs.drop i)) ?_ N cs.length _ ⟨0, by omega, rfl, by rw [List.drop_zero]⟩ (by omega)
  rintro G m _ ⟨i, hi, rfl, ht⟩ hG
  unfold Zam.p6
  have e : len (rowH l) = (l.length : Int) := by simp [len]
  rw [hc, e]
  by_cases hlt : i < cs.length
  · rw [List.drop_eq_getElem_cons hlt] at ht
    have e : tracked (l.length : Int) (hid h) (cs[i] :: cs.drop (i + 1)) = ((!(cs[i].Height == (l.length : Int)) || cs[i].Id == hid h) && tracked (l.length : Int) (hid h) (cs.drop (i + 1))) := rfl
    rw [e] at ht
    rw [if_pos (by simp [len] <;> omega), Zaj (by omega), Int.toNat_natCast, ZjE hlt, Zbc, Zeh, ZaC (by omega) (by omega)]
    by_cases h1 : (cs[i].Height == (l.length : Int)) = true
    · rw [if_pos h1, Zhz hN h hw, Zak]
      by_cases h2 : (cs[i].Id == hid h) = true
      · rw [if_neg (by simp [h2])]
        exact hG (m - 1) _ (by omega) ⟨i + 1, by omega, rfl, by rw [ht]; simp [h2]⟩
      · rw [if_pos (by simpa using h2), ht]; simp [h1, h2]
    · rw [if_neg h1]
      exact hG (m - 1) _ (by omega) ⟨i + 1, by omega, rfl, by rw [ht]; simp [h1]⟩
  · rw [if_neg (by simp [len] <;> omega), ht, List.drop_of_length_le (by omega)]; rfl
theorem ref11_p5 (hN : 600 ≤ N) (l : List Zae) (hl : l.length ≤ 200) {p : Zac} {gs : List ZbW} {cs : List ZbG} (hg : p.Gates = rowG gs) (lg : gs.length ≤ 400) (hc : p.Checks = rowC cs) (lc : cs.length ≤ 400) {h : Zae} (hw : wfH h = true) (hv : -2147483648 ≤ h.Version) :
    Zam.p4 N (rowH l) p h = some (if h.Version < verOf (l.length : Int) gs then 7 else if tracked (l.length : Int) (hid h) cs = false then 8 else 0) := by
  unfold Zam.p4
  refine Zby (fun m (x : Int) => ∃ i : Nat, i + m = gs.length ∧ x = (i : Int) ∧ ∀ g ∈ gs.take i, ¬ (g.Height ≤ (l.length : Int) ∧ h.Version < g.Version)) ?_ N gs.length _ ⟨0, by omega, rfl, fun g hg => by simp at hg⟩ (by omega)
  rintro G m _ ⟨i, hi, rfl, ht⟩ hG
  unfold Zam.p5
  have e : len (rowH l) = (l.length : Int) := by simp [len]
  rw [hg, e]
  by_cases hlt : i < gs.length
  · have next : ¬ (gs[i].Height ≤ (l.length : Int) ∧ h.Version < gs[i].Version) → ∀ g ∈ gs.take (i + 1), ¬ (g.Height ≤ (l.length : Int) ∧ h.Version < g.Version) := fun hn g hgm => by
      rw [List.take_succ_eq_append_getElem hlt] at hgm
      rcases List.mem_append.1 hgm with k | k
      · exact ht g k
      · cases List.mem_singleton.1 k; exact hn
    rw [if_pos (by simp [len] <;> omega), Zaj (by omega), Int.toNat_natCast, ZjD hlt, Zbc, Zew, ZaC (by omega) (by omega)]
    by_cases h1 : gs[i].Height ≤ (l.length : Int)
    · rw [if_pos (by simpa using h1)]
      by_cases h2 : h.Version < gs[i].Version
      · rw [if_pos (by simpa using h2), if_pos ((Zjt _ gs _ hv).2 ⟨gs[i], List.getElem_mem hlt, h1, h2⟩)]
      · rw [if_neg (by simpa using h2)]
        exact hG (m - 1) _ (by omega) ⟨i + 1, by omega, rfl, next fun k => h2 k.2⟩
    · rw [if_neg (by simpa using h1)]
      exact hG (m - 1) _ (by omega) ⟨i + 1, by omega, rfl, next fun k => h1 k.1⟩
  · rw [if_neg (by simp [len] <;> omega), ref11_p6 hN l hl hc lc hw, if_neg (c := h.Version < verOf (l.length : Int) gs)]
    intro k
    obtain ⟨g, h1, h2⟩ := (Zjt _ gs _ hv).1 k
    rw [List.take_of_length_le (by omega)] at ht
    exact ht g h1 h2
theorem ZgR (hN : 900 ≤ N) {p : Zac} {gs : List ZbW} {cs : List ZbG} (hg : p.Gates = rowG gs) (lg : gs.length ≤ 400) (hc : p.Checks = rowC cs) (lc : cs.length ≤ 400)
    (l : List Zae) (h0 : 0 < l.length) (hl : l.length ≤ 200) (hw2 : ∀ x ∈ l, wfH x = true) {h : Zae} (hw : wfH h = true) (now : Int) (hnow : 0 ≤ now ∧ now ≤ 9223372036854775807) :
    Zam N p (rowH l) h now = some (checkS p gs cs (spotA p l) h now) := by
  unfold Zam
  have e : len (rowH l) = (l.length : Int) := by simp [len]
  obtain ⟨b1, b2, b3⟩ := ZgY p l h0
  have hh := Zej p l (by omega)
  rw [Zfz, Zak]
  unfold checkS
  cases hgd : hgood h with
  | false => rfl
  | true =>
    have tr := (ZiG h).1 hgd
    rw [if_neg (c := (!true) = true) (by simp), if_neg (c := true = false) (by simp), e, if_pos (by simp only [decide_eq_true_eq, gt_iff_lt]; omega), show ((l.length : Int) - 1) = ((l.length - 1 : Nat) : Int) by omega, ZaC (n := ((l.length - 1 : Nat) : Int)) (by omega) (by omega), Zaj (by omega), Zaj (by omega), Int.toNat_natCast, Zez (by omega), Zbc, Zck, Zhz (by omega) _ (hw2 _ (List.getElem_mem _)), Zak, ← b3]
    by_cases h2 : h.Prev = (spotA p l).Prev
    · rw [if_neg (c := (!(h.Prev == (spotA p l).Prev)) = true) (by simp [h2]), if_neg (c := h.Prev ≠ (spotA p l).Prev) (by simp [h2])]
      unfold Zam.p1
      rw [ZhB (by omega) p l h0 hl, Zak]
      by_cases h3 : h.Bits = nextB p (spotA p l).Point h.Time
      · rw [if_neg (c := (h.Bits != nextB p (spotA p l).Point h.Time) = true) (by simpa using h3), if_neg (c := h.Bits ≠ nextB p (spotA p l).Point h.Time) (by simpa using h3), ZhA (by omega) p hw, Zak]
        have it : itself p h = if ((tgt h.Bits p.Limit).2 && decide (hv (hid h) ≤ (tgt h.Bits p.Limit).1)) = true then 0 else 4 := by
          unfold itself
          rw [hgd, if_neg (c := true = false) (by simp)]
          cases (tgt h.Bits p.Limit).2
          · rfl
          · by_cases k : hv (hid h) ≤ (tgt h.Bits p.Limit).1 <;> simp [k]
        cases h4 : ((tgt h.Bits p.Limit).2 && decide (hv (hid h) ≤ (tgt h.Bits p.Limit).1)) with
        | false =>
          rw [h4] at it
          rw [if_pos (by rfl), if_pos (c := itself p h ≠ 0) (by rw [it]; decide)]
        | true =>
          rw [h4] at it
          rw [if_neg (c := (!true) = true) (by simp), if_neg (c := itself p h ≠ 0) (by rw [it]; decide)]
          have tm := ZiX p l
          have tl : 0 < ((l.map (·.Time)).reverse.take 11).length := by rw [List.length_take, List.length_reverse, List.length_map]; omega
          refine Zby (fun m (x : LL × Int) => ∃ i : Nat, i + m = l.length ∧ x = (rowI ((l.take i).map (·.Time)), (i : Int))) ?_ N l.length _ ⟨0, by omega, rfl⟩ (by omega)
          rintro G m _ ⟨i, hi, rfl⟩ hG
          unfold Zam.p2
          dsimp only
          rw [e]
          by_cases hlt : i < l.length
          · rw [if_pos (by simp <;> omega), Zaj (by omega), Int.toNat_natCast, Zez hlt, Zbc, Zck, ZjB, Zgs, Zaj (by rw [Zct, List.length_append, List.length_map, List.length_take]; simp <;> omega), ZaC (by omega) (by omega)]
            refine hG (m - 1) _ (by omega) ⟨i + 1, by omega, ?_⟩
            rw [List.take_succ_eq_append_getElem hlt, List.map_append]; rfl
          · rw [if_neg (by simp <;> omega), List.take_of_length_le (by omega), if_pos (by simp only [decide_eq_true_eq, gt_iff_lt]; omega), ZhE _ (by rw [List.length_map]; omega) (by rw [List.length_map]; omega), Zak, Zaj (Zhb _), Zkh N (by omega), Zak, ← tm]
            rw [← tm] at tl
            by_cases h5 : h.Time ≤ M (tims (spotA p l).Times)
            · rw [if_pos (by simpa using h5), if_pos (c := ((tims (spotA p l).Times).length == 0 || decide (h.Time > M (tims (spotA p l).Times))) = false) (by
                simp only [Bool.or_eq_false_iff, beq_eq_false_iff_ne, decide_eq_false_iff_not]; omega)]
            · rw [if_neg (by simpa using h5), if_neg (c := ((tims (spotA p l).Times).length == 0 || decide (h.Time > M (tims (spotA p l).Times))) = false) (by
                simp only [Bool.or_eq_false_iff, beq_eq_false_iff_ne, decide_eq_false_iff_not]; omega)]
              unfold Zam.p3
              rw [ref11_p5 (by omega) l hl hg lg hc lc hw tr.1, hh]
              have nr : near h.Time now p.Future = decide (0 ≤ p.Future ∧ (h.Time ≤ now ∨ h.Time - now ≤ p.Future)) := rfl
              by_cases f : p.Future < 0
              · rw [if_pos (by simpa using f), if_pos (c := near h.Time now p.Future = false) (by rw [nr]; simp only [decide_eq_false_iff_not]; omega)]
              · rw [if_neg (by simpa using f)]
                by_cases g : h.Time > now
                · rw [if_pos (by simpa using g), ZaC (by omega) (by omega)]
                  by_cases k : h.Time - now > p.Future
                  · rw [if_pos (by simpa using k), if_pos (c := near h.Time now p.Future = false) (by rw [nr]; simp only [decide_eq_false_iff_not]; omega)]
                  · rw [if_neg (by simpa using k), if_neg (c := near h.Time now p.Future = false) (by rw [nr]; simp only [decide_eq_false_iff_not]; omega)]
                · rw [if_neg (by simpa using g), if_neg (c := near h.Time now p.Future = false) (by rw [nr]; simp only [decide_eq_false_iff_not]; omega)]
      · rw [if_pos (by simpa using h3), if_pos h3]
    · rw [if_pos (by simpa using h2), if_pos h2]
end Go.Dn.F
