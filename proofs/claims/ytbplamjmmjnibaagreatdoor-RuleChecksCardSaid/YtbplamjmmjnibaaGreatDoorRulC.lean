/- What the document asks of bits and of work. -/
import Derived.Test.YtbplamjmmjnibaaGreatDoorNumV
import Derived.Test.YtbplamjmmjnibaaGreatDoorRulB
import Derived.Test.YtbplamjmmjnibaaGreatDoorShaG
set_option linter.unusedSimpArgs false
set_option linter.unusedVariables false
set_option maxRecDepth 40000
namespace Go.Dn.F
open Go.Dn Go.Proofs
variable {N : Nat}
theorem ZfA (hN : 300 ≤ N) (p : Zac) (b f t : Int) : Zar N p b f t = some (retg p b f t) := by
  unfold Zar retg
  rw [Zdm hN, Zak]
  dsimp only
  rw [ZhD hN, Zak]
  cases hg : pgood p with
  | false => rw [if_pos (by rfl), if_neg (by simp)]
  | true =>
    rw [if_neg (by simp)]
    cases ht : (tgt b p.Limit).2 with
    | false => rw [if_pos (by rfl), if_neg (by simp)]
    | true =>
      rw [if_neg (by simp)]
      have hn := Zfu b p.Limit
      have hL := Zfu p.Limit p.Limit
      have D := ZdG hg
      have S := Zgw hg f t
      have enc : ∀ {x : Int}, isN x → Zar.p3 N (nw x) = some (cEnc x) := fun h => by
        unfold Zar.p3
        rw [Zhy hN h, Zak]
      have p2 : Zar.p2 N p (pspan p f t) (nw (tgt b p.Limit).1) = some (if (tgt b p.Limit).1 * pspan p f t / pdue p < 115792089237316195423570985008687907853269984665640564039457584007913129639936 ∧ (tgt b p.Limit).1 * pspan p f t / pdue p ≤ (tgt p.Limit p.Limit).1
          then cEnc (if (tgt b p.Limit).1 * pspan p f t / pdue p = 0 then 1 else (tgt b p.Limit).1 * pspan p f t / pdue p) else p.Limit) := by
        have hLt := Zdm hN p.Limit p.Limit
        unfold Zar.p2
        rw [Zgg hg, ZkK hN hn S (by omega), Zak]
        dsimp only
        rw [hLt, Zak]
        dsimp only
        have q0 : 0 ≤ (tgt b p.Limit).1 * pspan p f t / pdue p := Int.ediv_nonneg (Int.mul_nonneg hn.1 S.1) (by omega)
        generalize (tgt b p.Limit).1 * pspan p f t / pdue p = Q at *
        by_cases big : Q < 115792089237316195423570985008687907853269984665640564039457584007913129639936
        · have hQ : isN Q := ⟨q0, big⟩
          rw [if_neg (by simpa using big), Int.emod_eq_of_lt q0 big, ZeN hN hL hQ, Zak]
          by_cases hl : (tgt p.Limit p.Limit).1 < Q
          · rw [if_pos (by simpa using hl), if_neg (by omega)]
          · rw [if_neg (by simpa using hl)]
            have z : (nw Q == List.replicate 4 0) = decide (Q = 0) := Option.some.inj (Zdl (N := 0) hQ)
            rw [z, if_pos (c := Q < 115792089237316195423570985008687907853269984665640564039457584007913129639936 ∧ Q ≤ (tgt p.Limit p.Limit).1) ⟨big, by omega⟩]
            by_cases h0 : Q = 0
            · rw [if_pos (by simpa using h0), if_pos h0, ZkR (by unfold isW; omega), enc (by unfold isN; omega)]
            · rw [if_neg (by simpa using h0), if_neg h0, enc hQ]
        · rw [if_pos (by simpa using big), if_neg (by omega)]
      have fin : Zar.p2 N p (pspan p f t) (nw (tgt b p.Limit).1) = some (if pgood p = true ∧ (tgt b p.Limit).2 = true ∧ (tgt b p.Limit).1 * pspan p f t / pdue p < 115792089237316195423570985008687907853269984665640564039457584007913129639936 ∧ (tgt b p.Limit).1 * pspan p f t / pdue p ≤ (tgt p.Limit p.Limit).1
          then cEnc (if (tgt b p.Limit).1 * pspan p f t / pdue p = 0 then 1 else (tgt b p.Limit).1 * pspan p f t / pdue p) else p.Limit) := by
        rw [p2, hg, ht]; simp only [true_and]
      rw [hg, ht] at fin
      refine Eq.trans ?_ fin
      have p1 : ∀ y : Int, pspan p f t = (if pdue p * 4 < y then pdue p * 4 else y) → Zar.p1 N p y (nw (tgt b p.Limit).1) = Zar.p2 N p (pspan p f t) (nw (tgt b p.Limit).1) := fun y hy => by
        unfold Zar.p1
        rw [Zgg hg, ZaC (n := pdue p * 4) (by omega) (by omega), hy]
        by_cases h : pdue p * 4 < y
        · rw [if_pos (by simpa using h), if_pos h]
        · rw [if_neg (by simpa using h), if_neg h]
      rw [Zgg hg, ZcM (by omega), ZaC (n := pdue p / 4) (by omega) (by omega)]
      by_cases h : w64 (t - f) < pdue p / 4
      · rw [if_pos (by simpa using h)]
        exact p1 _ (by unfold pspan; rw [if_pos (show pdue p / 4 > w64 (t - f) from h)])
      · rw [if_neg (by simpa using h)]
        exact p1 _ (by unfold pspan; rw [if_neg (show ¬ pdue p / 4 > w64 (t - f) from h)])
theorem ZhC (hN : 300 ≤ N) (p : Zac) (a : ZbA) (own : Int) : Zbn N p a.Height a.Bits a.Time a.First a.Hard own = some (nextB p a own) := by
  unfold Zbn nextB
  have p1 : Zbn.p1 N a.Bits a.Time a.Hard own p = some (if p.Easy = false then a.Bits else if w64 (own - a.Time) > w64 (2 * p.Spacing) then p.Limit else a.Hard) := by
    unfold Zbn.p1
    cases p.Easy
    · rfl
    · rw [if_neg (c := (!true) = true) (by simp), if_neg (c := true = false) (by simp)]
      by_cases h : w64 (own - a.Time) > w64 (2 * p.Spacing)
      · rw [if_pos (by simpa using h), if_pos h]
      · rw [if_neg (by simpa using h), if_neg h]
  by_cases h0 : a.Height ≤ 0
  · rw [if_pos (by simpa using h0), if_pos h0]
  rw [if_neg (by simpa using h0), if_neg h0, p1, ZfA hN, Zak]
  unfold starts
  by_cases hi : p.Interval > 0
  · rw [if_pos (by simpa using hi), Zaj (by omega)]
    by_cases hm : Int.tmod a.Height p.Interval = 0
    · rw [if_pos (by simpa using hm), if_pos (c := decide (0 < p.Interval ∧ Int.tmod a.Height p.Interval = 0) = true) (by simp [hm] <;> omega)]
    · rw [if_neg (by simpa using hm), if_neg (c := decide (0 < p.Interval ∧ Int.tmod a.Height p.Interval = 0) = true) (by simp [hm])]
  · rw [if_neg (by simpa using hi), if_neg (c := decide (0 < p.Interval ∧ Int.tmod a.Height p.Interval = 0) = true) (by simp <;> omega)]
def s0 (p : Zac) : Zav := ⟨⟨0, 0, 0, 0, p.Limit⟩, List.replicate 32 0, []⟩
def spotA (p : Zac) (l : List Zae) : Zav := l.foldl (behind p) (s0 p)
theorem spots_A (p : Zac) (l : List Zae) : spots p l = spotA p (p.Genesis :: l) := rfl
theorem ZgX (p : Zac) (l : List Zae) {i : Nat} (h : i < l.length) : spotA p (l.take (i + 1)) = behind p (spotA p (l.take i)) l[i] := by
  unfold spotA
  rw [List.take_succ_eq_append_getElem h, List.foldl_append]; rfl
theorem Zej (p : Zac) : ∀ l : List Zae, l.length < 1000000 → (spotA p l).Point.Height = l.length := by
  refine Zgu (fun _ => rfl) (fun l h ih hl => ?_)
  unfold spotA at *
  rw [List.foldl_append]
  show w64 ((List.foldl (behind p) (s0 p) l).Point.Height + 1) = _
  rw [List.length_append, List.length_singleton] at *
  rw [ih (by omega), ZaC (by omega) (by omega)]
  omega
theorem ZgY (p : Zac) (l : List Zae) (h : 0 < l.length) : (spotA p l).Point.Bits = (l[l.length - 1]).Bits ∧ (spotA p l).Point.Time = (l[l.length - 1]).Time ∧ (spotA p l).Prev = hid l[l.length - 1] := by
  have := ZgX p l (i := l.length - 1) (by omega)
  rw [List.take_of_length_le (by omega)] at this
  rw [this]
  exact ⟨rfl, rfl, rfl⟩
theorem ZiX (p : Zac) : ∀ l : List Zae, tims (spotA p l).Times = ((l.map (·.Time)).reverse).take 11 := by
  refine Zgu rfl (fun l h ih => ?_)
  unfold spotA at *
  rw [List.foldl_append]
  show tims (rowI (h.Time :: (tims (List.foldl (behind p) (s0 p) l).Times).take 10)) = _
  rw [ZkC, ih, List.map_append, List.reverse_append, List.take_take]
  rfl
theorem ZhB (hN : 300 ≤ N) (p : Zac) (l : List Zae) (h0 : 0 < l.length) (hl : l.length ≤ 200) (time : Int) : Zat N p (rowH l) time = some (nextB p (spotA p l).Point time) := by
  unfold Zat
  have e : len (rowH l) = (l.length : Int) := by simp [len]
  obtain ⟨b1, b2, _⟩ := ZgY p l h0
  have hh := Zej p l (by omega)
  rw [e, if_neg (by simp only [beq_iff_eq]; omega), show ((l.length : Int) - 1) = ((l.length - 1 : Nat) : Int) by omega, ZaC (n := ((l.length - 1 : Nat) : Int)) (by omega) (by omega), Zaj (by omega), Zaj (by omega), Int.toNat_natCast, Zez (by omega), Zbc, Zck]
  refine Zby (fun m (x : Int × Int × Int) => ∃ i : Nat, i + m = l.length ∧ x = ((spotA p (l.take i)).Point.First, (spotA p (l.take i)).Point.Hard, (i : Int))) ?_ N l.length _ ⟨0, by omega, rfl⟩ (by omega)
  rintro G m _ ⟨i, hi, rfl⟩ hG
  unfold Zat.p1
  dsimp only
  rw [e]
  by_cases hlt : i < l.length
  · have hst := ZgX p l hlt
    have ht := Zej p (l.take i) (by rw [List.length_take]; omega)
    rw [List.length_take, Nat.min_eq_left (by omega)] at ht
    have hn := hG (m - 1) _ (by omega) ⟨i + 1, by omega, rfl⟩
    rw [hst] at hn
    have p3 : ∀ first : Int, first = (behind p (spotA p (l.take i)) l[i]).Point.First → Zat.p3 N G time (rowH l) first (spotA p (l.take i)).Point.Hard (starts p (i : Int)) (i : Int) p l[l.length - 1] l[i] = some (nextB p (spotA p l).Point time) := fun first hf => by
      subst hf
      have hd : (behind p (spotA p (l.take i)) l[i]).Point.Hard = if (p.Easy && l[i].Bits == p.Limit && !starts p (i : Int)) = true then (spotA p (l.take i)).Point.Hard else l[i].Bits := by
        show (if (p.Easy && l[i].Bits == p.Limit && !starts p (spotA p (l.take i)).Point.Height) = true then _ else _) = _
        rw [ht]
      rw [hd] at hn
      unfold Zat.p3 Zat.p4
      rw [ZaC (by omega) (by omega)]
      have c : ((i + 1 : Nat) : Int) = (i : Int) + 1 := by omega
      rw [c] at hn
      cases h1 : p.Easy with
      | false => rw [h1] at hn; simpa using hn
      | true =>
        rw [h1] at hn
        by_cases h2 : l[i].Bits = p.Limit
        · cases h3 : starts p (i : Int) with
          | true => rw [h3] at hn; simp [h2] at hn ⊢; exact hn
          | false => rw [h3] at hn; simp [h2] at hn ⊢; exact hn
        · simp [h2] at hn ⊢; exact hn
    have p2 : Zat.p2 N G time (rowH l) (spotA p (l.take i)).Point.First (spotA p (l.take i)).Point.Hard (starts p (i : Int)) (i : Int) p l[l.length - 1] l[i] = some (nextB p (spotA p l).Point time) := by
      unfold Zat.p2
      have hf : (behind p (spotA p (l.take i)) l[i]).Point.First = if starts p (i : Int) = true then l[i].Time else (spotA p (l.take i)).Point.First := by
        show (if starts p (spotA p (l.take i)).Point.Height = true then _ else _) = _
        rw [ht]
      cases h3 : starts p (i : Int) with
      | true => rw [h3] at hf p3; rw [if_pos rfl]; exact p3 _ (by rw [hf]; rfl)
      | false => rw [h3] at hf p3; rw [if_neg (by simp)]; exact p3 _ (by rw [hf]; rfl)
    rw [if_pos (by simp <;> omega), Zaj (by omega), Int.toNat_natCast, Zez hlt, Zbc, Zck]
    by_cases hI : p.Interval > 0
    · have : (Int.tmod (i : Int) p.Interval == 0) = starts p (i : Int) := by
        unfold starts; rw [Bool.eq_iff_iff]; simp [hI]
      rw [if_pos (by simpa using hI), Zaj (by omega), this]; exact p2
    · have : false = starts p (i : Int) := by
        unfold starts; rw [Bool.eq_iff_iff]; simp; omega
      rw [if_neg (by simpa using hI), this]; exact p2
  · rw [if_neg (by simp <;> omega), List.take_of_length_le (by omega), ← b1, ← b2, ← hh, ZhC hN, Zak]
theorem ZhA (hN : 600 ≤ N) (p : Zac) {h : Zae} (hw : wfH h = true) : Zcg N p h = some ((tgt h.Bits p.Limit).2 && decide (hv (hid h) ≤ (tgt h.Bits p.Limit).1)) := by
  unfold Zcg
  have hb := Zlf h
  rw [Zdm (by omega), Zak]
  dsimp only
  rw [Zhz hN h hw, Zak, Zhx (by omega) hb.1 hb.2, Zak, ZeN (by omega) (Zfu _ _) (hv_isN hb.1 hb.2), Zak]
  cases (tgt h.Bits p.Limit).2
  · rfl
  · rw [if_pos rfl]
    congr 1
    rw [Bool.eq_iff_iff]; simp
end Go.Dn.F
