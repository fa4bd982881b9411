/- The document's middle of times is the middle of the sorted row. -/
import Derived.Test.YtbplamjmmjnibaaGreatDoorNumM
set_option linter.unusedSimpArgs false
set_option linter.unusedVariables false
namespace Go.Dn.F
open Go.Dn
theorem ZjU (p : Int → Bool) (ys : List Int) (j : Nat) (h : j < ys.length) : (ys.take (j + 1)).countP p = (ys.take j).countP p + if p ys[j] = true then 1 else 0 := by
  rw [List.take_succ_eq_append_getElem h, List.countP_append, List.countP_singleton]
theorem ref_in (N : Nat) (c : Int → Option Int) (zs : List Int) (i : Nat) (hi : i < (zs.take 11).length) : ∀ (m j k : Nat), m + j = (zs.take 11).length → m < k →
    loopN (Zay.p2 N c (rowI zs) i) k ((((zs.take 11).take j).countP (fun z => decide (z < (zs.take 11)[i])) : Nat), (((zs.take 11).take j).countP (fun z => z == (zs.take 11)[i]) : Nat), (j : Int)) =
      if (zs.take 11).countP (fun z => decide (z < (zs.take 11)[i])) ≤ (zs.take 11).length / 2 ∧ (zs.take 11).length / 2 < (zs.take 11).countP (fun z => decide (z < (zs.take 11)[i])) + (zs.take 11).countP (fun z => z == (zs.take 11)[i])
      then some (zs.take 11)[i] else c (i + 1) := by
  have e : (min zs.length 11) = (zs.take 11).length := by simp; omega
  have hn : (zs.take 11).length ≤ 11 := by simp; omega
  have hzl : (zs.take 11).length ≤ zs.length := by simp; omega
  have hy : ∀ (x : Nat) (hx : x < (zs.take 11).length), zs[x]? = some (zs.take 11)[x] := fun x hx => by simp
  intro m
  induction m with
  | zero =>
    intro j k hj hk
    obtain ⟨k, rfl⟩ : ∃ l, k = l + 1 := ⟨k - 1, by omega⟩
    have hj' : j = (zs.take 11).length := by omega
    rw [Zau]
    unfold Zay.p2
    simp only [ZcU, Zct, min11, e]
    have ht : (zs.take 11).take j = zs.take 11 := by rw [hj']; exact List.take_length
    rw [ht]
    have c1 := List.countP_le_length (p := fun z => decide (z < (zs.take 11)[i])) (l := zs.take 11)
    have c2 := List.countP_le_length (p := fun z => z == (zs.take 11)[i]) (l := zs.take 11)
    rw [if_neg (by simp only [decide_eq_true_eq]; omega), tdiv2, ZaC (by omega) (by omega), ZaC (n := _ + _) (by omega) (by omega), ZaC (n := _ + 1) (by omega) (by omega)]
    by_cases h1 : (zs.take 11).countP (fun z => decide (z < (zs.take 11)[i])) ≤ (zs.take 11).length / 2
    · rw [if_pos (by simp only [decide_eq_true_eq]; omega)]
      by_cases h2 : (zs.take 11).length / 2 < (zs.take 11).countP (fun z => decide (z < (zs.take 11)[i])) + (zs.take 11).countP (fun z => z == (zs.take 11)[i])
      · rw [if_pos (by simp only [decide_eq_true_eq]; omega), if_pos ⟨h1, h2⟩, Zaj (by omega), Zaj (by omega), ZeL (hy i hi), Zbc, Zcw]
      · rw [if_neg (by simp only [decide_eq_true_eq]; omega), if_neg (fun h => h2 h.2)]
    · rw [if_neg (by simp only [decide_eq_true_eq]; omega), if_neg (fun h => h1 h.1)]
  | succ m ih =>
    intro j k hj hk
    obtain ⟨k, rfl⟩ : ∃ l, k = l + 1 := ⟨k - 1, by omega⟩
    have hj' : j < (zs.take 11).length := by omega
    rw [← ih (j + 1) k (by omega) (by omega), ZjU _ _ _ hj', ZjU _ _ _ hj', Zau]
    have c1 := List.countP_le_length (p := fun z => decide (z < (zs.take 11)[i])) (l := (zs.take 11).take j)
    have c2 := List.countP_le_length (p := fun z => z == (zs.take 11)[i]) (l := (zs.take 11).take j)
    rw [List.length_take] at c1 c2
    generalize hL : List.countP (fun z => decide (z < (zs.take 11)[i])) ((zs.take 11).take j) = lc at *
    generalize hS : List.countP (fun z => z == (zs.take 11)[i]) ((zs.take 11).take j) = sc at *
    generalize loopN (Zay.p2 N c (rowI zs) i) k = G
    unfold Zay.p2
    simp only [ZcU, Zct, min11, e]
    rw [if_pos (by simp only [decide_eq_true_eq]; omega), Zaj (by omega), Zaj (by omega), ZeL (hy j hj'), Zbc, Zcw, Zaj (by omega), Zaj (by omega), ZeL (hy i hi), Zbc, Zcw]
    have p3 : ∀ l : Int, Zay.p3 N G c (rowI zs) i l sc j =
        G (l, ((sc + if ((zs.take 11)[j] == (zs.take 11)[i]) = true then 1 else 0 : Nat) : Int), ((j + 1 : Nat) : Int)) := by
      intro l
      unfold Zay.p3 Zay.p4
      simp only [ZcU, Zct]
      rw [Zaj (by omega), Zaj (by omega), ZeL (hy j hj'), Zbc, Zcw, Zaj (by omega), Zaj (by omega), ZeL (hy i hi), Zbc, Zcw]
      rw [ZaC (n := _ + 1) (by omega) (by omega), ZaC (n := _ + 1) (by omega) (by omega)]
      split <;> rfl
    rw [p3, p3, ZaC (n := _ + 1) (by omega) (by omega)]
    by_cases hc : (zs.take 11)[j] < (zs.take 11)[i]
    · have t : (lc + if decide ((zs.take 11)[j] < (zs.take 11)[i]) = true then 1 else 0 : Nat) = lc + 1 := by rw [if_pos (decide_eq_true hc)]
      rw [if_pos (decide_eq_true hc), t]; rfl
    · have t : (lc + if decide ((zs.take 11)[j] < (zs.take 11)[i]) = true then 1 else 0 : Nat) = lc := by rw [if_neg (by simpa only [decide_eq_true_eq] using hc)]; rfl
      rw [if_neg (by simpa only [decide_eq_true_eq] using hc), t]
theorem ref_out (N : Nat) (hN : 12 ≤ N) (zs : List Int) : ∀ (m i k : Nat), m + i = (zs.take 11).length → m < k → (∀ (x : Nat) (hx : x < (zs.take 11).length), x < i → ¬ isMid (zs.take 11) (zs.take 11)[x]) →
    loopN (Zay.p1 N (rowI zs)) k (i : Int) = some (M zs) := by
  have e : (min zs.length 11) = (zs.take 11).length := by simp; omega
  have hn : (zs.take 11).length ≤ 11 := by simp; omega
  intro m
  induction m with
  | zero =>
    intro i k hi hk hno
    obtain ⟨k, rfl⟩ : ∃ l, k = l + 1 := ⟨k - 1, by omega⟩
    rw [Zau]
    unfold Zay.p1
    simp only [ZcU, Zct, min11, e]
    rw [if_neg (by simp only [decide_eq_true_eq]; omega)]
    by_cases h0 : zs.take 11 = []
    · simp [M, h0]
    · obtain ⟨h1, h2⟩ := mid_of h0
      obtain ⟨x, hx, h3⟩ := List.getElem_of_mem h2
      exact absurd (h3 ▸ h1) (hno x hx (by omega))
  | succ m ih =>
    intro i k hi hk hno
    obtain ⟨k, rfl⟩ : ∃ l, k = l + 1 := ⟨k - 1, by omega⟩
    have hi' : i < (zs.take 11).length := by omega
    have h := ref_in N (loopN (Zay.p1 N (rowI zs)) k) zs i hi' (zs.take 11).length 0 N (by omega) (by omega)
    rw [Zau]
    generalize hG : loopN (Zay.p1 N (rowI zs)) k = G at h
    unfold Zay.p1
    simp only [ZcU, Zct, min11, e]
    rw [if_pos (by simp only [decide_eq_true_eq]; omega)]
    simp only [List.take_zero, List.countP_nil] at h
    refine Eq.trans h ?_
    subst hG
    by_cases hm : isMid (zs.take 11) (zs.take 11)[i]
    · have hm' := hm
      unfold isMid at hm'
      rw [if_pos hm', mid_M (fun h0 => by rw [h0] at hi'; simp at hi') hm]
    · have hm' := hm
      unfold isMid at hm'
      rw [if_neg hm']
      refine ih (i + 1) k (by omega) (by omega) fun x hx hxi => ?_
      by_cases e : x = i
      · subst e; exact hm
      · exact hno x hx (by omega)
theorem Zkh (N : Nat) (hN : 13 ≤ N) (zs : List Int) : Zay N (rowI zs) = some (M zs) := by
  have hn : (zs.take 11).length ≤ 11 := by simp; omega
  exact ref_out N (by omega) zs (zs.take 11).length 0 N (by omega) (by omega) fun x _ h => by omega
end Go.Dn.F
