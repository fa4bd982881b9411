/- The list of heights that locate.Heights and trailheadref14.Heights answer is one list, strictly falling, ending with 0, of at most 20 entries from a height of at most 511: so LocateHeights answers true, of all heights. -/
import Derived.Test.YtgminfbhlipobaaPLocateHeightsx1
namespace Go.Proofs.Ytgminfbhlipobaa.Pure
open Go.RowKit Go.Proofs.Ytgminfbhlipobaa.PLocateHeights Go.Proofs.YtgminfbhlipobaaW.PrintWords Go.Proofs.YtgminfbhlipobaaW.PrintLast

theorem wr {n : Int} (a : -9223372036854775808 ≤ n) (b : n < 9223372036854775808) : wrap64 n = n := by
  unfold wrap64; omega

/-- The heights from h down: rounds, entries so far, step, height. -/
def G : Nat → Nat → Int → Int → List Int
  | 0, _, _, _ => []
  | n + 1, len, step, h => h :: (if h = 0 then [] else
      if h - (if len + 1 > 10 then step * 2 else step) < 0 then [0] else
        G n (len + 1) (if len + 1 > 10 then step * 2 else step) (h - (if len + 1 > 10 then step * 2 else step)))

theorem rd_snoc (y : List Int) (h : Int) : rd (y ++ [h]) ((y.length : Int) + 1 - 1) = h := by
  unfold rd
  have : ((y.length : Int) + 1 - 1).toNat = y.length := by omega
  rw [this]; simp

theorem impl : ∀ (n : Nat) (y : List Int) (step h : Int) (k : Nat), 0 ≤ h → h.toNat < n → 1 ≤ step → step ≤ 1099511627776 → h ≤ 1099511627776 → y.length + h.toNat ≤ 2199023255552 → n + 1 ≤ k →
    locate_Heights.l0 k y step h = some (y ++ G n y.length step h)
  | 0, _, _, _, _, _, hn, _, _, _, _, _ => by omega
  | n + 1, y, step, h, k, h0, hn, s1, s2, hh, hl, hk => by
    obtain ⟨k, rfl⟩ : ∃ j, k = j + 2 := ⟨k - 2, by omega⟩
    rw [locate_Heights.l0, if_pos h0, if_pos (by omega), Option.bind_some]
    have hlen : (y ++ [h]).length = y.length + 1 := by simp
    have key : ∀ s : Int, s = (if y.length + 1 > 10 then step * 2 else step) → 
        locate_Heights.l0 (k + 1) (y ++ [h]) s (wrap64 (h - s)) = some (y ++ G (n + 1) y.length step h) := by
      intro s hs
      have hs1 : 1 ≤ s := by subst hs; split <;> omega
      have hs2 : s ≤ 2199023255552 := by subst hs; split <;> omega
      rw [wr (by omega) (by omega)]
      simp only [G, ← hs]
      by_cases hz : h - s < 0
      · rw [locate_Heights.l0, if_neg (by omega), if_pos (by rw [hlen]; omega), hlen, Int.natCast_add, Int.natCast_one, wr (by omega) (by omega), if_pos (by omega), if_pos (by omega), rd_snoc, if_pos hz]
        by_cases h1 : h = 0
        · subst h1; simp
        · rw [if_pos (by omega), if_pos (by omega), if_neg h1]; simp
      · have := impl n (y ++ [h]) s (h - s) (k + 1) (by omega) (by omega) hs1 (by omega) (by omega) (by rw [hlen]; omega) (by omega)
        rw [this, if_neg (by omega), if_neg hz, hlen]; simp
    by_cases hc : y.length + 1 > 10
    · have := key (step * 2) (by rw [if_pos hc])
      rw [if_pos (by rw [hlen]; omega), wr (n := step * 2) (by omega) (by omega)]
      exact this
    · have := key step (by rw [if_neg hc])
      rw [if_neg (by rw [hlen]; omega)]
      exact this

theorem model : ∀ (n : Nat) (x0 : Int) (y : List Int) (step h : Int) (k : Nat), 0 < x0 → 0 ≤ h → h.toNat < n → 1 ≤ step → step ≤ 1099511627776 → h ≤ 1099511627776 → y.length + h.toNat ≤ 2199023255552 → n + 1 ≤ k →
    trailheadref14_Heights.l0 k x0 y h step = some (y ++ G n y.length step h)
  | 0, _, _, _, _, _, _, _, hn, _, _, _, _, _ => by omega
  | n + 1, x0, y, step, h, k, hx, h0, hn, s1, s2, hh, hl, hk => by
    obtain ⟨k, rfl⟩ : ∃ j, k = j + 2 := ⟨k - 2, by omega⟩
    rw [trailheadref14_Heights.l0, if_pos h0, if_pos (by omega), Option.bind_some]
    have hlen : (y ++ [h]).length = y.length + 1 := by simp
    by_cases h1 : h = 0
    · subst h1; rw [if_pos rfl]; simp [G]
    rw [if_neg h1]
    have key : ∀ s : Int, s = (if y.length + 1 > 10 then step * 2 else step) → 
        trailheadref14_Heights.l0 (k + 1) x0 (y ++ [h]) (wrap64 (h - s)) s = some (y ++ G (n + 1) y.length step h) := by
      intro s hs
      have hs1 : 1 ≤ s := by subst hs; split <;> omega
      have hs2 : s ≤ 2199023255552 := by subst hs; split <;> omega
      rw [wr (by omega) (by omega)]
      simp only [G, ← hs]
      by_cases hz : h - s < 0
      · rw [trailheadref14_Heights.l0, if_neg (by omega), if_pos hx, if_pos (by rw [hlen]; omega), if_pos hz, if_neg h1]; simp
      · have := model n x0 (y ++ [h]) s (h - s) (k + 1) hx (by omega) (by omega) hs1 (by omega) (by omega) (by rw [hlen]; omega) (by omega)
        rw [this, if_neg h1, if_neg hz, hlen]; simp
    by_cases hc : y.length + 1 > 10
    · have := key (step * 2) (by rw [if_pos hc])
      rw [if_pos (by rw [hlen]; omega), wr (n := step * 2) (by omega) (by omega)]
      exact this
    · have := key step (by rw [if_neg hc])
      rw [if_neg (by rw [hlen]; omega)]
      exact this

theorem G_le : ∀ (n len : Nat) (step h : Int), 0 ≤ h → 1 ≤ step → (∀ x ∈ G n len step h, x ≤ h) ∧ (G n len step h).Pairwise (· > ·)
  | 0, _, _, _, _, _ => by simp [G]
  | n + 1, len, step, h, h0, s1 => by
    obtain ⟨s, hs⟩ : ∃ s : Int, s = (if len + 1 > 10 then step * 2 else step) := ⟨_, rfl⟩
    have hs1 : 1 ≤ s := by subst hs; split <;> omega
    simp only [G, ← hs]
    by_cases h1 : h = 0
    · simp [h1]
    rw [if_neg h1]
    by_cases hz : h - s < 0
    · rw [if_pos hz]
      refine ⟨?_, ?_⟩
      · simp; omega
      · simp; omega
    · rw [if_neg hz]
      obtain ⟨a, b⟩ := G_le n (len + 1) s (h - s) (by omega) hs1
      refine ⟨?_, ?_⟩
      · intro x hx
        rcases List.mem_cons.mp hx with rfl | hx
        · omega
        · have := a x hx; omega
      · rw [List.pairwise_cons]
        exact ⟨fun x hx => by have := a x hx; omega, b⟩

theorem G_last : ∀ (n len : Nat) (step h : Int), 0 ≤ h → h.toNat < n → 1 ≤ step → ∃ m, G n len step h = m ++ [0]
  | 0, _, _, _, _, hn, _ => by omega
  | n + 1, len, step, h, h0, hn, s1 => by
    obtain ⟨s, hs⟩ : ∃ s : Int, s = (if len + 1 > 10 then step * 2 else step) := ⟨_, rfl⟩
    have hs1 : 1 ≤ s := by subst hs; split <;> omega
    simp only [G, ← hs]
    by_cases h1 : h = 0
    · exact ⟨[], by simp [h1]⟩
    rw [if_neg h1]
    by_cases hz : h - s < 0
    · exact ⟨[h], by simp [hz]⟩
    · rw [if_neg hz]
      obtain ⟨m, e⟩ := G_last n (len + 1) s (h - s) (by omega) (by omega) hs1
      exact ⟨h :: m, by rw [e]; simp⟩

theorem G_len : ∀ (n len : Nat) (step h : Int), 0 ≤ h → 1 ≤ step → (G n len step h).length ≤ h.toNat + 1
  | 0, _, _, _, _, _ => by simp [G]
  | n + 1, len, step, h, h0, s1 => by
    obtain ⟨s, hs⟩ : ∃ s : Int, s = (if len + 1 > 10 then step * 2 else step) := ⟨_, rfl⟩
    have hs1 : 1 ≤ s := by subst hs; split <;> omega
    simp only [G, ← hs]
    by_cases h1 : h = 0
    · simp [h1]
    rw [if_neg h1]
    by_cases hz : h - s < 0
    · simp [hz]; omega
    · rw [if_neg hz]
      have := G_len n (len + 1) s (h - s) (by omega) hs1
      rw [List.length_cons]; omega

theorem G_far : ∀ (n len : Nat) (step h : Int) (m : Nat), 1 ≤ m → 10 ≤ len → 1 ≤ step → h < 2 ^ m * step → (G n len step h).length ≤ m + 1
  | 0, _, _, _, _, _, _, _, _ => by simp [G]
  | n + 1, len, step, h, m, hm, hl, s1, hh => by
    simp only [G, if_pos (show len + 1 > 10 by omega)]
    by_cases h1 : h = 0
    · simp [h1]
    rw [if_neg h1]
    by_cases hz : h - step * 2 < 0
    · simp [hz]; omega
    · rw [if_neg hz]
      obtain ⟨m, rfl⟩ : ∃ j, m = j + 1 := ⟨m - 1, by omega⟩
      rw [Int.pow_succ] at hh
      have hm1 : 1 ≤ m := by
        rcases Nat.eq_zero_or_pos m with rfl | h
        · simp at hh; omega
        · exact h
      have := G_far n (len + 1) (step * 2) (h - step * 2) m hm1 (by omega) (by omega) (by
        have e : (2 : Int) ^ m * 2 * step = 2 ^ m * (step * 2) := by rw [Int.mul_assoc, Int.mul_comm 2 step]
        rw [e] at hh; omega)
      simp; omega

theorem G_near : ∀ (d n len : Nat) (h : Int), len + d = 10 → 0 ≤ h → h < 512 → (G n len 1 h).length ≤ d + 10
  | 0, n, len, h, hl, h0, hh => by
    have := G_far n len 1 h 9 (by omega) (by omega) (by omega) (by simpa using hh)
    omega
  | d + 1, 0, _, _, _, _, _ => by simp [G]
  | d + 1, n + 1, len, h, hl, h0, hh => by
    simp only [G, if_neg (show ¬ len + 1 > 10 by omega)]
    by_cases h1 : h = 0
    · simp [h1]
    rw [if_neg h1]
    by_cases hz : h - 1 < 0
    · omega
    · rw [if_neg hz]
      have := G_near d n (len + 1) (h - 1) (by omega) (by omega) (by omega)
      simp; omega

theorem both (h : Int) (h0 : 0 ≤ h) (hh : h ≤ 1099511627776) (k : Nat) (hk : h.toNat + 2 ≤ k) :
    locate_Heights.f k h = some (G (h.toNat + 1) 0 1 h) ∧ trailheadref14_Heights.f k h = some (G (h.toNat + 1) 0 1 h) := by
  refine ⟨?_, ?_⟩
  · have := impl (h.toNat + 1) [] 1 h k h0 (by omega) (by omega) (by omega) hh (by simp; omega) (by omega)
    simpa [locate_Heights.f] using this
  · by_cases hp : 0 < h
    · have := model (h.toNat + 1) h [] 1 h k hp h0 (by omega) (by omega) (by omega) hh (by simp; omega) (by omega)
      simpa [trailheadref14_Heights.f] using this
    · have : h = 0 := by omega
      subst this
      obtain ⟨k, rfl⟩ : ∃ j, k = j + 1 := ⟨k - 1, by omega⟩
      simp [trailheadref14_Heights.f, trailheadref14_Heights.l0, G]

theorem walkRow (l : List Int) (a0 : Int) (hp : l.Pairwise (· > ·)) (hl : l.length ≤ 1099511627778) (h0 : 0 ≤ a0) (he : ∃ m, l = m ++ [0]) :
    ∀ (d : Nat) (i k : Nat), i + d = l.length → d + 1 ≤ k → trailheadlaw14_LocateHeights.l0 k a0 l l (l.length : Int) (i : Int) = some true
  | 0, i, k, hi, hk => by
    obtain ⟨k, rfl⟩ : ∃ j, k = j + 1 := ⟨k - 1, by omega⟩
    have hpos : 0 < l.length := by obtain ⟨m, rfl⟩ := he; simp
    have c1 : ¬ ((i : Int) < (l.length : Int)) := by omega
    have c2 : ¬ (a0 < 0) := by omega
    rw [trailheadlaw14_LocateHeights.l0, if_neg c1, if_pos, if_neg c2, wr (by omega) (by omega), if_pos (by omega), if_pos (by omega)]
    · obtain ⟨m, rfl⟩ := he
      have := rd_snoc m 0
      simp only [List.length_append, List.length_cons, List.length_nil, Int.natCast_add, Int.natCast_one, Nat.zero_add]
      rw [this]; rfl
    · have e1 : ((l.length : Int) == 0) = false := beq_eq_false_iff_ne.mpr (by omega)
      have e2 : decide (a0 < 0) = false := decide_eq_false c2
      rw [e1, e2]; rfl
  | d + 1, i, k, hi, hk => by
    obtain ⟨k, rfl⟩ : ∃ j, k = j + 1 := ⟨k - 1, by omega⟩
    rw [trailheadlaw14_LocateHeights.l0, if_pos (by omega), if_pos (by omega), if_pos (by omega), if_pos (by omega), if_pos rfl]
    have ih := walkRow l a0 hp hl h0 he d (i + 1) k (by omega) (by omega)
    rw [Int.natCast_add, Int.natCast_one] at ih
    by_cases hi0 : (i : Int) > 0
    · rw [if_pos hi0, wr (n := (i : Int) - 1) (by omega) (by omega), if_pos (by omega), if_pos (by omega), if_neg, wr (by omega) (by omega), ih]
      have hlt : i - 1 < i := by omega
      have := List.pairwise_iff_getElem.mp hp (i - 1) i (by omega) (by omega) hlt
      unfold rd
      have e1 : ((i : Int) - 1).toNat = i - 1 := by omega
      have e2 : (i : Int).toNat = i := by omega
      rw [e1, e2, List.getD_eq_getElem?_getD, List.getD_eq_getElem?_getD, List.getElem?_eq_getElem (show i < l.length by omega), List.getElem?_eq_getElem (show i - 1 < l.length by omega), Option.getD_some, Option.getD_some]
      omega
    · rw [if_neg hi0, wr (by omega) (by omega), ih]

theorem alive (k : Nat) (hk : 5 ≤ k) : trailheadlaw14_alive.f k = some true := by
  have := (both 3 (by omega) (by omega) k (by simpa using hk)).1
  rw [trailheadlaw14_alive.f, this]
  rfl

theorem LocateHeights : trailheadlaw14_LocateHeights.Pure := by
  intro a0 hw
  refine ⟨a0.toNat + 10 + (G (a0.toNat + 1) 0 1 a0).length, ?_⟩
  rw [trailheadlaw14_LocateHeights.f, alive _ (by omega), Option.bind_some, if_pos rfl]
  by_cases hb : a0 > 1099511627776
  · rw [if_pos hb]
  rw [if_neg hb]
  by_cases h0 : 0 ≤ a0
  · obtain ⟨e1, e2⟩ := both a0 h0 (by omega) (a0.toNat + 10 + (G (a0.toNat + 1) 0 1 a0).length) (by omega)
    rw [e1, Option.bind_some, e2, Option.bind_some, if_pos rfl]
    obtain ⟨_, hp⟩ := G_le (a0.toNat + 1) 0 1 a0 h0 (by omega)
    have hle := G_last (a0.toNat + 1) 0 1 a0 h0 (by omega) (by omega)
    have hlen := G_len (a0.toNat + 1) 0 1 a0 h0 (by omega)
    have hj : trailheadlaw14_LocateHeights.j0 (a0.toNat + 10 + (G (a0.toNat + 1) 0 1 a0).length) a0 (G (a0.toNat + 1) 0 1 a0) (G (a0.toNat + 1) 0 1 a0) false = some true := by
      obtain ⟨k, hk⟩ : ∃ j, a0.toNat + 10 + (G (a0.toNat + 1) 0 1 a0).length = j + 1 := ⟨a0.toNat + 9 + (G (a0.toNat + 1) 0 1 a0).length, by omega⟩
      rw [hk, trailheadlaw14_LocateHeights.j0, if_neg (by decide)]
      exact walkRow _ a0 hp (by omega) h0 hle _ 0 k (Nat.zero_add _) (by omega)
    by_cases h5 : a0 ≤ 511
    · rw [if_pos h5]
      have := G_near 10 (a0.toNat + 1) 0 a0 (by omega) h0 (by omega)
      have e : decide (((G (a0.toNat + 1) 0 1 a0).length : Int) > 32) = false := by simp; omega
      rw [e, hj]
    · rw [if_neg h5, hj]
  · obtain ⟨k, hk⟩ : ∃ j, a0.toNat + 10 + (G (a0.toNat + 1) 0 1 a0).length = j + 2 := ⟨a0.toNat + 8 + (G (a0.toNat + 1) 0 1 a0).length, by omega⟩
    rw [hk]
    have e1 : locate_Heights.f (k + 2) a0 = some [] := by
      simp [locate_Heights.f, locate_Heights.l0, h0]
    have e2 : trailheadref14_Heights.f (k + 2) a0 = some [] := by
      simp [trailheadref14_Heights.f, trailheadref14_Heights.l0, h0]; omega
    rw [e1, Option.bind_some, e2, Option.bind_some, if_pos rfl, if_pos (by omega)]
    have : decide (a0 < 0) = true := by simp; omega
    simp [trailheadlaw14_LocateHeights.j0, trailheadlaw14_LocateHeights.l0, this]
    omega

end Go.Proofs.Ytgminfbhlipobaa.Pure
