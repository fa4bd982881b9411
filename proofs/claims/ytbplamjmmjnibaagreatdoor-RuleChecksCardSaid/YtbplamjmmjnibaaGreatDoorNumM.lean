/- Plain laws of the median: the middle of a sorted row is the number that the document's definition finds. -/
import Derived.Test.YtbplamjmmjnibaaGreatDoorNumJ
set_option linter.unusedSimpArgs false
set_option linter.unusedVariables false
namespace Go.Dn.F
open Go.Dn
@[simp] theorem ZcU (l : List Int) : len (rowI l) = (l.length : Int) := by simp [len]
theorem rowI_isI (l : List Int) : isI (rowI l) = true := by simp [isI, rowI]
theorem ZkM (l : List Int) : sortR (rowI l) = rowI (l.mergeSort fun x y => decide (x ≤ y)) := by
  simp only [sortR, rowI, List.map_map]
  congr 2
  have : (leafI ∘ fun n => [L.int .i64 n]) = id := rfl
  rw [this, List.map_id]
theorem min11 (n : Nat) : (if (11 : Int) < (n : Int) then 11 else (n : Int)) = ((min n 11 : Nat) : Int) := by
  split <;> omega
abbrev srt (l : List Int) : List Int := l.mergeSort fun x y => decide (x ≤ y)
theorem ZgW (l : List Int) : (srt l).length = l.length := List.length_mergeSort l
theorem Zii (l : List Int) : (srt l).Pairwise (fun a b => a ≤ b) := by
  have := List.pairwise_mergeSort (le := fun x y : Int => decide (x ≤ y)) (by simp; omega) (by simp; omega) l
  simpa using this
theorem Zhs (l : List Int) : (srt l).Perm l := List.mergeSort_perm _ _
def M (zs : List Int) : Int := (srt (zs.take 11)).getD ((zs.take 11).length / 2) 0
theorem tdiv2 (n : Nat) : Int.tdiv (n : Int) 2 = ((n / 2 : Nat) : Int) := by
  rw [Int.tdiv_eq_ediv]; simp
theorem ZkW (N : Nat) (zs : List Int) : ZcE N (rowI zs) = some (M zs) := by
  have e : (min zs.length 11) = (zs.take 11).length := by simp; omega
  have e' : zs.take (zs.take 11).length = zs.take 11 := by rw [← e]; apply List.ext_getElem? ; intro i; simp only [List.getElem?_take]; split <;> split <;> first | rfl | omega | (rw [List.getElem?_eq_none (by omega)])
  unfold ZcE
  simp only [ZcU, Zct, min11, List.drop_zero]
  rw [Zaj (by omega), Zaj (by simp; omega)]
  simp only [Int.toNat_natCast, Zil, e, e']
  rw [ZaU, Zaj (by simp; omega), Zak]
  by_cases h0 : (zs.take 11).length = 0
  · simp [h0, M]
  · simp only [ZcU, Zct]
    rw [if_neg (by simpa using h0), Zaj (rowI_isI _), Zaj (by simp; omega), ZkM, tdiv2]
    rw [ZaC (by omega) (by simp; omega), Zaj (by omega), Zaj (by omega)]
    simp only [Int.toNat_natCast, Nat.zero_add]
    have hl : (zs.take 11).length / 2 < (srt (zs.take 11)).length := by rw [ZgW]; omega
    rw [ZjC hl, Zbc, Zcw]
    simp only [M, List.getD, List.getElem?_eq_getElem hl, Option.getD_some]
theorem Zjl (N : Nat) (t : Int) (zs : List Int) : ZbD N t (rowI zs) = some (zs.length == 0 || decide (t > M zs)) := by
  unfold ZbD
  rw [ZkW, Zak]
  by_cases h : zs.length = 0
  · simp [h]
  · simp [h]
theorem ZkU {s : List Int} (hs : s.Pairwise (fun a b => a ≤ b)) {k : Nat} (hk : k < s.length) : s.countP (fun y => decide (y < s[k])) ≤ k ∧ k < s.countP (fun y => decide (y ≤ s[k])) := by
  have hsplit : s = s.take k ++ s[k] :: s.drop (k + 1) := by
    rw [List.getElem_cons_drop hk, List.take_append_drop]
  generalize hx : s[k] = x at *
  rw [hsplit] at hs
  obtain ⟨_, h2, h3⟩ := List.pairwise_append.1 hs
  have h4 : ∀ a ∈ s.take k, a ≤ x := fun a ha => h3 a ha x (by simp)
  have h5 : ∀ b ∈ s.drop (k + 1), x ≤ b := fun b hb => (List.pairwise_cons.1 h2).1 b hb
  have hlen : (s.take k).length = k := by simp; omega
  rw [hsplit]
  constructor
  · rw [List.countP_append, List.countP_cons_of_neg (by simp)]
    have : (s.drop (k + 1)).countP (fun y => decide (y < x)) = 0 := List.countP_eq_zero.2 fun b hb => by have := h5 b hb; simp; omega
    have := List.countP_le_length (p := fun y => decide (y < x)) (l := s.take k)
    omega
  · rw [List.countP_append, List.countP_cons_of_pos (by simp)]
    have : (s.take k).countP (fun y => decide (y ≤ x)) = (s.take k).length := List.countP_eq_length.2 fun a ha => by have := h4 a ha; simp; omega
    omega
theorem ZgI {l : List Int} {x : Int} : l.countP (fun y => decide (y ≤ x)) = l.countP (fun y => decide (y < x)) + l.countP (fun y => y == x) := by
  induction l with
  | nil => rfl
  | cons a l ih =>
    simp only [List.countP_cons, ih]
    by_cases h1 : a < x
    · simp [h1, show a ≤ x by omega, show ¬ a = x by omega]; omega
    · by_cases h2 : a = x
      · simp [h2]; omega
      · simp [h1, h2, show ¬ a ≤ x by omega]
theorem Zhl {l : List Int} {x y : Int} (h : x < y) : l.countP (fun z => decide (z ≤ x)) ≤ l.countP (fun z => decide (z < y)) :=
  List.countP_mono_left fun z _ hz => by simp at hz ⊢; omega
def isMid (ys : List Int) (y : Int) : Prop := ys.countP (fun z => decide (z < y)) ≤ ys.length / 2 ∧ ys.length / 2 < ys.countP (fun z => decide (z < y)) + ys.countP (fun z => z == y)
theorem mid_of {ys : List Int} (h : ys ≠ []) : isMid ys ((srt ys).getD (ys.length / 2) 0) ∧ (srt ys).getD (ys.length / 2) 0 ∈ ys := by
  have hl : ys.length / 2 < (srt ys).length := by
    rw [ZgW]
    have : 0 < ys.length := List.length_pos_iff.2 h
    omega
  have e : (srt ys).getD (ys.length / 2) 0 = (srt ys)[ys.length / 2] := by simp only [List.getD, List.getElem?_eq_getElem hl, Option.getD_some]
  rw [e]
  have := ZkU (Zii ys) hl
  rw [(Zhs ys).countP_eq, (Zhs ys).countP_eq, ZgI] at this
  exact ⟨this, (Zhs ys).mem_iff.1 (List.getElem_mem hl)⟩
theorem mid_one {ys : List Int} {x y : Int} (hx : isMid ys x) (hy : isMid ys y) : x = y := by
  obtain ⟨a1, a2⟩ := hx
  obtain ⟨b1, b2⟩ := hy
  rw [← ZgI] at a2 b2
  rcases Int.lt_trichotomy x y with h | h | h
  · have := Zhl (l := ys) h; omega
  · exact h
  · have := Zhl (l := ys) h; omega
theorem mid_M {zs : List Int} {y : Int} (h : zs.take 11 ≠ []) (hy : isMid (zs.take 11) y) : y = M zs := mid_one hy (mid_of h).1
end Go.Dn.F
