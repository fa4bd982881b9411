/- A window of times: what Push, Times and Mid make of it, and the document's last eleven. -/
import Derived.Test.YtgminfbhlipobaaMedOf
set_option linter.unusedSimpArgs false
set_option linter.unusedVariables false
namespace Go.Dn.F
open Go.Proofs

def pu : List Int → List Int → List Int := List.foldl fun l x => x :: l.take 10

theorem take_more (A B : List Int) (n : Nat) : (A ++ B.take n).take n = (A ++ B).take n := by
  rw [List.take_append, List.take_append, List.take_take]
  congr 2
  omega

theorem pu_eq : ∀ (xs l : List Int), l.length ≤ 11 → pu l xs = (xs.reverse ++ l).take 11
  | [], l, h => by rw [List.reverse_nil, List.nil_append, List.take_of_length_le h]; rfl
  | x :: xs, l, h => by
    have e : pu l (x :: xs) = pu (x :: l.take 10) xs := rfl
    have e1 : x :: l.take 10 = (x :: l).take 11 := rfl
    rw [e, pu_eq xs _ (by simp; omega), e1, take_more]
    simp

theorem pu_length (xs l : List Int) (h : l.length ≤ 11) : (pu l xs).length ≤ 11 := by rw [pu_eq xs l h]; simp; omega

theorem set_id {α : Type} {l : List α} {i : Nat} {x : α} (h : l[i]? = some x) : l.set i x = l := by
  obtain ⟨hi, rfl⟩ := List.getElem?_eq_some_iff.1 h
  exact List.set_getElem_self hi

abbrev box (l : List Int) : List L := [L.own true 1 (rowI l)]

theorem push_loop (N : Nat) (xs : List Int) (hx : xs.length ≤ 100) (i : Nat) : ∀ (m j k : Nat) (l : List Int) (st : List (List L)), m + j = xs.length → m < k → l.length ≤ 11 → st[i]? = some (box l) →
    loopN (median_Window_Push.p1 N (rowI xs)) k (some i, (j : Int), st) = some (st.set i (box (pu l (xs.drop j)))) := by
  intro m
  induction m with
  | zero =>
    intro j k l st hj hk hl hs
    obtain ⟨k, rfl⟩ : ∃ l, k = l + 1 := ⟨k - 1, by omega⟩
    rw [loopN_succ]
    unfold median_Window_Push.p1
    simp only [rowI_length]
    rw [if_neg (by simp only [decide_eq_true_eq]; omega), List.drop_eq_nil_of_le (by omega)]
    have e : pu l [] = l := rfl
    rw [e, set_id hs]
  | succ m ih =>
    intro j k l st hj hk hl hs
    obtain ⟨k, rfl⟩ : ∃ l, k = l + 1 := ⟨k - 1, by omega⟩
    rw [loopN_succ]
    have hj' : j < xs.length := by omega
    have hi : i < st.length := by
      obtain ⟨h, _⟩ := List.getElem?_eq_some_iff.1 hs; exact h
    have ih' := ih (j + 1) k (xs[j] :: l.take 10) (st.set i (box (xs[j] :: l.take 10))) (by omega) (by omega) (by simp; omega) (List.getElem?_set_self hi)
    rw [List.set_set] at ih'
    have e : pu l (xs.drop j) = pu (xs[j] :: l.take 10) (xs.drop (j + 1)) := by rw [List.drop_eq_getElem_cons hj']; rfl
    rw [e, ← ih']
    generalize loopN (median_Window_Push.p1 N (rowI xs)) k = G
    unfold median_Window_Push.p1
    have e10 : Int.toNat (if (10 : Int) < ((l.length : Nat) : Int) then 10 else ((l.length : Nat) : Int)) = min l.length 10 := by split <;> omega
    have e11 : l.take (min l.length 10) = l.take 10 := by
      rcases Nat.le_total l.length 10 with h | h
      · rw [Nat.min_eq_left h, List.take_length, List.take_of_length_le h]
      · rw [Nat.min_eq_right h]
    simp only [rowI_length]
    rw [if_pos (by simp only [decide_eq_true_eq]; omega), chk_pos (by omega), rowI_gx (List.getElem?_eq_getElem hj'), optE_some, dec_i64_one, optE_some, hs, optE_some, dec_o1_one]
    simp only [rowI_length, e10, rowI_one, rowI_take, rowI_append, e11]
    rw [chk_pos (by split <;> omega), chk_pos (by omega), chk_pos (by simp), chk_pos (by simp; omega), wrap_i64 (by omega) (by omega)]
    rfl

theorem Push_eq (N : Nat) (xs l : List Int) (st : List (List L)) (i : Nat) (hN : 100 < N) (hx : xs.length ≤ 100) (hl : l.length ≤ 11) (hs : st[i]? = some (box l)) :
    median_Window_Push N (some i) (rowI xs) st = some (st.set i (box (pu l xs))) := by
  unfold median_Window_Push
  rw [if_neg (by simp)]
  have := push_loop N xs hx i xs.length 0 N l st (by omega) (by omega) hl hs
  simpa using this

theorem Push_nil (N : Nat) (xs : List (List L)) (st : List (List L)) : median_Window_Push N none xs st = some st := by
  unfold median_Window_Push
  rw [if_pos (by rfl)]

theorem plain_rowI (l : List Int) : plainRow (rowI l) = true := by simp [plainRow, rowI, L.plain]

theorem Times_eq (N : Nat) (l : List Int) (st : List (List L)) (i : Nat) (hl : l.length ≤ 11) (hs : st[i]? = some (box l)) : median_Window_Times N (some i) st = some (rowI l, st) := by
  unfold median_Window_Times
  rw [if_neg (by simp), optE_some, hs, optE_some, dec_o1_one, slices_Clone_int, chk_pos (by simp; omega), optE_some, chk_pos (plain_rowI l)]

theorem Times_nil (N : Nat) (st : List (List L)) : median_Window_Times N none st = some (rowI [], st) := by
  unfold median_Window_Times
  rw [if_pos (by rfl)]; rfl

theorem Mid_eq (N : Nat) (l : List Int) (st : List (List L)) (i : Nat) (hl : l.length ≤ 11) (hs : st[i]? = some (box l)) : median_Window_Mid N (some i) st = some (M l, st) := by
  unfold median_Window_Mid
  rw [Times_eq N l st i hl hs, optE_some]
  show optE (median_Of N (rowI l)) _ = _
  rw [Of_eq, optE_some]

theorem Mid_nil (N : Nat) (st : List (List L)) : median_Window_Mid N none st = some (0, st) := by
  unfold median_Window_Mid
  rw [Times_nil, optE_some]
  show optE (median_Of N (rowI [])) _ = _
  rw [Of_eq, optE_some]
  simp [M]

theorem one_loop (N : Nat) (l : List Int) (t : Int) (st : List (List L)) (hl : l.length ≤ 11) : ∀ (m j k : Nat), m + j = (t :: l.take 10).length → m < k → 1 ≤ j →
    loopN (Tlaw09_MedianOne.p1 N (rowI l) (rowI (t :: l.take 10)) st) k (j : Int) = some (true, st) := by
  intro m
  induction m with
  | zero =>
    intro j k hj hk h1
    obtain ⟨k, rfl⟩ : ∃ l, k = l + 1 := ⟨k - 1, by omega⟩
    rw [loopN_succ]
    unfold Tlaw09_MedianOne.p1
    simp only [rowI_length]
    rw [if_neg (by simp only [decide_eq_true_eq]; omega)]
  | succ m ih =>
    intro j k hj hk h1
    obtain ⟨k, rfl⟩ : ∃ l, k = l + 1 := ⟨k - 1, by omega⟩
    rw [loopN_succ]
    have ih' := ih (j + 1) k (by omega) (by omega) (by omega)
    generalize loopN (Tlaw09_MedianOne.p1 N (rowI l) (rowI (t :: l.take 10)) st) k = G at ih' ⊢
    unfold Tlaw09_MedianOne.p1
    simp only [rowI_length]
    obtain ⟨j, rfl⟩ : ∃ i, j = i + 1 := ⟨j - 1, by omega⟩
    have hj' : j + 1 < (t :: l.take 10).length := by omega
    have hjl : j < l.length := by simp at hj'; omega
    have hx : (t :: l.take 10)[j + 1]? = some l[j] := by
      rw [List.getElem?_cons_succ, List.getElem?_take, if_pos (by simp at hj'; omega), List.getElem?_eq_getElem hjl]
    rw [if_pos (by simp only [decide_eq_true_eq]; omega), chk_pos (by omega), Nat.zero_add, rowI_gx hx, optE_some, dec_i64_one, wrap_i64 (by omega) (by omega), chk_pos (by omega), chk_pos (by omega)]
    have e : ((j + 1 : Nat) : Int) - 1 = ((j : Nat) : Int) := by omega
    rw [e, Nat.zero_add, rowI_gx (List.getElem?_eq_getElem hjl), optE_some, dec_i64_one, if_neg (by simp), wrap_i64 (by omega) (by omega)]
    exact ih'

theorem MedianOne_true (a0 : List Int) (a1 : Int) (w0 : ∀ n ∈ a0, (Lit.int .i64 n).wf = true) (l0 : a0.length ≤ maxLen) (w1 : (Lit.int .i64 a1).wf = true) :
    ∃ st', Snd Try.prog 8 [.one (.sl 1 (rowI a0)), .one (.int .i64 a1)] [] [.one (.bool true)] st' := by
  suffices h : ∃ st', Tlaw09_MedianOne 1000 (rowI a0) a1 [] = some (true, st') from h.elim fun st' h => ⟨_, Tlaw09_MedianOne.snd h⟩
  unfold Tlaw09_MedianOne
  rw [alive_eq, optE_some, if_neg (by simp)]
  simp only [rowI_length, List.length_nil, List.nil_append]
  by_cases h1 : (a0.length : Int) > 60
  · rw [if_pos (by simpa using h1)]; exact ⟨_, rfl⟩
  rw [if_neg (by simpa using h1)]
  have p1 := Push_eq 1000 a0 [] [[L.own true 1 []]] 0 (by omega) (by omega) (by simp) rfl
  have hl := pu_length a0 [] (by simp)
  rw [p1, optE_some]
  simp only [List.set_cons_zero]
  rw [Times_eq 1000 (pu [] a0) _ 0 hl rfl, optE_some]
  show ∃ st', chk (1 ≤ (List.length [[L.int .i64 a1]])) _ = _
  rw [chk_pos (by simp), rowI_one, rowI_take]
  have p2 := Push_eq 1000 ([a1].take 1) (pu [] a0) [box (pu [] a0)] 0 (by omega) (by simp) hl rfl
  rw [p2, optE_some]
  simp only [List.set_cons_zero]
  have e : pu (pu [] a0) ([a1].take 1) = a1 :: (pu [] a0).take 10 := rfl
  rw [e, Times_eq 1000 (a1 :: (pu [] a0).take 10) _ 0 (by simp; omega) rfl, optE_some]
  show ∃ st', (if _ = true then _ else _) = _
  simp only [rowI_length]
  have e2 : IntKind.wrap .i64 (((pu [] a0).length : Int) + 1) = ((pu [] a0).length : Int) + 1 := wrap_i64 (by omega) (by omega)
  rw [e2, if_neg (by simp; split <;> omega), chk_pos (by simp)]
  have hg : (rowI (a1 :: (pu [] a0).take 10))[0]? = some [L.int .i64 a1] := rfl
  rw [hg, optE_some, dec_i64_one, if_neg (by simp)]
  exact ⟨_, one_loop 1000 (pu [] a0) a1 _ hl ((a1 :: (pu [] a0).take 10).length - 1) 1 1000 (by simp) (by simp; omega) (by omega)⟩

theorem last_loop (N : Nat) (zs : List Int) (hz : zs.length ≤ 60) : ∀ (m j k : Nat), m + j = zs.length → m < k → 
    loopN (Tref09_Last.p1 N (rowI zs)) k (rowI (zs.reverse.take (min j 11)), (m : Int) - 1) = some (rowI (zs.reverse.take 11)) := by
  intro m
  induction m with
  | zero =>
    intro j k hj hk
    obtain ⟨k, rfl⟩ : ∃ l, k = l + 1 := ⟨k - 1, by omega⟩
    rw [loopN_succ]
    unfold Tref09_Last.p1
    dsimp only
    rw [if_neg (by simp)]
    congr 2
    rcases Nat.le_total j 11 with h | h
    · rw [Nat.min_eq_left h, List.take_of_length_le (by simp; omega), List.take_of_length_le (by simp; omega)]
    · rw [Nat.min_eq_right h]
  | succ m ih =>
    intro j k hj hk
    obtain ⟨k, rfl⟩ : ∃ l, k = l + 1 := ⟨k - 1, by omega⟩
    rw [loopN_succ]
    by_cases h11 : j < 11
    · have ih' := ih (j + 1) k (by omega) (by omega)
      generalize loopN (Tref09_Last.p1 N (rowI zs)) k = G at ih' ⊢
      unfold Tref09_Last.p1
      have e : ((m + 1 : Nat) : Int) - 1 = ((m : Nat) : Int) := by omega
      have hm : m < zs.length := by omega
      rw [e]
      simp only [rowI_length, Nat.min_eq_left (show j ≤ 11 by omega)]
      have hlen : (zs.reverse.take j).length = j := by simp; omega
      rw [if_pos (by simp), if_pos (by simp only [decide_eq_true_eq]; omega), chk_pos (by omega), chk_pos (by omega), rowI_gx (List.getElem?_eq_getElem hm), optE_some, dec_i64_one, rowI_one, rowI_take, rowI_append, chk_pos (by simp), chk_pos (by simp; omega), wrap_i64 (by omega) (by omega)]
      have t : zs.reverse.take j ++ List.take 1 [zs[m]] = zs.reverse.take (j + 1) := by
        have hj' : j < zs.reverse.length := by simp; omega
        rw [List.take_succ_eq_append_getElem hj', List.getElem_reverse]
        have : zs.length - 1 - j = m := by omega
        simp [this]
      rw [t]
      rw [Nat.min_eq_left (show j + 1 ≤ 11 by omega)] at ih'
      exact ih'
    · generalize loopN (Tref09_Last.p1 N (rowI zs)) k = G
      unfold Tref09_Last.p1
      have hlen : (zs.reverse.take 11).length = 11 := by simp; omega
      simp only [rowI_length, Nat.min_eq_right (show 11 ≤ j by omega)]
      rw [if_pos (by simp), if_neg (by simp only [decide_eq_true_eq]; omega)]

theorem Last_eq (N : Nat) (zs : List Int) (hz : zs.length ≤ 60) (hN : 60 < N) : Tref09_Last N (rowI zs) = some (rowI (zs.reverse.take 11)) := by
  have := last_loop N zs hz zs.length 0 N (by omega) (by omega)
  unfold Tref09_Last
  rw [rowI_length, wrap_i64 (by omega) (by omega)]
  exact this

theorem win_loop (N : Nat) (hN : 100 < N) (l : List Int) (st : List (List L)) (hl : l.length ≤ 11) (h0 : st[0]? = some (box l)) : ∀ (m j k : Nat), m + j = l.length → m < k →
    loopN (Tlaw09_MedianWindow.p1 N [] (rowI l) (rowI l) (rowI l) st) k (j : Int) = some (true, st) := by
  intro m
  induction m with
  | zero =>
    intro j k hj hk
    obtain ⟨k, rfl⟩ : ∃ l, k = l + 1 := ⟨k - 1, by omega⟩
    rw [loopN_succ]
    unfold Tlaw09_MedianWindow.p1
    simp only [rowI_length]
    rw [if_neg (by simp only [decide_eq_true_eq]; omega), chk_pos (by simp), Push_nil, optE_some]
    simp only [List.length_nil]
    rw [Mid_eq N l st 0 hl h0, optE_some]
    show optE (Tref09_Of N (rowI l)) _ = _
    rw [Ref_eq N (by omega), optE_some, if_pos (by simp), Mid_nil, optE_some]
    show (if _ = true then _ else _) = _
    rw [if_pos (by rfl), Times_nil, optE_some]
    rfl
  | succ m ih =>
    intro j k hj hk
    obtain ⟨k, rfl⟩ : ∃ l, k = l + 1 := ⟨k - 1, by omega⟩
    rw [loopN_succ]
    have ih' := ih (j + 1) k (by omega) (by omega)
    generalize loopN (Tlaw09_MedianWindow.p1 N [] (rowI l) (rowI l) (rowI l) st) k = G at ih' ⊢
    unfold Tlaw09_MedianWindow.p1
    simp only [rowI_length]
    have hj' : j < l.length := by omega
    rw [if_pos (by simp only [decide_eq_true_eq]; omega), chk_pos (by omega), chk_pos (by omega), Nat.zero_add, rowI_gx (List.getElem?_eq_getElem hj'), optE_some, dec_i64_one, optE_some, dec_i64_one, if_neg (by simp), chk_pos (by omega), optE_some, dec_i64_one, if_neg (by simp), wrap_i64 (by omega) (by omega)]
    exact ih'

theorem MedianWindow_true (a0 : List Int) (a1 : Int) (w0 : ∀ n ∈ a0, (Lit.int .i64 n).wf = true) (l0 : a0.length ≤ maxLen) (w1 : (Lit.int .i64 a1).wf = true) :
    ∃ st', Snd Try.prog 9 [.one (.sl 1 (rowI a0)), .one (.int .i64 a1)] [] [.one (.bool true)] st' := by
  suffices h : ∃ st', Tlaw09_MedianWindow 1000 (rowI a0) a1 [] = some (true, st') from h.elim fun st' h => ⟨_, Tlaw09_MedianWindow.snd h⟩
  unfold Tlaw09_MedianWindow
  rw [alive_eq, optE_some, if_neg (by simp)]
  simp only [rowI_length, List.length_nil, List.nil_append]
  by_cases h1 : (a0.length : Int) > 60
  · rw [if_pos (by simpa using h1)]; exact ⟨_, rfl⟩
  rw [if_neg (by simpa using h1)]
  by_cases h2 : a1 < 0
  · rw [if_pos (by simpa using h2)]; exact ⟨_, rfl⟩
  rw [if_neg (by simpa using h2)]
  by_cases h3 : a1 > (a0.length : Int)
  · rw [if_pos (by simpa using h3)]; exact ⟨_, rfl⟩
  rw [if_neg (by simpa using h3)]
  have hl : ∀ xs : List Int, (pu [] xs).length ≤ 11 := fun xs => pu_length xs [] (by simp)
  have hw : pu [] a0 = a0.reverse.take 11 := by rw [pu_eq a0 [] (by simp), List.append_nil]
  have p1 := Push_eq 1000 a0 [] [box [], box []] 0 (by omega) (by omega) (by simp) rfl
  have p2 := Push_eq 1000 (a0.take a1.toNat) [] [box (pu [] a0), box []] 1 (by omega) (by simp; omega) (by simp) rfl
  have p3 := Push_eq 1000 ((a0.drop a1.toNat).take (a0.length - a1.toNat)) (pu [] (a0.take a1.toNat)) [box (pu [] a0), box (pu [] (a0.take a1.toNat))] 1 (by omega) (by simp; omega) (hl _) rfl
  have e3 : pu (pu [] (a0.take a1.toNat)) ((a0.drop a1.toNat).take (a0.length - a1.toNat)) = pu [] a0 := by
    rw [List.take_of_length_le (l := a0.drop a1.toNat) (by simp)]
    show List.foldl _ (List.foldl _ _ _) _ = List.foldl _ _ _
    rw [← List.foldl_append, List.take_append_drop]
  rw [e3] at p3
  show ∃ st', optE (median_Window_Push 1000 (some 0) (rowI a0) [box [], box []]) _ = _
  rw [p1, optE_some]
  simp only [List.set_cons_zero, List.drop_zero, rowI_take, rowI_drop]
  rw [chk_pos (by omega), chk_pos (by omega)]
  show ∃ st', optE (median_Window_Push 1000 (some 1) (rowI (a0.take a1.toNat)) [box (pu [] a0), box []]) _ = _
  rw [p2, optE_some]
  simp only [List.set_cons_zero, List.set_cons_succ]
  show ∃ st', optE (median_Window_Push 1000 (some 1) _ [box (pu [] a0), box (pu [] (a0.take a1.toNat))]) _ = _
  rw [p3, optE_some, Last_eq 1000 a0 (by omega) (by omega), optE_some, ← hw]
  simp only [List.set_cons_zero, List.set_cons_succ]
  rw [Times_eq 1000 (pu [] a0) [box (pu [] a0), box (pu [] a0)] 0 (hl _) rfl, optE_some]
  show ∃ st', optE (median_Window_Times 1000 (some 1) _) _ = _
  rw [Times_eq 1000 (pu [] a0) [box (pu [] a0), box (pu [] a0)] 1 (hl _) rfl, optE_some]
  show ∃ st', (if _ = true then _ else _) = _
  rw [if_neg (by simp), if_neg (by simp)]
  exact ⟨_, win_loop 1000 (by omega) (pu [] a0) _ (hl _) rfl (pu [] a0).length 0 1000 (by omega) (by have := hl a0; omega)⟩
end Go.Dn.F
