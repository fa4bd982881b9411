/- The document's board, as a function of peers and a row. -/
import Derived.Test.YtgminfbhlipobaaDoorScoApart
set_option linter.unusedSimpArgs false
set_option linter.unusedVariables false
namespace Go.Dn.F
open Go.Proofs

abbrev refB (es : List (Int × Int)) (row : List Int) : List L := [L.own true 1 (rowI (es.map (·.1))), L.own true 1 (rowI (es.map (·.2))), L.own true 1 (rowI row)]
@[simp] theorem obj_ref {α : Type} (a b c : List (List L)) (k : List (List L) → List (List L) → List (List L) → Option α) : obj_trailheadref20_Board [L.own true 1 a, L.own true 1 b, L.own true 1 c] k = k a b c := rfl
def RepM (x : List L) (f : Int → Int) (row : List Int) (n : Nat) : Prop := ∃ es, x = refB es row ∧ ND es ∧ es.length ≤ n ∧ ∀ k, sm es k = f k

theorem fi_first : ∀ {es : List (Int × Int)} {p : Int} (j : Nat), (∀ (x : Nat) (h : x < es.length), x < j → (es[x]).1 ≠ p) → (h : j < es.length) → (es[j]).1 = p → fi es p = some (j, (es[j]).2)
  | (k, v) :: es, p, 0, _, _, he => by simp only [List.getElem_cons_zero] at he ⊢; subst he; simp [fi]
  | (k, v) :: es, p, j + 1, hno, h, he => by
    have h0 : k ≠ p := hno 0 (by simp) (by omega)
    have := fi_first (es := es) (p := p) j (fun x hx hxj => hno (x + 1) (Nat.succ_lt_succ hx) (by omega)) (by simpa using h) (by simpa using he)
    simp only [fi, if_neg (Ne.symm h0), this, Option.map_some, List.getElem_cons_succ]

theorem at_loop (N : Nat) (es : List (Int × Int)) (row : List Int) (p : Int) (i : Nat) (st : List (List L)) (hs : st[i]? = some (refB es row)) (hl : es.length ≤ 1000) : ∀ (m j k : Nat), m + j = es.length → m < k → (∀ (x : Nat) (h : x < es.length), x < j → (es[x]).1 ≠ p) →
    loopN (Tref20_Board_at.p1 N p i (rowI (es.map (·.1))) st) k (j : Int) = some (match fi es p with | some (r, _) => (r : Int) | none => -1, st) := by
  intro m
  induction m with
  | zero =>
    intro j k hj hk hno
    obtain ⟨k, rfl⟩ : ∃ q, k = q + 1 := ⟨k - 1, by omega⟩
    rw [loopN_succ]
    unfold Tref20_Board_at.p1
    rw [if_neg (by simp; omega)]
    have : fi es p = none := fi_mem fun h => by
      obtain ⟨a, ha, e⟩ := List.mem_map.1 h
      obtain ⟨x, hx, rfl⟩ := List.getElem_of_mem ha
      exact hno x hx (by omega) e
    rw [this]
  | succ m ih =>
    intro j k hj hk hno
    obtain ⟨k, rfl⟩ : ∃ q, k = q + 1 := ⟨k - 1, by omega⟩
    have hj' : j < es.length := by omega
    rw [loopN_succ]
    have hg : (es.map (·.1))[j]? = some (es[j]).1 := by rw [List.getElem?_map, List.getElem?_eq_getElem hj']; rfl
    have ih' := ih (j + 1) k (by omega) (by omega)
    generalize loopN (Tref20_Board_at.p1 N p i (rowI (es.map (·.1))) st) k = G at ih' ⊢
    unfold Tref20_Board_at.p1
    rw [if_pos (by simp; omega), chk_pos (by omega), hs, optE_some, obj_ref, Nat.zero_add, rowI_gx hg, optE_some, dec_i64_one]
    by_cases e : (es[j]).1 = p
    · rw [if_pos (by simp [e]), fi_first j hno hj' e]
    · rw [if_neg (by simpa using e), wrap_i64 (by omega) (by omega)]
      exact ih' fun x hx hxj => by
        by_cases ex : x = j
        · subst ex; exact e
        · exact hno x hx (by omega)

theorem at_eq (N : Nat) (hN : 1000 < N) (es : List (Int × Int)) (row : List Int) (p : Int) (i : Nat) (st : List (List L)) (hs : st[i]? = some (refB es row)) (hl : es.length ≤ 1000) :
    Tref20_Board_at N (some i) p st = some (match fi es p with | some (r, _) => (r : Int) | none => -1, st) := by
  unfold Tref20_Board_at
  rw [optE_some, hs, optE_some, obj_ref]
  exact at_loop N es row p i st hs hl es.length 0 N (by omega) (by omega) (fun x _ h => by omega)

theorem refPoints_eq (N : Nat) (x : Int) (h0 : -9223372036854775808 ≤ x) (h1 : x < 9223372036854775808) : Tref20_Points N x = some (pt x) := by
  unfold Tref20_Points pt
  by_cases a : x < 1
  · rw [if_pos (by simpa using a), if_neg (by omega)]
  rw [if_neg (by simpa using a)]
  by_cases b : x > 7
  · rw [if_pos (by simpa using b), if_neg (by omega)]
  rw [if_neg (by simpa using b), if_pos (by omega), wrap_i64 (by omega) (by omega), chk_pos (by omega), chk_pos (by omega)]
  have : x = 1 ∨ x = 2 ∨ x = 3 ∨ x = 4 ∨ x = 5 ∨ x = 6 ∨ x = 7 := by omega
  rcases this with rfl | rfl | rfl | rfl | rfl | rfl | rfl <;> rfl

section
variable {N : Nat} {st : List (List L)} {i : Nat} {x : List L} {f : Int → Int} {row : List Int} {p : Int} {n : Nat}

theorem refSum_eq (hN : 1000 < N) (hs : st[i]? = some x) (h : RepM x f row n) (hn : n ≤ 1000) : Tref20_Board_Sum N (some i) p st = some (f p, st) := by
  obtain ⟨es, rfl, _, h1, h2⟩ := h
  have h3 := h2 p
  unfold Tref20_Board_Sum
  rw [at_eq N hN es row p i st hs (by omega), optE_some]
  simp only [sm] at h3
  cases hf : fi es p with
  | none => rw [hf] at h3; simp at h3 ⊢; exact h3
  | some r =>
    obtain ⟨j, v⟩ := r
    rw [hf] at h3
    simp at h3
    have hj := fi_at hf
    have hjl := idx_of hj
    have hg : (es.map (·.2))[j]? = some v := by rw [List.getElem?_map, hj]; rfl
    dsimp only
    rw [if_neg (by simp), optE_some, hs, optE_some, obj_ref, chk_pos (by omega), chk_pos (by simp; omega), Nat.zero_add, rowI_gx hg, optE_some, dec_i64_one, h3]

theorem refShuns_loop (N : Nat) (es : List (Int × Int)) (row : List Int) (p : Int) (i : Nat) (st : List (List L)) (hs : st[i]? = some (refB es row)) (hl : row.length ≤ 1000) : ∀ (m j k : Nat), m + j = row.length → m < k → (∀ (x : Nat) (h : x < row.length), x < j → row[x] ≠ p) →
    loopN (Tref20_Board_Shuns.p1 N p i (rowI row) st) k (j : Int) = some (row.contains p, st) := by
  intro m
  induction m with
  | zero =>
    intro j k hj hk hno
    obtain ⟨k, rfl⟩ : ∃ q, k = q + 1 := ⟨k - 1, by omega⟩
    rw [loopN_succ]
    unfold Tref20_Board_Shuns.p1
    rw [if_neg (by simp; omega)]
    have : p ∉ row := fun h => by
      obtain ⟨x, hx, e⟩ := List.getElem_of_mem h
      exact hno x hx (by omega) e
    simp [this]
  | succ m ih =>
    intro j k hj hk hno
    obtain ⟨k, rfl⟩ : ∃ q, k = q + 1 := ⟨k - 1, by omega⟩
    have hj' : j < row.length := by omega
    rw [loopN_succ]
    have ih' := ih (j + 1) k (by omega) (by omega)
    generalize loopN (Tref20_Board_Shuns.p1 N p i (rowI row) st) k = G at ih' ⊢
    unfold Tref20_Board_Shuns.p1
    rw [if_pos (by simp; omega), chk_pos (by omega), hs, optE_some, obj_ref, Nat.zero_add, rowI_gx (List.getElem?_eq_getElem hj'), optE_some, dec_i64_one]
    by_cases e : row[j] = p
    · rw [if_pos (by simp [e])]
      have : p ∈ row := e ▸ List.getElem_mem hj'
      simp [this]
    · rw [if_neg (by simpa using e), wrap_i64 (by omega) (by omega)]
      exact ih' fun x hx hxj => by
        by_cases ex : x = j
        · subst ex; exact e
        · exact hno x hx (by omega)

theorem refShuns_eq (hN : 1000 < N) (hs : st[i]? = some x) (h : RepM x f row n) (hr : row.length ≤ 1000) : Tref20_Board_Shuns N (some i) p st = some (row.contains p, st) := by
  obtain ⟨es, rfl, _, h1, h2⟩ := h
  unfold Tref20_Board_Shuns
  rw [optE_some, hs, optE_some, obj_ref]
  exact refShuns_loop N es row p i st hs hr row.length 0 N (by omega) (by omega) (fun x _ h => by omega)

theorem set_refB {es : List (Int × Int)} {j : Nat} {v u : Int} (hf : fi es p = some (j, v)) : [L.own true 1 (rowI (es.map (·.1))), L.own true 1 ((rowI (es.map (·.2))).set j [L.int .i64 u]), L.own true 1 (rowI row)] = refB (es.set j (p, u)) row := by
  have hj := fi_at hf
  have e1 : (es.set j (p, u)).map (·.1) = es.map (·.1) := by
    rw [List.map_set]
    refine set_id ?_
    rw [List.getElem?_map, hj]; rfl
  have e2 : (es.set j (p, u)).map (·.2) = (es.map (·.2)).set j u := by rw [List.map_set]
  rw [rowI_set]
  unfold refB
  rw [e1, e2]

theorem refForget_eq (hN : 1000 < N) (hs : st[i]? = some x) (h : RepM x f row n) (hn : n ≤ 1000) : ∃ x', Tref20_Board_Forget N (some i) p st = some (st.set i x') ∧ RepM x' (upd f p 0) row n := by
  obtain ⟨es, rfl, hnd, h1, h2⟩ := h
  unfold Tref20_Board_Forget
  rw [at_eq N hN es row p i st hs (by omega), optE_some]
  cases hf : fi es p with
  | none =>
    refine ⟨refB es row, ?_, es, rfl, hnd, h1, fun k => ?_⟩
    · dsimp only
      rw [if_neg (by simp), set_id hs]
    · unfold upd
      split
      · rename_i e; subst e; simp [sm, hf]
      · exact h2 k
  | some r =>
    obtain ⟨j, v⟩ := r
    have hj := fi_at hf
    have hjl := idx_of hj
    refine ⟨refB (es.set j (p, 0)) row, ?_, es.set j (p, 0), rfl, nd_set hnd hf, by simpa using h1, fun k => ?_⟩
    · dsimp only
      rw [if_pos (by simp), optE_some, hs, optE_some, obj_ref, chk_pos (by omega), chk_pos (by simp; omega), Nat.zero_add, Int.toNat_natCast, set_refB hf]
    · simp only [sm, fi_set hf, upd]
      split
      · rfl
      · exact h2 k

theorem ref_p5 (hN : 1000 < N) (hs : st[i]? = some x) (h : RepM x f row n) (hr : row.length ≤ 1000) : Tref20_Board_Blame.p5 N i p st = some (row.contains p, st) := by
  unfold Tref20_Board_Blame.p5
  rw [refShuns_eq hN hs h hr]
  rfl

/-- The row's rounds: who isn't the peer stays. -/
theorem ref_p3 (N : Nat) (hN : 1000 < N) (es : List (Int × Int)) (row : List Int) (p v u : Int) (i j : Nat) (st : List (List L)) (hi : i < st.length) (hf : fi es p = some (j, v)) (hr : row.length ≤ 16) (hnd : ND es) (r : Bool × List (List L))
    (hfin : Tref20_Board_Blame.p5 N i p (st.set i (refB (es.set j (p, 0)) (trim (wo p row ++ [p])))) = some r) : ∀ (m a k : Nat), m + a = row.length → m < k →
    loopN (Tref20_Board_Blame.p3 N i p (rowI row) st (rowI (es.map (·.1))) (rowI (es.map (·.2))) (j : Int) v u) k (rowI (wo p (row.take a)), (a : Int)) = some r := by
  have hj := fi_at hf
  have e1 : (es.set j (p, 0)).map (·.1) = es.map (·.1) := by
    rw [List.map_set]
    refine set_id ?_
    rw [List.getElem?_map, hj]; rfl
  have e2 : ∀ y : Int, (((rowI (es.map (·.2))).set (0 + Int.toNat (j : Int)) [L.int .i64 y]).set (0 + Int.toNat (j : Int)) [L.int .i64 0]) = rowI ((es.set j (p, 0)).map (·.2)) := fun y => by
    rw [List.set_set, Nat.zero_add, Int.toNat_natCast, rowI_set, List.map_set]
  have hat : ∀ A : List L, (List.set (List.set st i A) i [L.own true 1 (rowI (es.map (·.1))), L.own true 1 (rowI ((es.set j (p, 0)).map (·.2))), L.own true 1 (rowI row)])[i]? = some [L.own true 1 (rowI (es.map (·.1))), L.own true 1 (rowI ((es.set j (p, 0)).map (·.2))), L.own true 1 (rowI row)] := fun A => by
    rw [List.set_set]; exact List.getElem?_set_self hi
  intro m
  induction m with
  | zero =>
    intro a k ha hk
    obtain ⟨k, rfl⟩ : ∃ q, k = q + 1 := ⟨k - 1, by omega⟩
    rw [loopN_succ]
    unfold Tref20_Board_Blame.p3
    dsimp only
    have hw := wo_length p row
    rw [if_neg (by simp; omega), List.take_of_length_le (by omega)]
    have et : rowI (wo p row) ++ List.take 1 [[L.int .i64 p]] = rowI (wo p row ++ [p]) := by rw [rowI_one, rowI_take, rowI_append]; rfl
    rw [et, e2, hat]
    have hlen : (wo p row ++ [p]).length = (wo p row).length + 1 := by simp
    have eq1 : Int.toNat (if (0 : Int) > (IntKind.wrap IntKind.i64 (((rowI (wo p row ++ [p])).length : Int) - 16)) then 0 else (IntKind.wrap IntKind.i64 (((rowI (wo p row ++ [p])).length : Int) - 16))) = (wo p row ++ [p]).length - 16 := by
      rw [rowI_length, wrap_i64 (by omega) (by omega)]
      split <;> omega
    rw [eq1, chk_pos (by simp), chk_pos (by rw [rowI_length]; omega), chk_pos (by split <;> omega), chk_pos (by rw [rowI_length]; omega), optE_some, obj_ref, chk_pos (by rw [rowI_length]; omega)]
    have eq2 : List.take ((rowI (wo p row ++ [p])).length - ((wo p row ++ [p]).length - 16)) (List.drop (0 + ((wo p row ++ [p]).length - 16)) (rowI (wo p row ++ [p]))) = rowI (trim (wo p row ++ [p])) := by
      rw [Nat.zero_add, rowI_drop, rowI_take, List.take_of_length_le (by simp)]
      congr 1
      unfold trim
      split
      · rename_i h
        rw [show (wo p row ++ [p]).length - 16 = 1 by omega]
      · rename_i h
        rw [show (wo p row ++ [p]).length - 16 = 0 by omega, List.drop_zero]
    rw [eq2, List.set_set, List.set_set]
    unfold refB at hfin
    rw [e1] at hfin
    exact hfin
  | succ m ih =>
    intro a k ha hk
    obtain ⟨k, rfl⟩ : ∃ q, k = q + 1 := ⟨k - 1, by omega⟩
    have ha' : a < row.length := by omega
    have ih' := ih (a + 1) k (by omega) (by omega)
    rw [loopN_succ]
    generalize loopN (Tref20_Board_Blame.p3 N i p (rowI row) st (rowI (es.map (·.1))) (rowI (es.map (·.2))) (j : Int) v u) k = G at ih' ⊢
    unfold Tref20_Board_Blame.p3 Tref20_Board_Blame.p4
    dsimp only
    have hw := wo_length p (row.take a)
    have hta : (row.take a).length = a := by simp; omega
    rw [if_pos (by simp; omega), chk_pos (by omega), e2, hat, optE_some, obj_ref, Nat.zero_add, rowI_gx (List.getElem?_eq_getElem ha'), optE_some, dec_i64_one, wrap_i64 (by omega) (by omega)]
    rw [List.take_succ_eq_append_getElem ha'] at ih'
    by_cases e : row[a] = p
    · rw [if_neg (by simp [e])]
      have : wo p (row.take a ++ [row[a]]) = wo p (row.take a) := by unfold wo; rw [List.filter_append]; simp [e]
      rw [this] at ih'
      exact ih'
    · rw [if_pos (by simpa using e), chk_pos (by simp), rowI_one, rowI_take, rowI_append, chk_pos (by rw [rowI_length]; simp; omega)]
      have : wo p (row.take a ++ [row[a]]) = wo p (row.take a) ++ [row[a]].take 1 := by unfold wo; rw [List.filter_append]; simp [e]
      rw [this] at ih'
      exact ih'

theorem ref_p2 (hN : 1000 < N) {es : List (Int × Int)} {j : Nat} {v : Int} (hs : st[i]? = some (refB es row)) (hnd : ND es) (hl : es.length ≤ 1000) (hf : fi es p = some (j, v)) (hr : row.length ≤ 16) {f : Int → Int} (h2 : ∀ k, k ≠ p → sm es k = f k) (hv : v = f p) (hv0 : 0 ≤ v ∧ v ≤ 90000) {q : Int} (hq : 0 < q ∧ q ≤ 10000) :
    ∃ x', Tref20_Board_Blame.p2 N (some i) p q st = some ((newR f row p q).contains p, st.set i x') ∧ RepM x' (newF f p q) (newR f row p q) es.length := by
  have hi := idx_of hs
  have hj := fi_at hf
  have hjl := idx_of hj
  have hg : (es.map (·.2))[j]? = some v := by rw [List.getElem?_map, hj]; rfl
  have hS : newS f p q = v + q := by unfold newS; rw [← hv, if_neg (by omega)]
  have hq0 : ¬ q = 0 := by omega
  have hset : ∀ u : Int, RepM (refB (es.set j (p, u)) row) (upd f p u) row es.length := fun u => ⟨_, rfl, nd_set hnd hf, by simp, fun k => by
    simp only [sm, fi_set hf, upd]
    split
    · rfl
    · rename_i e; exact h2 k e⟩
  have hset2 : ∀ u : Int, RepM (refB (es.set j (p, u)) (trim (wo p row ++ [p]))) (upd f p u) (trim (wo p row ++ [p])) es.length := fun u => ⟨_, rfl, nd_set hnd hf, by simp, fun k => by
    simp only [sm, fi_set hf, upd]
    split
    · rfl
    · rename_i e; exact h2 k e⟩
  have hlw := wo_length p row
  have hlt : (trim (wo p row ++ [p])).length ≤ 1000 := by unfold trim; split <;> (simp at *; omega)
  unfold Tref20_Board_Blame.p2
  rw [at_eq N hN es row p i st hs hl, hf, optE_some]
  dsimp only
  have eset : (rowI (es.map (·.2))).set (0 + Int.toNat (j : Int)) [L.int .i64 (v + q)] = rowI ((es.map (·.2)).set j (v + q)) := by rw [Nat.zero_add, Int.toNat_natCast, rowI_set]
  have hg2 : ((es.map (·.2)).set j (v + q))[j]? = some (v + q) := List.getElem?_set_self (by simpa using hjl)
  rw [optE_some, hs, optE_some, obj_ref, chk_pos (by omega), chk_pos (by simp; omega)]
  have hg' : (rowI (es.map (·.2)))[0 + Int.toNat (j : Int)]? = some [L.int .i64 v] := by rw [Nat.zero_add]; exact rowI_gx hg
  rw [hg', optE_some, dec_i64_one, wrap_i64 (by omega) (by omega), eset, chk_pos (by simp; omega)]
  have hg2' : (rowI ((es.map (·.2)).set j (v + q)))[0 + Int.toNat (j : Int)]? = some [L.int .i64 (v + q)] := by rw [Nat.zero_add]; exact rowI_gx hg2
  rw [hg2', optE_some, dec_i64_one]
  by_cases h100 : v + q ≥ 100
  · have eR : newR f row p q = trim (wo p row ++ [p]) := by unfold newR; rw [if_neg hq0, hS, if_pos h100]
    have eF : newF f p q = upd f p 0 := by unfold newF; rw [if_neg hq0, hS, if_pos h100]
    rw [if_pos (by simpa using h100), eR, eF]
    have fin := ref_p5 (p := p) hN (List.getElem?_set_self hi : (st.set i (refB (es.set j (p, 0)) (trim (wo p row ++ [p]))))[i]? = _) (hset2 0) hlt
    exact ⟨_, ref_p3 N hN es row p v q i j st hi hf hr hnd _ fin row.length 0 N (by omega) (by omega), hset2 0⟩
  · have eR : newR f row p q = row := by unfold newR; rw [if_neg hq0, hS, if_neg h100]
    have eF : newF f p q = upd f p (v + q) := by unfold newF; rw [if_neg hq0, hS, if_neg h100]
    rw [if_neg (by simpa using h100), eR, eF]
    have hB : [L.own true 1 (rowI (es.map (·.1))), L.own true 1 (rowI ((es.map (·.2)).set j (v + q))), L.own true 1 (rowI row)] = refB (es.set j (p, v + q)) row := by
      have := set_refB (row := row) (u := v + q) hf
      rwa [rowI_set] at this
    rw [hB]
    exact ⟨_, ref_p5 hN (List.getElem?_set_self hi) (hset (v + q)) (by omega), hset (v + q)⟩

theorem refBlame_end (hN : 1000 < N) (hs : st[i]? = some x) (h : RepM x f row n) (hn : n ≤ 500) (hr : row.length ≤ 16) (hf0 : 0 ≤ f p ∧ f p ≤ 90000) (l : List (List L)) (c : Int × Int → Option (Bool × List (List L))) {q : Int} (hq : 0 ≤ q ∧ q ≤ 10000) (j : Nat) (hj : l.length ≤ j) :
    ∃ x', Tref20_Board_Blame.p1 N (some i) p l st c (q, (j : Int)) = some ((newR f row p q).contains p, st.set i x') ∧ RepM x' (newF f p q) (newR f row p q) (n + 1) := by
  have hi := idx_of hs
  have hR := h
  obtain ⟨es, rfl, hnd, h1, h2⟩ := h
  unfold Tref20_Board_Blame.p1
  dsimp only
  rw [if_neg (by simp; omega)]
  by_cases hq0 : q = 0
  · subst hq0
    rw [if_pos (by rfl), refShuns_eq hN hs hR (by omega), optE_some]
    refine ⟨refB es row, ?_, es, ?_, hnd, by omega, fun k => ?_⟩
    · rw [set_id hs]; simp [newR]
    · simp [newR]
    · simp [newF, h2]
  rw [if_neg (by simpa using hq0), at_eq N hN es row p i st hs (by omega), optE_some]
  have weak : ∀ {x' f' row'} {m : Nat}, m ≤ n + 1 → RepM x' f' row' m → RepM x' f' row' (n + 1) := fun hm ⟨es, a, b, c, d⟩ => ⟨es, a, b, by omega, d⟩
  cases hf : fi es p with
  | some r =>
    obtain ⟨k, v⟩ := r
    have hv : v = f p := by rw [← h2 p]; simp [sm, hf]
    obtain ⟨x', a1, a2⟩ := ref_p2 (p := p) (f := f) hN hs hnd (by omega) hf hr (fun k _ => h2 k) hv (by rw [hv]; exact hf0) (q := q) (by omega)
    dsimp only
    rw [if_neg (by simp)]
    exact ⟨x', a1, weak (by omega) a2⟩
  | none =>
    have hv : f p = 0 := by rw [← h2 p]; simp [sm, hf]
    dsimp only
    rw [if_pos (by simp), optE_some, hs, optE_some, obj_ref, chk_pos (by simp), rowI_one, rowI_one, rowI_take, rowI_take, rowI_append, rowI_append, rowI_length, rowI_length, chk_pos (by simp; omega), chk_pos (by simp), chk_pos (by simp; omega)]
    simp only [List.set_set]
    have hB : [L.own true 1 (rowI (es.map (·.1) ++ [p].take 1)), L.own true 1 (rowI (es.map (·.2) ++ ([0] : List Int).take 1)), L.own true 1 (rowI row)] = refB (es ++ [(p, 0)]) row := by simp [refB]
    rw [hB]
    have hf2 : fi (es ++ [(p, 0)]) p = some (es.length, 0) := by rw [fi_app hf, if_pos rfl]
    obtain ⟨x', a1, a2⟩ := ref_p2 (p := p) (f := f) (st := st.set i (refB (es ++ [(p, 0)]) row)) hN (List.getElem?_set_self hi) (nd_app hnd hf) (by simp; omega) hf2 hr (fun k hk => by simp only [sm, fi_app hf, if_neg hk]; exact h2 k) hv.symm (by omega) (q := q) (by omega)
    rw [List.set_set] at a1
    exact ⟨x', a1, weak (by simp; omega) a2⟩

theorem refBlame_eq (hN : 1000 < N) (hs : st[i]? = some x) (h : RepM x f row n) (hn : n ≤ 500) (hr : row.length ≤ 16) (hf0 : 0 ≤ f p ∧ f p ≤ 90000) (l : List Int) (hl : l.length ≤ 100) (hw : ∀ y ∈ l, (Lit.int .i64 y).wf = true) :
    ∃ x', Tref20_Board_Blame N (some i) p (rowI l) st = some ((newR f row p (pts l)).contains p, st.set i x') ∧ RepM x' (newF f p (pts l)) (newR f row p (pts l)) (n + 1) := by
  have key : ∀ (m j k : Nat), m + j = l.length → m < k → ∃ x', loopN (Tref20_Board_Blame.p1 N (some i) p (rowI l) st) k (pts (l.take j), (j : Int)) = some ((newR f row p (pts l)).contains p, st.set i x') ∧ RepM x' (newF f p (pts l)) (newR f row p (pts l)) (n + 1) := by
    intro m
    induction m with
    | zero =>
      intro j k hj hk
      obtain ⟨k, rfl⟩ : ∃ q, k = q + 1 := ⟨k - 1, by omega⟩
      have hp := pts_rng l
      rw [loopN_succ, List.take_of_length_le (by omega)]
      exact refBlame_end hN hs h hn hr hf0 (rowI l) _ (by omega) j (by simp; omega)
    | succ m ih =>
      intro j k hj hk
      obtain ⟨k, rfl⟩ : ∃ q, k = q + 1 := ⟨k - 1, by omega⟩
      have hj' : j < l.length := by omega
      obtain ⟨x', a1, a2⟩ := ih (j + 1) k (by omega) (by omega)
      refine ⟨x', ?_, a2⟩
      have b := Go.bounds_i64 (hw _ (List.getElem_mem hj'))
      have h1 := pts_rng (l.take j)
      have h2 := pt_rng l[j]
      have h3 : (l.take j).length ≤ 100 := by simp; omega
      rw [loopN_succ, ← a1]
      generalize loopN (Tref20_Board_Blame.p1 N (some i) p (rowI l) st) k = G
      have t2 : pts (l.take (j + 1)) = pts (l.take j) + pt l[j] := by
        rw [List.take_succ_eq_append_getElem hj', pts_append, pts_one]
      unfold Tref20_Board_Blame.p1
      dsimp only
      rw [if_pos (by simp; omega), chk_pos (by omega), rowI_gx (List.getElem?_eq_getElem hj'), optE_some, dec_i64_one, refPoints_eq N _ (by omega) (by omega), optE_some, wrap_i64 (n := _ + pt _) (by omega) (by omega), wrap_i64 (by omega) (by omega), t2]
      rfl
  exact key l.length 0 N (by omega) (by omega)
end
end Go.Dn.F
