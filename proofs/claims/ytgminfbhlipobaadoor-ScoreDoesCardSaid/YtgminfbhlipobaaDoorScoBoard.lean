/- The board as a function of peers and a row. -/
import Derived.Test.YtgminfbhlipobaaDoorScoPure
set_option linter.unusedSimpArgs false
set_option linter.unusedVariables false
namespace Go.Dn.F
open Go.Proofs

@[simp] theorem obj_board {α : Type} (a : List (L × L)) (b : List (List L)) (k : List (L × L) → List (List L) → Option α) : obj_score_Board [L.mp a, L.own true 1 b] k = k a b := rfl
@[simp] theorem dec_i64_one {α : Type} (x : Int) (k : Int → Option α) : dec_i64 [L.int .i64 x] k = k x := rfl

def upd (f : Int → Int) (p v : Int) : Int → Int := fun k => if k = p then v else f k
def Rep (x : List L) (f : Int → Int) (row : List Int) : Prop := ∃ es, x = [L.mp (mpI es), L.own true 1 (rowI row)] ∧ ND es ∧ ∀ k, sm es k = f k

theorem mpI_erase : ∀ (es : List (Int × Int)) (j : Nat), (mpI es).eraseIdx j = mpI (es.eraseIdx j)
  | [], _ => rfl
  | _ :: _, 0 => rfl
  | e :: es, j + 1 => by
    have := mpI_erase es j
    simp only [mpI] at this
    simp [mpI, this]

theorem Rep.new : Rep [L.mp [], L.own true 1 []] (fun _ => 0) [] := ⟨[], rfl, List.nodup_nil, fun _ => rfl⟩

section
variable {N : Nat} {st : List (List L)} {i : Nat} {x : List L} {f : Int → Int} {row : List Int} {p : Int}

theorem Sum_eq (hs : st[i]? = some x) (h : Rep x f row) : score_Board_Sum N (some i) p st = some (f p, st) := by
  obtain ⟨es, rfl, _, h2⟩ := h
  have h3 := h2 p
  unfold score_Board_Sum
  rw [if_neg (by simp), optE_some, hs, optE_some, obj_board, mfind_mpI]
  simp only [sm] at h3
  cases hf : fi es p with
  | none => rw [hf] at h3; simp at h3 ⊢; exact h3
  | some r => rw [hf] at h3; simp at h3 ⊢; exact h3

theorem Shuns_eq (hN : 1000 < N) (hs : st[i]? = some x) (h : Rep x f row) (hr : row.length ≤ 1000) : score_Board_Shuns N (some i) p st = some (row.contains p, st) := by
  obtain ⟨es, rfl, _, h2⟩ := h
  unfold score_Board_Shuns
  rw [if_pos (by simp), optE_some, hs, optE_some, obj_board, Contains_eq N row p hr hN, optE_some]

theorem Shunned_eq (hs : st[i]? = some x) (h : Rep x f row) (hr : row.length ≤ 1000) : score_Board_Shunned N (some i) st = some (rowI row, st) := by
  obtain ⟨es, rfl, _, h2⟩ := h
  unfold score_Board_Shunned
  rw [if_neg (by simp), optE_some, hs, optE_some, obj_board, slices_Clone_int, chk_pos (by simp; omega), optE_some, chk_pos (rowI_plain row)]

theorem erased {es : List (Int × Int)} (hn : ND es) (h2 : ∀ k, sm es k = f k) : ∃ es', (match fi es p with | some (j, _) => es.eraseIdx j | none => es) = es' ∧ ND es' ∧ ∀ k, sm es' k = upd f p 0 k := by
  cases hf : fi es p with
  | none =>
    refine ⟨es, rfl, hn, fun k => ?_⟩
    unfold upd
    split
    · rename_i e; subst e; simp [sm, hf]
    · exact h2 k
  | some r =>
    obtain ⟨j, v⟩ := r
    obtain ⟨i1, i2⟩ := fi_erase hn hf
    refine ⟨_, rfl, i1, fun k => ?_⟩
    rw [i2 k]
    unfold upd
    split
    · rfl
    · exact h2 k

theorem Forget_eq (hs : st[i]? = some x) (h : Rep x f row) : ∃ x', score_Board_Forget N (some i) p st = some (st.set i x') ∧ Rep x' (upd f p 0) row := by
  obtain ⟨es, rfl, hn, h2⟩ := h
  obtain ⟨es', e1, e2, e3⟩ := erased (p := p) hn h2
  refine ⟨[L.mp (mpI es'), L.own true 1 (rowI row)], ?_, es', rfl, e2, e3⟩
  unfold score_Board_Forget
  rw [if_pos (by simp), optE_some, hs, optE_some, obj_board, mfind_mpI]
  cases hf : fi es p with
  | none => rw [hf] at e1; simp only at e1; subst e1; rfl
  | some r =>
    rw [hf] at e1; simp only at e1; subst e1
    simp only [Option.map_some, optM_hit, dec_i64_one, mpI_erase]

theorem p1_eq (hN : 1000 < N) (hs : st[i]? = some x) (h : Rep x f row) (hr : row.length ≤ 1000) : ∃ x', score_Board_Blame.p1 N i p st = some (row.contains p, st.set i x') ∧ Rep x' (upd f p 0) row := by
  have hi := idx_of hs
  obtain ⟨es, rfl, hn, h2⟩ := h
  obtain ⟨es', e1, e2, e3⟩ := erased (p := p) hn h2
  have hR : Rep [L.mp (mpI es'), L.own true 1 (rowI row)] (upd f p 0) row := ⟨es', rfl, e2, e3⟩
  refine ⟨[L.mp (mpI es'), L.own true 1 (rowI row)], ?_, hR⟩
  have key : score_Board_Blame.p2 N i p (st.set i [L.mp (mpI es'), L.own true 1 (rowI row)]) = some (row.contains p, st.set i [L.mp (mpI es'), L.own true 1 (rowI row)]) := by
    unfold score_Board_Blame.p2
    rw [Shuns_eq hN (List.getElem?_set_self hi) hR hr]
    rfl
  rw [← key]
  unfold score_Board_Blame.p1
  rw [hs, optE_some, obj_board, mfind_mpI]
  cases hf : fi es p with
  | none => rw [hf] at e1; simp only at e1; subst e1; rfl
  | some r =>
    rw [hf] at e1; simp only at e1; subst e1
    simp only [Option.map_some, optM_hit, dec_i64_one, mpI_erase]

theorem p3_eq (hN : 1000 < N) (hs : st[i]? = some x) (h : Rep x f row) (hr : row.length ≤ 1000) : ∃ x', score_Board_Blame.p3 N i p st = some (row.contains p, st.set i x') ∧ Rep x' (upd f p 0) row := by
  obtain ⟨x', h1, h2⟩ := p1_eq (p := p) hN hs h hr
  exact ⟨x', h1, h2⟩

/-- The last sixteen. -/
def trim (l : List Int) : List Int := if l.length > 16 then l.drop 1 else l
def newS (f : Int → Int) (p n : Int) : Int := if 100000 < f p + n then 100000 else f p + n
def newF (f : Int → Int) (p n : Int) : Int → Int := if n = 0 then f else if newS f p n ≥ 100 then upd f p 0 else upd f p (newS f p n)
def newR (f : Int → Int) (row : List Int) (p n : Int) : List Int := if n = 0 then row else if newS f p n ≥ 100 then trim (wo p row ++ [p]) else row

theorem wo_length (p : Int) (l : List Int) : (wo p l).length ≤ l.length := List.length_filter_le _ _

theorem Blame_eq (hN : 1000 < N) (hs : st[i]? = some x) (h : Rep x f row) (hr : row.length ≤ 500) (l : List Int) (hl : l.length ≤ 1000) (hf : 0 ≤ f p ∧ f p ≤ 100000) :
    ∃ x', score_Board_Blame N (some i) p (rowI l) st = some ((newR f row p (pts l)).contains p, st.set i x') ∧ Rep x' (newF f p (pts l)) (newR f row p (pts l)) := by
  have hi := idx_of hs
  have hp := pts_rng l
  unfold score_Board_Blame
  rw [if_neg (by simp), Points_eq N l hl hN, optE_some]
  by_cases h0 : pts l = 0
  · rw [if_pos (by simp [h0]), Shuns_eq hN hs h (by omega)]
    refine ⟨x, ?_, ?_⟩
    · rw [set_id hs]; simp [newR, h0]
    · simpa [newR, newF, h0] using h
  rw [if_neg (by simpa using h0), optE_some, hs, optE_some]
  obtain ⟨es, rfl, hn, h2⟩ := h
  have hfp := h2 p
  rw [obj_board, mfind_mpI]
  have hwl := wo_length p row
  -- what the two arms have in common
  have tail : ∀ (es1 : List (Int × Int)) (q1 q2 : Nat → Int → List (List L) → Option (Bool × List (List L))), ND es1 → (∀ k, sm es1 k = upd f p (newS f p (pts l)) k) →
      (∀ (st' : List (List L)) (x' : List L) (f' : Int → Int) (row' : List Int), st'[i]? = some x' → Rep x' f' row' → row'.length ≤ 1000 → ∃ x'', q1 i p st' = some (row'.contains p, st'.set i x'') ∧ Rep x'' (upd f' p 0) row') →
      (∀ (st' : List (List L)) (x' : List L) (f' : Int → Int) (row' : List Int), st'[i]? = some x' → Rep x' f' row' → row'.length ≤ 1000 → q2 i p st' = some (row'.contains p, st')) →
      (∃ x', (if newS f p (pts l) ≥ 100 then (if (wo p row ++ [p]).length > 16 then q1 i p (st.set i [L.mp (mpI es1), L.own true 1 (rowI ((wo p row ++ [p]).drop 1))]) else q1 i p (st.set i [L.mp (mpI es1), L.own true 1 (rowI (wo p row ++ [p]))]))
        else q2 i p (st.set i [L.mp (mpI es1), L.own true 1 (rowI row)])) = some ((newR f row p (pts l)).contains p, st.set i x') ∧ Rep x' (newF f p (pts l)) (newR f row p (pts l))) := by
    intro es1 q1 q2 n1 n2 k1 k2
    by_cases hS : newS f p (pts l) ≥ 100
    · have eR : newR f row p (pts l) = trim (wo p row ++ [p]) := by unfold newR; rw [if_neg h0, if_pos hS]
      have eF : newF f p (pts l) = upd f p 0 := by unfold newF; rw [if_neg h0, if_pos hS]
      have eU : upd (upd f p (newS f p (pts l))) p 0 = upd f p 0 := by funext k; unfold upd; split <;> rfl
      rw [if_pos hS, eR, eF, ← eU]
      by_cases h16 : (wo p row ++ [p]).length > 16
      · rw [if_pos h16]
        have et : trim (wo p row ++ [p]) = (wo p row ++ [p]).drop 1 := by unfold trim; rw [if_pos h16]
        obtain ⟨x'', a1, a2⟩ := k1 (st.set i [L.mp (mpI es1), L.own true 1 (rowI ((wo p row ++ [p]).drop 1))]) _ _ _ (List.getElem?_set_self hi) ⟨es1, rfl, n1, n2⟩ (by simp; omega)
        rw [List.set_set] at a1
        rw [et]
        exact ⟨x'', a1, a2⟩
      · rw [if_neg h16]
        have et : trim (wo p row ++ [p]) = (wo p row ++ [p]) := by unfold trim; rw [if_neg h16]
        obtain ⟨x'', a1, a2⟩ := k1 (st.set i [L.mp (mpI es1), L.own true 1 (rowI (wo p row ++ [p]))]) _ _ _ (List.getElem?_set_self hi) ⟨es1, rfl, n1, n2⟩ (by simp; omega)
        rw [List.set_set] at a1
        rw [et]
        exact ⟨x'', a1, a2⟩
    · have eR : newR f row p (pts l) = row := by unfold newR; rw [if_neg h0, if_neg hS]
      have eF : newF f p (pts l) = upd f p (newS f p (pts l)) := by unfold newF; rw [if_neg h0, if_neg hS]
      rw [if_neg hS, eR, eF]
      exact ⟨_, k2 _ _ _ _ (List.getElem?_set_self hi) ⟨es1, rfl, n1, n2⟩ (by omega), es1, rfl, n1, n2⟩
  have d1 : ∀ y : List Int, (rowI y).length = y.length := fun y => rowI_length y
  cases hfi : fi es p with
  | some r =>
    obtain ⟨j, v⟩ := r
    have hv : f p = v := by rw [← hfp]; simp [sm, hfi]
    have e1 : IntKind.wrap .i64 (v + pts l) = v + pts l := wrap_i64 (by omega) (by omega)
    have eS : (if (100000 : Int) < v + pts l then 100000 else v + pts l) = newS f p (pts l) := by rw [← hv]; rfl
    simp only [Option.map_some, optM_hit, dec_i64_one, e1, eS]
    have em : List.set (mpI es) j (L.int .i64 p, L.int .i64 (newS f p (pts l))) = mpI (es.set j (p, newS f p (pts l))) := by simp [mpI, List.map_set]
    rw [em, mfind_mpI, fi_set hfi, if_pos rfl]
    simp only [Option.map_some, optM_hit, dec_i64_one, decide_eq_true_eq]
    refine Exists.imp (fun x' hx => ⟨Eq.trans ?_ hx.1, hx.2⟩) (tail (es.set j (p, newS f p (pts l))) (score_Board_Blame.p1 N) (score_Board_Blame.p2 N) (nd_set hn hfi) (fun k => ?_) (fun st' x' f' row' a b c => p1_eq hN a b c) (fun st' x' f' row' a b c => ?_))
    · by_cases hS : newS f p (pts l) ≥ 100
      · rw [if_pos hS, if_pos hS, chk_pos (by omega), List.drop_zero, List.take_length, DeleteFunc_eq N row p (by omega) hN, optE_some]
        simp only [rowI_one, rowI_take, rowI_append, d1]
        rw [chk_pos (by simp), chk_pos (by simp; omega)]
        have e3 : wo p row ++ [p].take 1 = wo p row ++ [p] := rfl
        rw [e3]
        by_cases h16 : (wo p row ++ [p]).length > 16
        · rw [if_pos (by (try simp only [decide_eq_true_eq]); omega), if_pos h16, chk_pos (by omega), List.drop_zero, rowI_take, List.take_length, Delete_eq N _ (by omega), optE_some]
          simp only [List.set_set]
        · rw [if_neg (by (try simp only [decide_eq_true_eq]); omega), if_neg h16]
          simp only [List.set_set]
      · rw [if_neg hS, if_neg hS]
    · simp only [sm, fi_set hfi, upd]
      split
      · rfl
      · exact h2 k
    · unfold score_Board_Blame.p2
      rw [Shuns_eq hN a b c]; rfl
  | none =>
    have hv : f p = 0 := by rw [← hfp]; simp [sm, hfi]
    have e1 : IntKind.wrap .i64 (0 + pts l) = 0 + pts l := wrap_i64 (by omega) (by omega)
    have eS : (if (100000 : Int) < 0 + pts l then 100000 else 0 + pts l) = newS f p (pts l) := by rw [← hv]; rfl
    simp only [Option.map_none, optM_miss, e1, eS]
    have em : mpI es ++ [(L.int .i64 p, L.int .i64 (newS f p (pts l)))] = mpI (es ++ [(p, newS f p (pts l))]) := by simp [mpI]
    rw [em, mfind_mpI, fi_app hfi, if_pos rfl]
    simp only [Option.map_some, optM_hit, dec_i64_one, decide_eq_true_eq]
    refine Exists.imp (fun x' hx => ⟨Eq.trans ?_ hx.1, hx.2⟩) (tail (es ++ [(p, newS f p (pts l))]) (score_Board_Blame.p3 N) (score_Board_Blame.p4 N) (nd_app hn hfi) (fun k => ?_) (fun st' x' f' row' a b c => p3_eq hN a b c) (fun st' x' f' row' a b c => ?_))
    · by_cases hS : newS f p (pts l) ≥ 100
      · rw [if_pos hS, if_pos hS, chk_pos (by omega), List.drop_zero, List.take_length, DeleteFunc_eq N row p (by omega) hN, optE_some]
        simp only [rowI_one, rowI_take, rowI_append, d1]
        rw [chk_pos (by simp), chk_pos (by simp; omega)]
        have e3 : wo p row ++ [p].take 1 = wo p row ++ [p] := rfl
        rw [e3]
        by_cases h16 : (wo p row ++ [p]).length > 16
        · rw [if_pos (by (try simp only [decide_eq_true_eq]); omega), if_pos h16, chk_pos (by omega), List.drop_zero, rowI_take, List.take_length, Delete_eq N _ (by omega), optE_some]
          simp only [List.set_set]
        · rw [if_neg (by (try simp only [decide_eq_true_eq]); omega), if_neg h16]
          simp only [List.set_set]
      · rw [if_neg hS, if_neg hS]
    · simp only [sm, fi_app hfi, upd]
      split
      · rfl
      · exact h2 k
    · unfold score_Board_Blame.p4
      rw [Shuns_eq hN a b c]; rfl
end
end Go.Dn.F
