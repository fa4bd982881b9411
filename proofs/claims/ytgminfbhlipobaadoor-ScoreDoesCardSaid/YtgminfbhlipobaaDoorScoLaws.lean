/- ScoreRow and ScorePoints answer true. -/
import Derived.Test.YtgminfbhlipobaaDoorScoBoard
set_option linter.unusedSimpArgs false
set_option linter.unusedVariables false
namespace Go.Dn.F
open Go.Proofs

theorem alive_eq (N : Nat) : ∃ st, Tlaw20_alive (N + 2000) [] = some (true, st) := by
  have h : ((Tlaw20_alive (N + 2000) []).map (·.1)) = some true := by kernel_rfl
  cases e : Tlaw20_alive (N + 2000) [] with
  | none => rw [e] at h; cases h
  | some x => rw [e] at h; obtain ⟨b, st⟩ := x; cases h; exact ⟨st, rfl⟩

theorem New_eq (N : Nat) (st : List (List L)) : score_New N st = some (some st.length, st ++ [[L.mp [], L.own true 1 []]]) := rfl
theorem new_at (st : List (List L)) (x : List L) : (st ++ [x])[st.length]? = some x := by simp

theorem pts_one (x : Int) : pts [x] = pt x := by simp [pts]
theorem pt_bad : pt 2 = 100 := by
  unfold pt
  rw [if_pos (by omega)]
  decide +kernel

theorem upd_zero (p : Int) : upd (fun _ => 0) p 0 = fun _ => 0 := by funext k; simp [upd]
theorem upd_upd (f : Int → Int) (p v w : Int) : upd (upd f p v) p w = upd f p w := by funext k; unfold upd; split <;> rfl

theorem wo_not (p : Int) (l : List Int) : p ∉ wo p l := by simp [wo]
theorem trim_facts (p : Int) {row : List Int} (hn : row.Nodup) (hl : row.length ≤ 16) :
    (trim (wo p row ++ [p])).Nodup ∧ (trim (wo p row ++ [p])).length ≤ 16 ∧ 0 < (trim (wo p row ++ [p])).length ∧ (trim (wo p row ++ [p]))[(trim (wo p row ++ [p])).length - 1]? = some p := by
  have h0 := wo_length p row
  have h1 : (wo p row ++ [p]).Nodup := by
    rw [List.nodup_append]
    refine ⟨hn.sublist (List.filter_sublist), by simp, fun a ha b hb => ?_⟩
    simp at hb; subst hb
    exact fun e => wo_not b row (e ▸ ha)
  unfold trim
  split
  · rename_i h
    refine ⟨h1.sublist (List.drop_sublist _ _), by simp; omega, by simp; simp at h; omega, ?_⟩
    rw [List.getElem?_drop]
    simp only [List.length_drop, List.length_append, List.length_singleton] at h ⊢
    rw [show 1 + ((wo p row).length + 1 - 1 - 1) = (wo p row).length by omega]
    simp
  · rename_i h
    refine ⟨h1, by omega, by simp, ?_⟩
    simp

theorem row_in (N : Nat) (c2 : Int → Option (Bool × List (List L))) (c1 : Int × List (List L) → Option (Bool × List (List L))) (x3 : Option Nat) (row : List Int) (hn : row.Nodup) (hl : row.length ≤ 16) (ps : List (List L)) (v5 x22 x17 : Int) (st : List (List L)) (a : Nat) (ha : a < row.length) :
    ∀ (m j k : Nat), m + j = a → m < k → loopN (Tlaw20_ScoreRow.p3 N c2 c1 x3 (rowI row) (a : Int) ps v5 x22 x17 st) k (j : Int) = c2 ((a + 1 : Nat) : Int) := by
  intro m
  induction m with
  | zero =>
    intro j k hj hk
    obtain ⟨k, rfl⟩ : ∃ q, k = q + 1 := ⟨k - 1, by omega⟩
    rw [loopN_succ]
    unfold Tlaw20_ScoreRow.p3
    rw [if_neg (by simp; omega), wrap_i64 (by omega) (by omega)]; rfl
  | succ m ih =>
    intro j k hj hk
    obtain ⟨k, rfl⟩ : ∃ q, k = q + 1 := ⟨k - 1, by omega⟩
    rw [loopN_succ]
    have ih' := ih (j + 1) k (by omega) (by omega)
    generalize loopN (Tlaw20_ScoreRow.p3 N c2 c1 x3 (rowI row) (a : Int) ps v5 x22 x17 st) k = G at ih' ⊢
    unfold Tlaw20_ScoreRow.p3
    have hj' : j < row.length := by omega
    have hne : row[j] ≠ row[a] := List.pairwise_iff_getElem.1 hn j a hj' ha (by omega)
    rw [if_pos (by simp; omega), chk_pos (by omega), chk_pos (by simp; omega), Nat.zero_add, rowI_gx (List.getElem?_eq_getElem hj'), optE_some, dec_i64_one, chk_pos (by omega), chk_pos (by simp; omega), Nat.zero_add, rowI_gx (List.getElem?_eq_getElem ha), optE_some, dec_i64_one, if_neg (by simpa using hne), wrap_i64 (by omega) (by omega)]
    exact ih'

theorem row_mid (N : Nat) (hN : 1000 < N) (c1 : Int × List (List L) → Option (Bool × List (List L))) (x3 : Option Nat) (row : List Int) (hn : row.Nodup) (hl : row.length ≤ 16) (ps : List (List L)) (v5 : Nat) (hv : v5 < 1000) (x22 x17 : Int) (st : List (List L)) :
    ∀ (m a k : Nat), m + a = row.length → m < k → loopN (Tlaw20_ScoreRow.p2 N c1 x3 (rowI row) ps (v5 : Int) x22 x17 st) k (a : Int) = c1 (((v5 + 1 : Nat) : Int), st) := by
  intro m
  induction m with
  | zero =>
    intro j k hj hk
    obtain ⟨k, rfl⟩ : ∃ q, k = q + 1 := ⟨k - 1, by omega⟩
    rw [loopN_succ]
    unfold Tlaw20_ScoreRow.p2
    rw [if_neg (by simp; omega), wrap_i64 (by omega) (by omega)]; rfl
  | succ m ih =>
    intro j k hj hk
    obtain ⟨k, rfl⟩ : ∃ q, k = q + 1 := ⟨k - 1, by omega⟩
    rw [loopN_succ]
    have ih' := ih (j + 1) k (by omega) (by omega)
    generalize loopN (Tlaw20_ScoreRow.p2 N c1 x3 (rowI row) ps (v5 : Int) x22 x17 st) k = G at ih' ⊢
    unfold Tlaw20_ScoreRow.p2
    rw [if_pos (by simp; omega)]
    exact (row_in N G c1 x3 row hn hl ps v5 x22 x17 st j (by omega) j 0 N (by omega) (by omega)).trans ih'

theorem row_out (N : Nat) (hN : 1000 < N) (i : Nat) (ps : List Int) (hps : ps.length ≤ 100) : ∀ (m j k : Nat) (st : List (List L)) (x : List L) (row : List Int), m + j = ps.length → m < k → st[i]? = some x → Rep x (fun _ => 0) row → row.Nodup → row.length ≤ 16 →
    ∃ st', loopN (Tlaw20_ScoreRow.p1 N (some i) (rowI ps)) k ((j : Int), st) = some (true, st') := by
  intro m
  induction m with
  | zero =>
    intro j k st x row hj hk _ _ _ _
    obtain ⟨k, rfl⟩ : ∃ q, k = q + 1 := ⟨k - 1, by omega⟩
    rw [loopN_succ]
    unfold Tlaw20_ScoreRow.p1
    dsimp only
    rw [if_neg (by simp; omega)]
    exact ⟨st, rfl⟩
  | succ m ih =>
    intro j k st x row hj hk hs hR hn hl
    obtain ⟨k, rfl⟩ : ∃ q, k = q + 1 := ⟨k - 1, by omega⟩
    have hj' : j < ps.length := by omega
    have hi := idx_of hs
    obtain ⟨x', e1, e2⟩ := Blame_eq (p := ps[j]) hN hs hR (by omega) [2] (by simp) ⟨by omega, by omega⟩
    have hpt : pts [2] = 100 := by rw [pts_one, pt_bad]
    rw [hpt] at e1 e2
    have eR : newR (fun _ => 0) row ps[j] 100 = trim (wo ps[j] row ++ [ps[j]]) := by unfold newR newS; rw [if_neg (by omega), if_pos (by simp)]
    have eF : newF (fun _ => 0) ps[j] 100 = fun _ => 0 := by unfold newF newS; rw [if_neg (by omega), if_pos (by simp), upd_zero]
    rw [eR] at e1 e2
    rw [eF] at e2
    obtain ⟨t1, t2, t3, t4⟩ := trim_facts ps[j] hn hl
    generalize trim (wo ps[j] row ++ [ps[j]]) = r at e1 e2 t1 t2 t3 t4
    have hs' : (st.set i x')[i]? = some x' := List.getElem?_set_self hi
    obtain ⟨st', ih'⟩ := ih (j + 1) k (st.set i x') x' r (by omega) (by omega) hs' e2 t1 t2
    refine ⟨st', ?_⟩
    rw [loopN_succ]
    generalize loopN (Tlaw20_ScoreRow.p1 N (some i) (rowI ps)) k = G at ih' ⊢
    unfold Tlaw20_ScoreRow.p1
    dsimp only
    have hin : r.contains ps[j] = true := by
      have := List.mem_of_getElem? t4
      simpa using this
    have e0 : List.take 1 [[L.int .i64 2]] = rowI [2] := rfl
    rw [if_pos (by simp; omega), chk_pos (by omega), rowI_gx (List.getElem?_eq_getElem hj'), optE_some, dec_i64_one, chk_pos (by simp), e0, e1, optE_some, hin]
    dsimp only
    rw [if_neg (by simp), Shunned_eq hs' e2 (by omega), optE_some]
    dsimp only
    rw [rowI_length, if_neg (by simp; omega), wrap_i64 (by omega) (by omega), chk_pos (by omega), chk_pos (by omega), Nat.zero_add]
    have e9 : ((r.length : Int) - 1) = ((r.length - 1 : Nat) : Int) := by omega
    rw [e9, rowI_gx t4, optE_some, dec_i64_one, if_neg (by simp)]
    exact (row_mid N hN G (some i) r t1 t2 (rowI ps) j (by omega) _ _ _ r.length 0 N (by omega) (by omega)).trans ih'

theorem ScoreRow_true (a0 : List Int) (w0 : ∀ n ∈ a0, (Lit.int .i64 n).wf = true) (l0 : a0.length ≤ maxLen) :
    ∃ st', Snd Tryd.prog 5 [.one (.sl 1 (rowI a0))] [] [.one (.bool true)] st' := by
  suffices h : ∃ st', Tlaw20_ScoreRow 2000 (rowI a0) [] = some (true, st') from h.elim fun st' h => ⟨_, Tlaw20_ScoreRow.snd h⟩
  obtain ⟨st, ha⟩ := alive_eq 0
  rw [Nat.zero_add] at ha
  unfold Tlaw20_ScoreRow
  rw [ha, optE_some]
  dsimp only
  rw [if_neg (by simp), rowI_length]
  by_cases h1 : (a0.length : Int) > 100
  · rw [if_pos (by simpa using h1)]; exact ⟨_, rfl⟩
  rw [if_neg (by simpa using h1), New_eq, optE_some]
  exact row_out 2000 (by omega) st.length a0 (by omega) a0.length 0 2000 _ _ [] (by omega) (by omega) (new_at _ _) Rep.new List.nodup_nil (by simp)

theorem faults_loop (N : Nat) (l : List Int) (hl : l.length ≤ 1000) : ∀ (m j k : Nat), m + j = l.length → m < k → loopN (Tlaw20_faults.p1 N (rowI l)) k (rowI (l.take j), (j : Int)) = some (rowI l) := by
  intro m
  induction m with
  | zero =>
    intro j k hj hk
    obtain ⟨k, rfl⟩ : ∃ q, k = q + 1 := ⟨k - 1, by omega⟩
    rw [loopN_succ]
    unfold Tlaw20_faults.p1
    dsimp only
    rw [if_neg (by simp; omega), List.take_of_length_le (by omega)]
  | succ m ih =>
    intro j k hj hk
    obtain ⟨k, rfl⟩ : ∃ q, k = q + 1 := ⟨k - 1, by omega⟩
    have hj' : j < l.length := by omega
    rw [loopN_succ]
    have ih' := ih (j + 1) k (by omega) (by omega)
    generalize loopN (Tlaw20_faults.p1 N (rowI l)) k = G at ih' ⊢
    unfold Tlaw20_faults.p1
    dsimp only
    rw [if_pos (by simp; omega), chk_pos (by omega), rowI_gx (List.getElem?_eq_getElem hj'), optE_some, dec_i64_one, chk_pos (by simp), rowI_one, rowI_take, rowI_append, rowI_length, chk_pos (by simp; omega), wrap_i64 (by omega) (by omega)]
    have t : l.take j ++ List.take 1 [l[j]] = l.take (j + 1) := by rw [List.take_succ_eq_append_getElem hj']; rfl
    rw [t]
    exact ih'

theorem faults_eq (N : Nat) (l : List Int) (hl : l.length ≤ 1000) (hN : 1000 < N) : Tlaw20_faults N (rowI l) = some (rowI l) := by
  exact faults_loop N l hl l.length 0 N (by omega) (by omega)

theorem pts_append : ∀ l m : List Int, pts (l ++ m) = pts l + pts m
  | [], m => by simp [pts]
  | x :: l, m => by simp only [List.cons_append, pts, pts_append l m]; omega
theorem pts_reverse : ∀ l : List Int, pts l.reverse = pts l
  | [] => rfl
  | x :: l => by rw [List.reverse_cons, pts_append, pts_reverse l, pts_one]; simp only [pts]; omega

theorem points_out (N : Nat) (hN : 1000 < N) (i : Nat) (l : List Int) (p : Int) (hl : l.length ≤ 20) : ∀ (m j k : Nat) (st : List (List L)) (x : List L), m + j = l.length → m < k → st[i]? = some x → Rep x (fun _ => 0) [] →
    ∃ st', loopN (Tlaw20_ScorePoints.p2 N p (some i) (rowI l)) k ((j : Int), st) = some (true, st') := by
  intro m
  induction m with
  | zero =>
    intro j k st x hj hk hs hR
    obtain ⟨k, rfl⟩ : ∃ q, k = q + 1 := ⟨k - 1, by omega⟩
    rw [loopN_succ]
    unfold Tlaw20_ScorePoints.p2
    dsimp only
    rw [if_neg (by simp; omega), Shuns_eq hN hs hR (by simp), optE_some]
    dsimp only
    rw [if_pos (by simp), Sum_eq hs hR, optE_some]
    exact ⟨st, rfl⟩
  | succ m ih =>
    intro j k st x hj hk hs hR
    obtain ⟨k, rfl⟩ : ∃ q, k = q + 1 := ⟨k - 1, by omega⟩
    have hj' : j < l.length := by omega
    have hi := idx_of hs
    have e0 : List.take 1 [[L.int .i64 l[j]]] = rowI [l[j]] := rfl
    have hpt := pt_rng l[j]
    -- what Forget makes of a board where only this peer has points
    have last : ∀ (st1 : List (List L)) (x1 : List L) (f1 : Int → Int), st1[i]? = some x1 → Rep x1 f1 [] → upd f1 p 0 = (fun _ => 0) → st1.length = st.length →
        ∃ st', Tlaw20_ScorePoints.p3 N (loopN (Tlaw20_ScorePoints.p2 N p (some i) (rowI l)) k) p (some i) (rowI l) (j : Int) st1 = some (true, st') := by
      intro st1 x1 f1 h1 h2 h3 h4
      obtain ⟨x2, e1, e2⟩ := Forget_eq (p := p) h1 h2
      rw [h3] at e2
      obtain ⟨st', ih'⟩ := ih (j + 1) k (st1.set i x2) x2 (by omega) (by omega) (List.getElem?_set_self (by omega)) e2
      refine ⟨st', ?_⟩
      unfold Tlaw20_ScorePoints.p3
      rw [e1, optE_some, wrap_i64 (by omega) (by omega)]
      exact ih'
    rw [loopN_succ]
    have step : ∀ r : Bool × (Bool × List (List L)), (if pt l[j] < 100 then (∃ x', score_Board_Blame N (some i) p (rowI [l[j]]) st = some (r.1, st.set i x') ∧ Tlaw20_ScorePoints.p3 N (loopN (Tlaw20_ScorePoints.p2 N p (some i) (rowI l)) k) p (some i) (rowI l) (j : Int) (st.set i x') = some r.2)
        else Tlaw20_ScorePoints.p3 N (loopN (Tlaw20_ScorePoints.p2 N p (some i) (rowI l)) k) p (some i) (rowI l) (j : Int) st = some r.2) →
        Tlaw20_ScorePoints.p2 N p (some i) (rowI l) (loopN (Tlaw20_ScorePoints.p2 N p (some i) (rowI l)) k) ((j : Int), st) = some r.2 := by
      intro r h
      generalize loopN (Tlaw20_ScorePoints.p2 N p (some i) (rowI l)) k = G at h ⊢
      unfold Tlaw20_ScorePoints.p2
      dsimp only
      rw [if_pos (by simp; omega), chk_pos (by omega), rowI_gx (List.getElem?_eq_getElem hj'), optE_some, dec_i64_one, chk_pos (by simp), e0, Points_eq N _ (by simp) hN, optE_some, pts_one]
      by_cases hc : pt l[j] < 100
      · rw [if_pos hc] at h
        obtain ⟨x', h1, h2⟩ := h
        rw [if_pos (by simpa using hc), h1, optE_some]
        exact h2
      · rw [if_neg hc] at h
        rw [if_neg (by simpa using hc)]
        exact h
    by_cases hc : pt l[j] < 100
    · obtain ⟨x', e1, e2⟩ := Blame_eq (p := p) hN hs hR (by simp) [l[j]] (by simp) ⟨by omega, by omega⟩
      rw [pts_one] at e1 e2
      have hS : ¬ newS (fun _ => 0) p (pt l[j]) ≥ 100 := by unfold newS; simp only [Int.zero_add]; rw [if_neg (by omega)]; omega
      have eR : newR (fun _ => 0) [] p (pt l[j]) = [] := by
        unfold newR
        rw [if_neg hS]
        exact ite_self _
      have eF : upd (newF (fun _ => 0) p (pt l[j])) p 0 = fun _ => 0 := by
        unfold newF
        rw [if_neg hS]
        split
        · exact upd_zero p
        · rw [upd_upd, upd_zero]
      rw [eR] at e1 e2
      obtain ⟨st', h⟩ := last (st.set i x') x' _ (List.getElem?_set_self hi) e2 eF (by simp)
      exact ⟨st', step (_, (true, st')) (by rw [if_pos hc]; exact ⟨x', e1, h⟩)⟩
    · obtain ⟨st', h⟩ := last st x _ hs hR (upd_zero p) rfl
      exact ⟨st', step (false, (true, st')) (by rw [if_neg hc]; exact h)⟩

theorem points_in (N : Nat) (hN : 1000 < N) (l : List Int) (p : Int) (st : List (List L)) (hl : l.length ≤ 20) : ∀ (m j k : Nat), m + j = l.length → m < k →
    ∃ st', loopN (Tlaw20_ScorePoints.p1 N (rowI l) p st) k (pts (l.take j), rowI (l.reverse.take j), (j : Int)) = some (true, st') := by
  intro m
  induction m with
  | zero =>
    intro j k hj hk
    obtain ⟨k, rfl⟩ : ∃ q, k = q + 1 := ⟨k - 1, by omega⟩
    rw [loopN_succ]
    unfold Tlaw20_ScorePoints.p1
    dsimp only
    rw [if_neg (by simp; omega), List.take_of_length_le (by omega), List.take_of_length_le (by simp; omega), faults_eq N l (by omega) hN, optE_some, Points_eq N l (by omega) hN, optE_some, if_neg (by simp), faults_eq N _ (by simp; omega) hN, optE_some, chk_pos (rowI_plain _), Points_eq N _ (by simp; omega) hN, optE_some, pts_reverse, if_neg (by simp), New_eq, optE_some]
    exact points_out N hN st.length l p hl l.length 0 N _ _ (by omega) (by omega) (new_at _ _) Rep.new
  | succ m ih =>
    intro j k hj hk
    obtain ⟨k, rfl⟩ : ∃ q, k = q + 1 := ⟨k - 1, by omega⟩
    have hj' : j < l.length := by omega
    obtain ⟨st', ih'⟩ := ih (j + 1) k (by omega) (by omega)
    refine ⟨st', ?_⟩
    rw [loopN_succ]
    generalize loopN (Tlaw20_ScorePoints.p1 N (rowI l) p st) k = G at ih' ⊢
    unfold Tlaw20_ScorePoints.p1
    dsimp only
    have e0 : List.take 1 [[L.int .i64 l[j]]] = rowI [l[j]] := rfl
    have hr : (l.length - 1 - j) < l.length := by omega
    have e : IntKind.wrap .i64 (IntKind.wrap .i64 ((l.length : Int) - 1) - (j : Int)) = ((l.length - 1 - j : Nat) : Int) := by
      rw [wrap_i64 (n := (l.length : Int) - 1) (by omega) (by omega), wrap_i64 (by omega) (by omega)]; omega
    have h1 := pts_rng (l.take j)
    have h2 := pt_rng l[j]
    have h3 : (l.take j).length ≤ 20 := by simp; omega
    rw [if_pos (by simp; omega), chk_pos (by omega), rowI_gx (List.getElem?_eq_getElem hj'), optE_some, dec_i64_one, chk_pos (by simp), e0, Points_eq N _ (by simp) hN, optE_some, pts_one, rowI_length, e, chk_pos (by omega), chk_pos (by omega), rowI_gx (List.getElem?_eq_getElem hr), optE_some, dec_i64_one, chk_pos (by simp), rowI_one, rowI_take, rowI_append, rowI_length, chk_pos (by simp; omega), wrap_i64 (n := _ + pt _) (by omega) (by omega), wrap_i64 (by omega) (by omega)]
    have t1 : l.reverse.take j ++ List.take 1 [l[l.length - 1 - j]] = l.reverse.take (j + 1) := by
      have hj2 : j < l.reverse.length := by simp; omega
      rw [List.take_succ_eq_append_getElem hj2, List.getElem_reverse]
      rfl
    have t2 : pts (l.take j) + pt l[j] = pts (l.take (j + 1)) := by
      rw [List.take_succ_eq_append_getElem hj', pts_append, pts_one]
    rw [t1, t2]
    exact ih'

theorem ScorePoints_true (a0 : List Int) (a1 : Int) (w0 : ∀ n ∈ a0, (Lit.int .i64 n).wf = true) (l0 : a0.length ≤ maxLen) (w1 : (Lit.int .i64 a1).wf = true) :
    ∃ st', Snd Tryd.prog 4 [.one (.sl 1 (rowI a0)), .one (.int .i64 a1)] [] [.one (.bool true)] st' := by
  suffices h : ∃ st', Tlaw20_ScorePoints 2000 (rowI a0) a1 [] = some (true, st') from h.elim fun st' h => ⟨_, Tlaw20_ScorePoints.snd h⟩
  obtain ⟨st, ha⟩ := alive_eq 0
  rw [Nat.zero_add] at ha
  unfold Tlaw20_ScorePoints
  rw [ha, optE_some]
  dsimp only
  rw [if_neg (by simp), rowI_length]
  by_cases h1 : (a0.length : Int) > 20
  · rw [if_pos (by simpa using h1)]; exact ⟨_, rfl⟩
  rw [if_neg (by simpa using h1)]
  exact points_in 2000 (by omega) a0 a1 st (by omega) a0.length 0 2000 (by omega) (by omega)
end Go.Dn.F
