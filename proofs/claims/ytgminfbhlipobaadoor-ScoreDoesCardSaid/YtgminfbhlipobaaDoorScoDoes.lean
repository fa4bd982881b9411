/- ScoreDoes answers true: the board and the document's go on together. -/
import Derived.Test.YtgminfbhlipobaaDoorScoRef
import Derived.Test.YtgminfbhlipobaaDoorKc
set_option linter.unusedSimpArgs false
set_option linter.unusedVariables false
namespace Go.Dn.F
open Go.Proofs

/-- Both boards are of the same points and row. -/
structure Both (st : List (List L)) (i k : Nat) (f : Int → Int) (row : List Int) (n : Nat) : Prop where
  ne : i ≠ k
  a : ∃ x, st[i]? = some x ∧ Rep x f row
  b : ∃ y, st[k]? = some y ∧ RepM y f row n
  len : row.length ≤ 16
  rng : ∀ p, 0 ≤ f p ∧ f p < 100

theorem rng_upd {f : Int → Int} {p v : Int} (h : ∀ q, 0 ≤ f q ∧ f q < 100) (h0 : 0 ≤ v) (h1 : v < 100) : ∀ q, 0 ≤ upd f p v q ∧ upd f p v q < 100 := fun q => by
  unfold upd
  split
  · exact ⟨h0, h1⟩
  · exact h q
theorem rng_newF {f : Int → Int} {p n : Int} (h : ∀ q, 0 ≤ f q ∧ f q < 100) (h0 : 0 ≤ n) : ∀ q, 0 ≤ newF f p n q ∧ newF f p n q < 100 := by
  have hp := h p
  unfold newF
  split
  · exact h
  · split
    · exact rng_upd h (by omega) (by omega)
    · refine rng_upd h ?_ ?_ <;> (unfold newS at *; split at * <;> omega)

section
variable {N : Nat} {st : List (List L)} {i k n : Nat} {f : Int → Int} {row : List Int}

theorem does_p4 (hB : Both st i k f row n) (c1 : Int × List (List L) → Option (Bool × List (List L))) (other : Int) (x4 : Option Nat) (st5 : List (List L)) (hk : st5.length = k) (sc : List (List L)) (v6 x63 x83 x85 x87 x89 : Int) (x91 x93 : Bool) (x62 : Int) (x64 : List (List L)) (hN : 1000 < N) :
    loopN (Tlaw20_ScoreDoes.p4 N c1 other x4 st5 (rowI row) sc v6 x63 x83 x85 x87 x89 x91 x93 x62 x64 st) N (0, rowI row) = c1 (IntKind.wrap .i64 (v6 + 1), st) := by
  obtain ⟨y, hy, es, rfl, _, _, _⟩ := hB.b
  have hl := hB.len
  refine loopN_eq (fun m (y : Int × List (List L)) => ∃ (j : Nat) (t : List Int), y = ((j : Int), rowI t) ∧ m + j = row.length ∧ t.length = row.length ∧ t.drop j = row.drop j) ?_ N row.length _ ⟨0, row, rfl, rfl, rfl, rfl⟩ (by omega)
  rintro G m _ ⟨j, t, rfl, hj, ht, hd⟩ ih
  unfold Tlaw20_ScoreDoes.p4
  dsimp only
  by_cases hm : j < row.length
  · have htj : t[j]? = some row[j] := by
      have := congrArg (fun q : List Int => q[0]?) hd
      simp only [List.getElem?_drop, Nat.add_zero] at this
      rw [this, List.getElem?_eq_getElem hm]
    rw [if_pos (by simp; omega), chk_pos (by omega), Nat.zero_add, rowI_gx htj, optE_some, dec_i64_one, hk, hy, optE_some, obj_ref, rowI_length, chk_pos (by omega), rowI_gx (List.getElem?_eq_getElem hm), optE_some, dec_i64_one, if_neg (by simp), wrap_i64 (n := (j : Int) + 1) (by omega) (by omega)]
    refine ih (m - 1) _ (by omega) ⟨j + 1, t.set j (-1), ?_, by omega, by simpa using ht, ?_⟩
    · rw [Int.toNat_natCast, rowI_set]; rfl
    · rw [List.drop_set_of_lt (by omega)]
      have := congrArg (List.drop 1) hd
      simpa [List.drop_drop] using this
  · rw [if_neg (by simp; omega)]

theorem does_p3 (hB : Both st i k f row n) (hn : n ≤ 500) (c1 : Int × List (List L) → Option (Bool × List (List L))) (other : Int) (st5 : List (List L)) (hk : st5.length = k) (sc : List (List L)) (v6 x62 p : Int) (x64 : List (List L)) (hN : 1000 < N) :
    Tlaw20_ScoreDoes.p3 N c1 other (some i) st5 sc v6 x62 p x64 st = c1 (IntKind.wrap .i64 (v6 + 1), st) := by
  obtain ⟨x, hx, hX⟩ := hB.a
  obtain ⟨y, hy, hY⟩ := hB.b
  have hl := hB.len
  have e1 : ∀ q, Tref20_Board_Sum N (some k) q st = some (f q, st) := fun q => refSum_eq hN hy hY (by omega)
  have e2 : score_Board_Shuns N (some i) other st = some (row.contains other, st) := Shuns_eq hN hx hX (by omega)
  have e3 : Tref20_Board_Shuns N (some k) other st = some (row.contains other, st) := refShuns_eq hN hy hY (by omega)
  unfold Tlaw20_ScoreDoes.p3
  rw [Shunned_eq hx hX (by omega), optE_some]
  dsimp only
  rw [hk, hy, optE_some]
  obtain ⟨es, rfl, _, _, _⟩ := hY
  rw [obj_ref, if_neg (by simp), Sum_eq hx hX, optE_some]
  dsimp only
  rw [e1, optE_some]
  dsimp only
  rw [if_neg (by simp), Sum_eq hx hX, optE_some]
  dsimp only
  rw [e1, optE_some]
  dsimp only
  rw [if_neg (by simp), e2, optE_some]
  dsimp only
  rw [e3, optE_some]
  dsimp only
  rw [if_neg (by simp)]
  exact does_p4 hB c1 other _ st5 hk sc v6 p _ _ _ _ _ _ x62 x64 hN

theorem does_p2 (hB : Both st i k f row n) (hn : n ≤ 400) (c1 : Int × List (List L) → Option (Bool × List (List L))) (other : Int) (st5 : List (List L)) (hk : st5.length = k) (sc : List (List L)) (v6 x62 p : Int) (fs : List Int) (hf : fs.length ≤ 20) (hw : ∀ y ∈ fs, (Lit.int .i64 y).wf = true) (hN : 1000 < N) :
    ∃ st' f' row', loopN (Tlaw20_ScoreDoes.p2 N c1 other (some i) st5 sc v6 (rowI fs) x62 p st) N (0, 0) = c1 (IntKind.wrap .i64 (v6 + 1), st') ∧ Both st' i k f' row' (n + 1) := by
  obtain ⟨x, hx, hX⟩ := hB.a
  obtain ⟨y, hy, hY⟩ := hB.b
  have hl := hB.len
  have hp := pts_rng fs
  have hi := idx_of hx
  have hki := idx_of hy
  obtain ⟨x', a1, a2⟩ := Blame_eq (p := p) hN hx hX (by omega) fs (by omega) ⟨(hB.rng p).1, by have := (hB.rng p).2; omega⟩
  have hy' : (st.set i x')[k]? = some y := by rw [List.getElem?_set_ne hB.ne]; exact hy
  obtain ⟨y', b1, b2⟩ := refBlame_eq (p := p) hN hy' hY (by omega) hl ⟨(hB.rng p).1, by have := (hB.rng p).2; omega⟩ fs (by omega) hw
  have hB' : Both ((st.set i x').set k y') i k (newF f p (pts fs)) (newR f row p (pts fs)) (n + 1) := by
    refine ⟨hB.ne, ⟨x', ?_, a2⟩, ⟨y', List.getElem?_set_self (by simpa using hki), b2⟩, newR_len hl, rng_newF hB.rng hp.1⟩
    rw [List.getElem?_set_ne (Ne.symm hB.ne)]; exact List.getElem?_set_self hi
  refine ⟨_, _, _, ?_, hB'⟩
  refine loopN_eq (fun m (z : Int × Int) => ∃ j : Nat, z = (pts (fs.take j), (j : Int)) ∧ m + j = fs.length) ?_ N fs.length _ ⟨0, rfl, rfl⟩ (by omega)
  rintro G m _ ⟨j, rfl, hj⟩ ih
  unfold Tlaw20_ScoreDoes.p2
  dsimp only
  by_cases hm : j < fs.length
  · have b := Go.bounds_i64 (hw _ (List.getElem_mem hm))
    have h1 := pts_rng (fs.take j)
    have h2 := pt_rng fs[j]
    have h3 : (fs.take j).length ≤ 20 := by simp; omega
    have t2 : pts (fs.take (j + 1)) = pts (fs.take j) + pt fs[j] := by rw [List.take_succ_eq_append_getElem hm, pts_append, pts_one]
    rw [if_pos (by simp; omega), chk_pos (by omega), rowI_gx (List.getElem?_eq_getElem hm), optE_some, dec_i64_one, refPoints_eq N _ (by omega) (by omega), optE_some, wrap_i64 (n := _ + pt _) (by omega) (by omega), wrap_i64 (n := (j : Int) + 1) (by omega) (by omega), ← t2]
    exact ih (m - 1) _ (by omega) ⟨j + 1, rfl, by omega⟩
  · rw [if_neg (by simp; omega), faults_eq N fs (by omega) hN, optE_some, Points_eq N fs (by omega) hN, optE_some, List.take_of_length_le (by omega), if_neg (by simp), a1, optE_some]
    dsimp only
    rw [hk, b1, optE_some]
    dsimp only
    rw [if_neg (by simp)]
    exact does_p3 hB' (by omega) c1 other st5 hk sc v6 x62 p _ hN
end

theorem does_end (N : Nat) (st : List (List L)) : ∃ r : Bool × List (List L), (optE (score_Board_Forget N none 1 st) fun st107 =>
  chk (1 ≤ (List.length [[L.int .i64 1]])) <|
  optE (score_Board_Blame N none 1 (List.take 1 [[L.int .i64 1]]) st107) fun (x108, st109) =>
  if (!x108) = true then
    optE (score_Board_Sum N none 1 st109) fun (x110, st111) =>
    if (x110 == 0) = true then
      optE (score_Board_Shuns N none 1 st111) fun (x112, st113) =>
      if (!x112) = true then
        optE (score_Board_Shunned N none st113) fun (x114, st115) =>
        some (((List.length x114 : Nat) : Int) == 0, st115)
      else
      some (false, st113)
    else
    some (false, st111)
  else
  some (false, st109)) = some r ∧ r.1 = true := ⟨(true, st), rfl, rfl⟩

theorem does_loop (N : Nat) (hN : 1000 < N) (S : List (Int × Int × List Int)) (hS : S.length ≤ 100) (hc : ∀ c ∈ S, c.2.2.length ≤ 20) (hw : ∀ c ∈ S, ∀ y ∈ c.2.2, (Lit.int .i64 y).wf = true) (other : Int) (i k : Nat) (st5 st : List (List L)) (hk : st5.length = k)
    (h0 : Both st i k (fun _ => 0) [] 0) : ∃ r, loopN (Tlaw20_ScoreDoes.p1 N other (some i) st5 (S.map encC)) N (0, st) = some r ∧ r.1 = true := by
  refine loopN_post (fun m (z : Int × List (List L)) => ∃ (j : Nat) (f : Int → Int) (row : List Int) (n : Nat), z.1 = (j : Int) ∧ m + j = S.length ∧ n ≤ j ∧ Both z.2 i k f row n) ?_ N S.length (0, st) ⟨0, _, _, 0, rfl, rfl, Nat.le_refl _, h0⟩ (by omega)
  rintro G m ⟨_, s⟩ ⟨j, f, row, n, rfl, hj, hn, hB⟩ ih
  dsimp only at hB
  unfold Tlaw20_ScoreDoes.p1
  dsimp only
  by_cases hm : j < S.length
  · have hg : (S.map encC)[Int.toNat (j : Int)]? = some (encC S[j]) := by rw [Int.toNat_natCast, List.getElem?_map, List.getElem?_eq_getElem hm]; rfl
    have hcl := hc S[j] (List.getElem_mem hm)
    have hwl := hw S[j] (List.getElem_mem hm)
    have ew : IntKind.wrap .i64 ((j : Int) + 1) = ((j + 1 : Nat) : Int) := wrap_i64 (by omega) (by omega)
    rw [if_pos (by simp; omega), chk_pos (by omega), hg, optE_some, dec_call]
    generalize S[j] = cc at hcl hwl ⊢
    obtain ⟨kd, q, fs⟩ := cc
    dsimp only at hcl hwl ⊢
    by_cases k0 : kd = 0
    · rw [if_pos (by simp [k0])]
      obtain ⟨st', f', row', e, hB'⟩ := does_p2 hB (by omega) G other st5 hk (S.map encC) (j : Int) kd q fs hcl hwl hN
      rw [e, ew]
      exact ih (m - 1) _ (by omega) ⟨j + 1, f', row', n + 1, rfl, by omega, by omega, hB'⟩
    rw [if_neg (by simpa using k0)]
    by_cases k1 : kd = 1
    · rw [if_pos (by simp [k1])]
      obtain ⟨x, hx, hX⟩ := hB.a
      obtain ⟨y, hy, hY⟩ := hB.b
      obtain ⟨x', a1, a2⟩ := Forget_eq (N := N) (p := q) hx hX
      have hy' : (s.set i x')[k]? = some y := by rw [List.getElem?_set_ne hB.ne]; exact hy
      obtain ⟨y', b1, b2⟩ := refForget_eq (p := q) hN hy' hY (by omega)
      have hB' : Both ((s.set i x').set k y') i k (upd f q 0) row n := by
        refine ⟨hB.ne, ⟨x', ?_, a2⟩, ⟨y', List.getElem?_set_self (by simpa using idx_of hy), b2⟩, hB.len, rng_upd hB.rng (by omega) (by omega)⟩
        rw [List.getElem?_set_ne (Ne.symm hB.ne)]; exact List.getElem?_set_self (idx_of hx)
      rw [a1, optE_some, hk, b1, optE_some, does_p3 hB' (by omega) G other st5 hk _ _ _ _ _ hN, ew]
      exact ih (m - 1) _ (by omega) ⟨j + 1, _, row, n, rfl, by omega, by omega, hB'⟩
    · rw [if_neg (by simpa using k1), does_p3 hB (by omega) G other st5 hk _ _ _ _ _ hN, ew]
      exact ih (m - 1) _ (by omega) ⟨j + 1, f, row, n, rfl, by omega, by omega, hB⟩
  · rw [if_neg (by simp; omega)]
    exact does_end N s

theorem ScoreDoes_true (a0 : List (Int × Int × List Int)) (a1 : Int) (l0 : a0.length ≤ maxLen) (w0 : ∀ c ∈ a0, ∀ y ∈ c.2.2, (Lit.int .i64 y).wf = true) :
    ∃ st', Snd Tryd.prog 6 [.one (.sl 3 (a0.map encC)), .one (.int .i64 a1)] [] [.one (.bool true)] st' := by
  suffices h : ∃ N st', Tlaw20_ScoreDoes N (a0.map encC) a1 [] = some (true, st') from h.elim fun N h => h.elim fun st' h => ⟨_, Tlaw20_ScoreDoes.snd h⟩
  obtain ⟨st, ha⟩ := alive_eq a0.length
  refine ⟨a0.length + 2000, ?_⟩
  unfold Tlaw20_ScoreDoes
  rw [ha, optE_some]
  dsimp only
  rw [if_neg (by simp)]
  obtain ⟨b, hb, hb'⟩ := great_loop (a0.length + 2000) a0 l0 a0.length 0 (a0.length + 2000) (by omega) (by omega) (fun x _ h => by omega)
  have hb2 : Tlaw20_great (a0.length + 2000) (a0.map encC) = some b := hb
  rw [hb2, optE_some]
  cases b with
  | true => rw [if_pos rfl]; exact ⟨_, rfl⟩
  | false =>
    obtain ⟨g1, g2⟩ := hb' rfl
    rw [if_neg (by simp), New_eq, optE_some]
    dsimp only
    have e0 : (st ++ [[L.mp [], L.own true 1 []]]).length = st.length + 1 := by simp
    obtain ⟨r, h1, h2⟩ := does_loop (a0.length + 2000) (by omega) a0 g1 g2 w0 a1 st.length (st.length + 1) (st ++ [[L.mp [], L.own true 1 []]]) ((st ++ [[L.mp [], L.own true 1 []]]) ++ [[L.own true 1 [], L.own true 1 [], L.own true 1 []]]) e0 ⟨by omega, ⟨_, by rw [List.getElem?_append_left (by omega)]; exact new_at _ _, Rep.new⟩, ⟨_, by rw [← e0]; exact new_at _ _, [], rfl, List.nodup_nil, Nat.le_refl _, fun _ => rfl⟩, by simp, fun _ => by omega⟩
    obtain ⟨r1, r2⟩ := r
    cases h2
    exact ⟨r2, h1⟩

theorem ScoreDoes_true' (xs : List (List L)) (a1 : Int) (h : ∀ x ∈ xs, LTys [.int .i64, .int .i64, .sl 1 [.int .i64]] x) (l0 : xs.length ≤ maxLen) (w1 : (Lit.int .i64 a1).wf = true) :
    ∃ st', Snd Tryd.prog 6 [.one (.sl 3 xs), .one (.int .i64 a1)] [] [.one (.bool true)] st' := by
  obtain ⟨bs, rfl, hw⟩ := decC h
  exact ScoreDoes_true bs a1 (by simpa using l0) fun c hc => (hw c hc).2.2
end Go.Dn.F
