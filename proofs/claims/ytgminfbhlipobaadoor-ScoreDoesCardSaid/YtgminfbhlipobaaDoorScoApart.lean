/- ScoreApart answers true. -/
import Derived.Test.YtgminfbhlipobaaDoorScoLaws
import Derived.Test.YtgminfbhlipobaaDoorKc
set_option linter.unusedSimpArgs false
set_option linter.unusedVariables false
namespace Go.Dn.F
open Go.Proofs

/-- A call of a script, as leaves. -/
def encC (c : Int × Int × List Int) : List L := [L.int .i64 c.1, L.int .i64 c.2.1, L.sl 1 (rowI c.2.2)]
@[simp] theorem dec_call {α : Type} (c : Int × Int × List Int) (k : Int → Int → List (List L) → Option α) : dec_trailheadlaw20_Call (encC c) k = k c.1 c.2.1 (rowI c.2.2) := rfl

theorem great_loop (N : Nat) (S : List (Int × Int × List Int)) (hS : S.length ≤ maxLen) : ∀ (m j k : Nat), m + j = S.length → m < k → (∀ (x : Nat) (h : x < S.length), x < j → (S[x]).2.2.length ≤ 20) →
    ∃ b, loopN (Tlaw20_great.p1 N (S.map encC)) k (j : Int) = some b ∧ (b = false → S.length ≤ 100 ∧ ∀ c ∈ S, c.2.2.length ≤ 20) := by
  intro m
  induction m with
  | zero =>
    intro j k hj hk hno
    obtain ⟨k, rfl⟩ : ∃ q, k = q + 1 := ⟨k - 1, by omega⟩
    rw [loopN_succ]
    unfold Tlaw20_great.p1
    rw [if_neg (by simp; omega)]
    refine ⟨_, rfl, fun h => ⟨by simp at h; omega, fun c hc => ?_⟩⟩
    obtain ⟨x, hx, rfl⟩ := List.getElem_of_mem hc
    exact hno x hx (by omega)
  | succ m ih =>
    intro j k hj hk hno
    obtain ⟨k, rfl⟩ : ∃ q, k = q + 1 := ⟨k - 1, by omega⟩
    have hj' : j < S.length := by omega
    rw [loopN_succ]
    have hg : (S.map encC)[Int.toNat (j : Int)]? = some (encC S[j]) := by rw [Int.toNat_natCast, List.getElem?_map, List.getElem?_eq_getElem hj']; rfl
    have ih' := ih (j + 1) k (by omega) (by omega)
    generalize loopN (Tlaw20_great.p1 N (S.map encC)) k = G at ih' ⊢
    unfold Tlaw20_great.p1
    rw [if_pos (by simp; omega), chk_pos (by omega), hg, optE_some, dec_call, rowI_length]
    by_cases hc : ((S[j]).2.2.length : Int) > 20
    · rw [if_pos (by simpa using hc)]
      exact ⟨true, rfl, fun h => by cases h⟩
    · have hm : (maxLen : Int) ≤ 9223372036854775807 := by decide
      rw [if_neg (by simpa using hc), wrap_i64 (by omega) (by omega)]
      exact ih' fun x hx hxj => by
        by_cases e : x = j
        · subst e; omega
        · exact hno x hx (by omega)

def Rg (f : Int → Int) : Prop := ∀ k, 0 ≤ f k ∧ f k ≤ 100000
theorem Rg.upd {f : Int → Int} (h : Rg f) {p v : Int} (h0 : 0 ≤ v) (h1 : v ≤ 100000) : Rg (upd f p v) := fun k => by
  unfold F.upd
  split
  · exact ⟨h0, h1⟩
  · exact h k
theorem Rg.newF {f : Int → Int} (h : Rg f) {p n : Int} (h0 : 0 ≤ n) : Rg (newF f p n) := by
  have := h p
  unfold F.newF
  split
  · exact h
  · split
    · exact h.upd (by omega) (by omega)
    · refine h.upd ?_ ?_ <;> (unfold newS; split <;> omega)
theorem newR_len {f : Int → Int} {row : List Int} {p n : Int} (h : row.length ≤ 16) : (newR f row p n).length ≤ 16 := by
  have := wo_length p row
  unfold newR
  split
  · exact h
  · split
    · unfold trim; split <;> (simp at *; omega)
    · exact h
theorem newF_at {f g : Int → Int} {p n : Int} (h : f p = g p) : newF f p n p = newF g p n p := by
  unfold newF newS upd
  rw [h]
  by_cases h0 : n = 0
  · rw [if_pos h0, if_pos h0]; exact h
  · rw [if_neg h0, if_neg h0]
    by_cases h1 : (if 100000 < g p + n then 100000 else g p + n) ≥ 100
    · rw [if_pos h1, if_pos h1]; simp
    · rw [if_neg h1, if_neg h1]; simp
theorem newF_off {f : Int → Int} {p q n : Int} (h : q ≠ p) : newF f p n q = f q := by
  unfold newF upd
  split
  · rfl
  · split <;> simp [h]
theorem newR_at {f g : Int → Int} {row : List Int} {p n : Int} (h : f p = g p) : newR f row p n = newR g row p n := by
  unfold newR newS; rw [h]
theorem newR_off {f : Int → Int} {row : List Int} {p q n : Int} (h : q ≠ p) (hq : q ∉ row) : q ∉ newR f row p n := by
  unfold newR
  split
  · exact hq
  · split
    · intro hm
      have : q ∈ wo p row ++ [p] := by
        unfold trim at hm
        split at hm
        · exact List.mem_of_mem_drop hm
        · exact hm
      rcases List.mem_append.1 this with h1 | h1
      · exact hq (List.mem_filter.1 h1).1
      · simp at h1; exact h h1
    · exact hq

structure Inv (st : List (List L)) (i i2 : Nat) (peer : Int) (bl ot : Bool) : Prop where
  ex : ∃ xb xo fb fo rb ro, st[i]? = some xb ∧ st[i2]? = some xo ∧ Rep xb fb rb ∧ Rep xo fo ro ∧ Rg fb ∧ Rg fo ∧ rb.length ≤ 16 ∧ ro.length ≤ 16 ∧ fb peer = fo peer ∧ (bl = false → peer ∉ rb) ∧ (ot = false → rb = ro)

theorem apart_p2 {N : Nat} (hN : 1000 < N) {st : List (List L)} {i i2 : Nat} {peer : Int} {bl ot : Bool} (h : Inv st i i2 peer bl ot) (c1 : Bool × Bool × Int × List (List L) → Option (Bool × List (List L))) (S : List (List L)) (v : Nat) (hv : v < 1000) :
    Tlaw20_ScoreApart.p2 N c1 peer (some i) (some i2) bl ot S (v : Int) st = c1 (bl, ot, ((v + 1 : Nat) : Int), st) := by
  obtain ⟨xb, xo, fb, fo, rb, ro, h1, h2, h3, h4, h5, h6, h7, h8, h9, h10, h11⟩ := h.ex
  have e3 : ∀ b o, Tlaw20_ScoreApart.p3 N c1 peer (some i) (some i2) b o S (v : Int) st = c1 (b, o, ((v + 1 : Nat) : Int), st) := fun b o => by
    unfold Tlaw20_ScoreApart.p3
    rw [wrap_i64 (by omega) (by omega)]; rfl
  unfold Tlaw20_ScoreApart.p2
  rw [Sum_eq h1 h3, optE_some]
  dsimp only
  rw [Sum_eq h2 h4, optE_some]
  dsimp only
  rw [if_neg (by simp [h9])]
  have sb : score_Board_Shuns N (some i) peer st = some (rb.contains peer, st) := Shuns_eq hN h1 h3 (by omega)
  have so : score_Board_Shuns N (some i2) peer st = some (ro.contains peer, st) := Shuns_eq hN h2 h4 (by omega)
  cases bl with
  | true =>
    rw [if_neg (by simp)]
    cases ot with
    | true => rw [if_neg (by simp)]; exact e3 _ _
    | false =>
      rw [if_pos (by rfl), sb, optE_some]
      dsimp only
      rw [so, optE_some, h11 rfl]
      dsimp only
      rw [if_neg (by simp)]; exact e3 _ _
  | false =>
    have hnb : rb.contains peer = false := by simpa using h10 rfl
    rw [if_pos (by rfl), sb, optE_some, hnb]
    dsimp only
    rw [if_neg (by simp)]
    cases ot with
    | true => rw [if_neg (by simp)]; exact e3 _ _
    | false =>
      have e := h11 rfl
      rw [if_pos (by rfl), sb, optE_some, hnb]
      dsimp only
      rw [so, optE_some, ← e, hnb]
      dsimp only
      rw [if_neg (by simp)]; exact e3 _ _

theorem apart_loop (N : Nat) (hN : 1000 < N) (S : List (Int × Int × List Int)) (hS : S.length ≤ 100) (hc : ∀ c ∈ S, c.2.2.length ≤ 20) (i i2 : Nat) (hne : i ≠ i2) (peer : Int) : ∀ (m j k : Nat) (bl ot : Bool) (st : List (List L)), m + j = S.length → m < k → Inv st i i2 peer bl ot →
    ∃ st', loopN (Tlaw20_ScoreApart.p1 N peer (some i) (some i2) (S.map encC)) k (bl, ot, (j : Int), st) = some (true, st') := by
  intro m
  induction m with
  | zero =>
    intro j k bl ot st hj hk hI
    obtain ⟨k, rfl⟩ : ∃ q, k = q + 1 := ⟨k - 1, by omega⟩
    rw [loopN_succ]
    unfold Tlaw20_ScoreApart.p1
    dsimp only
    rw [if_neg (by simp; omega)]
    exact ⟨st, rfl⟩
  | succ m ih =>
    intro j k bl ot st hj hk hI
    obtain ⟨k, rfl⟩ : ∃ q, k = q + 1 := ⟨k - 1, by omega⟩
    have hj' : j < S.length := by omega
    have hcl := hc S[j] (List.getElem_mem hj')
    have hg : (S.map encC)[Int.toNat (j : Int)]? = some (encC S[j]) := by rw [Int.toNat_natCast, List.getElem?_map, List.getElem?_eq_getElem hj']; rfl
    rw [loopN_succ]
    have ih' := fun bl ot st => ih (j + 1) k bl ot st (by omega) (by omega)
    generalize loopN (Tlaw20_ScoreApart.p1 N peer (some i) (some i2) (S.map encC)) k = G at ih' ⊢
    unfold Tlaw20_ScoreApart.p1
    dsimp only
    rw [if_pos (by simp; omega), chk_pos (by omega), hg, optE_some, dec_call]
    generalize S[j] = cc at hcl ⊢
    obtain ⟨kd, q, fs⟩ := cc
    dsimp only at hcl ⊢
    have e3 : ∀ b o st, Tlaw20_ScoreApart.p3 N G peer (some i) (some i2) b o (S.map encC) (j : Int) st = G (b, o, ((j + 1 : Nat) : Int), st) := fun b o st => by
      unfold Tlaw20_ScoreApart.p3
      rw [wrap_i64 (by omega) (by omega)]; rfl
    obtain ⟨xb, xo, fb, fo, rb, ro, h1, h2, h3, h4, h5, h6, h7, h8, h9, h10, h11⟩ := hI.ex
    have hi := idx_of h1
    have hi2 := idx_of h2
    by_cases k1 : kd = 1
    · rw [if_pos (by simp [k1])]
      obtain ⟨xb', a1, a2⟩ := Forget_eq (p := q) h1 h3
      rw [a1, optE_some]
      have b2 : (st.set i xb')[i2]? = some xo := by rw [List.getElem?_set_ne hne]; exact h2
      have b1 : (st.set i xb')[i]? = some xb' := List.getElem?_set_self hi
      by_cases kq : q = peer
      · subst kq
        rw [if_pos (by simp)]
        obtain ⟨xo', c1, c2⟩ := Forget_eq (p := q) b2 h4
        rw [c1, optE_some, e3]
        refine ih' _ _ _ ⟨xb', xo', _, _, rb, ro, ?_, List.getElem?_set_self (by simpa using hi2), a2, c2, h5.upd (by omega) (by omega), h6.upd (by omega) (by omega), h7, h8, by simp [upd], h10, h11⟩
        rw [List.getElem?_set_ne (Ne.symm hne)]; exact b1
      · rw [if_neg (by simpa using kq), e3]
        exact ih' _ _ _ ⟨xb', xo, _, _, rb, ro, b1, b2, a2, h4, h5.upd (by omega) (by omega), h6, h7, h8, by unfold upd; rw [if_neg (fun e => kq e.symm)]; exact h9, h10, h11⟩
    rw [if_neg (by simpa using k1)]
    by_cases k0 : kd = 0
    · have hp := pts_rng fs
      rw [if_neg (by simp [k0]), faults_eq N fs (by omega) hN, optE_some]
      obtain ⟨xb', a1, a2⟩ := Blame_eq (p := q) hN h1 h3 (by omega) fs (by omega) (h5 q)
      rw [a1, optE_some]
      dsimp only
      have b2 : (st.set i xb')[i2]? = some xo := by rw [List.getElem?_set_ne hne]; exact h2
      have b1 : (st.set i xb')[i]? = some xb' := List.getElem?_set_self hi
      by_cases kq : q = peer
      · subst kq
        rw [if_pos (by simp)]
        obtain ⟨xo', c1, c2⟩ := Blame_eq (p := q) hN b2 h4 (by omega) fs (by omega) (h6 q)
        rw [c1, optE_some]
        dsimp only
        have I : Inv ((st.set i xb').set i2 xo') i i2 q true ot := ⟨xb', xo', _, _, _, _, by rw [List.getElem?_set_ne (Ne.symm hne)]; exact b1, List.getElem?_set_self (by simpa using hi2), a2, c2, h5.newF hp.1, h6.newF hp.1, newR_len h7, newR_len h8, newF_at h9, (fun h => by cases h), fun h => by rw [h11 h]; exact newR_at h9⟩
        rw [apart_p2 hN I G _ j (by omega)]
        exact ih' _ _ _ I
      · have hqp : peer ≠ q := fun e => kq e.symm
        rw [if_neg (by simpa using kq)]
        have I : Inv (st.set i xb') i i2 peer bl true := ⟨xb', xo, _, _, _, _, b1, b2, a2, h4, h5.newF hp.1, h6, newR_len h7, h8, by rw [newF_off hqp]; exact h9, fun h => newR_off hqp (h10 h), fun h => by cases h⟩
        rw [apart_p2 hN I G _ j (by omega)]
        exact ih' _ _ _ I
    · rw [if_pos (by simpa using k0), e3]
      exact ih' _ _ _ hI

theorem ScoreApart_true (a0 : List (Int × Int × List Int)) (a1 : Int) (l0 : a0.length ≤ maxLen) :
    ∃ st', Snd Tryd.prog 3 [.one (.sl 3 (a0.map encC)), .one (.int .i64 a1)] [] [.one (.bool true)] st' := by
  suffices h : ∃ N st', Tlaw20_ScoreApart N (a0.map encC) a1 [] = some (true, st') from h.elim fun N h => h.elim fun st' h => ⟨_, Tlaw20_ScoreApart.snd h⟩
  obtain ⟨st, ha⟩ := alive_eq a0.length
  refine ⟨a0.length + 2000, ?_⟩
  unfold Tlaw20_ScoreApart
  rw [ha, optE_some]
  dsimp only
  rw [if_neg (by simp)]
  obtain ⟨b, hb, hb'⟩ := great_loop (a0.length + 2000) a0 l0 a0.length 0 (a0.length + 2000) (by omega) (by omega) (fun x _ h => by omega)
  have hb2 : Tlaw20_great (a0.length + 2000) (a0.map encC) = some b := hb
  rw [hb2, optE_some]
  cases b with
  | true => rw [if_pos rfl]; exact ⟨_, rfl⟩
  | false =>
    obtain ⟨g1, g2⟩ := hb' rfl
    rw [if_neg (by simp), New_eq, optE_some]
    dsimp only
    rw [New_eq, optE_some]
    have e0 : (st ++ [[L.mp [], L.own true 1 []]]).length = st.length + 1 := by simp
    refine apart_loop (a0.length + 2000) (by omega) a0 g1 g2 st.length _ (by omega) a1 a0.length 0 (a0.length + 2000) false false _ (by omega) (by omega) ⟨_, _, _, _, [], [], ?_, new_at _ _, Rep.new, Rep.new, (fun _ => ⟨Int.le_refl 0, (by decide : (0 : Int) ≤ 100000)⟩), (fun _ => ⟨Int.le_refl 0, (by decide : (0 : Int) ≤ 100000)⟩), by simp, by simp, rfl, fun _ => by simp, fun _ => rfl⟩
    rw [List.getElem?_append_left (by omega)]
    exact new_at _ _

theorem decC {xs : List (List L)} (h : ∀ x ∈ xs, LTys [.int .i64, .int .i64, .sl 1 [.int .i64]] x) : ∃ bs : List (Int × Int × List Int), xs = bs.map encC ∧ ∀ a ∈ bs, (Lit.int .i64 a.1).wf = true ∧ (Lit.int .i64 a.2.1).wf = true ∧ ∀ n ∈ a.2.2, (Lit.int .i64 n).wf = true :=
  decode fun x hx => by
    obtain ⟨l1, r1, rfl, h1, h2⟩ := (h x hx).cons_inv
    obtain ⟨l2, r2, rfl, h3, h4⟩ := h2.cons_inv
    obtain ⟨l3, r3, rfl, h5, h6⟩ := h4.cons_inv
    cases h6.nil_inv
    obtain ⟨a, rfl, wa⟩ := h1.int_inv
    obtain ⟨b, rfl, wb⟩ := h3.int_inv
    obtain ⟨ys, rfl, _, hy⟩ := h5.sl_inv
    obtain ⟨zs, rfl, hz⟩ := decode_ints hy
    exact ⟨(a, b, zs), rfl, wa, wb, hz⟩

theorem ScoreApart_true' (xs : List (List L)) (a1 : Int) (h : ∀ x ∈ xs, LTys [.int .i64, .int .i64, .sl 1 [.int .i64]] x) (l0 : xs.length ≤ maxLen) (w1 : (Lit.int .i64 a1).wf = true) :
    ∃ st', Snd Tryd.prog 3 [.one (.sl 3 xs), .one (.int .i64 a1)] [] [.one (.bool true)] st' := by
  obtain ⟨bs, rfl, _⟩ := decC h
  exact ScoreApart_true bs a1 (by simpa using l0)
end Go.Dn.F
