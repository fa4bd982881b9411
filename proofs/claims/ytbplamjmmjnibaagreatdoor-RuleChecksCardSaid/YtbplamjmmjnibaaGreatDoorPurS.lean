/- A header's name, and the spot behind a header, as functions that lay nothing. -/
import Derived.Test.YtbplamjmmjnibaaGreatDoorShaE
import Derived.Test.YtbplamjmmjnibaaGreatDoorKc
set_option linter.unusedSimpArgs false
set_option linter.unusedVariables false
set_option maxRecDepth 4000
namespace Go.Dn.F
open Go.Dn
def wfB (l : List Int) : Bool := l.length == 32 && l.all fun n => decide (0 ≤ n ∧ n < 256)
theorem Zky (l : List Int) : wfB l = true ↔ ∃ b : Bs, l = b.map byI ∧ b.length = 32 := by
  constructor
  · intro h
    simp only [wfB, Bool.and_eq_true, beq_iff_eq, List.all_eq_true, decide_eq_true_eq] at h
    refine ⟨byOf l, ?_, by simpa [byOf] using h.1⟩
    unfold byOf
    rw [List.map_map]
    conv => lhs; rw [← List.map_id l]
    refine List.map_congr_left fun n hn => ?_
    have := h.2 n hn
    simp only [id, Function.comp, Zfm]
    omega
  · rintro ⟨b, rfl, h⟩
    simp only [wfB, Bool.and_eq_true, beq_iff_eq, List.all_eq_true, decide_eq_true_eq, List.length_map]
    refine ⟨h, fun n hn => ?_⟩
    obtain ⟨x, _, rfl⟩ := List.mem_map.1 hn
    exact ⟨Zlq x, Zlr x⟩
def wfH (h : Zae) : Bool := wfB h.Prev && wfB h.Root
theorem Zkx (h : Zae) : wfH h = true ↔ ∃ p r, HW h p r := by
  simp only [wfH, Bool.and_eq_true, Zky]
  constructor
  · rintro ⟨⟨p, h1, h2⟩, r, h3, h4⟩; exact ⟨p, r, h1, h3, h2, h4⟩
  · rintro ⟨p, r, h1, h3, h2, h4⟩; exact ⟨⟨p, h1, h2⟩, r, h3, h4⟩
theorem wfB_hid (h : Zae) : wfB (hid h) = true := (Zky _).2 (hid_by h)
noncomputable def Zcr (N : Nat) (h_0 : Zae) : Option (List Int) := chk (500 ≤ N) <| chk (wfH h_0 = true) <| some (hid h_0)
theorem Zea {N : Nat} (hN : 500 ≤ N) {h : Zae} (hw : wfH h = true) : Zcr N h = some (hid h) := by
  unfold Zcr; rw [Zaj hN, Zaj hw]
theorem ZeJ {N : Nat} {h : Zae} {r : List Int} (hr : Zcr N h = some r) (st : LL) : ∃ ex, Zch N h st = some (r, st ++ ex) := by
  unfold Zcr at hr
  obtain ⟨h1, hr⟩ := ZaM hr
  obtain ⟨h2, hr⟩ := ZaM hr
  cases hr
  obtain ⟨p, q, hw⟩ := (Zkx h).1 h2
  exact Id_eq N h1 h hw st
def starts (p : Zac) (h : Int) : Bool := decide (0 < p.Interval ∧ Int.tmod h p.Interval = 0)
theorem ZgN (N : Nat) (p : Zac) (h : Int) : Zbu N p h = some (starts p h) := by
  unfold Zbu starts
  by_cases hi : 0 < p.Interval
  · rw [if_pos (by simpa using hi), Zaj (by omega)]
    refine Zdc ?_
    simp [hi]
  · rw [if_neg (by simpa using hi)]
    refine Zdc ?_
    simp [hi]
def tims (l : LL) : List Int := l.map leafI
def behind (p : Zac) (a : Zav) (h : Zae) : Zav :=
  ⟨⟨w64 (a.Point.Height + 1), h.Bits, h.Time, if starts p a.Point.Height then h.Time else a.Point.First, if p.Easy && h.Bits == p.Limit && !starts p a.Point.Height then a.Point.Hard else h.Bits⟩, hid h, rowI (h.Time :: (tims a.Times).take 10)⟩
theorem ZlB (N : Nat) (hN : 10 ≤ N) (st : LL) (i : Nat) (l : List Int) (t : Int) (hst : st[i]? = some [L.own true 1 (rowI l)]) (hl : l.length < 1000000) :
    ZaE N (some i) [[L.int .i64 t]] st = some (st.set i [L.own true 1 (rowI (t :: l.take 10))]) := by
  have hi := ZjM hst
  obtain ⟨N', rfl⟩ : ∃ q, N = q + 2 := ⟨N - 2, by omega⟩
  unfold ZaE
  rw [if_neg (by simp), Zau]
  have hlen : len (rowI l) = (l.length : Int) := by simp [len]
  have hmin : Int.toNat (if (10 : Int) < (l.length : Int) then 10 else (l.length : Int)) = min 10 l.length := by split <;> omega
  have ht : (rowI l).take (min 10 l.length) = rowI (l.take 10) := by
    rw [Zil]; congr 1
    rcases Nat.le_total 10 l.length with h | h
    · rw [Nat.min_eq_left h]
    · rw [Nat.min_eq_right h, List.take_of_length_le (Nat.le_refl _), List.take_of_length_le h]
  have h0 : ([[L.int .i64 t]] : LL)[Int.toNat (0 : Int)]? = some [L.int .i64 t] := rfl
  have h1 : ([[L.int .i64 t]] : LL) ++ rowI (l.take 10) = rowI (t :: l.take 10) := rfl
  have e1 : (w64 (0 + 1) : Int) = 1 := by rw [ZaC (by omega) (by omega)]; omega
  conv => lhs; unfold ZaE.p1
  dsimp only
  rw [if_pos (by simp [len]), Zaj (by omega), h0, Zbc, Zcw, Zak, hst, Zbc, Zeu, hlen, Zaj (by split <;> omega), hmin, Zaj (by simp; omega), ht, h1, Zaj (by simp; omega), e1, Zau]
  conv => lhs; unfold ZaE.p1
  dsimp only
  rw [if_neg (by simp [len])]
theorem Times_eq (N : Nat) (l : List Int) (hl : l.length < 1000000) : Zbk N (rowI l) = some (rowI l) := by
  unfold Zbk
  rw [ZaU, Zaj (by simp; omega), Zak]
theorem p2_eq (N : Nat) (hN : 30 ≤ N) (a : Zav) (h : Zae) (out : Zav) (st : LL) (ha : isI a.Times = true) (hl : a.Times.length < 1000000) :
    ∃ ex, Zaz.p2 N a h out st = some ({out with Times := rowI (h.Time :: (tims a.Times).take 10)}, st ++ ex) := by
  obtain ⟨l, hll⟩ : ∃ l, l = tims a.Times := ⟨_, rfl⟩
  have hr : a.Times = rowI l := by rw [hll]; exact Zga ha
  have hlen : l.length < 1000000 := by rw [hll, tims, List.length_map]; exact hl
  refine ⟨[[L.own true 1 (rowI (h.Time :: l.take 10))]], ?_⟩
  rw [← hll]
  unfold Zaz.p2
  have hlen2 : len a.Times = (l.length : Int) := by rw [hr]; simp [len]
  have hset : ∀ y z : List L, (st ++ [y]).set st.length z = st ++ [z] := fun y z => by simp
  have hget : ∀ y : List L, (st ++ [y])[st.length]? = some y := fun y => by simp
  obtain ⟨m0, hm0⟩ : ∃ m0, m0 = min 11 l.length := ⟨_, rfl⟩
  have e0 : w64 ((if (11 : Int) < len a.Times then 11 else len a.Times) - 1) = (m0 : Int) - 1 := by
    rw [hlen2, ZaC] <;> split <;> omega
  rw [e0]
  refine Zby (fun m (y : Int × LL) => y = ((m : Int) - 1, st ++ [[L.own true 1 (rowI ((l.take m0).drop m))]]) ∧ m ≤ m0) ?_ N m0 _ ⟨by simp [rowI], Nat.le_refl _⟩ (by omega)
  rintro G m _ ⟨rfl, hm⟩ ih
  unfold Zaz.p3
  dsimp only
  cases m with
  | succ m =>
    have hml : m < l.length := by omega
    have hc : ((m + 1 : Nat) : Int) - 1 = (m : Int) := by omega
    have hcons : (l.take m0).drop m = l[m] :: (l.take m0).drop (m + 1) := by
      rw [List.drop_eq_getElem_cons (by simp; omega), List.getElem_take]
    have ht : ((l.take m0).drop (m + 1)).take 10 = (l.take m0).drop (m + 1) := List.take_of_length_le (by simp; omega)
    rw [hc, if_pos (by simp), Zaj (by omega), hlen2, Zaj (by omega), hr, ZeL (List.getElem?_eq_getElem hml), Zbc, Zcw, ZlB N (by omega) _ _ _ _ (hget _) (by simp; omega), Zak, hset, ht, ← hcons]
    exact ih m _ (Nat.lt_succ_self _) ⟨by rw [ZaC (by omega) (by omega)], by omega⟩
  | zero =>
    have ht : ((l.take m0).drop 0).take 10 = l.take 10 := by
      rw [List.drop_zero, List.take_take]
      by_cases h' : 10 ≤ l.length
      · rw [show min 10 m0 = 10 by omega]
      · rw [show min 10 m0 = l.length by omega, List.take_of_length_le (Nat.le_refl _), List.take_of_length_le (by omega)]
    rw [if_neg (by simp), ZlB N (by omega) _ _ _ _ (hget _) (by simp; omega), Zak, hset, hget, Zbc, Zeu, ht, Times_eq N _ (by simp; omega), Zak, Zaj (Zhb _)]
theorem ZlF (N : Nat) (hN : 500 ≤ N) (p : Zac) (a : Zav) (h : Zae) (hw : wfH h = true) (ha : isI a.Times = true) (hl : a.Times.length < 1000000) (st : LL) :
    ∃ ex, Zaz N p a h st = some (behind p a h, st ++ ex) := by
  obtain ⟨e1, h1⟩ := ZeJ (Zea hN hw) st
  have key : ∀ out : Zav, ∃ ex, Zaz.p1 N p a h out (st ++ e1) = some (⟨⟨out.Point.Height, out.Point.Bits, out.Point.Time, out.Point.First, if p.Easy && h.Bits == p.Limit && !starts p a.Point.Height then a.Point.Hard else out.Point.Hard⟩, out.Prev, rowI (h.Time :: (tims a.Times).take 10)⟩, st ++ ex) := fun out => by
    obtain ⟨e2, h2⟩ := p2_eq N (by omega) a h out (st ++ e1) ha hl
    obtain ⟨e3, h3⟩ := p2_eq N (by omega) a h {out with Point := {out.Point with Hard := a.Point.Hard}} (st ++ e1) ha hl
    rw [List.append_assoc] at h2 h3
    unfold Zaz.p1
    rw [ZgN, Zak]
    cases he : p.Easy with
    | false => rw [if_neg (by simp), h2]; exact ⟨e1 ++ e2, rfl⟩
    | true =>
      rw [if_pos rfl]
      by_cases hb : h.Bits = p.Limit
      · rw [if_pos (by simpa using hb)]
        cases hs : starts p a.Point.Height with
        | true => rw [if_neg (by simp), h2]; exact ⟨e1 ++ e2, by simp⟩
        | false => rw [if_pos (by rfl), h3]; exact ⟨e1 ++ e3, by simp [hb]⟩
      · rw [if_neg (by simpa using hb), h2]; exact ⟨e1 ++ e2, by simp [hb]⟩
  unfold Zaz
  rw [h1, Zak]
  dsimp only
  rw [ZgN, Zak]
  cases hs : starts p a.Point.Height with
  | true =>
    obtain ⟨e2, h2⟩ := key (Zav.mk (ZbA.mk (w64 (a.Point.Height + 1)) h.Bits h.Time h.Time h.Bits) (hid h) [])
    rw [if_pos rfl, h2]
    exact ⟨e2, by unfold behind; rw [hs]; rfl⟩
  | false =>
    obtain ⟨e2, h2⟩ := key (Zav.mk (ZbA.mk (w64 (a.Point.Height + 1)) h.Bits h.Time a.Point.First h.Bits) (hid h) [])
    rw [if_neg (by simp), h2]
    exact ⟨e2, by unfold behind; rw [hs]; rfl⟩
def wfS (a : Zav) : Bool := isI a.Times && decide (a.Times.length < 1000000)
noncomputable def Zcb (N : Nat) (p : Zac) (a : Zav) (h : Zae) : Option Zav := chk (500 ≤ N) <| chk (wfH h = true) <| chk (wfS a = true) <| some (behind p a h)
theorem Zem {N : Nat} (hN : 500 ≤ N) {p : Zac} {a : Zav} {h : Zae} (hw : wfH h = true) (ha : wfS a = true) : Zcb N p a h = some (behind p a h) := by
  unfold Zcb; rw [Zaj hN, Zaj hw, Zaj ha]
theorem Zef {N : Nat} {p : Zac} {a : Zav} {h : Zae} {r : Zav} (hr : Zcb N p a h = some r) (st : LL) : ∃ ex, Zaz N p a h st = some (r, st ++ ex) := by
  unfold Zcb at hr
  obtain ⟨h1, hr⟩ := ZaM hr
  obtain ⟨h2, hr⟩ := ZaM hr
  obtain ⟨h3, hr⟩ := ZaM hr
  cases hr
  simp only [wfS, Bool.and_eq_true, decide_eq_true_eq] at h3
  exact ZlF N h1 p a h h2 h3.1 h3.2 st
theorem ZdF {N : Nat} {p : Zac} {a : Zav} {h : Zae} {r : Zav} (hr : Zcb N p a h = some r) : ([.agg r.ls] : List CV).all flatV = true := by
  unfold Zcb at hr
  obtain ⟨h1, hr⟩ := ZaM hr
  obtain ⟨h2, hr⟩ := ZaM hr
  obtain ⟨h3, hr⟩ := ZaM hr
  cases hr
  have h4 : ∀ l : List Int, ((rowI l).all fun x => x.all flatE) = true := fun l => by simp [rowI, flatE]
  have h5 := h4 (h.Time :: (tims a.Times).take 10)
  have e1 : ∀ k n, flatL (.int k n) = true := fun _ _ => rfl
  have e2 : ∀ k n xs, flatL (.arr k n xs) = true := fun _ _ _ => rfl
  have e3 : ∀ n xs, flatL (.sl n xs) = xs.all fun x => x.all flatE := fun _ _ => rfl
  simp only [List.all_cons, List.all_nil, flatV, Zav.ls, behind, e1, e2, e3, Bool.and_true, Bool.true_and]
  exact h5
def Zlv (p : Zac) : Zav := behind p ⟨⟨0, 0, 0, 0, p.Limit⟩, List.replicate 32 0, []⟩ p.Genesis
noncomputable def ZcC (N : Nat) (p : Zac) : Option Zav := Zcb N p ⟨⟨0, 0, 0, 0, p.Limit⟩, List.replicate 32 0, []⟩ p.Genesis
theorem ZgQ {N : Nat} (hN : 500 ≤ N) {p : Zac} (hw : wfH p.Genesis = true) : ZcC N p = some (Zlv p) := Zem hN hw rfl
theorem Zgq {N : Nat} {p : Zac} {r : Zav} (hr : ZcC N p = some r) (st : LL) : ∃ ex, Zcz N p st = some (r, st ++ ex) := by
  obtain ⟨ex, h⟩ := Zef hr st
  exact ⟨ex, by unfold Zcz; rw [h, Zak]⟩
end Go.Dn.F
