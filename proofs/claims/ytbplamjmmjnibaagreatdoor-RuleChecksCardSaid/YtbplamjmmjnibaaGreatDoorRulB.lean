/- Whether a header may stand behind a spot, as a plain function. -/
import Derived.Test.YtbplamjmmjnibaaGreatDoorNumM
import Derived.Test.YtbplamjmmjnibaaGreatDoorRulArg
set_option linter.unusedSimpArgs false
set_option linter.unusedVariables false
set_option maxRecDepth 40000
namespace Go.Dn.F
open Go.Dn Go.Proofs
variable {N : Nat}
theorem Zlf (h : Zae) : (hid h).length = 32 ∧ bys (hid h) := by
  obtain ⟨b, e, l⟩ := hid_by h
  rw [e]
  refine ⟨by simpa using l, fun x hx => ?_⟩
  obtain ⟨y, _, rfl⟩ := List.mem_map.1 hx
  exact ⟨Zlq y, Zlr y⟩
def itself (p : Zac) (h : Zae) : Int :=
  if hgood h = false then 1 else if (tgt h.Bits p.Limit).2 = false then 4 else if hv (hid h) ≤ (tgt h.Bits p.Limit).1 then 0 else 4
theorem ZgP (hN : 500 ≤ N) (p : Zac) {h : Zae} (hw : wfH h = true) : ZbH N p h = some (itself p h) := by
  unfold ZbH itself
  rw [Zdf, Zak, ZcL (by omega), Zak]
  dsimp only
  have hb := Zlf h
  rw [Zea hN hw, Zak, ZfU (by omega) hb.1 hb.2 (Zfu _ _), Zak]
  cases hgood h
  · rfl
  · cases (tgt h.Bits p.Limit).2
    · rfl
    · by_cases k : hv (hid h) ≤ (tgt h.Bits p.Limit).1 <;> simp [k]
def verOf (height : Int) (gs : List ZbW) : Int := gs.foldl (fun l g => if height ≥ g.Height ∧ g.Version > l then g.Version else l) (-2147483648)
noncomputable def rowG (l : List ZbW) : LL := l.map ZbW.ls
noncomputable def rowC (l : List ZbG) : LL := l.map ZbG.ls
theorem ZjD {l : List ZbW} {i : Nat} (h : i < l.length) : (rowG l)[i]? = some l[i].ls := by simp [rowG, h]
theorem ZjE {l : List ZbG} {i : Nat} (h : i < l.length) : (rowC l)[i]? = some l[i].ls := by simp [rowC, h]
@[simp] theorem Zja (l : List ZbW) : (rowG l).length = l.length := by simp [rowG]
@[simp] theorem Zjb (l : List ZbG) : (rowC l).length = l.length := by simp [rowC]
theorem open_G {xs : LL} (h : ∀ x ∈ xs, LTys [.int .i64, .int .i64] x) : ∃ l : List ZbW, xs = rowG l :=
  let ⟨l, h, _⟩ := decode (e := ZbW.ls) (good := fun _ => True) fun x hx => by
    obtain ⟨_, _, rfl, h1, h⟩ := (h x hx).cons_inv
    obtain ⟨_, _, rfl, h2, h⟩ := h.cons_inv
    cases h.nil_inv
    obtain ⟨a, rfl, _⟩ := h1.int_inv
    obtain ⟨b, rfl, _⟩ := h2.int_inv
    exact ⟨⟨a, b⟩, rfl, trivial⟩
  ⟨l, h⟩
theorem open_K {xs : LL} (h : ∀ x ∈ xs, LTys [.int .i64, .arr .u8 32] x) : ∃ l : List ZbG, xs = rowC l :=
  let ⟨l, h, _⟩ := decode (e := ZbG.ls) (good := fun _ => True) fun x hx => by
    obtain ⟨_, _, rfl, h1, h⟩ := (h x hx).cons_inv
    obtain ⟨_, _, rfl, h2, h⟩ := h.cons_inv
    cases h.nil_inv
    obtain ⟨a, rfl, _⟩ := h1.int_inv
    obtain ⟨b, rfl, _⟩ := h2.arr_inv
    exact ⟨⟨a, b⟩, rfl, trivial⟩
  ⟨l, h⟩
theorem Zgo (height : Int) (gs : List ZbW) (hg : gs.length < N) (hb : gs.length < 1000000) : ZaH N height (rowG gs) = some (verOf height gs) := by
  unfold ZaH
  refine Zby (fun m (x : Int × Int) => ∃ i : Nat, i + m = gs.length ∧ x = (verOf height (gs.take i), (i : Int))) ?_ N gs.length _ ⟨0, by omega, rfl⟩ hg
  rintro G m _ ⟨i, hi, rfl⟩ hG
  unfold ZaH.p1 ZaH.p2
  dsimp only
  by_cases hlt : i < gs.length
  · rw [if_pos (by simp [len]; omega), Zaj (by omega), Int.toNat_natCast, ZjD hlt, Zbc, Zew, ZaC (by omega) (by omega)]
    have st : verOf height (gs.take (i + 1)) = if height ≥ gs[i].Height ∧ gs[i].Version > verOf height (gs.take i) then gs[i].Version else verOf height (gs.take i) := by
      unfold verOf
      rw [List.take_succ_eq_append_getElem hlt, List.foldl_append]; rfl
    have hn := hG (m - 1) (verOf height (gs.take (i + 1)), ((i + 1 : Nat) : Int)) (by omega) ⟨i + 1, by omega, rfl⟩
    rw [st] at hn
    by_cases h1 : height ≥ gs[i].Height
    · rw [if_pos (by simpa using h1)]
      by_cases h2 : gs[i].Version > verOf height (gs.take i)
      · rw [if_pos ⟨h1, h2⟩] at hn
        rw [if_pos h2]; exact hn
      · rw [if_neg (fun h => h2 h.2)] at hn
        rw [if_neg h2]; exact hn
    · rw [if_neg (by simpa using h1)]
      rw [if_neg (fun h => h1 h.1)] at hn
      exact hn
  · rw [if_neg (by simp [len]; omega), List.take_of_length_le (by omega)]
def tracked (height : Int) (id : List Int) (cs : List ZbG) : Bool := cs.all fun c => !(c.Height == height) || c.Id == id
theorem Zgp (height : Int) (id : List Int) (cs : List ZbG) (hg : cs.length < N) (hb : cs.length < 1000000) : Zbe N height id (rowC cs) = some (tracked height id cs) := by
  unfold Zbe
  refine Zby (fun m (x : Int) => ∃ i : Nat, i + m = cs.length ∧ x = (i : Int) ∧ tracked height id cs = tracked height id (cs.drop i)) ?_ N cs.length _ ⟨0, by omega, rfl, by rw [List.drop_zero]⟩ hg
  rintro G m _ ⟨i, hi, rfl, ht⟩ hG
  unfold Zbe.p1
  by_cases hlt : i < cs.length
  · rw [List.drop_eq_getElem_cons hlt] at ht
    have e : tracked height id (cs[i] :: cs.drop (i + 1)) = ((!(cs[i].Height == height) || cs[i].Id == id) && tracked height id (cs.drop (i + 1))) := rfl
    rw [e] at ht
    rw [if_pos (by simp [len]; omega), Zaj (by omega), Int.toNat_natCast, ZjE hlt, Zbc, Zeh, ZaC (by omega) (by omega)]
    by_cases h1 : (cs[i].Height == height) = true
    · rw [if_pos h1]
      by_cases h2 : (cs[i].Id == id) = true
      · rw [if_neg (by simp [h2])]
        exact hG (m - 1) _ (by omega) ⟨i + 1, by omega, rfl, by rw [ht]; simp [h2]⟩
      · rw [if_pos (by simpa using h2), ht]; simp [h1, h2]
    · rw [if_neg h1]
      exact hG (m - 1) _ (by omega) ⟨i + 1, by omega, rfl, by rw [ht]; simp [h1]⟩
  · rw [if_neg (by simp [len]; omega), ht, List.drop_of_length_le (by omega)]; rfl
def near (t now f : Int) : Bool := decide (0 ≤ f ∧ (t ≤ now ∨ t - now ≤ f))
theorem ZgS {t now : Int} (f : Int) (h1 : 0 ≤ t ∧ t ≤ 1152921504606846976) (h2 : -1152921504606846976 ≤ now ∧ now ≤ 9223372036854775807) : ZbR N t now f = some (near t now f) := by
  unfold ZbR near
  rw [ZaC (by omega) (by omega)]
  repeat' split
  all_goals (refine Zdc ⟨fun h => ?_, fun h => ?_⟩ <;> simp only [decide_eq_true_eq, Bool.false_eq_true] at * <;> first | trivial | omega)
def checkS (p : Zac) (gs : List ZbW) (cs : List ZbG) (s : Zav) (h : Zae) (now : Int) : Int :=
  if hgood h = false then 1
  else if h.Prev ≠ s.Prev then 2
  else if h.Bits ≠ nextB p s.Point h.Time then 3
  else if itself p h ≠ 0 then 4
  else if ((tims s.Times).length == 0 || decide (h.Time > M (tims s.Times))) = false then 5
  else if near h.Time now p.Future = false then 6
  else if h.Version < verOf s.Point.Height gs then 7
  else if tracked s.Point.Height (hid h) cs = false then 8 else 0
theorem Zhu (hN : 500 ≤ N) {p : Zac} {gs : List ZbW} {cs : List ZbG} (hg : p.Gates = rowG gs) (hc : p.Checks = rowC cs) (lg : gs.length ≤ 400) (lc : cs.length ≤ 400)
    {s : Zav} {h : Zae} (hw : wfH h = true) (hs : isI s.Times = true) (now : Int) (hnow : -1152921504606846976 ≤ now ∧ now ≤ 9223372036854775807) :
    Zcj N p s h now = some (checkS p gs cs s h now) := by
  unfold Zcj checkS
  rw [Zdf, Zak]
  cases hgd : hgood h with
  | false => rfl
  | true =>
    have tr := (ZiG h).1 hgd
    have ht : s.Times = rowI (tims s.Times) := Zga hs
    rw [if_neg (c := (!true) = true) (by simp), if_neg (c := true = false) (by simp)]
    by_cases h2 : h.Prev = s.Prev
    · rw [if_neg (by simp [h2]), if_neg (by simp [h2]), Zis (by omega), Zak]
      by_cases h3 : h.Bits = nextB p s.Point h.Time
      · rw [if_neg (by simp [h3]), if_neg (by simp [h3]), ZgP hN p hw, Zak]
        by_cases h4 : itself p h = 0
        · rw [if_neg (by simp [h4]), if_neg (by simp [h4]), show ZbD N h.Time s.Times = _ from (congrArg (ZbD N h.Time) ht).trans (Zjl N h.Time (tims s.Times)), Zak]
          cases h5 : ((tims s.Times).length == 0 || decide (h.Time > M (tims s.Times)))
          · rfl
          · rw [if_neg (by simp), if_neg (by simp), ZgS _ (by omega) hnow, Zak]
            cases h6 : near h.Time now p.Future
            · rfl
            · rw [if_neg (by simp), if_neg (by simp), hg, Zgo _ gs (by omega) (by omega), Zak]
              by_cases h7 : h.Version < verOf s.Point.Height gs
              · rw [if_pos (by simpa using h7), if_pos h7]
              · rw [if_neg (by simpa using h7), if_neg h7, Zea hN hw, Zak, hc, Zgp _ _ cs (by omega) (by omega), Zak]
                cases tracked s.Point.Height (hid h) cs <;> rfl
        · rw [if_pos (by simpa using h4), if_pos h4]
      · rw [if_pos (by simpa using h3), if_pos h3]
    · rw [if_pos (by simpa using h2), if_pos h2]
end Go.Dn.F
