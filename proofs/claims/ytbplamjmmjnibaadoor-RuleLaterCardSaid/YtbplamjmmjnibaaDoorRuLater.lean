/- RuleLater answers true. -/
import Derived.Test.YtbplamjmmjnibaaDoorRuA
set_option linter.unusedSimpArgs false
set_option linter.unusedVariables false
set_option maxRecDepth 100000
namespace Go.Dn.F
open Go.Dn Go.Proofs
theorem checkS_split (p : api_Params) (gs : List api_Gate) (cs : List api_Check) (s : rule_Spot) (h : api_Header) :
    ∃ R : Int, R ≠ 6 ∧ ((∀ now, checkS p gs cs s h now = R) ∨ (hgood h = true ∧ ∀ now, checkS p gs cs s h now = if near h.Time now p.Future = false then 6 else R)) := by
  unfold checkS
  by_cases h1 : hgood h = false
  · exact ⟨1, by omega, .inl fun _ => by rw [if_pos h1]⟩
  have h1' : hgood h = true := by simpa using h1
  simp only [if_neg h1]
  by_cases h2 : h.Prev ≠ s.Prev
  · exact ⟨2, by omega, .inl fun _ => by rw [if_pos h2]⟩
  simp only [if_neg h2]
  by_cases h3 : h.Bits ≠ nextB p s.Point h.Time
  · exact ⟨3, by omega, .inl fun _ => by rw [if_pos h3]⟩
  simp only [if_neg h3]
  by_cases h4 : itself p h ≠ 0
  · exact ⟨4, by omega, .inl fun _ => by rw [if_pos h4]⟩
  simp only [if_neg h4]
  by_cases h5 : ((tims s.Times).length == 0 || decide (h.Time > M (tims s.Times))) = false
  · exact ⟨5, by omega, .inl fun _ => by rw [if_pos h5]⟩
  simp only [if_neg h5]
  refine ⟨if h.Version < verOf s.Point.Height gs then 7 else if tracked s.Point.Height (hid h) cs = false then 8 else 0, ?_, .inr ⟨h1', fun now => rfl⟩⟩
  split
  · omega
  · split <;> omega
theorem RuleLater_eq {p : api_Params} (hp : WfP p) (l : List api_Header) (hl : ∀ x ∈ l, WfH x) {h : api_Header} (hh : WfH h) (now more : Int) : Tlaw11_RuleLater 1000 p (rowH l) h now more = some true := by
  unfold Tlaw11_RuleLater
  rw [alive11_eq, optE_some, if_neg (by simp), great11_eq, optE_some]
  by_cases hg : 20 < p.Gates.length ∨ 20 < p.Checks.length ∨ 40 < (rowH l).length
  · rw [if_pos (by simpa using hg)]
  rw [if_neg (by simpa using hg)]
  by_cases n1 : now < 0
  · rw [if_pos (by simpa using n1)]
  rw [if_neg (by simpa using n1)]
  by_cases n2 : now > 1099511627776
  · rw [if_pos (by simpa using n2)]
  rw [if_neg (by simpa using n2)]
  by_cases n3 : more < 0
  · rw [if_pos (by simpa using n3)]
  rw [if_neg (by simpa using n3)]
  by_cases n4 : more > 1099511627776
  · rw [if_pos (by simpa using n4)]
  rw [if_neg (by simpa using n4)]
  obtain ⟨gs, eg⟩ := open_G hp.g
  obtain ⟨cs, ec⟩ := open_K hp.c
  have h40 : l.length ≤ 40 := by simp at hg; omega
  have hgs : gs.length ≤ 20 := by rw [eg, rowG_length] at hg; omega
  have hcs : cs.length ≤ 20 := by rw [ec, rowC_length] at hg; omega
  obtain ⟨ts, h1, h2, h3⟩ := spots_times p l
  have c := fun now hn => rule_Check_eq (N := 1000) (by omega) eg ec (by omega) (by omega) (s := spots p l) hh.w (by rw [h1]; exact isI_row ts) now hn
  rw [spot11_eq (by omega) hp l hl h40, optE_some, c now (by omega), optE_some, w64_id (n := now + more) (by omega) (by omega), c (now + more) (by omega), optE_some, c 1099511627776 (by omega), optE_some]
  obtain ⟨R, hR, hsp⟩ := checkS_split p gs cs (spots p l) h
  rcases hsp with hsp | ⟨hgd, hsp⟩
  · rw [hsp, hsp, hsp, if_pos (by simpa using hR), if_pos (by simp)]; simp
  · have tr := (hgood_iff h).1 hgd
    rw [hsp, hsp, hsp]
    have mono : near h.Time now p.Future = true → near h.Time (now + more) p.Future = true := by
      unfold near; simp only [decide_eq_true_eq]; omega
    have mono2 : near h.Time now p.Future = true → near h.Time 1099511627776 p.Future = true := by
      unfold near; simp only [decide_eq_true_eq]; omega
    have fut : near h.Time 1099511627776 p.Future = !decide (p.Future < 0) := by
      unfold near; rw [Bool.eq_iff_iff]; simp only [Bool.not_eq_true', decide_eq_true_eq, decide_eq_false_iff_not]; omega
    have mono3 : near h.Time (now + more) p.Future = true → near h.Time 1099511627776 p.Future = true := by
      unfold near; simp only [decide_eq_true_eq]; omega
    cases a : near h.Time now p.Future with
    | true =>
      rw [mono a, mono2 a]
      rw [if_neg (c := true = false) (by simp), if_pos (by simpa using hR), if_pos (by simp)]; simp
    | false =>
      rw [if_pos (c := false = false) rfl, if_neg (by simp)]
      cases c1 : near h.Time 1099511627776 p.Future with
      | true =>
        rw [c1] at fut
        have f0 : decide (p.Future < 0) = false := by simpa using fut.symm
        cases b : near h.Time (now + more) p.Future with
        | true =>
          rw [if_neg (c := true = false) (by simp), f0, if_pos (by simpa using hR), if_neg (by simpa using hR)]; simp
        | false =>
          rw [if_neg (c := true = false) (by simp), if_pos (c := false = false) rfl, f0, if_pos (by simpa using hR), if_pos (by rfl)]
      | false =>
        rw [c1] at fut
        have f0 : decide (p.Future < 0) = true := by simpa using fut.symm
        cases b : near h.Time (now + more) p.Future with
        | true => rw [mono3 b] at c1; cases c1
        | false => rw [if_pos (c := false = false) rfl, f0, if_pos (by rfl), if_pos (by rfl)]
theorem RuleLater_true {ls hs : List L} (xs : LL) (now more : Int) (h0 : LTys tysP ls) (h1 : ∀ x ∈ xs, LTys tysH x) (l1 : xs.length ≤ maxLen) (h2 : LTys tysH hs) (w3 : (Lit.int .i64 now).wf = true) (w4 : (Lit.int .i64 more).wf = true) :
    Snd Tryd.prog 4 [.agg ls, .one (.sl 68 xs), .agg hs, .one (.int .i64 now), .one (.int .i64 more)] [] [.one (.bool true)] [] := by
  obtain ⟨p, rfl, hp⟩ := open_P h0
  obtain ⟨l, rfl, hl⟩ := open_C h1
  obtain ⟨h, rfl, hh⟩ := open_H h2
  exact Tlaw11_RuleLater.snd (RuleLater_eq hp l hl hh now more) []
end Go.Dn.F
