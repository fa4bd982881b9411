/- RuleSpots answers true. -/
import Derived.Test.YtbplamjmmjnibaaDoorShaG
import Derived.Test.YtbplamjmmjnibaaDoorRulArg
set_option linter.unusedSimpArgs false
set_option linter.unusedVariables false
set_option maxRecDepth 100000
namespace Go.Dn.F
open Go.Dn Go.Proofs
theorem alive11_eq : Tlaw11_alive 1000 = some true := by kernel_rfl
theorem great11_eq (N : Nat) (p : api_Params) (c : LL) : Tlaw11_great N p c = some (decide (20 < p.Gates.length ∨ 20 < p.Checks.length ∨ 40 < c.length)) := by
  unfold Tlaw11_great
  simp only [len]
  repeat' split
  all_goals (refine some_dec ⟨fun h => ?_, fun h => ?_⟩ <;> first | rfl | (simp only [decide_eq_true_eq] at *; omega))
theorem spot11_eq {N : Nat} (hN : 500 ≤ N) {p : api_Params} (hp : WfP p) (l : List api_Header) (hl : ∀ x ∈ l, WfH x) (h40 : l.length ≤ 40) : Tlaw11_spot N p (rowH l) = some (spots p l) := by
  unfold Tlaw11_spot
  rw [rule_BeginP_eq hN hp.h.w, optE_some]
  refine loopN_eq (fun m (x : Int × rule_Spot) => ∃ i : Nat, i + m = l.length ∧ x = ((i : Int), spots p (l.take i))) ?_ N l.length (0, begin_ p) ⟨0, by omega, rfl⟩ (by omega)
  rintro G m _ ⟨i, hi, rfl⟩ hG
  unfold Tlaw11_spot.p1
  dsimp only
  by_cases hlt : i < l.length
  · rw [if_pos (by simp [len]; omega), chk_pos (by omega), Int.toNat_natCast, rowH_get hlt, getE_some, dec_api_Header_ls, rule_BehindP_eq hN (hl _ (List.getElem_mem hlt)).w (wfS_spots p _), optE_some, w64_id (by omega) (by omega)]
    exact hG (m - 1) _ (by omega) ⟨i + 1, by omega, by rw [spots_take p l hlt]; rfl⟩
  · rw [if_neg (by simp [len]; omega), List.take_of_length_le (by omega)]
theorem RuleSpots_eq {p : api_Params} (hp : WfP p) (l : List api_Header) (hl : ∀ x ∈ l, WfH x) {h : api_Header} (hh : WfH h) : Tlaw11_RuleSpots 1000 p (rowH l) h = some true := by
  unfold Tlaw11_RuleSpots
  rw [alive11_eq, optE_some, if_neg (by simp), great11_eq, optE_some]
  by_cases hg : 20 < p.Gates.length ∨ 20 < p.Checks.length ∨ 40 < (rowH l).length
  · rw [if_pos (by simpa using hg)]
  rw [if_neg (by simpa using hg)]
  have h40 : l.length ≤ 40 := by simp at hg; omega
  obtain ⟨ts, h1, h2, h3⟩ := spots_times p l
  have hh' := spots_height p l (by omega)
  rw [spot11_eq (by omega) hp l hl h40, optE_some, chk_pos (by rw [h1]; simp; omega), rule_BehindP_eq (by omega) hh.w (wfS_spots p l), optE_some]
  have e4 : (behind p (spots p l) h).Times = rowI (h.Time :: ts.take 10) := by
    show rowI (h.Time :: (tims (spots p l).Times).take 10) = _
    rw [h1, tims_rowI]
  have e5 : (behind p (spots p l) h).Point.Height = l.length + 2 := by
    show w64 ((spots p l).Point.Height + 1) = _
    rw [hh', w64_id (by omega) (by omega)]; omega
  have e6 : (behind p (spots p l) h).Prev = hid h := rfl
  have e7 : (behind p (spots p l) h).Point.Bits = h.Bits := rfl
  have e8 : (behind p (spots p l) h).Point.Time = h.Time := rfl
  rw [if_neg (by rw [e5]; simp only [len, rowH_length]; rw [w64_id (by omega) (by omega)]; simp), if_neg (by rw [e5, hh', w64_id (by omega) (by omega)]; simp; omega), if_neg (by rw [e7]; simp), if_neg (by rw [e8]; simp), refId_eq (by omega) h hh.w, optE_some, if_neg (by rw [e6]; simp)]
  have hlen : (List.take 10 ts).length = min 10 ts.length := List.length_take
  rw [if_neg (by
    rw [e4, h1]
    simp only [len, rowI_length, List.length_cons, List.nil_append, hlen]
    rw [w64_id (by omega) (by omega)]
    simp only [bne_iff_ne, ne_eq, Decidable.not_not]
    split <;> omega), chk_pos (by rw [e4]; simp [len]), show (behind p (spots p l) h).Times[0]? = some [L.int .i64 h.Time] by rw [e4]; rfl, getE_some, dec_i64_ls, if_neg (by simp)]
  refine loopN_eq (fun m (x : Int) => ∃ i : Nat, i + m = ts.length ∧ x = (i : Int)) ?_ 1000 ts.length 0 ⟨0, by omega, rfl⟩ (by omega)
  rintro G m _ ⟨i, hi, rfl⟩ hG
  unfold Tlaw11_RuleSpots.p1
  rw [e4, h1]
  by_cases hlt : i < ts.length
  · rw [if_pos (by simp [len]; omega), chk_pos (by omega), chk_pos (by simp [len]; omega), Int.toNat_natCast, rowI_get hlt, getE_some, dec_i64_ls, List.nil_append, Nat.zero_add, rowI_get hlt, getE_some, dec_i64_ls, if_neg (by simp), w64_id (by omega) (by omega)]
    have hn := hG (m - 1) ((i : Int) + 1) (by omega) ⟨i + 1, by omega, by omega⟩
    by_cases hl2 : i < 10
    · rw [if_pos (by simp [len, hlen]; omega), chk_pos (by omega), show Int.toNat ((i : Int) + 1) = i + 1 by omega, show (rowI (h.Time :: List.take 10 ts))[i + 1]? = some [L.int .i64 ts[i]] by
        rw [rowI_get (by simp; omega)]; simp, getE_some, dec_i64_ls, if_neg (by simp)]
      exact hn
    · rw [if_neg (by simp [len, hlen]; omega)]
      exact hn
  · rw [if_neg (by simp [len]; omega)]
theorem RuleSpots_true {ls hs : List L} (xs : LL) (h0 : LTys tysP ls) (h1 : ∀ x ∈ xs, LTys tysH x) (l1 : xs.length ≤ maxLen) (h2 : LTys tysH hs) :
    Snd Tryd.prog 3 [.agg ls, .one (.sl 68 xs), .agg hs] [] [.one (.bool true)] [] := by
  obtain ⟨p, rfl, hp⟩ := open_P h0
  obtain ⟨l, rfl, hl⟩ := open_C h1
  obtain ⟨h, rfl, hh⟩ := open_H h2
  exact Tlaw11_RuleSpots.snd (RuleSpots_eq hp l hl hh) []
end Go.Dn.F
