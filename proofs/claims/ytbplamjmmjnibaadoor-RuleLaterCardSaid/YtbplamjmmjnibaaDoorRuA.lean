/- Laws of the rules: the beginning that all have. -/
import Derived.Test.YtbplamjmmjnibaaDoorShaG
import Derived.Test.YtbplamjmmjnibaaDoorRulB
set_option linter.unusedSimpArgs false
set_option linter.unusedVariables false
set_option maxRecDepth 100000
namespace Go.Dn.F
open Go.Dn Go.Proofs
theorem alive11_eq : Tlaw11_alive 1000 = some true := by kernel_rfl
theorem great11_eq (N : Nat) (p : api_Params) (c : LL) : Tlaw11_great N p c = some (decide (20 < p.Gates.length ∨ 20 < p.Checks.length ∨ 40 < c.length)) := by
  unfold Tlaw11_great
  simp only [len]
  repeat' split
  all_goals (refine some_dec ⟨fun h => ?_, fun h => ?_⟩ <;> first | rfl | (simp only [decide_eq_true_eq] at *; omega))
theorem spot11_eq {N : Nat} (hN : 500 ≤ N) {p : api_Params} (hp : WfP p) (l : List api_Header) (hl : ∀ x ∈ l, WfH x) (h40 : l.length ≤ 40) : Tlaw11_spot N p (rowH l) = some (spots p l) := by
  unfold Tlaw11_spot
  rw [rule_BeginP_eq hN hp.h.w, optE_some]
  refine loopN_eq (fun m (x : Int × rule_Spot) => ∃ i : Nat, i + m = l.length ∧ x = ((i : Int), spots p (l.take i))) ?_ N l.length (0, begin_ p) ⟨0, by omega, rfl⟩ (by omega)
  rintro G m _ ⟨i, hi, rfl⟩ hG
  unfold Tlaw11_spot.p1
  dsimp only
  by_cases hlt : i < l.length
  · rw [if_pos (by simp [len]; omega), chk_pos (by omega), Int.toNat_natCast, rowH_get hlt, getE_some, dec_api_Header_ls, rule_BehindP_eq hN (hl _ (List.getElem_mem hlt)).w (wfS_spots p _), optE_some, w64_id (by omega) (by omega)]
    exact hG (m - 1) _ (by omega) ⟨i + 1, by omega, by rw [spots_take p l hlt]; rfl⟩
  · rw [if_neg (by simp [len]; omega), List.take_of_length_le (by omega)]
end Go.Dn.F
