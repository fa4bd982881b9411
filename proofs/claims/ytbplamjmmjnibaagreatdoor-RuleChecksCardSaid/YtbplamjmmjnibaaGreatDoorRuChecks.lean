/- RuleChecks answers true. -/
import Derived.Test.YtbplamjmmjnibaaGreatDoorRulD
set_option linter.unusedSimpArgs false
set_option linter.unusedVariables false
set_option maxRecDepth 100000
namespace Go.Dn.F
open Go.Dn Go.Proofs
theorem Zkt : ZbQ 1000 = some true := by kernel_rfl
theorem Zkl (N : Nat) (p : Zac) (c : LL) : ZbP N p c = some (decide (20 < p.Gates.length ∨ 20 < p.Checks.length ∨ 40 < c.length)) := by
  unfold ZbP
  simp only [len]
  repeat' split
  all_goals (refine Zdc ⟨fun h => ?_, fun h => ?_⟩ <;> first | rfl | (simp only [decide_eq_true_eq] at *; omega))
theorem ZkF {N : Nat} (hN : 500 ≤ N) {p : Zac} (hp : WfP p) (l : List Zae) (hl : ∀ x ∈ l, WfH x) (h40 : l.length ≤ 40) : Zbo N p (rowH l) = some (spots p l) := by
  unfold Zbo
  rw [ZgQ hN hp.h.w, Zak]
  refine Zby (fun m (x : Int × Zav) => ∃ i : Nat, i + m = l.length ∧ x = ((i : Int), spots p (l.take i))) ?_ N l.length (0, Zlv p) ⟨0, by omega, rfl⟩ (by omega)
  rintro G m _ ⟨i, hi, rfl⟩ hG
  unfold Zbo.p1
  dsimp only
  by_cases hlt : i < l.length
  · rw [if_pos (by simp [len]; omega), Zaj (by omega), Int.toNat_natCast, Zez hlt, Zbc, Zck, Zem hN (hl _ (List.getElem_mem hlt)).w (Zkw p _), Zak, ZaC (by omega) (by omega)]
    exact hG (m - 1) _ (by omega) ⟨i + 1, by omega, by rw [ZjZ p l hlt]; rfl⟩
  · rw [if_neg (by simp [len]; omega), List.take_of_length_le (by omega)]
theorem ZhX {p : Zac} (hp : WfP p) (l : List Zae) (hl : ∀ x ∈ l, WfH x) {h : Zae} (hh : WfH h) (now : Int) (hnow : i64R now) : ZaK 1000 p (rowH l) h now = some true := by
  unfold ZaK
  rw [Zkt, Zak, if_neg (by simp), Zkl, Zak]
  by_cases hg : 20 < p.Gates.length ∨ 20 < p.Checks.length ∨ 40 < (rowH l).length
  · rw [if_pos (by simpa using hg)]
  rw [if_neg (by simpa using hg)]
  by_cases n1 : now < 0
  · rw [if_pos (by simpa using n1)]
  obtain ⟨gs, eg⟩ := open_G hp.g
  obtain ⟨cs, ec⟩ := open_K hp.c
  have h40 : l.length ≤ 40 := by simp at hg; omega
  have hgs : gs.length ≤ 20 := by rw [eg, Zja] at hg; omega
  have hcs : cs.length ≤ 20 := by rw [ec, Zjb] at hg; omega
  obtain ⟨ts, h1, h2, h3⟩ := Zgm p l
  have all : [p.Genesis.ls] ++ rowH l = rowH (p.Genesis :: l) := rfl
  have hw2 : ∀ x ∈ p.Genesis :: l, wfH x = true := fun x hx => by
    rcases List.mem_cons.1 hx with rfl | hx
    · exact hp.h.w
    · exact (hl x hx).w
  have la : (p.Genesis :: l).length = l.length + 1 := rfl
  rw [if_neg (by simpa using n1), all, Zaj (by rw [ZdV]; omega)]
  refine Zby (fun m (x : Int) => ∃ i : Nat, i + m = (p.Genesis :: l).length ∧ x = (i : Int)) ?_ 1000 (p.Genesis :: l).length _ ⟨0, by omega, rfl⟩ (by omega)
  rintro G m _ ⟨i, hi, rfl⟩ hG
  unfold ZaK.p1
  rw [all]
  by_cases hlt : i < (p.Genesis :: l).length
  · rw [if_pos (by simp only [len, ZdV, decide_eq_true_eq]; omega), Zaj (by omega), Int.toNat_natCast, Nat.zero_add, Zez hlt, Zbc, Zck, Zfz, Zak]
    cases hgood (p.Genesis :: l)[i]
    · rfl
    · rw [if_neg (by simp), ZaC (by omega) (by omega)]
      exact hG (m - 1) _ (by omega) ⟨i + 1, by omega, rfl⟩
  · unfold i64R at hnow
    rw [if_neg (by simp only [len, ZdV, decide_eq_true_eq]; omega), Zaj (by rw [ZdV]; omega), ZkF (by omega) hp l hl h40, Zak, Zhu (N := 1000) (by omega) eg ec (by omega) (by omega) (s := spots p l) hh.w (by rw [h1]; exact Zlb ts) now (by omega), Zak, ZgR (N := 1000) (by omega) eg (by omega) ec (by omega) (p.Genesis :: l) (by omega) (by omega) hw2 hh.w now (by omega), Zak, ← spots_A]
    simp
theorem RuleChecks_true {ls hs : List L} (xs : LL) (now : Int) (h0 : LTys tysP ls) (h1 : ∀ x ∈ xs, LTys tysH x) (l1 : xs.length ≤ maxLen) (h2 : LTys tysH hs) (w3 : (Lit.int .i64 now).wf = true) :
    Snd Tryz.prog 3 [.agg ls, .one (.sl 68 xs), .agg hs, .one (.int .i64 now)] [] [.one (.bool true)] [] := by
  obtain ⟨p, rfl, hp⟩ := open_P h0
  obtain ⟨l, rfl, hl⟩ := open_C h1
  obtain ⟨h, rfl, hh⟩ := ZkQ h2
  exact ZaK.snd (ZhX hp l hl hh now (ZdZ w3)) []
end Go.Dn.F
