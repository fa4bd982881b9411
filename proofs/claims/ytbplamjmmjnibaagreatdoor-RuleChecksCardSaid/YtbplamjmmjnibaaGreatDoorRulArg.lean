/- Rules, headers and chains that are handed in. -/
import Derived.Test.YtbplamjmmjnibaaGreatDoorPurS
import Derived.Test.YtbplamjmmjnibaaGreatDoorKc
set_option linter.unusedSimpArgs false
set_option linter.unusedVariables false
set_option maxRecDepth 4000
namespace Go.Dn.F
open Go.Dn Go.Proofs
def i64R (n : Int) : Prop := -9223372036854775808 ≤ n ∧ n ≤ 9223372036854775807
theorem ZdZ {n : Int} (h : (Lit.int .i64 n).wf = true) : i64R n := by
  simp only [Lit.wf, Bool.and_eq_true, decide_eq_true_eq] at h
  exact h
abbrev tysH : List Ty := [.int .i64, .arr .u8 32, .arr .u8 32, .int .i64, .int .i64, .int .i64]
abbrev tysP : List Ty := [.int .i64, .int .i64, .int .i64, .int .i64, .bool, .sl 2 [.int .i64, .int .i64], .sl 33 [.int .i64, .arr .u8 32], .arr .u64 4, .arr .u64 4, .int .i64, .arr .u8 32, .arr .u8 32, .int .i64, .int .i64, .int .i64]
structure WfH (h : Zae) : Prop where
  v : i64R h.Version
  w : wfH h = true
  t : i64R h.Time
  b : i64R h.Bits
  n : i64R h.Nonce
theorem wfB_of {l : List Int} (h : l.length = 32) (hw : ∀ x ∈ l, (Lit.int .u8 x).wf = true) : wfB l = true := by
  simp only [wfB, Bool.and_eq_true, beq_iff_eq, List.all_eq_true, decide_eq_true_eq]
  refine ⟨h, fun n hn => ?_⟩
  have := hw n hn
  simp only [Lit.wf, Bool.and_eq_true, decide_eq_true_eq] at this
  have e1 : IntKind.u8.min = 0 := rfl
  have e2 : IntKind.u8.max = 255 := rfl
  omega
theorem ZkQ {ls : List L} (h : LTys tysH ls) : ∃ x : Zae, ls = x.ls ∧ WfH x := by
  obtain ⟨_, _, rfl, h1, h⟩ := h.cons_inv
  obtain ⟨_, _, rfl, h2, h⟩ := h.cons_inv
  obtain ⟨_, _, rfl, h3, h⟩ := h.cons_inv
  obtain ⟨_, _, rfl, h4, h⟩ := h.cons_inv
  obtain ⟨_, _, rfl, h5, h⟩ := h.cons_inv
  obtain ⟨_, _, rfl, h6, h⟩ := h.cons_inv
  cases h.nil_inv
  obtain ⟨a1, rfl, w1⟩ := h1.int_inv
  obtain ⟨a2, rfl, k2, w2⟩ := h2.arr_inv
  obtain ⟨a3, rfl, k3, w3⟩ := h3.arr_inv
  obtain ⟨a4, rfl, w4⟩ := h4.int_inv
  obtain ⟨a5, rfl, w5⟩ := h5.int_inv
  obtain ⟨a6, rfl, w6⟩ := h6.int_inv
  refine ⟨⟨a1, a2, a3, a4, a5, a6⟩, rfl, ⟨ZdZ w1, ?_, ZdZ w4, ZdZ w5, ZdZ w6⟩⟩
  simp only [wfH, Bool.and_eq_true]
  exact ⟨wfB_of k2 w2, wfB_of k3 w3⟩
structure WfP (p : Zac) : Prop where
  l : i64R p.Limit
  i : i64R p.Interval
  s : i64R p.Spacing
  f : i64R p.Future
  g : ∀ x ∈ p.Gates, LTys [.int .i64, .int .i64] x
  gl : p.Gates.length ≤ maxLen
  c : ∀ x ∈ p.Checks, LTys [.int .i64, .arr .u8 32] x
  cl : p.Checks.length ≤ maxLen
  m : p.MinWork.length = 4 ∧ ∀ x ∈ p.MinWork, (Lit.int .u64 x).wf = true
  r : p.Margin.length = 4 ∧ ∀ x ∈ p.Margin, (Lit.int .u64 x).wf = true
  h : WfH p.Genesis
theorem open_P {ls : List L} (h : LTys tysP ls) : ∃ x : Zac, ls = x.ls ∧ WfP x := by
  obtain ⟨_, _, rfl, h1, h⟩ := h.cons_inv
  obtain ⟨_, _, rfl, h2, h⟩ := h.cons_inv
  obtain ⟨_, _, rfl, h3, h⟩ := h.cons_inv
  obtain ⟨_, _, rfl, h4, h⟩ := h.cons_inv
  obtain ⟨_, _, rfl, h5, h⟩ := h.cons_inv
  obtain ⟨_, _, rfl, h6, h⟩ := h.cons_inv
  obtain ⟨_, _, rfl, h7, h⟩ := h.cons_inv
  obtain ⟨_, _, rfl, h8, h⟩ := h.cons_inv
  obtain ⟨_, _, rfl, h9, h⟩ := h.cons_inv
  obtain ⟨x, rfl, hx⟩ := ZkQ h
  obtain ⟨a1, rfl, w1⟩ := h1.int_inv
  obtain ⟨a2, rfl, w2⟩ := h2.int_inv
  obtain ⟨a3, rfl, w3⟩ := h3.int_inv
  obtain ⟨a4, rfl, w4⟩ := h4.int_inv
  obtain ⟨a5, rfl⟩ := h5.bool_inv
  obtain ⟨a6, rfl, k6, w6⟩ := h6.sl_inv
  obtain ⟨a7, rfl, k7, w7⟩ := h7.sl_inv
  obtain ⟨a8, rfl, k8, w8⟩ := h8.arr_inv
  obtain ⟨a9, rfl, k9, w9⟩ := h9.arr_inv
  exact ⟨⟨a1, a2, a3, a4, a5, a6, a7, a8, a9, x⟩, rfl, ⟨ZdZ w1, ZdZ w2, ZdZ w3, ZdZ w4, w6, k6, w7, k7, ⟨k8, w8⟩, ⟨k9, w9⟩, hx⟩⟩
theorem Zgu {α : Type} {P : List α → Prop} (h0 : P []) (h1 : ∀ l a, P l → P (l ++ [a])) (l : List α) : P l := by
  rw [← List.reverse_reverse l]
  induction l.reverse with
  | nil => exact h0
  | cons a m ih => rw [List.reverse_cons]; exact h1 _ _ ih
noncomputable def rowH (l : List Zae) : LL := l.map Zae.ls
theorem open_C {xs : LL} (h : ∀ x ∈ xs, LTys tysH x) : ∃ l, xs = rowH l ∧ ∀ x ∈ l, WfH x :=
  decode fun x hx => ZkQ (h x hx)
theorem Zez {l : List Zae} {i : Nat} (h : i < l.length) : (rowH l)[i]? = some l[i].ls := by simp [rowH, h]
@[simp] theorem ZdV (l : List Zae) : (rowH l).length = l.length := by simp [rowH]
theorem ZkC (l : List Int) : tims (rowI l) = l := by
  unfold tims rowI
  rw [List.map_map]
  conv => rhs; rw [← List.map_id l]
  exact List.map_congr_left fun n _ => rfl
theorem Zlb (l : List Int) : isI (rowI l) = true := by simp [isI, rowI]
def spots (p : Zac) (l : List Zae) : Zav := l.foldl (behind p) (Zlv p)
theorem Zfv (p : Zac) (l : List Zae) (h : Zae) : spots p (l ++ [h]) = behind p (spots p l) h := by simp [spots]
theorem ZjZ (p : Zac) (l : List Zae) {i : Nat} (h : i < l.length) : spots p (l.take (i + 1)) = behind p (spots p (l.take i)) l[i] := by
  rw [List.take_succ_eq_append_getElem h, Zfv]
theorem Zgm (p : Zac) : ∀ l : List Zae, ∃ ts : List Int, (spots p l).Times = rowI ts ∧ 1 ≤ ts.length ∧ ts.length ≤ 11 := by
  refine Zgu ?_ (fun l h ih => ?_)
  · exact ⟨_, rfl, by simp, by simp [tims]⟩
  · exact ⟨_, by rw [Zfv]; rfl, by simp, by simp; omega⟩
theorem spots_height (p : Zac) : ∀ l : List Zae, l.length < 1000000 → (spots p l).Point.Height = l.length + 1 := by
  refine Zgu (fun _ => rfl) (fun l h ih hl => ?_)
  rw [Zfv]
  show w64 ((spots p l).Point.Height + 1) = _
  rw [List.length_append, List.length_singleton] at *
  rw [ih (by omega), ZaC (by omega) (by omega)]
  omega
theorem Zkw (p : Zac) (l : List Zae) : wfS (spots p l) = true := by
  obtain ⟨ts, h1, h2, h3⟩ := Zgm p l
  simp only [wfS, h1, Zlb, Bool.true_and, decide_eq_true_eq, Zct]
  omega
end Go.Dn.F
