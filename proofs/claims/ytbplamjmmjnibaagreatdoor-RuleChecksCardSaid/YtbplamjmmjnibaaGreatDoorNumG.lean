/- Numbers of 256 bits: by a word of 32 bits. -/
import Derived.Test.YtbplamjmmjnibaaGreatDoorNumF
set_option linter.unusedSimpArgs false
set_option linter.unusedVariables false
set_option maxRecDepth 40000
namespace Go.Dn.F
open Go.Dn
variable {N : Nat}
theorem ZcM {a b : Int} (h : 0 ≤ a) : Int.tdiv a b = a / b := Int.tdiv_eq_ediv_of_nonneg h
theorem ZcX {a b : Int} (h : 0 ≤ a) : Int.tmod a b = a % b := Int.tmod_eq_emod_of_nonneg h
theorem div_two {M y T V q1 q0 R R2 un1 un0 un32 : Int} (hT : 0 < T) (hy : y * T = V * 4294967296) (hM : M * T = un32 * 18446744073709551616 + un1 * 4294967296 + un0)
    (h1 : un32 = q1 * V + R) (h2 : R * 4294967296 + un1 = q0 * V + R2) (hR2 : 0 ≤ R2 ∧ R2 < V) (h0 : 0 ≤ un0 ∧ un0 < 4294967296) (hy0 : 0 < y) :
    (q1 * 4294967296 + q0) = M / y ∧ (R2 * 4294967296 + un0) / T = M % y := by
  have k : M * T = (q1 * 4294967296 + q0) * y * T + (R2 * 4294967296 + un0) := by
    have e1 : (q1 * 4294967296 + q0) * y * T = (q1 * V) * 18446744073709551616 + (q0 * V) * 4294967296 := by
      rw [Int.mul_assoc, hy, Int.add_mul, ← Int.mul_assoc q0, Int.mul_assoc q1, Int.mul_left_comm 4294967296 V, ← Int.mul_assoc q1 V]; omega
    rw [e1, hM, h1]
    rw [Int.add_mul]
    omega
  have e : (M - (q1 * 4294967296 + q0) * y) * T = R2 * 4294967296 + un0 := by rw [Int.sub_mul]; omega
  have lt : (M - (q1 * 4294967296 + q0) * y) * T < y * T := by rw [e, hy]; omega
  have lt' := Int.lt_of_mul_lt_mul_right lt (Int.le_of_lt hT)
  have ge : 0 * T ≤ (M - (q1 * 4294967296 + q0) * y) * T := by rw [e]; omega
  have ge' := Int.le_of_mul_le_mul_right ge hT
  have d := (Int.ediv_emod_unique hy0 (a := M) (b := y) (q := q1 * 4294967296 + q0) (r := M - (q1 * 4294967296 + q0) * y)).2 ⟨by rw [Int.mul_comm y]; omega, ge', lt'⟩
  refine ⟨d.1.symm, ?_⟩
  rw [← e, Int.mul_ediv_cancel _ (by omega), d.2]
theorem div64 (hN : 10 ≤ N) {hi lo y : Int} (hy0 : 0 < y) (hy : y < 4294967296) (h0 : 0 ≤ hi) (h1 : hi < y) (hl : isW lo) :
    Zab N hi lo y = some ((hi * 18446744073709551616 + lo) / y, (hi * 18446744073709551616 + lo) % y) := by
  have hl' := hl
  unfold isW at hl'
  unfold Zab
  rw [if_neg (by simp; omega), if_neg (by simp; omega)]
  by_cases hz : hi = 0
  · subst hz
    rw [if_pos (by rfl), Zaj (by omega), ZcM hl'.1, ZcX hl'.1, Int.zero_mul, Int.zero_add]
    have : lo / y ≤ lo := Int.ediv_le_self _ hl'.1
    have : 0 ≤ lo / y := Int.ediv_nonneg hl'.1 (by omega)
    rw [ZbC (by omega) (by omega)]
  rw [if_neg (by simpa using hz)]
  have by1 := ZeR (x := y) (k := 32) (by rw [show (2 : Int) ^ 32 = 4294967296 from rfl]; omega)
  obtain ⟨by2, by3⟩ := Zlu hy0
  have by4 := Zjr (x := y) (by omega)
  obtain ⟨s, hs, hs1, hs2⟩ : ∃ s : Nat, 64 - s = blen y ∧ 32 ≤ s ∧ s < 64 := ⟨64 - blen y, by omega, by omega, by omega⟩
  have lz : Zbb N y = some (s : Int) := by
    unfold Zbb
    rw [len64 (by unfold isW; omega), Zak, ZaC (by omega) (by omega), ← hs]
    congr 1; omega
  rw [lz, Zak]
  have vs : v64 (s : Int) = (s : Int) := ZbC (by omega) (by omega)
  have vs' : v64 (64 - (s : Int)) = ((64 - s : Nat) : Int) := by rw [ZbC (by omega) (by omega)]; omega
  have pT := Zbr s
  have split := Zdo (k := s) (by omega)
  have t32 : (2 : Int) ^ s = 2 ^ (s - 32) * 4294967296 := by rw [show (4294967296 : Int) = 2 ^ 32 from rfl, ← Int.pow_add, show s - 32 + 32 = s by omega]
  rw [hs] at split
  have Ylt : y * 2 ^ s < 18446744073709551616 := by
    have := Int.mul_lt_mul_of_pos_right by4 pT
    rw [Int.mul_comm (2 ^ blen y), split] at this
    exact this
  have Yge : 0 < y * 2 ^ s := Int.mul_pos hy0 pT
  have eY : shlOf .u64 y (v64 (s : Int)) = y * 2 ^ s := by rw [vs, shl64 y (by omega)]; omega
  have yV : y * 2 ^ s = y * 2 ^ (s - 32) * 4294967296 := by rw [t32, Int.mul_assoc]
  obtain ⟨A, h, a1, a2, a3, a4, a5, a6, a7, a8⟩ := Zca hl (k := s) (by omega)
  have hiA : shlOf .u64 hi (v64 (s : Int)) = hi * 2 ^ s := by
    rw [vs, shl64 hi (by omega)]
    have := Int.mul_lt_mul_of_pos_right h1 pT
    have : 0 ≤ hi * 2 ^ s := Int.mul_nonneg h0 (by omega)
    omega
  have hi1 : (hi + 1) * 2 ^ s ≤ y * 2 ^ s := Int.mul_le_mul_of_nonneg_right (by omega) (by omega)
  rw [Int.add_mul, Int.one_mul] at hi1
  have hi0 : 0 ≤ hi * 2 ^ s := Int.mul_nonneg h0 (by omega)
  have eU : bitsOf .or .u64 (shlOf .u64 hi (v64 (s : Int))) (shrOf .u64 lo (v64 (64 - v64 (s : Int)))) = hi * 2 ^ s + h := by
    rw [hiA, vs, vs', a2]
    exact ZfN (k := s) (by omega) hi0 (by omega) (Int.mul_emod_left _ _) a5 a6
  have eL : shlOf .u64 lo (v64 (s : Int)) = A := by rw [vs]; exact a1
  have hM : (hi * 18446744073709551616 + lo) * 2 ^ s = (hi * 2 ^ s + h) * 18446744073709551616 + A / 4294967296 * 4294967296 + A % 4294967296 := by
    rw [Int.add_mul, a7, Int.mul_assoc, Int.mul_comm 18446744073709551616, ← Int.mul_assoc, Int.add_mul]; omega
  have pV : 0 < y * 2 ^ (s - 32) := Int.mul_pos hy0 (Zbr _)
  generalize hV : y * 2 ^ (s - 32) = V at *
  generalize hUU : hi * 2 ^ s + h = U at *
  generalize hTT : (2 : Int) ^ s = T at *
  have eV : shrOf .u64 (y * T) 32 = V := by rw [shr32]; omega
  have eZ : bitsOf .and .u64 (y * T) 4294967295 = 0 := by rw [and32 (by unfold isW; omega)]; omega
  have eA1 : shrOf .u64 A 32 = A / 4294967296 := shr32 A
  have eA0 : bitsOf .and .u64 A 4294967295 = A % 4294967296 := and32 (by unfold isW; omega)
  have U0 : 0 ≤ U ∧ U < V * 4294967296 := by omega
  have dU := Int.ediv_mul_add_emod U V
  have rU0 := Int.emod_nonneg U (b := V) (by omega)
  have rU1 := Int.emod_lt_of_pos U pV
  have qU0 : 0 ≤ U / V := Int.ediv_nonneg U0.1 (by omega)
  have qU1 : U / V < 4294967296 := Int.ediv_lt_of_lt_mul pV (by rw [Int.mul_comm]; exact U0.2)
  generalize hq1 : U / V = q1 at *
  generalize hR : U % V = R at *
  have mq1 : 0 ≤ q1 * V := Int.mul_nonneg qU0 (by omega)
  have B0 : 0 ≤ R * 4294967296 + A / 4294967296 ∧ R * 4294967296 + A / 4294967296 < V * 4294967296 := by omega
  generalize hB : R * 4294967296 + A / 4294967296 = B at *
  have dB := Int.ediv_mul_add_emod B V
  have rB0 := Int.emod_nonneg B (b := V) (by omega)
  have rB1 := Int.emod_lt_of_pos B pV
  have qB0 : 0 ≤ B / V := Int.ediv_nonneg B0.1 (by omega)
  have qB1 : B / V < 4294967296 := Int.ediv_lt_of_lt_mul pV (by rw [Int.mul_comm]; exact B0.2)
  generalize hq0 : B / V = q0 at *
  generalize hR2 : B % V = R2 at *
  have mq0 : 0 ≤ q0 * V := Int.mul_nonneg qB0 (by omega)
  obtain ⟨f1, f2⟩ := div_two (M := hi * 18446744073709551616 + lo) (y := y) (T := T) (V := V) (q1 := q1) (q0 := q0) (R := R) (R2 := R2) (un1 := A / 4294967296) (un0 := A % 4294967296) (un32 := U) pT (by omega) hM dU.symm (by rw [hB]; exact dB.symm) ⟨rB0, rB1⟩ (by omega) hy0
  have yq1 : q1 * (y * T) = (q1 * V) * 4294967296 := by rw [yV, ← Int.mul_assoc]
  have yq0 : q0 * (y * T) = (q0 * V) * 4294967296 := by rw [yV, ← Int.mul_assoc]
  obtain ⟨N, rfl⟩ : ∃ q, N = q + 1 := ⟨N - 1, by omega⟩
  have vB : v64 (v64 (v64 (U * 4294967296) + A / 4294967296) - v64 (q1 * (y * T))) = B := by
    rw [yq1, ZcW, ZcW, ZcW, ZcW]; omega
  have vE : v64 (v64 (v64 (B * 4294967296) + A % 4294967296) - v64 (q0 * (y * T))) = R2 * 4294967296 + A % 4294967296 := by
    rw [yq0, ZcW, ZcW, ZcW, ZcW]; omega
  have s1 : ∀ G, Zab.p1 (N + 1) y (s : Int) hi lo G (q1, R) = Zab.p3 (N + 1) y (s : Int) hi lo q1 := fun G => by
    unfold Zab.p1
    dsimp only
    rw [eY, eL, eZ, eA1, if_neg (by simp; omega), Int.mul_zero, ZbC (n := 0) (by omega) (by omega), if_neg (by
      simp only [decide_eq_true_eq, gt_iff_lt, Int.not_lt]
      rw [ZcW]; omega)]
  have s4 : ∀ G, Zab.p4 (N + 1) y (s : Int) lo q1 hi G (R2, q0) = Zab.p6 (N + 1) y (s : Int) lo q1 hi q0 := fun G => by
    unfold Zab.p4
    dsimp only
    rw [eY, eL, eZ, eA0, if_neg (by simp; omega), Int.mul_zero, ZbC (n := 0) (by omega) (by omega), if_neg (by
      simp only [decide_eq_true_eq, gt_iff_lt, Int.not_lt]
      rw [ZcW]; omega)]
  rw [Zaj (by rw [vs]; omega), Zaj (by rw [vs, vs']; omega), eY, eV, Zaj (by omega), eU, ZcM U0.1, hq1, ZbC (n := q1) (by omega) (by omega), ZbC (n := q1 * V) (by omega) (by omega), show U - q1 * V = R by omega, ZbC (n := R) (by omega) (by omega), Zau, s1]
  unfold Zab.p3
  rw [eY, eL, eV, eU, eA1, Zaj (by omega), vB, ZcM B0.1, hq0, ZbC (n := q0) (by omega) (by omega), ZbC (n := q0 * V) (by omega) (by omega), show B - q0 * V = R2 by omega, ZbC (n := R2) (by omega) (by omega), Zau, s4]
  unfold Zab.p6
  rw [Zaj (by rw [vs]; omega), eY, eL, eU, eA1, eA0, vB, vE, vs, shr64 _ (k := s) (by omega), hTT, f2, ZbC (n := q1 * 4294967296) (by omega) (by omega), ZbC (n := q1 * 4294967296 + q0) (by omega) (by omega), f1]
theorem Zhp (hN : 10 ≤ N) {m y : Int} (hm : isN m) (hy0 : 0 < y) (hy : y < 4294967296) : Zbf N (nw m) y = some (nw (m / y), m % y) := by
  obtain ⟨a, b, c, d, ha, hb, hc, hd, rfl⟩ := Zcu hm
  rw [Zcy ha hb hc hd]
  obtain ⟨N, rfl⟩ : ∃ q, N = q + 5 := ⟨N - 5, by omega⟩
  unfold Zbf
  rw [if_neg (by simp; omega)]
  have t : ∀ (G : Int × Int × List Int → Option (List Int × Int)) (j : Nat) (l : List Int) (x r q r' : Int), j < 4 → l.getD j 0 = x → isW x → 0 ≤ r → r < y → (r * 18446744073709551616 + x) / y = q → (r * 18446744073709551616 + x) % y = r' →
      Zbf.p1 (N + 5) y G (r, (j : Int), l) = G (r', (j : Int) - 1, l.set j q) := fun G j l x r q r' hj hx hw h0 h1 hq hr => by
    unfold Zbf.p1
    dsimp only
    rw [if_pos (by simp), Zaj (by omega), Zaj (by omega), Int.toNat_natCast, hx, div64 (by omega) hy0 hy h0 h1 hw, Zak, hq, hr, ZaC (by omega) (by omega)]
  have u : ∀ (G : Int × Int × List Int → Option (List Int × Int)) (l : List Int) (r : Int), Zbf.p1 (N + 5) y G (r, -1, l) = some (l, r) := fun G l r => by
    unfold Zbf.p1
    dsimp only
    rw [if_neg (by simp)]
  have step : ∀ {r x : Int}, 0 ≤ r → r < y → isW x → ∃ q r', (r * 18446744073709551616 + x) / y = q ∧ (r * 18446744073709551616 + x) % y = r' ∧ isW q ∧ 0 ≤ r' ∧ r' < y ∧ r * 18446744073709551616 + x = q * y + r' := fun {r x} h0 h1 hx => by
    unfold isW at hx
    have e := Int.ediv_mul_add_emod (r * 18446744073709551616 + x) y
    refine ⟨_, _, rfl, rfl, ⟨Int.ediv_nonneg (by omega) (by omega), Int.ediv_lt_of_lt_mul hy0 ?_⟩, Int.emod_nonneg _ (by omega), Int.emod_lt_of_pos _ hy0, e.symm⟩
    omega
  obtain ⟨q3, r3, a3, b3, c3, d3, e3, f3⟩ := step (r := 0) (x := d) (by omega) hy0 hd
  obtain ⟨q2, r2, a2, b2, c2, d2, e2, f2⟩ := step d3 e3 hc
  obtain ⟨q1, r1, a1, b1, c1, d1, e1, f1⟩ := step d2 e2 hb
  obtain ⟨q0, r0, a0, b0, c0, d0, e0, f0⟩ := step d1 e1 ha
  rw [Zau]
  refine Eq.trans (t _ 3 [a, b, c, d] d 0 q3 r3 (by omega) rfl hd (by omega) hy0 a3 b3) ?_
  rw [Zau]
  refine Eq.trans (t _ 2 [a, b, c, q3] c r3 q2 r2 (by omega) rfl hc d3 e3 a2 b2) ?_
  rw [Zau]
  refine Eq.trans (t _ 1 [a, b, q2, q3] b r2 q1 r1 (by omega) rfl hb d2 e2 a1 b1) ?_
  rw [Zau]
  refine Eq.trans (t _ 0 [a, q1, q2, q3] a r1 q0 r0 (by omega) rfl ha d1 e1 a0 b0) ?_
  rw [Zau]
  refine Eq.trans (u _ [q0, q1, q2, q3] r0) ?_
  have key : vw a b c d = vw q0 q1 q2 q3 * y + r0 := by
    have : vw q0 q1 q2 q3 * y = q0 * y + 18446744073709551616 * (q1 * y) + 340282366920938463463374607431768211456 * (q2 * y) + 6277101735386680763835789423207666416102355444464034512896 * (q3 * y) := by
      unfold vw
      rw [Int.add_mul, Int.add_mul, Int.add_mul, Int.mul_assoc, Int.mul_assoc, Int.mul_assoc]
    rw [this]; unfold vw; omega
  have d := (Int.ediv_emod_unique hy0 (a := vw a b c d) (q := vw q0 q1 q2 q3) (r := r0)).2 ⟨by rw [Int.mul_comm y]; omega, d0, e0⟩
  rw [d.1, d.2, Zcy c0 c1 c2 c3]
end Go.Dn.F
