/- The document's retargeting. -/
import Derived.Test.YtbplamjmmjnibaaGreatDoorNumU
set_option linter.unusedSimpArgs false
set_option linter.unusedVariables false
set_option maxRecDepth 40000
namespace Go.Dn.F
open Go.Dn
variable {N : Nat}
theorem emod_mul' (m : Int) {P K : Int} (hP : 0 < P) (hK : 0 < K) : m % (P * K) = m % P + P * (m / P % K) := by
  have a1 := Int.ediv_mul_add_emod m (P * K)
  have a2 := Int.ediv_mul_add_emod m P
  have a3 : m / (P * K) = m / P / K := (Int.ediv_ediv_of_nonneg (by omega)).symm
  have a4 := Int.ediv_mul_add_emod (m / P) K
  rw [a3, Int.mul_comm P K, ← Int.mul_assoc] at a1
  have a5 : m / P * P = m / P / K * K * P + P * (m / P % K) := by
    conv => lhs; rw [← a4, Int.add_mul]
    rw [Int.mul_comm P (m / P % K)]
  rw [Int.mul_comm P K]
  omega
def dv : List Int → Int
  | [] => 0
  | x :: l => x + 4294967296 * dv l
def dg (l : List Int) : Prop := ∀ x ∈ l, 0 ≤ x ∧ x < 4294967296
theorem dg_nil : dg [] := fun x hx => by cases hx
theorem pow32 (k : Nat) : (2 : Int) ^ (32 * (k + 1)) = 4294967296 * 2 ^ (32 * k) := by rw [show 32 * (k + 1) = 32 + 32 * k by omega, Int.pow_add]; rfl
theorem Zfg : ∀ (l m : List Int), dv (l ++ m) = dv l + 2 ^ (32 * l.length) * dv m
  | [], m => by simp [dv]
  | y :: l, m => by
    rw [List.cons_append, dv, Zfg l m, dv, List.length_cons, Int.mul_add, pow32, Int.mul_assoc]; omega
theorem Zgc : ∀ {l : List Int}, dg l → 0 ≤ dv l ∧ dv l < 2 ^ (32 * l.length)
  | [], _ => by simp [dv]
  | y :: l, h => by
    have ih := Zgc (l := l) fun x hx => h x (List.mem_cons_of_mem _ hx)
    have := h y (by simp)
    rw [dv, List.length_cons, pow32]
    omega
theorem set_at (ds : List Int) (a x : Int) (r : List Int) (i : Nat) (h : ds.length = i) : (ds ++ a :: r).set i x = ds ++ x :: r := by subst h; simp
theorem ZhD (hN : 300 ≤ N) (p : Zac) : ZbT N p = some (pgood p) := by
  unfold ZbT
  rw [Zdm hN, Zak]
  dsimp only
  unfold pgood
  cases (tgt p.Limit p.Limit).2
  · rfl
  · simp only [if_pos, Bool.true_and, decide_eq_true_eq]
    repeat' split
    all_goals (congr 1; rw [Bool.eq_iff_iff]; simp only [decide_eq_true_eq, Bool.false_eq_true, false_iff]; omega)
theorem ZkI (hN : 300 ≤ N) (q : List Int) (hq : q.length = 10) (hd : dg q) :
    loopN (Zao.p4 N q) N (0, List.replicate 4 0) = some (nw (dv q % 115792089237316195423570985008687907853269984665640564039457584007913129639936), decide (dv q < 115792089237316195423570985008687907853269984665640564039457584007913129639936)) := by
  refine Zby (fun m (x : Int × List Int) => ∃ i : Nat, i + m = 8 ∧ x = ((i : Int), nw (dv (q.take i)))) ?_ N 8 _ ⟨0, by omega, ?_⟩ (by omega)
  · rintro G m _ ⟨i, hi, rfl⟩ hG
    unfold Zao.p4
    dsimp only
    by_cases hlt : i < 8
    · have hm : dg (q.take i) := fun x hx => hd x (List.mem_of_mem_take hx)
      have lt := Zgc hm
      have ll : (q.take i).length = i := by rw [List.length_take]; omega
      rw [ll] at lt
      have x := hd q[i] (List.getElem_mem (by omega))
      have e1 : w64 (Int.tdiv (i : Int) 2) = ((i / 2 : Nat) : Int) := by rw [ZcM (by omega), ZaC (by omega) (by omega)]; omega
      have e2 : v64 (w64 (32 * Int.tmod (i : Int) 2)) = ((32 * (i % 2) : Nat) : Int) := by rw [ZcX (by omega), ZaC (by omega) (by omega), ZbC (by omega) (by omega)]; omega
      have pk := Zbr (32 * (i % 2))
      have le : (2 : Int) ^ (32 * i) = 2 ^ (64 * (i / 2)) * 2 ^ (32 * (i % 2)) := by rw [← Int.pow_add]; congr 1; omega
      have mi : isN (dv (q.take i)) := ⟨lt.1, Int.lt_of_lt_of_le lt.2 (ZcS (b := 256) (by omega))⟩
      have gd := ZhG mi (j := i / 2) (by omega)
      have sm : dv (q.take i) / 2 ^ (64 * (i / 2)) < 2 ^ (32 * (i % 2)) := Int.ediv_lt_of_lt_mul (Zbr _) (by rw [Int.mul_comm, ← le]; exact lt.2)
      have sm0 : 0 ≤ dv (q.take i) / 2 ^ (64 * (i / 2)) := Int.ediv_nonneg lt.1 (Int.le_of_lt (Zbr _))
      have T32 : (2 : Int) ^ (32 * (i % 2)) * 4294967296 ≤ 18446744073709551616 := by
        have := ZcS (show 32 * (i % 2) + 32 ≤ 64 by omega)
        rw [Int.pow_add] at this
        exact this
      rw [Int.emod_eq_of_lt sm0 (by omega)] at gd
      have xs : (q[i] + 1) * 2 ^ (32 * (i % 2)) ≤ 4294967296 * 2 ^ (32 * (i % 2)) := Int.mul_le_mul_of_nonneg_right (by omega) (by omega)
      rw [Int.add_mul, Int.one_mul] at xs
      have xs0 : 0 ≤ q[i] * 2 ^ (32 * (i % 2)) := Int.mul_nonneg x.1 (by omega)
      have sh : shlOf .u64 q[i] ((32 * (i % 2) : Nat) : Int) = q[i] * 2 ^ (32 * (i % 2)) := by rw [shl64 _ (by omega)]; omega
      have st := (ZkS mi (j := i / 2) (by omega) xs0 (by rw [gd]; omega)).1
      have hx : List.getD q i 0 = q[i] := by rw [List.getD_eq_getElem?_getD, List.getElem?_eq_getElem (by omega)]; rfl
      rw [if_pos (by simp <;> omega), e1, e2, Zaj (by omega), Zaj (by omega), Zaj (by omega), Zaj (by omega), Zaj (by omega), Int.toNat_natCast, Int.toNat_natCast, hx, ZbC (n := q[i]) x.1 (by omega), sh, ZbC (by rw [gd]; omega) (by rw [gd]; omega), st, ZaC (by omega) (by omega)]
      refine hG (m - 1) _ (by omega) ⟨i + 1, by omega, ?_⟩
      have tk : q.take (i + 1) = q.take i ++ [q[i]] := List.take_succ_eq_append_getElem (by omega)
      rw [tk, Zfg, ll, le, dv, dv, Int.mul_zero, Int.add_zero, Int.mul_assoc, Int.mul_comm (2 ^ (32 * (i % 2))), Int.mul_comm (2 ^ (64 * (i / 2))), Int.mul_comm q[i]]
      rfl
    · have h8 : i = 8 := by omega
      subst h8
      rw [if_neg (by simp)]
      have sp : dv q = dv (q.take 8) + 115792089237316195423570985008687907853269984665640564039457584007913129639936 * dv (q.drop 8) := by
        conv => lhs; rw [← List.take_append_drop 8 q, Zfg]
        rw [show (q.take 8).length = 8 by rw [List.length_take]; omega]; rfl
      have lt := Zgc (l := q.take 8) fun x hx => hd x (List.mem_of_mem_take hx)
      rw [show (q.take 8).length = 8 by rw [List.length_take]; omega, show (2 : Int) ^ (32 * 8) = 115792089237316195423570985008687907853269984665640564039457584007913129639936 from rfl] at lt
      have x8 := hd q[8] (List.getElem_mem (by omega))
      have x9 := hd q[9] (List.getElem_mem (by omega))
      have dr : q.drop 8 = [q[8], q[9]] := by
        rw [List.drop_eq_getElem_cons (by omega), List.drop_eq_getElem_cons (by omega), List.drop_of_length_le (by omega)]
      rw [dr] at sp
      simp only [dv, Int.mul_zero, Int.add_zero] at sp
      have g8 : List.getD q 8 0 = q[8] := by rw [List.getD_eq_getElem?_getD, List.getElem?_eq_getElem (by omega)]; rfl
      have g9 : List.getD q 9 0 = q[9] := by rw [List.getD_eq_getElem?_getD, List.getElem?_eq_getElem (by omega)]; rfl
      have e : dv q % 115792089237316195423570985008687907853269984665640564039457584007913129639936 = dv (q.take 8) := by omega
      rw [g8, g9, e]
      by_cases h0 : q[8] = 0
      · rw [if_pos (by simpa using h0)]
        congr 2
        rw [Bool.eq_iff_iff]; simp only [beq_iff_eq, decide_eq_true_eq]; omega
      · rw [if_neg (by simpa using h0)]
        congr 2
        rw [Bool.eq_iff_iff]; simp only [decide_eq_true_eq, Bool.false_eq_true, false_iff]; omega
  · rw [Zda]; rfl
theorem ZkJ (hN : 300 ≤ N) (D : Int) (hD : 0 < D ∧ D ≤ 640000) (d : List Int) (hl : d.length = 10) (hd : dg d) :
    loopN (Zao.p3 N D d) N (0, 9, List.replicate 10 0) = some (nw (dv d / D % 115792089237316195423570985008687907853269984665640564039457584007913129639936), decide (dv d / D < 115792089237316195423570985008687907853269984665640564039457584007913129639936)) := by
  refine Zby (fun m (x : Int × Int × List Int) => m ≤ 10 ∧ ∃ (rest : Int) (qs : List Int), x = (rest, (m : Int) - 1, List.replicate m 0 ++ qs) ∧ qs.length = 10 - m ∧ dg qs ∧ dv qs * D + rest = dv (d.drop m) ∧ 0 ≤ rest ∧ rest < D) ?_ N 10 _ ⟨by omega, 0, [], rfl, rfl, dg_nil, by rw [List.drop_of_length_le (by omega)]; simp [dv], by omega, hD.1⟩ (by omega)
  rintro G m _ ⟨hm, rest, qs, rfl, hq, hdq, he, h0, h1⟩ hG
  unfold Zao.p3
  dsimp only
  by_cases hz : m = 0
  · subst hz
    rw [if_neg (by simp)]
    have hq' : (List.replicate 0 (0 : Int) ++ qs) = qs := rfl
    rw [hq', ZkI hN qs hq hdq]
    rw [List.drop_zero] at he
    have dd := (Int.ediv_emod_unique hD.1 (a := dv d) (q := dv qs) (r := rest)).2 ⟨by rw [Int.mul_comm D]; omega, h0, h1⟩
    rw [dd.1]
  · obtain ⟨j, rfl⟩ : ∃ i, m = i + 1 := ⟨m - 1, by omega⟩
    have hj : j < d.length := by omega
    have x := hd d[j] (List.getElem_mem hj)
    have hx : List.getD d j 0 = d[j] := by rw [List.getD_eq_getElem?_getD, List.getElem?_eq_getElem hj]; rfl
    have cur0 : 0 ≤ rest * 4294967296 + d[j] := by omega
    have e := Int.ediv_mul_add_emod (rest * 4294967296 + d[j]) D
    have r0 := Int.emod_nonneg (rest * 4294967296 + d[j]) (b := D) (by omega)
    have r1 := Int.emod_lt_of_pos (rest * 4294967296 + d[j]) hD.1
    have q0 : 0 ≤ (rest * 4294967296 + d[j]) / D := Int.ediv_nonneg cur0 (by omega)
    have q1 : (rest * 4294967296 + d[j]) / D < 4294967296 := Int.ediv_lt_of_lt_mul hD.1 (by omega)
    rw [if_pos (by simp <;> omega), show ((j + 1 : Nat) : Int) - 1 = (j : Int) by omega, Zaj (by omega), Zaj (by omega), Zaj (by omega), Int.toNat_natCast, hx, ZaC (n := rest * 4294967296) (by omega) (by omega), ZaC (n := rest * 4294967296 + d[j]) (by omega) (by omega), ZcX cur0, ZcM cur0, ZaC (n := (rest * 4294967296 + d[j]) / D) (by omega) (by omega), ZaC (by omega) (by omega)]
    refine hG j _ (by omega) ⟨by omega, _, (rest * 4294967296 + d[j]) / D :: qs, ?_, by simp; omega, ?_, ?_, r0, r1⟩
    · have : List.replicate (j + 1) (0 : Int) ++ qs = List.replicate j 0 ++ 0 :: qs := by rw [List.replicate_succ', List.append_assoc]; rfl
      rw [this, set_at _ _ _ _ j (by simp)]
    · intro y hy
      rcases List.mem_cons.1 hy with rfl | hy
      · exact ⟨q0, q1⟩
      · exact hdq y hy
    · rw [List.drop_eq_getElem_cons hj, dv, dv, ← he, Int.add_mul, Int.mul_assoc]; omega
theorem ZkK (hN : 300 ≤ N) {n S D : Int} (hn : isN n) (hS : 0 ≤ S ∧ S ≤ 2560000) (hD : 0 < D ∧ D ≤ 640000) :
    Zao N (nw n) S D = some (nw (n * S / D % 115792089237316195423570985008687907853269984665640564039457584007913129639936), decide (n * S / D < 115792089237316195423570985008687907853269984665640564039457584007913129639936)) := by
  unfold Zao
  refine Zby (fun m (x : Int × Int × List Int) => ∃ (i : Nat) (c : Int) (ds : List Int), i + m = 10 ∧ x = (c, (i : Int), ds ++ List.replicate (10 - i) 0) ∧ ds.length = i ∧ dg ds ∧ dv ds + c * 2 ^ (32 * i) = n % 2 ^ (32 * i) * S ∧ 0 ≤ c ∧ c ≤ S) ?_ N 10 _ ⟨0, 0, [], rfl, rfl, rfl, dg_nil, by simp [dv, Int.emod_one], by omega, hS.1⟩ (by omega)
  rintro G m _ ⟨i, c, ds, hi, rfl, hl, hd, he, h0, h1⟩ hG
  unfold Zao.p1
  dsimp only
  by_cases hlt : i < 10
  · have p := Zbr (32 * i)
    have wr : 0 ≤ n / 2 ^ (32 * i) % 4294967296 ∧ n / 2 ^ (32 * i) % 4294967296 < 4294967296 := by omega
    have p2 : ∀ w : Int, w = n / 2 ^ (32 * i) % 4294967296 → Zao.p2 N G S D c (i : Int) w (nw n) (ds ++ List.replicate (10 - i) 0) = some (nw (n * S / D % 115792089237316195423570985008687907853269984665640564039457584007913129639936), decide (n * S / D < 115792089237316195423570985008687907853269984665640564039457584007913129639936)) := fun w hw => by
      rw [← hw] at wr
      have ws0 : 0 ≤ w * S := Int.mul_nonneg wr.1 hS.1
      have ws1 : w * S ≤ 4294967295 * S := Int.mul_le_mul_of_nonneg_right (by omega) hS.1
      unfold Zao.p2
      rw [Zaj (by omega), Zaj (by omega), Int.toNat_natCast, ZaC (n := w * S) (by omega) (by omega), ZaC (n := w * S + c) (by omega) (by omega), ZcM (by omega), ZcX (by omega), ZaC (n := (w * S + c) / 4294967296) (by omega) (by omega), ZaC (by omega) (by omega)]
      refine hG (m - 1) _ (by omega) ⟨i + 1, (w * S + c) / 4294967296, ds ++ [(w * S + c) % 4294967296], by omega, ?_, by simp; omega, ?_, ?_, by omega, by omega⟩
      · have : List.replicate (10 - i) (0 : Int) = 0 :: List.replicate (10 - (i + 1)) 0 := by rw [← List.replicate_succ]; congr 1; omega
        rw [this, set_at _ _ _ _ i hl, List.append_assoc]; rfl
      · intro y hy
        rcases List.mem_append.1 hy with hy | hy
        · exact hd y hy
        · cases List.mem_singleton.1 hy; omega
      · have nx : n % 2 ^ (32 * (i + 1)) = n % 2 ^ (32 * i) + 2 ^ (32 * i) * w := by
          rw [hw, show (2 : Int) ^ (32 * (i + 1)) = 2 ^ (32 * i) * 4294967296 by rw [pow32, Int.mul_comm]]
          exact emod_mul' n p (by omega)
        have k : (w * S + c) % 4294967296 + 4294967296 * ((w * S + c) / 4294967296) = w * S + c := by omega
        rw [Zfg, hl, dv, dv, Int.mul_zero, Int.add_zero, nx, Int.add_mul, ← he, pow32, Int.mul_comm c, Int.mul_assoc (2 ^ (32 * i)), Int.mul_left_comm ((w * S + c) / 4294967296)]
        have k2 : 2 ^ (32 * i) * ((w * S + c) % 4294967296) + 2 ^ (32 * i) * (4294967296 * ((w * S + c) / 4294967296)) = 2 ^ (32 * i) * (w * S) + 2 ^ (32 * i) * c := by rw [← Int.mul_add, ← Int.mul_add, k]
        rw [Int.mul_comm ((w * S + c) / 4294967296) (2 ^ (32 * i)), Int.mul_left_comm 4294967296 (2 ^ (32 * i))]
        omega
    by_cases h8 : i < 8
    · have e1 : w64 (Int.tdiv (i : Int) 2) = ((i / 2 : Nat) : Int) := by rw [ZcM (by omega), ZaC (by omega) (by omega)]; omega
      have e2 : v64 (w64 (32 * Int.tmod (i : Int) 2)) = ((32 * (i % 2) : Nat) : Int) := by rw [ZcX (by omega), ZaC (by omega) (by omega), ZbC (by omega) (by omega)]; omega
      rw [if_pos (by simp <;> omega), if_pos (by simp <;> omega), e1, e2, Zaj (by omega), Zaj (by omega), Zaj (by omega), Int.toNat_natCast, ZhG hn (by omega), shr64 _ (k := 32 * (i % 2)) (by omega)]
      refine p2 _ ?_
      have pk := Zbr (32 * (i % 2))
      have nn : 0 ≤ n / 2 ^ (64 * (i / 2)) % 18446744073709551616 / 2 ^ (32 * (i % 2)) := Int.ediv_nonneg (by omega) (by omega)
      have le : n / 2 ^ (32 * i) = n / 2 ^ (64 * (i / 2)) / 2 ^ (32 * (i % 2)) := by rw [Int.ediv_ediv_of_nonneg (Int.le_of_lt (Zbr _)), ← Int.pow_add]; congr 2; omega
      rw [ZcX nn, ZaC (by omega) (by omega), le]
      generalize n / 2 ^ (64 * (i / 2)) = X
      rcases (show i % 2 = 0 ∨ i % 2 = 1 by omega) with h | h <;> rw [h]
      · rw [show (2 : Int) ^ (32 * 0) = 1 from rfl]; omega
      · rw [show (2 : Int) ^ (32 * 1) = 4294967296 from rfl]; omega
    · rw [if_pos (by simp <;> omega), if_neg (by simp <;> omega)]
      refine p2 0 ?_
      have : n / 2 ^ (32 * i) = 0 := Int.ediv_eq_zero_of_lt hn.1 (Int.lt_of_lt_of_le hn.2 (ZcS (a := 256) (by omega)))
      rw [this]; rfl
  · have h10 : i = 10 := by omega
    subst h10
    have dr := Zgc hd
    rw [hl] at dr
    have big : n % 2 ^ (32 * 10) = n := Int.emod_eq_of_lt hn.1 (Int.lt_of_lt_of_le hn.2 (ZcS (a := 256) (by omega)))
    rw [big] at he
    have sm : n * S ≤ 115792089237316195423570985008687907853269984665640564039457584007913129639936 * 2560000 := Int.mul_le_mul (by unfold isN at hn; omega) hS.2 hS.1 (by omega)
    rw [show (2 : Int) ^ (32 * 10) = 2135987035920910082395021706169552114602704522356652769947041607822219725780640550022962086936576 by rw [show 32 * 10 = 256 + 64 from rfl, Int.pow_add]; rfl] at he dr
    have c0 : c = 0 := by omega
    rw [if_neg (by simp), show ds ++ List.replicate (10 - 10) 0 = ds by simp, ZkJ hN D hD ds hl hd]
    have : dv ds = n * S := by rw [c0] at he; omega
    rw [this]
end Go.Dn.F
