/- A name as a number; a number as bits. -/
import Derived.Test.YtbplamjmmjnibaaGreatDoorNumH
set_option linter.unusedSimpArgs false
set_option linter.unusedVariables false
set_option maxRecDepth 40000
namespace Go.Dn.F
open Go.Dn
variable {N : Nat}
theorem ZcS {a b : Nat} (h : a ≤ b) : (2 : Int) ^ a ≤ 2 ^ b := by
  have e : (2 : Int) ^ b = 2 ^ a * 2 ^ (b - a) := by rw [← Int.pow_add, show a + (b - a) = b by omega]
  have p := Zbr a
  have q := Zbr (b - a)
  have := Int.mul_le_mul_of_nonneg_left (show (1 : Int) ≤ 2 ^ (b - a) by omega) (show (0 : Int) ≤ 2 ^ a by omega)
  rw [Int.mul_one] at this
  rw [e]; exact this
def hv : List Int → Int
  | [] => 0
  | x :: l => x + 256 * hv l
def bys (l : List Int) : Prop := ∀ x ∈ l, 0 ≤ x ∧ x < 256
theorem Zle : ∀ (l : List Int) (x : Int), hv (l ++ [x]) = hv l + x * 2 ^ (8 * l.length)
  | [], x => by simp [hv]
  | y :: l, x => by
    rw [List.cons_append, hv, Zle l x, hv, List.length_cons, Int.mul_add, show (2 : Int) ^ (8 * (l.length + 1)) = 256 * 2 ^ (8 * l.length) by rw [show 8 * (l.length + 1) = 8 + 8 * l.length by omega, Int.pow_add]; rfl, Int.mul_left_comm x 256]; omega
theorem Zgb : ∀ {l : List Int}, bys l → 0 ≤ hv l ∧ hv l < 2 ^ (8 * l.length)
  | [], _ => by simp [hv]
  | y :: l, h => by
    have ih := Zgb (l := l) fun x hx => h x (List.mem_cons_of_mem _ hx)
    have := h y (by simp)
    rw [hv, List.length_cons, show (2 : Int) ^ (8 * (l.length + 1)) = 256 * 2 ^ (8 * l.length) by rw [show 8 * (l.length + 1) = 8 + 8 * l.length by omega, Int.pow_add]; rfl]
    omega
def pw (j : Nat) : Int := 2 ^ (64 * j)
theorem ZkS {m X : Int} {j : Nat} (hm : isN m) (hj : j < 4) (hX : 0 ≤ X) (h : (nw m).getD j 0 + X < 18446744073709551616) : (nw m).set j ((nw m).getD j 0 + X) = nw (m + X * 2 ^ (64 * j)) ∧ isN (m + X * 2 ^ (64 * j)) := by
  obtain ⟨a, b, c, d, ha, hb, hc, hd, rfl⟩ := Zcu hm
  rw [Zcy ha hb hc hd] at h ⊢
  have cases4 : j = 0 ∨ j = 1 ∨ j = 2 ∨ j = 3 := by omega
  rcases cases4 with rfl | rfl | rfl | rfl
  · have h' : a + X < 18446744073709551616 := h
    have e : vw a b c d + X * 2 ^ (64 * 0) = vw (a + X) b c d := by rw [show (2 : Int) ^ (64 * 0) = 1 from rfl]; unfold vw; omega
    have w : isW (a + X) := by unfold isW at *; omega
    rw [e, Zcy w hb hc hd]; exact ⟨rfl, Zgh w hb hc hd⟩
  · have h' : b + X < 18446744073709551616 := h
    have e : vw a b c d + X * 2 ^ (64 * 1) = vw a (b + X) c d := by rw [show (2 : Int) ^ (64 * 1) = 18446744073709551616 from rfl]; unfold vw; omega
    have w : isW (b + X) := by unfold isW at *; omega
    rw [e, Zcy ha w hc hd]; exact ⟨rfl, Zgh ha w hc hd⟩
  · have h' : c + X < 18446744073709551616 := h
    have e : vw a b c d + X * 2 ^ (64 * 2) = vw a b (c + X) d := by rw [show (2 : Int) ^ (64 * 2) = 340282366920938463463374607431768211456 from rfl]; unfold vw; omega
    have w : isW (c + X) := by unfold isW at *; omega
    rw [e, Zcy ha hb w hd]; exact ⟨rfl, Zgh ha hb w hd⟩
  · have h' : d + X < 18446744073709551616 := h
    have e : vw a b c d + X * 2 ^ (64 * 3) = vw a b c (d + X) := by rw [show (2 : Int) ^ (64 * 3) = 6277101735386680763835789423207666416102355444464034512896 from rfl]; unfold vw; omega
    have w : isW (d + X) := by unfold isW at *; omega
    rw [e, Zcy ha hb hc w]; exact ⟨rfl, Zgh ha hb hc w⟩
theorem ZhG {m : Int} (hm : isN m) {j : Nat} (hj : j < 4) : (nw m).getD j 0 = m / 2 ^ (64 * j) % 18446744073709551616 := by
  have cases4 : j = 0 ∨ j = 1 ∨ j = 2 ∨ j = 3 := by omega
  rcases cases4 with rfl | rfl | rfl | rfl
  · show m % 18446744073709551616 = m / 2 ^ (64 * 0) % 18446744073709551616
    rw [show (2 : Int) ^ (64 * 0) = 1 from rfl, Int.ediv_one]
  · rfl
  · rfl
  · rfl
theorem Zfr (hN : 40 ≤ N) {h : List Int} (hl : h.length = 32) (hb : bys h) : ZaT N h = some (nw (hv h)) := by
  unfold ZaT
  refine Zby (fun m (x : Int × List Int) => ∃ i : Nat, i + m = 32 ∧ x = ((i : Int), nw (hv (h.take i)))) ?_ N 32 _ ⟨0, by omega, ?_⟩ (by omega)
  · rintro G m _ ⟨i, hi, rfl⟩ hG
    unfold ZaT.p1
    dsimp only
    by_cases hlt : i < 32
    · have hm : bys (h.take i) := fun x hx => hb x (List.mem_of_mem_take hx)
      have lt := Zgb hm
      have ll : (h.take i).length = i := by rw [List.length_take]; omega
      rw [ll] at lt
      have x := hb h[i] (List.getElem_mem (by omega))
      have e1 : Int.tdiv (i : Int) 8 = ((i / 8 : Nat) : Int) := by rw [ZcM (by omega)]; omega
      have e2 : (8 : Int) * Int.tmod (i : Int) 8 = ((8 * (i % 8) : Nat) : Int) := by rw [ZcX (by omega)]; omega
      have pk := Zbr (8 * (i % 8))
      have le : (2 : Int) ^ (8 * i) = 2 ^ (64 * (i / 8)) * 2 ^ (8 * (i % 8)) := by rw [← Int.pow_add]; congr 1; omega
      have mi : isN (hv (h.take i)) := by
        refine ⟨lt.1, Int.lt_of_lt_of_le lt.2 ?_⟩
        exact ZcS (show 8 * i ≤ 256 by omega)
      have gd := ZhG mi (j := i / 8) (by omega)
      have sm : hv (h.take i) / 2 ^ (64 * (i / 8)) < 2 ^ (8 * (i % 8)) := Int.ediv_lt_of_lt_mul (Zbr _) (by rw [Int.mul_comm, ← le]; exact lt.2)
      have sm0 : 0 ≤ hv (h.take i) / 2 ^ (64 * (i / 8)) := Int.ediv_nonneg lt.1 (Int.le_of_lt (Zbr _))
      have T56 : (2 : Int) ^ (8 * (i % 8)) * 256 ≤ 18446744073709551616 := by
        have := ZcS (show 8 * (i % 8) + 8 ≤ 64 by omega)
        rw [Int.pow_add] at this
        exact this
      rw [Int.emod_eq_of_lt sm0 (by omega)] at gd
      have xs : (h[i] + 1) * 2 ^ (8 * (i % 8)) ≤ 256 * 2 ^ (8 * (i % 8)) := Int.mul_le_mul_of_nonneg_right (by omega) (by omega)
      rw [Int.add_mul, Int.one_mul] at xs
      have xs0 : 0 ≤ h[i] * 2 ^ (8 * (i % 8)) := Int.mul_nonneg x.1 (by omega)
      have sh : shlOf .u64 h[i] ((8 * (i % 8) : Nat) : Int) = h[i] * 2 ^ (8 * (i % 8)) := by rw [shl64 _ (by omega)]; omega
      have or1 : bitsOf .or .u64 ((nw (hv (h.take i))).getD (i / 8) 0) (h[i] * 2 ^ (8 * (i % 8))) = (nw (hv (h.take i))).getD (i / 8) 0 + h[i] * 2 ^ (8 * (i % 8)) := by
        rw [gd, Ziu (by unfold isW; omega) (by unfold isW; omega), ZfN (k := 8 * (i % 8)) (by omega) xs0 (by omega) (Int.mul_emod_left _ _) sm0 sm]; omega
      have st := (ZkS mi (j := i / 8) (by omega) xs0 (by rw [gd]; omega)).1
      have hx : List.getD h i 0 = h[i] := by rw [List.getD_eq_getElem?_getD, List.getElem?_eq_getElem (by omega)]; rfl
      rw [if_pos (by simp; omega), Zaj (by omega), e1, e2, ZaC (n := ((i / 8 : Nat) : Int)) (by omega) (by omega), ZaC (n := ((8 * (i % 8) : Nat) : Int)) (by omega) (by omega), Zaj (by omega), Zaj (by omega), Zaj (by omega), Int.toNat_natCast, Int.toNat_natCast, hx, ZbC x.1 (by omega), sh, or1, st, ZaC (by omega) (by omega)]
      refine hG (m - 1) _ (by omega) ⟨i + 1, by omega, ?_⟩
      have tk : h.take (i + 1) = h.take i ++ [h[i]] := List.take_succ_eq_append_getElem (by omega)
      rw [tk, Zle, ll, le, Int.mul_assoc, Int.mul_comm (2 ^ (8 * (i % 8)))]
      rfl
    · rw [if_neg (by simp; omega), List.take_of_length_le (by omega)]
  · rw [Zda]; rfl
theorem hv_isN {h : List Int} (hl : h.length = 32) (hb : bys h) : isN (hv h) := by
  have := Zgb hb
  rw [hl] at this
  exact this
theorem ZfU (hN : 40 ≤ N) {h : List Int} (hl : h.length = 32) (hb : bys h) {m : Int} (hm : isN m) : ZbK N h (nw m) = some (decide (hv h ≤ m)) := by
  unfold ZbK
  rw [Zfr hN hl hb, Zak, ZdS (by omega) hm (hv_isN hl hb), Zak]
  refine Zdc ?_
  simp only [Bool.not_eq_true', decide_eq_false_iff_not]
  omega
def cLen (m : Int) : Nat := (blen m + 7) / 8
def cTop (m : Int) : Int := if cLen m ≤ 3 then m * 2 ^ (8 * (3 - cLen m)) else m / 2 ^ (8 * (cLen m - 3))
def cEnc (m : Int) : Int := if 8388608 ≤ cTop m then ((cLen m + 1 : Nat) : Int) * 16777216 + cTop m / 256 else (cLen m : Int) * 16777216 + cTop m
theorem Zhn {m : Int} (hm : isN m) : 0 ≤ cTop m ∧ cTop m < 16777216 := by
  unfold cTop
  unfold isN at hm
  have lt := Zjr hm.1
  have l8 : (2 : Int) ^ blen m ≤ 2 ^ (8 * cLen m) := ZcS (show blen m ≤ 8 * cLen m by unfold cLen; omega)
  split
  · have p := Zbr (8 * (3 - cLen m))
    refine ⟨Int.mul_nonneg hm.1 (by omega), ?_⟩
    have := Int.mul_lt_mul_of_pos_right (show m < 2 ^ (8 * cLen m) by omega) p
    rw [← Int.pow_add, show 8 * cLen m + 8 * (3 - cLen m) = 24 by omega] at this
    exact this
  · have p := Zbr (8 * (cLen m - 3))
    refine ⟨Int.ediv_nonneg hm.1 (by omega), Int.ediv_lt_of_lt_mul p ?_⟩
    rw [show (16777216 : Int) = 2 ^ 24 from rfl, ← Int.pow_add, show 24 + 8 * (cLen m - 3) = 8 * cLen m by omega]
    omega
theorem Zlo {m : Int} (hm : isN m) : cLen m ≤ 32 := by
  have := ZeR (k := 256) (x := m) hm.2
  unfold cLen; omega
theorem or_low {A w : Int} (hA : 0 ≤ A) (hA2 : A < 4294967296) (h0 : 0 ≤ w) (h1 : w < 16777216) : bitsOf .or .i64 (A * 16777216) w = A * 16777216 + w := by
  rw [or_i (by unfold isU; omega) (by unfold isU; omega)]
  have e1 : (A * 16777216).toNat = A.toNat <<< 24 := by rw [Nat.shiftLeft_eq]; omega
  rw [e1, ← Nat.shiftLeft_add_eq_or_of_lt (show w.toNat < 2 ^ 24 by omega), Nat.shiftLeft_eq]
  omega
theorem Zjz {s : Int} (h : 0 ≤ s ∧ s < 1000) : shlOf .i64 s 24 = s * 16777216 := by
  unfold shlOf
  show w64 (s * 2 ^ min (Int.toNat 24) 64) = _
  rw [show min (Int.toNat 24) 64 = 24 from rfl, show (2 : Int) ^ 24 = 16777216 from rfl, ZaC (by omega) (by omega)]
theorem bit23 {w : Int} (h : 0 ≤ w ∧ w < 16777216) : (bitsOf .and .i64 w 8388608 != 0) = decide (8388608 ≤ w) := by
  rw [ZjW (by unfold isU; omega), decide_eq_decide]; omega
theorem ZfF (hN : 10 ≤ N) {m : Int} (hm : isN m) : ZaD N (nw m) = some (cEnc m) := by
  have t := Zhn hm
  have l := Zlo hm
  have bl : blen m ≤ 256 := ZeR hm.2
  have e : w64 (Int.tdiv (w64 ((blen m : Int) + 7)) 8) = (cLen m : Int) := by
    rw [ZaC (n := (blen m : Int) + 7) (by omega) (by omega), ZcM (by omega), ZaC (by omega) (by omega)]; unfold cLen; omega
  have p1 : ZaD.p1 N (blen m : Int) (cTop m) = some (cEnc m) := by
    unfold ZaD.p1 ZaD.p2
    rw [bit23 t, e, show shrOf .i64 (cTop m) 8 = cTop m / 256 from ZiZ (cTop m) 8 (by omega)]
    unfold cEnc
    by_cases h : 8388608 ≤ cTop m
    · rw [if_pos (by simpa using h), if_pos h, show (cLen m : Int) + 1 = ((cLen m + 1 : Nat) : Int) by omega, ZaC (by omega) (by omega), Zjz (by omega), or_low (by omega) (by omega) (by omega) (by omega)]
    · rw [if_neg (by simpa using h), if_neg h, Zjz (by omega), or_low (by omega) (by omega) (by omega) (by omega)]
  have low : ∀ {w : Int}, 0 ≤ w → w < 16777216 → w64 (List.getD (nw w) 0 0) = w := fun {w} h0 h1 => by
    show w64 (w % 18446744073709551616) = w
    rw [ZaC (by omega) (by omega)]; omega
  unfold ZaD
  rw [Zia hN hm, Zak, e]
  have ct : cTop m = if cLen m ≤ 3 then m * 2 ^ (8 * (3 - cLen m)) else m / 2 ^ (8 * (cLen m - 3)) := rfl
  by_cases h3 : cLen m ≤ 3
  · rw [if_pos h3] at ct
    rw [if_pos (by simp; omega), show (3 : Int) - (cLen m : Int) = ((3 - cLen m : Nat) : Int) by omega, ZaC (n := ((3 - cLen m : Nat) : Int)) (by omega) (by omega), show (8 : Int) * ((3 - cLen m : Nat) : Int) = ((8 * (3 - cLen m) : Nat) : Int) by omega, ZaC (n := ((8 * (3 - cLen m) : Nat) : Int)) (by omega) (by omega), Zgf hN hm _ (by omega), Zak, ← ct, Int.emod_eq_of_lt t.1 (by omega), low t.1 t.2, p1]
  · rw [if_neg h3] at ct
    rw [if_neg (by simp; omega), show (cLen m : Int) - 3 = ((cLen m - 3 : Nat) : Int) by omega, ZaC (n := ((cLen m - 3 : Nat) : Int)) (by omega) (by omega), show (8 : Int) * ((cLen m - 3 : Nat) : Int) = ((8 * (cLen m - 3) : Nat) : Int) by omega, ZaC (n := ((8 * (cLen m - 3) : Nat) : Int)) (by omega) (by omega), ZeS hN hm _ (by omega), Zak, ← ct, low t.1 t.2, p1]
end Go.Dn.F
