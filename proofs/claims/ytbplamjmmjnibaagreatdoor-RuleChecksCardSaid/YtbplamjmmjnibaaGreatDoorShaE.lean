/- A header's bytes, and its name. -/
import Derived.Test.YtbplamjmmjnibaaGreatDoorShaD
set_option linter.unusedSimpArgs false
set_option linter.unusedVariables false
set_option maxRecDepth 4000
namespace Go.Dn.F
open Go.Dn
def leB (x : Int) (j : Nat) : UInt8 := UInt8.ofNat ((x / 256 ^ j) % 256).toNat
def le (k : Nat) (x : Int) : Bs := (List.range k).map (leB x)
theorem Zeg (k : Nat) (x : Int) : (le k x).length = k := by simp [le]
theorem le_succ (k : Nat) (x : Int) : le (k + 1) x = le k x ++ [leB x k] := by simp [le, List.range_succ]
theorem v8_by (x : Int) : v8 x = byI (UInt8.ofNat (x % 256).toNat) := by
  rw [ZfI, Zfm]; omega
theorem ZiZ (x : Int) (k : Nat) (h : k ≤ 64) : shrOf .i64 x (k : Int) = x / 2 ^ k := by
  have e : min (Int.toNat (k : Int)) (IntKind.bits .i64) = k := by simp only [IntKind.bits, Int.toNat_natCast]; omega
  unfold shrOf
  rw [e, Int.fdiv_eq_ediv_of_nonneg _ (Int.le_of_lt (Int.pow_pos (by decide)))]
theorem v8_shr (x : Int) (j : Nat) (h : j < 8) : v8 (shrOf .i64 x ((8 * j : Nat) : Int)) = byI (leB x j) := by
  rw [ZiZ x _ (by omega), v8_by, Int.pow_mul]
  rfl
abbrev penO (d : Bs) : List L := [L.own true 1 (rowB d)]
theorem rowB_one (x : UInt8) : [[L.int .u8 (byI x)]] = rowB [x] := rfl
def szOf (size : Int) : Nat := (if (8 : Int) < (if (1 : Int) > size then 1 else size) then 8 else (if (1 : Int) > size then 1 else size)).toNat
theorem ZiW (size : Int) : szOf size ≤ 8 := by unfold szOf; split <;> split <;> omega
theorem Zif (size : Int) : (if (8 : Int) < (if (1 : Int) > size then 1 else size) then 8 else (if (1 : Int) > size then 1 else size)) = (szOf size : Int) := by unfold szOf; split <;> split <;> omega
section
variable {N : Nat} {st : LL} {i : Nat} {d : Bs}
theorem put_p2 (hN : 10 ≤ N) (hi : i < st.length) (c1 : Option Nat × Int × LL → Option LL) (size x : Int) (l : LL) (v : Int) (d : Bs) (hd : d.length < 1099511627776) :
    loopN (ZaB.p2 N c1 size x l v) N (some i, 0, st.set i (penO d)) = c1 (some i, w64 (v + 1), st.set i (penO (d ++ le (szOf size) x))) := by
  have hs := ZiW size
  refine Zby (fun m (y : Option Nat × Int × LL) => ∃ j : Nat, y = (some i, (j : Int), st.set i (penO (d ++ le j x))) ∧ m + j = szOf size) ?_ N (szOf size) _ ⟨0, by simp [le], by omega⟩ (by omega)
  rintro G m _ ⟨j, rfl, hj⟩ ih
  unfold ZaB.p2
  dsimp only
  rw [Zif]
  by_cases hm : j < szOf size
  · have b0 : w64 (8 * (j : Int)) = ((8 * j : Nat) : Int) := by rw [ZaC (by omega) (by omega)]; omega
    have hl := Zeg j x
    rw [if_pos (by simp; omega), Zak, List.getElem?_set_self hi, Zbc, Zeu, b0, Zaj (by omega), v8_shr _ _ (by omega), rowB_one, ZeM, Zaj (by rw [ZcI]; simp [hl]; omega), List.set_set, List.set_set, List.append_assoc, ← le_succ, Zci (by omega)]
    exact ih (m - 1) _ (by omega) ⟨j + 1, rfl, by omega⟩
  · have : j = szOf size := by omega
    subst this
    rw [if_neg (by simp)]
theorem Put_eq (hN : 10 ≤ N) (hst : st[i]? = some (penO d)) (size : Int) (xs : List Int) (hx : xs.length < N) (hx2 : xs.length < 1000000) (hd : d.length < 1000000000000) :
    ZaB N (some i) size (rowI xs) st = some (st.set i (penO (d ++ xs.flatMap (le (szOf size))))) := by
  have hi := ZjM hst
  have hs := ZiW size
  have hfl : ∀ ys : List Int, (ys.flatMap (le (szOf size))).length = szOf size * ys.length := fun ys => by
    induction ys with
    | nil => rfl
    | cons y ys ih => simp only [List.flatMap_cons, List.length_append, Zeg, ih, List.length_cons, Nat.mul_add]; omega
  unfold ZaB
  refine Zby (fun m (y : Option Nat × Int × LL) => ∃ j : Nat, y = (some i, (j : Int), st.set i (penO (d ++ (xs.take j).flatMap (le (szOf size))))) ∧ m + j = xs.length) ?_ N xs.length _ ⟨0, by simp [ZjA hst], by omega⟩ hx
  rintro G m _ ⟨j, rfl, hj⟩ ih
  unfold ZaB.p1
  dsimp only
  have hlen : len (rowI xs) = (xs.length : Int) := by simp [len]
  rw [hlen]
  by_cases hm : j < xs.length
  · have h9 := hfl (xs.take j)
    have h10 : szOf size * (xs.take j).length ≤ 8 * 1000000 := Nat.mul_le_mul hs (by simp; omega)
    rw [if_pos (by simp; omega), Zaj (by omega), ZeL (List.getElem?_eq_getElem hm), Zbc, Zcw, put_p2 hN hi G size xs[j] (rowI xs) j _ (by rw [List.length_append, h9]; omega), List.append_assoc]
    have e : (xs.take (j + 1)).flatMap (le (szOf size)) = (xs.take j).flatMap (le (szOf size)) ++ le (szOf size) xs[j] := by
      rw [List.take_succ_eq_append_getElem hm, List.flatMap_append, List.flatMap_cons, List.flatMap_nil, List.append_nil]
    rw [← e, Zci (by omega)]
    exact ih (m - 1) _ (by omega) ⟨j + 1, rfl, by omega⟩
  · rw [if_neg (by simp; omega), List.take_of_length_le (by omega)]
theorem Names_eq (hN : 10 ≤ N) (hst : st[i]? = some (penO d)) (xs : List Bs) (hx : xs.length < N) (hx2 : xs.length < 1000000) (hd : d.length < 1000000000000) (hl : ∀ x ∈ xs, x.length ≤ 32) :
    ZaO N (some i) (xs.map fun x => [L.arr .u8 32 (x.map byI)]) st = some (st.set i (penO (d ++ xs.flatten))) := by
  have hi := ZjM hst
  unfold ZaO
  refine Zby (fun m (y : Option Nat × Int × LL) => ∃ j : Nat, y = (some i, (j : Int), st.set i (penO (d ++ (xs.take j).flatten))) ∧ m + j = xs.length) ?_ N xs.length _ ⟨0, by simp [ZjA hst], by omega⟩ hx
  rintro G m _ ⟨j, rfl, hj⟩ ih
  unfold ZaO.p1
  dsimp only
  have hlen : len (xs.map fun x => [L.arr .u8 32 (x.map byI)]) = (xs.length : Int) := by simp [len]
  rw [hlen]
  by_cases hm : j < xs.length
  · have h9 : ∀ ys : List Bs, (∀ x ∈ ys, x.length ≤ 32) → ys.flatten.length ≤ 32 * ys.length := fun ys => by
      induction ys with
      | nil => intro _; simp
      | cons y ys ih =>
        intro h
        have h1 := h y (List.mem_cons_self ..)
        have h2 := ih fun x hx => h x (List.mem_cons_of_mem _ hx)
        rw [List.flatten_cons, List.length_append, List.length_cons]; omega
    have h10 := h9 (xs.take j) fun x hx => hl x (List.mem_of_mem_take hx)
    have h11 := hl xs[j] (List.getElem_mem hm)
    have hg : (xs.map fun x => [L.arr .u8 32 (x.map byI)])[Int.toNat (j : Int)]? = some [L.arr .u8 32 (xs[j].map byI)] := by rw [Int.toNat_natCast, List.getElem?_map, List.getElem?_eq_getElem hm]; rfl
    have hrow : List.map (fun x => [L.int .u8 x]) (xs[j].map byI) = rowB xs[j] := by simp [rowB]
    have e : (xs.take (j + 1)).flatten = (xs.take j).flatten ++ xs[j] := by
      rw [List.take_succ_eq_append_getElem hm, List.flatten_append, List.flatten_cons, List.flatten_nil, List.append_nil]
    have h12 : (xs.take j).length ≤ 1000000 := by simp; omega
    rw [if_pos (by simp; omega), Zaj (by omega), hg, Zbc, ZiO, Zak, List.getElem?_set_self hi, Zbc, Zeu, hrow, ZeM, Zaj (by rw [ZcI, List.length_append, List.length_append]; omega), List.set_set, List.set_set, List.append_assoc, ← e, Zci (by omega)]
    exact ih (m - 1) _ (by omega) ⟨j + 1, rfl, by omega⟩
  · rw [if_neg (by simp; omega), List.take_of_length_le (by omega)]
end
structure HW (h : Zae) (p r : Bs) : Prop where
  prev : h.Prev = p.map byI
  root : h.Root = r.map byI
  lp : p.length = 32
  lr : r.length = 32
def hgood (h : Zae) : Bool := decide (-2147483648 ≤ h.Version ∧ h.Version < 2147483648 ∧ 0 ≤ h.Time ∧ h.Time < 4294967296 ∧ 0 ≤ h.Bits ∧ h.Bits < 4294967296 ∧ 0 ≤ h.Nonce ∧ h.Nonce < 4294967296)
theorem ZiG (h : Zae) : hgood h = true ↔ (-2147483648 ≤ h.Version ∧ h.Version < 2147483648 ∧ 0 ≤ h.Time ∧ h.Time < 4294967296 ∧ 0 ≤ h.Bits ∧ h.Bits < 4294967296 ∧ 0 ≤ h.Nonce ∧ h.Nonce < 4294967296) := by simp [hgood]
theorem Zdc {b : Bool} {P : Prop} [Decidable P] (h : b = true ↔ P) : some b = some (decide P) := by
  congr 1; rw [Bool.eq_iff_iff, decide_eq_true_eq]; exact h
theorem Zex (N : Nat) (b : Int) : Zbz N b = some (decide (0 ≤ b ∧ b < 4294967296)) := by
  unfold Zbz
  split <;> (refine Zdc ⟨fun h => ?_, fun h => ?_⟩ <;> simp only [decide_eq_true_eq, Bool.false_eq_true] at * <;> omega)
theorem Zdf (N : Nat) (h : Zae) : ZaV N h = some (hgood h) := by
  unfold ZaV hgood
  simp only [Zex, Zak]
  repeat' split
  all_goals (refine Zdc ⟨fun h => ?_, fun h => ?_⟩ <;> simp only [decide_eq_true_eq, Bool.false_eq_true] at * <;> omega)
def byOf (l : List Int) : Bs := l.map fun n => UInt8.ofNat n.toNat
theorem Zge (b : Bs) : byOf (b.map byI) = b := by
  unfold byOf
  rw [List.map_map]
  conv => rhs; rw [← List.map_id b]
  refine List.map_congr_left fun x _ => ?_
  simp [byI]
def hbytes (h : Zae) : Bs := le 4 h.Version ++ byOf h.Prev ++ byOf h.Root ++ le 4 h.Time ++ le 4 h.Bits ++ le 4 h.Nonce
def hid (h : Zae) : List Int := if hgood h = true then (sha2 (hbytes h)).map byI else List.replicate 32 0
theorem Text_eq (N : Nat) (d : Bs) : Zbt N (rowB d) = some (mkB d) := by
  unfold Zbt
  have h1 : isB (rowB d) = true := by simp [isB, rowB]
  have h2 : List.map leafI (rowB d) = d.map byI := by simp [rowB, leafI]
  rw [Zaj h1, h2, Zjo]
theorem Bytes_eq (N : Nat) (hN : 10 ≤ N) (h : Zae) {p r : Bs} (hw : HW h p r) (hg : hgood h = true) (st : LL) :
    ∃ ex, ZbM N h st = some (mkB (hbytes h), 0, st ++ ex) := by
  have hb : hbytes h = ((le 4 h.Version ++ [p, r].flatten) ++ [h.Time, h.Bits, h.Nonce].flatMap (le 4)) := by
    simp [hbytes, hw.prev, hw.root, Zge]
  have hset : ∀ y z : List L, (st ++ [y]).set st.length z = st ++ [z] := fun y z => by simp
  have hget : ∀ y : List L, (st ++ [y])[st.length]? = some y := fun y => by simp
  have h4 : szOf 4 = 4 := rfl
  have e1 := Put_eq (N := N) (st := st ++ [penO []]) (i := st.length) (d := []) hN (hget _) 4 [h.Version] (by simp; omega) (by simp) (by simp)
  have e2 := Names_eq (N := N) (st := st ++ [penO (le 4 h.Version)]) (i := st.length) (d := le 4 h.Version) hN (hget _) [p, r] (by simp; omega) (by simp) (by rw [Zeg]; omega) (by simp [hw.lp, hw.lr])
  have e3 := Put_eq (N := N) (st := st ++ [penO (le 4 h.Version ++ [p, r].flatten)]) (i := st.length) (d := le 4 h.Version ++ [p, r].flatten) hN (hget _) 4 [h.Time, h.Bits, h.Nonce] (by simp; omega) (by simp) (by simp [Zeg, hw.lp, hw.lr])
  simp only [h4, hset, List.flatMap_cons, List.flatMap_nil, List.append_nil, List.nil_append] at e1
  rw [hset] at e2
  rw [h4, hset, ← hb] at e3
  unfold ZbM Zbl Zbl.p1
  rw [Zdf, Zak, hg, if_neg (by simp), Zak, if_neg (by simp)]
  have i1 : [[L.int .i64 h.Version]] = rowI [h.Version] := rfl
  have i2 : [[L.arr .u8 32 h.Prev], [L.arr .u8 32 h.Root]] = [p, r].map fun x => [L.arr .u8 32 (x.map byI)] := by simp [hw.prev, hw.root]
  have i3 : [[L.int .i64 h.Time], [L.int .i64 h.Bits], [L.int .i64 h.Nonce]] = rowI [h.Time, h.Bits, h.Nonce] := rfl
  have i0 : ([L.own true 1 []] : List L) = penO [] := rfl
  rw [i0, i1, i2, i3, e1, Zak, e2, Zak, e3, Zak, Zak, hget, Zbc, Zeu, Text_eq, Zak]
  exact ⟨_, rfl⟩
theorem Id_eq (N : Nat) (hN : 500 ≤ N) (h : Zae) {p r : Bs} (hw : HW h p r) (st : LL) : ∃ ex, Zch N h st = some (hid h, st ++ ex) := by
  unfold Zch hid
  cases hg : hgood h with
  | false =>
    unfold ZbM
    rw [Zdf, hg, Zak]
    exact ⟨[], by simp⟩
  | true =>
    obtain ⟨e1, h1⟩ := Bytes_eq N (by omega) h hw hg st
    have hl : (hbytes h).length = 80 := by simp [hbytes, Zeg, hw.prev, hw.root, Zge, hw.lp, hw.lr]
    obtain ⟨e2, h2⟩ := ZlE N [hbytes h] (st ++ e1) (by simp [hl]) (by simp [hl]; omega) (by simp; omega) (by simp)
    simp only [List.map_cons, List.map_nil, List.flatten_cons, List.flatten_nil, List.append_nil] at h2
    rw [h1, Zak]
    dsimp only
    rw [if_neg (by simp), h2, Zak]
    exact ⟨e1 ++ e2, by simp⟩
theorem hid_len (h : Zae) : (hid h).length = 32 := by
  unfold hid; split
  · rw [List.length_map, sha2, Zht]
  · simp
theorem hid_by (h : Zae) : ∃ b : Bs, hid h = b.map byI ∧ b.length = 32 := by
  unfold hid; split
  · exact ⟨_, rfl, Zht _⟩
  · exact ⟨List.replicate 32 0, by simp [byI], by simp⟩
end Go.Dn.F
