/- The program's digest of texts, and of a header. -/
import Derived.Test.YtbplamjmmjnibaaGreatDoorShaC
set_option linter.unusedSimpArgs false
set_option linter.unusedVariables false
set_option maxRecDepth 4000
namespace Go.Dn.F
open Go.Dn
theorem sum_p3 (N : Nat) (hN : 100 ≤ N) (st t0 : LL) (b : Bs) (h0 : List W) (hh : h0.length = 8) (n : Nat) (hb : b.length = 64 * n) (hn : n < N) (hn2 : n < 100000000000) :
    ∃ x, loopN (Zaf.p3 N st (rowB b)) N (0, b.length, st ++ [hsh h0 [] 0]) = some ((outB (blocks n h0 b)).map byI, st ++ [x]) := by
  refine ⟨hsh (blocks n h0 b) [] 0, ?_⟩
  have hlt : ∀ y : List L, st.length < (st ++ [y]).length := fun y => by simp
  have hget : ∀ y : List L, (st ++ [y])[st.length]? = some y := fun y => by simp
  have hset : ∀ y z : List L, (st ++ [y]).set st.length z = st ++ [z] := fun y z => by simp
  refine Zby (fun m (y : Nat × Nat × LL) => ∃ (j : Nat) (h : List W), y = (64 * j, 64 * m, st ++ [hsh h [] 0]) ∧ m + j = n ∧ h.length = 8 ∧ blocks m h (b.drop (64 * j)) = blocks n h0 b) ?_ N n _ ⟨0, h0, by rw [hb], by omega, hh, rfl⟩ hn
  rintro G m _ ⟨j, h, rfl, hm, hh1, hbl⟩ ih
  unfold Zaf.p3
  dsimp only
  cases m with
  | succ m =>
    have tk : Zaa N (some st.length) (rowB ((b.drop (64 * j)).take 64)) (st ++ [hsh h [] 0]) = some ((st ++ [hsh h [] 0]).set st.length (hsh (comp h ((b.drop (64 * j)).take 64)) [] 0)) :=
      ZkD N hN st.length _ h [] ((0 : Nat) : Int) (hget _) hh1 _ (by simp; omega)
    rw [if_pos (by simp; omega), Zaj (by rw [ZcI]; omega), Zin, Zim, tk, Zak, hset, Zaj (by omega)]
    refine ih m _ (by omega) ⟨j + 1, comp h ((b.drop (64 * j)).take 64), ?_, by omega, by rw [Zgd]; exact hh1, ?_⟩
    · congr 2
    · rw [← hbl, blocks, List.drop_drop, show 64 * j + 64 = 64 * (j + 1) by omega]
  | zero =>
    rw [if_neg (by simp), hget, Zbc, ZgH]
    rw [sum_p4 N hN h hh1]
    simp only [blocks] at hbl
    rw [hbl]
theorem sum_eq (N : Nat) (i : Nat) (st : LL) (d : Bs) (hst : st[i]? = some (hob d)) (hd : d.length < 1099511627776) (hN : d.length + 200 ≤ N) :
    ∃ x, Zaf N (some i) st = some ((sha d).map byI, st ++ [x]) := by
  have hi := ZjM hst
  obtain ⟨q, hq⟩ : ∃ q, q = d.length / 64 := ⟨_, rfl⟩
  obtain ⟨r, hr⟩ : ∃ r, r = d.drop (64 * q) := ⟨_, rfl⟩
  have hrl : r.length = d.length % 64 := by rw [hr]; simp; omega
  obtain ⟨t, ht⟩ : ∃ t, t = (r ++ 128 :: List.replicate (zs d.length) 0) ++ be8 (8 * d.length) := ⟨_, rfl⟩
  have hpad : pad d = d.take (64 * q) ++ t := by
    rw [ht, pad]
    have e : d = d.take (64 * q) ++ r := by rw [hr, List.take_append_drop]
    conv => lhs; lhs; lhs; rw [e]
    simp only [List.append_assoc]
  have hz := Zkv d.length
  have htl : t.length = 64 * ((r.length + 9 + zs d.length) / 64) := by
    rw [ht]; simp [be8]; omega
  have htq : (d.take (64 * q)).length = 64 * q := by simp; omega
  have hpl : (pad d).length / 64 = q + t.length / 64 := by rw [hpad, List.length_append, htq]; omega
  have hsha : sha d = outB (blocks (t.length / 64) (blocks q iv d) t) := by
    have hb : blocks q iv d = blocks q iv (d.take (64 * q)) := by
      conv => lhs; rw [← List.take_append_drop (64 * q) d]
      exact Zho _ _ _ _ htq
    rw [sha, hpl, hpad, ZeH q _ iv _ t htq, ← hb]
  have hob' : hob d = hsh (blocks q iv d) r d.length := by unfold hob; rw [← hq, ← hr]
  rw [hob'] at hst
  have hz64 : zs d.length < 64 := by unfold zs; omega
  obtain ⟨x, e3⟩ := sum_p3 N (by omega) st st t (blocks q iv d) (by rw [ZeG]; rfl) (t.length / 64) (by omega) (by omega) (by omega)
  refine ⟨x, ?_⟩
  have hzero : Zag.lo ⟨(blocks q iv d).map iW, [], 0⟩ = hsh (blocks q iv d) [] 0 := rfl
  have e2 : loopN (Zaf.p2 N i st ⟨(blocks q iv d).map iW, rowB r, (d.length : Int)⟩) N (rowB (r ++ 128 :: List.replicate (zs d.length) 0), 7) = some ((sha d).map byI, st ++ [x]) := by
    refine Zby (fun m (y : LL × Int) => ∃ k, y = (rowB ((r ++ 128 :: List.replicate (zs d.length) 0) ++ (be8 (8 * d.length)).take k), 7 - (k : Int)) ∧ m + k = 8) ?_ N 8 _ ⟨0, by simp, rfl⟩ (by omega)
    rintro G m _ ⟨k, rfl, hk⟩ ih
    unfold Zaf.p2
    dsimp only
    by_cases hk8 : k < 8
    · have hs : 7 - (k : Int) = ((7 - k : Nat) : Int) := by omega
      have g1 : (st ++ [Zag.lo (Zag.mk (List.map iW (blocks q iv d)) [] 0)])[i]? = some (hsh (blocks q iv d) r d.length) := by rw [List.getElem?_append_left hi]; exact hst
      have b0 : w64 (8 * ((7 - k : Nat) : Int)) = ((8 * (7 - k) : Nat) : Int) := by rw [ZaC (by omega) (by omega)]; omega
      have b1 : v64 ((d.length : Int) * 8) = ((8 * d.length : Nat) : Int) := by rw [ZbC (by omega) (by omega)]; omega
      rw [if_pos (by simp; omega), g1, Zbc, ZgH]
      dsimp only
      rw [hs, b0, b1, Zaj (by omega), shr_u64 _ _ (by omega), v8_nat]
      have e1 : rowB ((r ++ 128 :: List.replicate (zs d.length) 0) ++ (be8 (8 * d.length)).take k) ++ [[L.int .u8 (byI (UInt8.ofNat ((8 * d.length) >>> (8 * (7 - k)))))]] = rowB ((r ++ 128 :: List.replicate (zs d.length) 0) ++ (be8 (8 * d.length)).take (k + 1)) := by
        rw [be8_get _ k hk8, ← List.append_assoc]; simp [rowB]
      rw [e1, Zaj (by rw [ZcI]; simp; omega)]
      refine ih (m - 1) _ (by omega) ⟨k + 1, ?_, by omega⟩
      congr 1
      rw [ZaC (by omega) (by omega)]; omega
    · have hk9 : k = 8 := by omega
      subst hk9
      have e5 : (be8 (8 * d.length)).take 8 = be8 (8 * d.length) := rfl
      rw [if_neg (by simp), e5, ← ht, ZcI, hzero, e3, ← hsha]
  unfold Zaf
  rw [if_neg (by simp), Zak, hst, Zbc, ZgH]
  dsimp only
  have e0 : ([] : LL) ++ rowB r ++ [[L.int .u8 128]] = rowB (r ++ [128]) := by simp [rowB, byI]
  rw [e0, Zaj (by rw [List.nil_append, ZcI]; omega), Zaj (by rw [ZcI]; simp; omega)]
  refine Zby (fun m (y : LL) => ∃ k, y = rowB (r ++ 128 :: List.replicate k 0) ∧ m + k = zs d.length) ?_ N (zs d.length) _ ⟨0, rfl, by omega⟩ (by omega)
  rintro G m _ ⟨k, rfl, hk⟩ ih
  unfold Zaf.p1
  rw [ZjJ]
  have hlen : (r ++ 128 :: List.replicate k 0).length = r.length + 1 + k := by simp; omega
  by_cases hm : m = 0
  · have : k = zs d.length := by omega
    subst this
    rw [hlen, if_neg, e2]
    simp only [bne_iff_ne, ne_eq, Decidable.not_not]
    rw [Int.tmod_eq_emod_of_nonneg (by omega)]
    omega
  · have e1 : rowB (r ++ 128 :: List.replicate k 0) ++ [[L.int .u8 0]] = rowB (r ++ 128 :: List.replicate (k + 1) 0) := by
      rw [List.replicate_succ']; simp [rowB, byI]
    rw [hlen, if_pos, e1, Zaj (by rw [ZcI]; simp; omega)]
    · exact ih (m - 1) _ (by omega) ⟨k + 1, rfl, by omega⟩
    · simp only [bne_iff_ne, ne_eq]
      rw [Int.tmod_eq_emod_of_nonneg (by omega)]
      unfold zs at hk hz64
      omega
theorem hob_nil : hob [] = Zag.lo ⟨glob_digest_starts, [], 0⟩ := by
  have : glob_digest_starts = iv.map iW := by decide +kernel
  rw [this]; rfl
theorem Of_eq (N : Nat) (ps : List Bs) (st : LL) (h1 : ps.flatten.length < 1099511627776) (h2 : ps.flatten.length + 200 ≤ N) (h3 : ps.length < N) (h4 : ps.length < 1000000) :
    ∃ ex, Zcv N (ps.map fun s => [L.str (mkB s)]) st = some ((sha ps.flatten).map byI, st ++ ex) := by
  unfold Zcv ZcA
  rw [Zak]
  dsimp only
  rw [← hob_nil]
  have hw := write_eq N (by omega) st.length ps (st ++ [hob []]) (by simp) [] (by rw [List.length_nil]; omega) (by rw [List.length_nil]; omega) h3 h4
  have hset : ∀ y z : List L, (st ++ [y]).set st.length z = st ++ [z] := fun y z => by simp
  rw [hset, hset, List.nil_append] at hw
  rw [hw, Zak]
  obtain ⟨x, hs⟩ := sum_eq N st.length (st ++ [hob ps.flatten]) ps.flatten (by simp) h1 h2
  rw [hs, Zak]
  exact ⟨[hob ps.flatten, x], by simp⟩
theorem Zjo (b : Bs) : istr (b.map byI) = mkB b := by
  unfold istr mkB
  congr 2
  rw [List.map_map]
  conv => rhs; rw [← List.map_id b]
  refine List.map_congr_left fun x _ => ?_
  simp [byI]
theorem ZlE (N : Nat) (ps : List Bs) (st : LL) (h1 : ps.flatten.length < 1099511627776) (h2 : ps.flatten.length + 300 ≤ N) (h3 : ps.length < N) (h4 : ps.length < 1000000) :
    ∃ ex, ZbS N (ps.map fun s => [L.str (mkB s)]) st = some ((sha2 ps.flatten).map byI, st ++ ex) := by
  obtain ⟨e1, h5⟩ := Of_eq N ps st h1 (by omega) h3 h4
  unfold ZbS
  rw [h5, Zak]
  dsimp only
  have hl := Zht ps.flatten
  obtain ⟨e2, h6⟩ := Of_eq N [sha ps.flatten] (st ++ e1) (by simp; omega) (by simp; omega) (by simp; omega) (by simp)
  rw [Zjo]
  simp only [List.map_cons, List.map_nil, List.flatten_cons, List.flatten_nil, List.append_nil] at h6
  rw [h6, Zak]
  exact ⟨e1 ++ e2, by rw [List.append_assoc]; rfl⟩
end Go.Dn.F
