/- The program's digest is SHA-256. -/
import Derived.Test.YtbplamjmmjnibaaGreatDoorShaA
import Derived.Test.YtbplamjmmjnibaaGreatDoorFa
set_option linter.unusedSimpArgs false
set_option linter.unusedVariables false
set_option maxRecDepth 4000
namespace Go.Dn.F
open Go.Dn
def byI (x : UInt8) : Int := (x.toNat : Int)
theorem Zlr (x : UInt8) : byI x < 256 := by have := x.toNat_lt; simp only [byI]; omega
theorem Zlq (x : UInt8) : 0 ≤ byI x := Int.natCast_nonneg _
def rowB (b : Bs) : LL := b.map fun x => [L.int .u8 (byI x)]
def mkB (b : Bs) : ByteArray := ⟨b.toArray⟩
theorem ZcI (b : Bs) : (rowB b).length = b.length := by simp [rowB]
theorem Zlp (b : Bs) : byteL (mkB b) = rowB b := by simp [byteL, mkB, rowB, byI]
theorem ZfV {b : Bs} {i : Nat} (h : i < b.length) : (rowB b)[i]? = some [L.int .u8 (byI (b.getD i 0))] := by
  simp [rowB, List.getElem?_eq_getElem h, List.getD]
theorem Zid (x : UInt8) : v32 (byI x) = iW (byteW x) := by
  have := Zlr x
  rw [iW_byte (Zlq x) this]; simp [byI, byteW]
theorem xor0 (x : W) : (0 : W) ^^^ x = x := by simp
theorem rot_eq (N : Nat) (x : W) (n : Nat) (h0 : 0 < n) (h1 : n < 32) (h : bitsOf .and .u64 (v64 (w64 (0 - (n : Int)))) 31 = ((32 - n : Nat) : Int)) : Zbg N (iW x) (w64 (0 - (n : Int))) = some (iW (ror x n)) := by
  unfold Zbg
  rw [h]
  have e : v64 (32 - ((32 - n : Nat) : Int)) = (n : Int) := by rw [ZbC (by omega) (by omega)]; omega
  rw [Zaj (by omega), e, Zaj (by omega), ZiF _ _ (by omega), Zhj _ _ (by omega), Zlc, BitVec.or_comm]
  rfl
theorem Zei (N : Nat) (G : Int × Int → Option Int) (x o : W) (l : LL) (i n : Nat) (h0 : 0 < n) (h1 : n < 32) (hb : bitsOf .and .u64 (v64 (w64 (0 - (n : Int)))) 31 = ((32 - n : Nat) : Int)) (hl : l[i]? = some [L.int .i64 (n : Int)]) (hi : i < 1000) :
    ZaJ.p1 N (iW x) l G (iW o, (i : Int)) = G (iW (o ^^^ ror x n), ((i + 1 : Nat) : Int)) := by
  have hlt := (List.getElem?_eq_some_iff.1 hl).1
  unfold ZaJ.p1
  dsimp only
  rw [if_pos (by simp; omega), Zaj (by omega), Int.toNat_natCast, hl, Zbc, Zcw, rot_eq N x n h0 h1 hb, Zak, ZiE, ZaC (by omega) (by omega)]
  rfl
theorem Zjv (N : Nat) (G : Int × Int → Option Int) (x o : W) (l : LL) (i : Nat) (hi : l.length ≤ i) : ZaJ.p1 N (iW x) l G (iW o, (i : Int)) = some (iW o) := by
  unfold ZaJ.p1
  dsimp only
  rw [if_neg (by simp; omega)]
theorem turn2 (N : Nat) (hN : 10 ≤ N) (x : W) (a b : Nat) (h0 : 0 < a) (h1 : a < 32) (h2 : 0 < b) (h3 : b < 32) (ha : bitsOf .and .u64 (v64 (w64 (0 - (a : Int)))) 31 = ((32 - a : Nat) : Int)) (hb : bitsOf .and .u64 (v64 (w64 (0 - (b : Int)))) 31 = ((32 - b : Nat) : Int)) :
    ZaJ N (iW x) [[L.int .i64 (a : Int)], [L.int .i64 (b : Int)]] = some (iW (ror x a ^^^ ror x b)) := by
  obtain ⟨N', e⟩ : ∃ N', N = N' + 3 := ⟨N - 3, by omega⟩
  unfold ZaJ
  have key : ∀ k, loopN (ZaJ.p1 N (iW x) [[L.int .i64 (a : Int)], [L.int .i64 (b : Int)]]) (k + 3) (iW 0, ((0 : Nat) : Int)) = some (iW (ror x a ^^^ ror x b)) := fun k => by
    rw [Zau, Zei N _ x 0 _ 0 a h0 h1 ha rfl (by omega), Zau, Zei N _ x _ _ 1 b h2 h3 hb rfl (by omega), Zau, Zjv N _ x _ _ _ (by simp), xor0]
  have := key N'
  rw [← e] at this
  exact this
theorem turn3 (N : Nat) (hN : 10 ≤ N) (x : W) (a b c : Nat) (h0 : 0 < a) (h1 : a < 32) (h2 : 0 < b) (h3 : b < 32) (h4 : 0 < c) (h5 : c < 32) (ha : bitsOf .and .u64 (v64 (w64 (0 - (a : Int)))) 31 = ((32 - a : Nat) : Int)) (hb : bitsOf .and .u64 (v64 (w64 (0 - (b : Int)))) 31 = ((32 - b : Nat) : Int))
    (hc : bitsOf .and .u64 (v64 (w64 (0 - (c : Int)))) 31 = ((32 - c : Nat) : Int)) :
    ZaJ N (iW x) [[L.int .i64 (a : Int)], [L.int .i64 (b : Int)], [L.int .i64 (c : Int)]] = some (iW ((ror x a ^^^ ror x b) ^^^ ror x c)) := by
  obtain ⟨N', e⟩ : ∃ N', N = N' + 4 := ⟨N - 4, by omega⟩
  unfold ZaJ
  have key : ∀ k, loopN (ZaJ.p1 N (iW x) [[L.int .i64 (a : Int)], [L.int .i64 (b : Int)], [L.int .i64 (c : Int)]]) (k + 4) (iW 0, ((0 : Nat) : Int)) = some (iW ((ror x a ^^^ ror x b) ^^^ ror x c)) := fun k => by
    rw [Zau, Zei N _ x 0 _ 0 a h0 h1 ha rfl (by omega), Zau, Zei N _ x _ _ 1 b h2 h3 hb rfl (by omega), Zau, Zei N _ x _ _ 2 c h4 h5 hc rfl (by omega), Zau, Zjv N _ x _ _ _ (by simp), xor0]
  have := key N'
  rw [← e] at this
  exact this
theorem t_6 (N : Nat) (hN : 10 ≤ N) (x : W) : ZaJ N (iW x) [[L.int .i64 6], [L.int .i64 11], [L.int .i64 25]] = some (iW (bg1 x)) := turn3 N hN x 6 11 25 (by omega) (by omega) (by omega) (by omega) (by omega) (by omega) (by decide +kernel) (by decide +kernel) (by decide +kernel)
theorem t_2 (N : Nat) (hN : 10 ≤ N) (x : W) : ZaJ N (iW x) [[L.int .i64 2], [L.int .i64 13], [L.int .i64 22]] = some (iW (bg0 x)) := turn3 N hN x 2 13 22 (by omega) (by omega) (by omega) (by omega) (by omega) (by omega) (by decide +kernel) (by decide +kernel) (by decide +kernel)
theorem t_7 (N : Nat) (hN : 10 ≤ N) (x : W) : ZaJ N (iW x) [[L.int .i64 7], [L.int .i64 18]] = some (iW (ror x 7 ^^^ ror x 18)) := turn2 N hN x 7 18 (by omega) (by omega) (by omega) (by omega) (by decide +kernel) (by decide +kernel)
theorem t_17 (N : Nat) (hN : 10 ≤ N) (x : W) : ZaJ N (iW x) [[L.int .i64 17], [L.int .i64 19]] = some (iW (ror x 17 ^^^ ror x 19)) := turn2 N hN x 17 19 (by omega) (by omega) (by omega) (by omega) (by decide +kernel) (by decide +kernel)
theorem shr3 (x : W) : shrOf .u32 (iW x) 3 = iW (x >>> 3) := Zhj x 3 (by omega)
theorem shr10 (x : W) : shrOf .u32 (iW x) 10 = iW (x >>> 10) := Zhj x 10 (by omega)
theorem shl24 (x : W) : shlOf .u32 (iW x) 24 = iW (x <<< 24) := ZiF x 24 (by omega)
theorem shl16 (x : W) : shlOf .u32 (iW x) 16 = iW (x <<< 16) := ZiF x 16 (by omega)
theorem shl8 (x : W) : shlOf .u32 (iW x) 8 = iW (x <<< 8) := ZiF x 8 (by omega)
theorem Zci {i : Nat} (h : i < 1000000) : w64 ((i : Int) + 1) = ((i + 1 : Nat) : Int) := by rw [ZaC (by omega) (by omega)]; rfl
theorem Zdx {i m : Nat} (h : i < 1000000) (hm : m ≤ i) : w64 ((i : Int) - (m : Int)) = ((i - m : Nat) : Int) := by rw [ZaC (by omega) (by omega)]; omega
theorem Zjw (i : Nat) : glob_digest_steps.getD i 0 = iW (kks.getD i 0) := by
  have : glob_digest_steps = kks.map iW := by decide +kernel
  rw [this, Zdk]
theorem ZkD (N : Nat) (hN : 100 ≤ N) (i : Nat) (st : LL) (h : List W) (rest : LL) (size : Int) (hst : st[i]? = some (Zag.lo ⟨h.map iW, rest, size⟩)) (hh : h.length = 8) (b : Bs) (hb : b.length = 64) :
    Zaa N (some i) (rowB b) st = some (st.set i (Zag.lo ⟨(comp h b).map iW, rest, size⟩)) := by
  have hi := (List.getElem?_eq_some_iff.1 hst).1
  have e4 : ∀ (s : List W) (hs : s.length = 8), loopN (Zaa.p4 N i (s.map iW)) N (((0 : Nat) : Int), st.set i (Zag.lo ⟨h.map iW, rest, size⟩)) = some (st.set i (Zag.lo ⟨(run (adw s) 0 8 h).map iW, rest, size⟩)) := fun s hs => by
    refine ZeC (fun (j : Nat) (x : List W) => ((j : Int), st.set i (Zag.lo ⟨x.map iW, rest, size⟩))) (fun x => x.length = 8) (adw s) 0 8 (fun x => some (st.set i (Zag.lo ⟨x.map iW, rest, size⟩))) ?_ ?_ 8 0 N h (Nat.le_refl _) rfl (by omega) hh
    · intro G j x h16 hj hx
      refine ⟨?_, by simpa [adw] using hx⟩
      unfold Zaa.p4
      dsimp only
      rw [if_pos (by simp; omega), Zaj (by omega), List.getElem?_set_self hi, Zbc, ZcB]
      dsimp only
      rw [Int.toNat_natCast, Zdk, Zdk, ZfQ, Zha, List.set_set, Zci (by omega)]
      rfl
    · intro G x hx
      unfold Zaa.p4
      dsimp only
      rw [if_neg (by simp)]
  have e3 : ∀ (w : List W), loopN (Zaa.p3 N i (w.map iW) st) N (((0 : Nat) : Int), h.map iW) = some (st.set i (Zag.lo ⟨(run (adw (run (rnd w) 0 64 h)) 0 8 h).map iW, rest, size⟩)) := fun w => by
    refine ZeC (fun (j : Nat) (x : List W) => ((j : Int), x.map iW)) (fun x => x.length = 8) (rnd w) 0 64 (fun x => some (st.set i (Zag.lo ⟨(run (adw x) 0 8 h).map iW, rest, size⟩))) ?_ ?_ 64 0 N h (Nat.le_refl _) rfl (by omega) hh
    · intro G j x h16 hj hx
      refine ⟨?_, rfl⟩
      unfold Zaa.p3
      dsimp only
      rw [if_pos (by simp; omega)]
      simp only [Zdk, Int.toNat_natCast, Zjw]
      rw [t_6 N (by omega), Zak, Zaj (by omega), t_2 N (by omega), Zak, iW_max]
      simp only [iW_and, ZiE, ZfQ]
      rw [Zci (by omega)]
      rfl
    · intro G x hx
      unfold Zaa.p3
      dsimp only
      rw [if_neg (by simp)]
      have := e4 x hx
      rw [ZjA hst] at this
      exact this
  have e2 : ∀ (w : List W), w.length = 64 → loopN (Zaa.p2 N (some i) st) N (((16 : Nat) : Int), w.map iW) = some (st.set i (Zag.lo ⟨(run (adw (run (rnd (run exw 16 48 w)) 0 64 h)) 0 8 h).map iW, rest, size⟩)) := fun w hw => by
    refine ZeC (fun (j : Nat) (x : List W) => ((j : Int), x.map iW)) (fun x => x.length = 64) exw 16 64 (fun x => some (st.set i (Zag.lo ⟨(run (adw (run (rnd x) 0 64 h)) 0 8 h).map iW, rest, size⟩))) ?_ ?_ 48 16 N w (Nat.le_refl _) rfl (by omega) hw
    · intro G j x h16 hj hx
      refine ⟨?_, by simpa [exw] using hx⟩
      have a15 := Zdx (i := j) (m := 15) (by omega) (by omega)
      have a2 := Zdx (i := j) (m := 2) (by omega) (by omega)
      have a16 := Zdx (i := j) (m := 16) (by omega) (by omega)
      have a7 := Zdx (i := j) (m := 7) (by omega) (by omega)
      simp only [Int.cast_ofNat_Int] at a15 a2 a16 a7
      unfold Zaa.p2
      dsimp only
      rw [if_pos (by simp; omega), a15, a2, a16, a7]
      simp only [Zdk, Int.toNat_natCast]
      rw [Zaj (by omega), Zaj (by omega), Zaj (by omega), Zaj (by omega), Zaj (by omega), Zaj (by omega), t_7 N (by omega), Zak, Zaj (by omega), Zaj (by omega), t_17 N (by omega), Zak, Zaj (by omega), shr3, shr10]
      simp only [ZiE, ZfQ]
      rw [Zci (by omega), Zha]
      rfl
    · intro G x hx
      unfold Zaa.p2
      dsimp only
      rw [if_neg (by simp), Zak, hst, Zbc, ZcB]
      exact e3 x
  have e1 : loopN (Zaa.p1 N (some i) (rowB b) st) N (((0 : Nat) : Int), (List.replicate 64 (0 : W)).map iW) = some (st.set i (Zag.lo ⟨(comp h b).map iW, rest, size⟩)) := by
    refine ZeC (fun (j : Nat) (x : List W) => ((j : Int), x.map iW)) (fun x => x.length = 64) (ldw b) 0 16 (fun x => some (st.set i (Zag.lo ⟨(run (adw (run (rnd (run exw 16 48 x)) 0 64 h)) 0 8 h).map iW, rest, size⟩))) ?_ ?_ 16 0 N _ (Nat.le_refl _) rfl (by omega) (by simp)
    · intro G j x h16 hj hx
      refine ⟨?_, by simpa [ldw] using hx⟩
      have b0 : w64 (4 * (j : Int)) = ((4 * j : Nat) : Int) := by rw [ZaC (by omega) (by omega)]; omega
      have b1 := ZaC (n := ((4 * j : Nat) : Int) + 1) (by omega) (by omega)
      have b2 := ZaC (n := ((4 * j : Nat) : Int) + 2) (by omega) (by omega)
      have b3 := ZaC (n := ((4 * j : Nat) : Int) + 3) (by omega) (by omega)
      have c1 : (((4 * j : Nat) : Int) + 1).toNat = 4 * j + 1 := by omega
      have c2 : (((4 * j : Nat) : Int) + 2).toNat = 4 * j + 2 := by omega
      have c3 : (((4 * j : Nat) : Int) + 3).toNat = 4 * j + 3 := by omega
      have hl : len (rowB b) = 64 := by have := ZcI b; simp only [len]; omega
      unfold Zaa.p1
      dsimp only
      rw [if_pos (by simp; omega), b0, b1, b2, b3, c1, c2, c3, Int.toNat_natCast, Zaj (by omega), Zaj (by omega), ZfV (by omega), Zbc, Zfh, Zaj (by omega), Zaj (by omega), ZfV (by omega), Zbc, Zfh, Zaj (by omega), Zaj (by omega), ZfV (by omega), Zbc, Zfh, Zaj (by omega), Zaj (by omega), ZfV (by omega), Zbc, Zfh, Zaj (by omega), Zaj (by omega),
        Zid, Zid, Zid, Zid, shl24, shl16, shl8, Zlc, Zlc, Zlc, Int.toNat_natCast, Zha, Zci (by omega)]
      rfl
    · intro G x hx
      unfold Zaa.p1
      dsimp only
      rw [if_neg (by simp)]
      exact e2 x hx
  exact e1
end Go.Dn.F
