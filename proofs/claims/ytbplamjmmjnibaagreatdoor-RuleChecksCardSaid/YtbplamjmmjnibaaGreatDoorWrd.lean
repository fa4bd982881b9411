/- Words of 32 and of 8 bits behind the shallow functions' numbers. -/
import Derived.Test.YtbplamjmmjnibaaGreatDoorKc
set_option linter.unusedSimpArgs false
set_option linter.unusedVariables false
namespace Go.Dn.F
open Go.Dn
theorem Zaj {α : Type} {p : Prop} [Decidable p] {A : Option α} (h : p) : chk p A = A := if_pos h
@[simp] theorem Zak {α β : Type} (x : β) (f : β → Option α) : optE (some x) f = f x := rfl
theorem ZaC {n : Int} (a : -9223372036854775808 ≤ n) (b : n < 9223372036854775808) : w64 n = n := by
  simp only [w64, IntKind.wrap, IntKind.signed, IntKind.bits]
  simp
  omega
theorem ZbC {n : Int} (a : 0 ≤ n) (b : n < 18446744073709551616) : v64 n = n := by
  simp only [v64, IntKind.wrap, IntKind.signed, IntKind.bits]
  simp
  omega
theorem ZcW (n : Int) : v64 n = n % 18446744073709551616 := by
  simp only [v64, IntKind.wrap, IntKind.signed, IntKind.bits]
  simp
theorem Zgj (n : Int) : v32 n = n % 4294967296 := by
  simp only [v32, IntKind.wrap, IntKind.signed, IntKind.bits]
  simp
theorem ZfI (n : Int) : v8 n = n % 256 := by
  simp only [v8, IntKind.wrap, IntKind.signed, IntKind.bits]
  simp
theorem Zju {n : Int} (a : 0 ≤ n) (b : n < 4294967296) : v32 n = n := by rw [Zgj]; omega
theorem v8_id {n : Int} (a : 0 ≤ n) (b : n < 256) : v8 n = n := by rw [ZfI]; omega
abbrev W := BitVec 32
def iW (x : W) : Int := (x.toNat : Int)
theorem Zld (x : W) : 0 ≤ iW x := Int.natCast_nonneg _
theorem iW_lt (x : W) : iW x < 4294967296 := by have := x.isLt; simp only [iW]; omega
theorem iW_inj {x y : W} (h : iW x = iW y) : x = y := BitVec.eq_of_toNat_eq (Int.ofNat_inj.1 h)
theorem ZeB (x : W) : BitVec.ofInt 32 (iW x) = x := by
  apply BitVec.eq_of_toNat_eq
  have := x.isLt
  simp only [iW, BitVec.toNat_ofInt]
  omega
theorem Zfq (x : W) : IntKind.wrap .u32 (x.toNat : Int) = iW x := by
  have := x.isLt
  show v32 _ = _
  rw [Zju (by omega) (by omega)]; rfl
theorem ZiE (a b : W) : bitsOf .xor .u32 (iW a) (iW b) = iW (a ^^^ b) := by
  show IntKind.wrap .u32 ((BitVec.ofInt 32 (iW a) ^^^ BitVec.ofInt 32 (iW b)).toNat : Int) = _
  rw [ZeB, ZeB, Zfq]
theorem iW_and (a b : W) : bitsOf .and .u32 (iW a) (iW b) = iW (a &&& b) := by
  show IntKind.wrap .u32 ((BitVec.ofInt 32 (iW a) &&& BitVec.ofInt 32 (iW b)).toNat : Int) = _
  rw [ZeB, ZeB, Zfq]
theorem Zlc (a b : W) : bitsOf .or .u32 (iW a) (iW b) = iW (a ||| b) := by
  show IntKind.wrap .u32 ((BitVec.ofInt 32 (iW a) ||| BitVec.ofInt 32 (iW b)).toNat : Int) = _
  rw [ZeB, ZeB, Zfq]
theorem iW_max : IntKind.max .u32 = iW (BitVec.allOnes 32) := rfl
theorem ZfQ (a b : W) : v32 (iW a + iW b) = iW (a + b) := by
  rw [Zgj]; simp only [iW, BitVec.toNat_add]; omega
theorem iW_sub (a b : W) : v32 (iW a - iW b) = iW (a - b) := by
  have := a.isLt; have := b.isLt
  rw [Zgj]; simp only [iW, BitVec.toNat_sub]; omega
theorem Zhj (a : W) (n : Nat) (hn : n ≤ 32) : shrOf .u32 (iW a) (n : Int) = iW (a >>> n) := by
  have e : min (Int.toNat (n : Int)) (IntKind.bits .u32) = n := by simp only [IntKind.bits, Int.toNat_natCast]; omega
  unfold shrOf iW
  rw [e, BitVec.toNat_ushiftRight, Nat.shiftRight_eq_div_pow, Int.fdiv_eq_ediv_of_nonneg _ (Int.le_of_lt (Int.pow_pos (by decide)))]
  push_cast
  rfl
theorem ZiF (a : W) (n : Nat) (hn : n ≤ 32) : shlOf .u32 (iW a) (n : Int) = iW (a <<< n) := by
  have e : min (Int.toNat (n : Int)) (IntKind.bits .u32) = n := by simp only [IntKind.bits, Int.toNat_natCast]; omega
  unfold shlOf
  rw [e]
  show v32 _ = _
  rw [Zgj]
  unfold iW
  rw [BitVec.toNat_shiftLeft, Nat.shiftLeft_eq, Int.natCast_emod, Int.natCast_mul, Int.natCast_pow]
  rfl
theorem iW_byte {n : Int} (h0 : 0 ≤ n) (h1 : n < 256) : v32 n = iW (BitVec.ofNat 32 n.toNat) := by
  rw [Zju h0 (by omega)]
  simp only [iW, BitVec.toNat_ofNat]; omega
end Go.Dn.F
