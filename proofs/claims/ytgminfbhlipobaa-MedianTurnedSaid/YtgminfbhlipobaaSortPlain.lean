/-
  DERIVED: THE SHELF's CONTRACTS AT THIS DUMP, IN PLAIN WORDS (tools/lay-plain.mjs out of 'TrySort.lean', which tools/lay-shelf.mjs wrote): THE SAME DECLARATIONS UNDER THE SAME NAMES: 'import', 'namespace', 'open', 'def', 'theorem' AND NOTHING ELSE: no command of the shelf's: FOR A HAND-IN. Each laying: the table of numbers ('.._ren') and one theorem, a field a fact of the dump's own or the kernel's comparison; each contract: ONE APPLICATION.
-/
import Derived.Shelf.Sort.Plain
import Derived.Ground.Names2Prog
import Derived.Shelf.Slices.In.SortNone
import Derived.Test.YtgminfbhlipobaaProg
namespace Go.Proofs
open Go.Shelf
def Try.lays189_ren : Go.Shelf.Ren := ⟨fun | 189 => 23 | 125 => 25 | 257 => 24 | 128 => 35 | 129 => 36 | 294 => 26 | 295 => 27 | 296 => 28 | 297 => 29 | 298 => 30 | 299 => 31 | 216 => 32 | 300 => 33 | 301 => 34 | 328 => 37 | 329 => 38 | 330 => 39 | 331 => 40 | 332 => 41 | 215 => 42 | 343 => 43 | n => n, fun | 28 => 23 | 3 => 3 | 46 => 30 | 0 => 0 | 51 => 54 | 53 => 32 | 4 => 4 | 183 => 46 | 182 => 45 | 131 => 51 | 5 => 5 | 9 => 9 | 218 => 56 | 222 => 60 | 228 => 62 | 229 => 63 | n => n, fun | n => n⟩
theorem Try.lays189 : Go.Proofs.Lays.n189 Try.prog Try.lays189_ren := {
  mixed := by kernel_rfl
  f125 := Try.func25.trans (congrArg some (by kernel_rfl))
  f128 := Try.func35.trans (congrArg some (by kernel_rfl))
  f129 := Try.func36.trans (congrArg some (by kernel_rfl))
  f189 := Try.func23.trans (congrArg some (by kernel_rfl))
  f215 := Try.func42.trans (congrArg some (by kernel_rfl))
  f216 := Try.func32.trans (congrArg some (by kernel_rfl))
  f257 := Try.func24.trans (congrArg some (by kernel_rfl))
  f294 := Try.func26.trans (congrArg some (by kernel_rfl))
  f295 := Try.func27.trans (congrArg some (by kernel_rfl))
  f296 := Try.func28.trans (congrArg some (by kernel_rfl))
  f297 := Try.func29.trans (congrArg some (by kernel_rfl))
  f298 := Try.func30.trans (congrArg some (by kernel_rfl))
  f299 := Try.func31.trans (congrArg some (by kernel_rfl))
  f300 := Try.func33.trans (congrArg some (by kernel_rfl))
  f301 := Try.func34.trans (congrArg some (by kernel_rfl))
  f328 := Try.func37.trans (congrArg some (by kernel_rfl))
  f329 := Try.func38.trans (congrArg some (by kernel_rfl))
  f330 := Try.func39.trans (congrArg some (by kernel_rfl))
  f331 := Try.func40.trans (congrArg some (by kernel_rfl))
  f332 := Try.func41.trans (congrArg some (by kernel_rfl))
  f343 := Try.func43.trans (congrArg some (by kernel_rfl))
  t0 := Try.underlying0
  a0 := Try.isAgg0
  z0 := Try.sizeOf0
  v0 := Try.zeroValue0
  t3 := Try.underlying3
  a3 := Try.isAgg3
  z3 := Try.sizeOf3
  v3 := Try.zeroValue3
  t4 := Try.underlying4
  a4 := Try.isAgg4
  z4 := Try.sizeOf4
  v4 := Try.zeroValue4
  t5 := Try.underlying5
  a5 := Try.isAgg5
  z5 := Try.sizeOf5
  v5 := Try.zeroValue5
  t9 := Try.underlying9
  a9 := Try.isAgg9
  z9 := Try.sizeOf9
  v9 := Try.zeroValue9
  t28 := Try.underlying23
  a28 := Try.isAgg23
  z28 := Try.sizeOf23
  v28 := Try.zeroValue23
  t46 := Try.underlying30
  a46 := Try.isAgg30
  z46 := Try.sizeOf30
  v46 := Try.zeroValue30
  t51 := Try.underlying54
  a51 := Try.isAgg54
  z51 := Try.sizeOf54
  v51 := Try.zeroValue54
  t53 := Try.underlying32
  a53 := Try.isAgg32
  z53 := Try.sizeOf32
  v53 := Try.zeroValue32
  t131 := Try.underlying51
  a131 := Try.isAgg51
  z131 := Try.sizeOf51
  v131 := Try.zeroValue51
  t182 := Try.underlying45
  a182 := Try.isAgg45
  z182 := Try.sizeOf45
  v182 := Try.zeroValue45
  t183 := Try.underlying46
  a183 := Try.isAgg46
  z183 := Try.sizeOf46
  v183 := Try.zeroValue46
  t218 := Try.underlying56
  a218 := Try.isAgg56
  z218 := Try.sizeOf56
  v218 := Try.zeroValue56
  t222 := Try.underlying60
  a222 := Try.isAgg60
  z222 := Try.sizeOf60
  v222 := Try.zeroValue60
  t228 := Try.underlying62
  a228 := Try.isAgg62
  z228 := Try.sizeOf62
  v228 := Try.zeroValue62
  t229 := Try.underlying63
  a229 := Try.isAgg63
  z229 := Try.sizeOf63
  v229 := Try.zeroValue63 }
open Go.Sort Go.RowKit in
theorem Try.slices_Sort_int (blk off cap : Nat) (zs : List Int) (w : World) (hH : Holds (Value.int .i64) w blk off zs.toArray) (hblk : blk < w.heap.size) (hsz : zs.length < 4611686018427387904) :
    Calls Try.prog 23 #[.slice (some ⟨blk, off, none⟩) zs.length cap] w fun e w' =>
      e = .returned (.tuple #[]) ∧ ∃ n os, w' = grow (putRow (Value.int .i64) (Sort.ahead w n) blk off (zs.mergeSort fun x y => decide (x ≤ y)).toArray) os := Any.slices_Sort_int Try.lays189 blk off cap zs w hH hblk hsz
open Go.RowKit Go.Sort in
/-- .. and plain. (LAID: no walk: one application.) -/
theorem Try.slices_Sort_int_none (p : Option Addr) (cap : Nat) (w : World) :
    Calls Try.prog 23 #[.slice p 0 cap] w fun e w' => e = .returned (.tuple #[]) ∧ w' = w := Any.slices_Sort_int_none Try.lays189 p cap w
end Go.Proofs
