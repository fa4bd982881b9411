/-
  DERIVED: THE SHELF's CONTRACTS AT THIS DUMP, IN PLAIN WORDS (tools/lay-plain.mjs out of 'TryzSort.lean', which tools/lay-shelf.mjs wrote): THE SAME DECLARATIONS UNDER THE SAME NAMES: 'import', 'namespace', 'open', 'def', 'theorem' AND NOTHING ELSE: no command of the shelf's: FOR A HAND-IN. Each laying: the table of numbers ('.._ren') and one theorem, a field a fact of the dump's own or the kernel's comparison; each contract: ONE APPLICATION.
-/
import Derived.Shelf.Sort.Plain
import Derived.Ground.Names2Prog
import Derived.Shelf.Slices.In.SortNone
import Derived.Test.YtbplamjmmjnibaaGreatDoorProg
import Derived.Test.YtbplamjmmjnibaaGreatDoorKc
namespace Go.Proofs
open Go.Shelf
def Tryz.lays189_ren:Go.Shelf.Ren:=⟨fun | 189=>119 | 125=>142 | 257=>141 | 128=>163 | 129=>153 | 294=>154 | 295=>155 | 296=>156 | 297=>157 | 298=>158 | 299=>159 | 216=>160 | 300=>161 | 301=>162 | 328=>166 | 329=>167 | 330=>168 | 331=>169 | 332=>170 | 215=>171 | 343=>174 | n=>n,fun | 28=>41 | 3=>3 | 46=>185 | 0=>0 | 51=>180 | 53=>24 | 4=>4 | 183=>206 | 182=>205 | 131=>121 | 5=>5 | 9=>9 | 218=>216 | 222=>220 | 228=>223 | 229=>98 | n=>n,fun | n=>n⟩
theorem Tryz.lays189:Go.Proofs.Lays.n189 Tryz.prog Tryz.lays189_ren:={
 mixed:=by kernel_rfl
 f125:=Tryz.func142.trans (congrArg some (by kernel_rfl))
 f128:=Tryz.func163.trans (congrArg some (by kernel_rfl))
 f129:=Tryz.func153.trans (congrArg some (by kernel_rfl))
 f189:=Tryz.func119.trans (congrArg some (by kernel_rfl))
 f215:=Tryz.func171.trans (congrArg some (by kernel_rfl))
 f216:=Tryz.func160.trans (congrArg some (by kernel_rfl))
 f257:=Tryz.func141.trans (congrArg some (by kernel_rfl))
 f294:=Tryz.func154.trans (congrArg some (by kernel_rfl))
 f295:=Tryz.func155.trans (congrArg some (by kernel_rfl))
 f296:=Tryz.func156.trans (congrArg some (by kernel_rfl))
 f297:=Tryz.func157.trans (congrArg some (by kernel_rfl))
 f298:=Tryz.func158.trans (congrArg some (by kernel_rfl))
 f299:=Tryz.func159.trans (congrArg some (by kernel_rfl))
 f300:=Tryz.func161.trans (congrArg some (by kernel_rfl))
 f301:=Tryz.func162.trans (congrArg some (by kernel_rfl))
 f328:=Tryz.func166.trans (congrArg some (by kernel_rfl))
 f329:=Tryz.func167.trans (congrArg some (by kernel_rfl))
 f330:=Tryz.func168.trans (congrArg some (by kernel_rfl))
 f331:=Tryz.func169.trans (congrArg some (by kernel_rfl))
 f332:=Tryz.func170.trans (congrArg some (by kernel_rfl))
 f343:=Tryz.func174.trans (congrArg some (by kernel_rfl))
 t0:=Tryz.underlying0
 a0:=Tryz.isAgg0
 z0:=Tryz.sizeOf0
 v0:=Tryz.zeroValue0
 t3:=Tryz.underlying3
 a3:=Tryz.isAgg3
 z3:=Tryz.sizeOf3
 v3:=Tryz.zeroValue3
 t4:=Tryz.underlying4
 a4:=Tryz.isAgg4
 z4:=Tryz.sizeOf4
 v4:=Tryz.zeroValue4
 t5:=Tryz.underlying5
 a5:=Tryz.isAgg5
 z5:=Tryz.sizeOf5
 v5:=Tryz.zeroValue5
 t9:=Tryz.underlying9
 a9:=Tryz.isAgg9
 z9:=Tryz.sizeOf9
 v9:=Tryz.zeroValue9
 t28:=Tryz.underlying41
 a28:=Tryz.isAgg41
 z28:=Tryz.sizeOf41
 v28:=Tryz.zeroValue41
 t46:=Tryz.underlying185
 a46:=Tryz.isAgg185
 z46:=Tryz.sizeOf185
 v46:=Tryz.zeroValue185
 t51:=Tryz.underlying180
 a51:=Tryz.isAgg180
 z51:=Tryz.sizeOf180
 v51:=Tryz.zeroValue180
 t53:=Tryz.underlying24
 a53:=Tryz.isAgg24
 z53:=Tryz.sizeOf24
 v53:=Tryz.zeroValue24
 t131:=Tryz.underlying121
 a131:=Tryz.isAgg121
 z131:=Tryz.sizeOf121
 v131:=Tryz.zeroValue121
 t182:=Tryz.underlying205
 a182:=Tryz.isAgg205
 z182:=Tryz.sizeOf205
 v182:=Tryz.zeroValue205
 t183:=Tryz.underlying206
 a183:=Tryz.isAgg206
 z183:=Tryz.sizeOf206
 v183:=Tryz.zeroValue206
 t218:=Tryz.underlying216
 a218:=Tryz.isAgg216
 z218:=Tryz.sizeOf216
 v218:=Tryz.zeroValue216
 t222:=Tryz.underlying220
 a222:=Tryz.isAgg220
 z222:=Tryz.sizeOf220
 v222:=Tryz.zeroValue220
 t228:=Tryz.underlying223
 a228:=Tryz.isAgg223
 z228:=Tryz.sizeOf223
 v228:=Tryz.zeroValue223
 t229:=Tryz.underlying98
 a229:=Tryz.isAgg98
 z229:=Tryz.sizeOf98
 v229:=Tryz.zeroValue98}
open Go.Sort Go.RowKit in
theorem Tryz.slices_Sort_int (blk off cap:Nat) (zs:List Int) (w:World) (hH:Holds (Value.int .i64) w blk off zs.toArray) (hblk:blk<w.heap.size) (hsz:zs.length<4611686018427387904) :
  Calls Tryz.prog 119 #[.slice (some ⟨blk,off,none⟩) zs.length cap] w fun e w'=>
   e = .returned (.tuple #[])∧∃n os,w'=grow (putRow (Value.int .i64) (Sort.ahead w n) blk off (zs.mergeSort fun x y=>decide (x≤y)).toArray) os:=Any.slices_Sort_int Tryz.lays189 blk off cap zs w hH hblk hsz
open Go.RowKit Go.Sort in
theorem Tryz.slices_Sort_int_none (p:Option Addr) (cap:Nat) (w:World) :
  Calls Tryz.prog 119 #[.slice p 0 cap] w fun e w'=>e = .returned (.tuple #[])∧w'=w:=Any.slices_Sort_int_none Tryz.lays189 p cap w
end Go.Proofs
namespace Go.Dn.F
theorem slices_Sort_int.holds:SortC Go.Proofs.Tryz.prog 119:=
 ⟨⟨Go.Proofs.Tryz.f119,Go.Proofs.Tryz.func119,by kernel_rfl,by kernel_rfl⟩,Go.Proofs.Tryz.slices_Sort_int_none,Go.Proofs.Tryz.slices_Sort_int⟩
end Go.Dn.F
