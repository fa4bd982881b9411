/-
  DERIVED: THE SHELF's CONTRACTS AT THIS DUMP, IN PLAIN WORDS (tools/lay-plain.mjs out of 'TryzSort.lean', which tools/lay-shelf.mjs wrote): THE SAME DECLARATIONS UNDER THE SAME NAMES: 'import', 'namespace', 'open', 'def', 'theorem' AND NOTHING ELSE: no command of the shelf's: FOR A HAND-IN. Each laying: the table of numbers ('.._ren') and one theorem, a field a fact of the dump's own or the kernel's comparison; each contract: ONE APPLICATION.
-/
import Derived.Shelf.Sort.Plain
import Derived.Ground.Names2Prog
import Derived.Shelf.Slices.In.SortNone
import Derived.Test.YtcgdbcfflaphhaaGreatDoorProg
import Derived.Test.YtcgdbcfflaphhaaGreatDoorKc
namespace Go.Proofs
open Go.Shelf
def Tryz.lays189_ren:Go.Shelf.Ren:=⟨fun | 189=> 195 | 125=> 219 | 257=> 218 | 128=> 236 | 129=> 222 | 294=> 227 | 295=> 228 | 296=> 229 | 297=> 230 | 298=> 231 | 299=> 232 | 216=> 233 | 300=> 234 | 301=> 235 | 328=> 239 | 329=> 240 | 330=> 241 | 331=> 242 | 332=> 243 | 215=> 244 | 343=> 246 | n=>n,fun | 28=> 66 | 3=> 3 | 46=> 237 | 0=> 0 | 51=> 261 | 53=> 24 | 4=> 4 | 183=> 291 | 182=> 290 | 131=> 157 | 5=> 5 | 9=> 9 | 218=> 301 | 222=> 305 | 228=> 308 | 229=> 95 | n=>n,fun | n=>n⟩
theorem Tryz.lays189:Go.Proofs.Lays.n189 Tryz.prog Tryz.lays189_ren:={
 mixed:=by kernel_rfl
 f125:=Tryz.func219.trans (congrArg some (by kernel_rfl))
 f128:=Tryz.func236.trans (congrArg some (by kernel_rfl))
 f129:=Tryz.func222.trans (congrArg some (by kernel_rfl))
 f189:=Tryz.func195.trans (congrArg some (by kernel_rfl))
 f215:=Tryz.func244.trans (congrArg some (by kernel_rfl))
 f216:=Tryz.func233.trans (congrArg some (by kernel_rfl))
 f257:=Tryz.func218.trans (congrArg some (by kernel_rfl))
 f294:=Tryz.func227.trans (congrArg some (by kernel_rfl))
 f295:=Tryz.func228.trans (congrArg some (by kernel_rfl))
 f296:=Tryz.func229.trans (congrArg some (by kernel_rfl))
 f297:=Tryz.func230.trans (congrArg some (by kernel_rfl))
 f298:=Tryz.func231.trans (congrArg some (by kernel_rfl))
 f299:=Tryz.func232.trans (congrArg some (by kernel_rfl))
 f300:=Tryz.func234.trans (congrArg some (by kernel_rfl))
 f301:=Tryz.func235.trans (congrArg some (by kernel_rfl))
 f328:=Tryz.func239.trans (congrArg some (by kernel_rfl))
 f329:=Tryz.func240.trans (congrArg some (by kernel_rfl))
 f330:=Tryz.func241.trans (congrArg some (by kernel_rfl))
 f331:=Tryz.func242.trans (congrArg some (by kernel_rfl))
 f332:=Tryz.func243.trans (congrArg some (by kernel_rfl))
 f343:=Tryz.func246.trans (congrArg some (by kernel_rfl))
 t0:=Tryz.underlying0
 a0:=Tryz.isAgg0
 z0:=Tryz.sizeOf0
 v0:=Tryz.zeroValue0
 t3:=Tryz.underlying3
 a3:=Tryz.isAgg3
 z3:=Tryz.sizeOf3
 v3:=Tryz.zeroValue3
 t4:=Tryz.underlying4
 a4:=Tryz.isAgg4
 z4:=Tryz.sizeOf4
 v4:=Tryz.zeroValue4
 t5:=Tryz.underlying5
 a5:=Tryz.isAgg5
 z5:=Tryz.sizeOf5
 v5:=Tryz.zeroValue5
 t9:=Tryz.underlying9
 a9:=Tryz.isAgg9
 z9:=Tryz.sizeOf9
 v9:=Tryz.zeroValue9
 t28:=Tryz.underlying66
 a28:=Tryz.isAgg66
 z28:=Tryz.sizeOf66
 v28:=Tryz.zeroValue66
 t46:=Tryz.underlying237
 a46:=Tryz.isAgg237
 z46:=Tryz.sizeOf237
 v46:=Tryz.zeroValue237
 t51:=Tryz.underlying261
 a51:=Tryz.isAgg261
 z51:=Tryz.sizeOf261
 v51:=Tryz.zeroValue261
 t53:=Tryz.underlying24
 a53:=Tryz.isAgg24
 z53:=Tryz.sizeOf24
 v53:=Tryz.zeroValue24
 t131:=Tryz.underlying157
 a131:=Tryz.isAgg157
 z131:=Tryz.sizeOf157
 v131:=Tryz.zeroValue157
 t182:=Tryz.underlying290
 a182:=Tryz.isAgg290
 z182:=Tryz.sizeOf290
 v182:=Tryz.zeroValue290
 t183:=Tryz.underlying291
 a183:=Tryz.isAgg291
 z183:=Tryz.sizeOf291
 v183:=Tryz.zeroValue291
 t218:=Tryz.underlying301
 a218:=Tryz.isAgg301
 z218:=Tryz.sizeOf301
 v218:=Tryz.zeroValue301
 t222:=Tryz.underlying305
 a222:=Tryz.isAgg305
 z222:=Tryz.sizeOf305
 v222:=Tryz.zeroValue305
 t228:=Tryz.underlying308
 a228:=Tryz.isAgg308
 z228:=Tryz.sizeOf308
 v228:=Tryz.zeroValue308
 t229:=Tryz.underlying95
 a229:=Tryz.isAgg95
 z229:=Tryz.sizeOf95
 v229:=Tryz.zeroValue95}
open Go.Sort Go.RowKit in
theorem Tryz.slices_Sort_int (blk off cap:Nat) (zs:List Int) (w:World) (hH:Holds (Value.int .i64) w blk off zs.toArray) (hblk:blk<w.heap.size) (hsz:zs.length<4611686018427387904) :
  Calls Tryz.prog 195 #[.slice (some ⟨blk,off,none⟩) zs.length cap] w fun e w'=>
   e = .returned (.tuple #[])∧∃n os,w'=grow (putRow (Value.int .i64) (Sort.ahead w n) blk off (zs.mergeSort fun x y=>decide (x≤y)).toArray) os:=Any.slices_Sort_int Tryz.lays189 blk off cap zs w hH hblk hsz
open Go.RowKit Go.Sort in
theorem Tryz.slices_Sort_int_none (p:Option Addr) (cap:Nat) (w:World) :
  Calls Tryz.prog 195 #[.slice p 0 cap] w fun e w'=>e = .returned (.tuple #[])∧w'=w:=Any.slices_Sort_int_none Tryz.lays189 p cap w
end Go.Proofs
namespace Go.Dn.F
theorem slices_Sort_int.holds:SortC Go.Proofs.Tryz.prog 195:=
 ⟨⟨Go.Proofs.Tryz.f195,Go.Proofs.Tryz.func195,by kernel_rfl,by kernel_rfl⟩,Go.Proofs.Tryz.slices_Sort_int_none,Go.Proofs.Tryz.slices_Sort_int⟩
end Go.Dn.F
