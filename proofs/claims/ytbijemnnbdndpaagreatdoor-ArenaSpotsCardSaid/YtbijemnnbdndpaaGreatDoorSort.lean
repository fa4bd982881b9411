import Derived.Shelf.Sort.Plain
import Derived.Ground.Names2Prog
import Derived.Shelf.Slices.In.SortNone
import Derived.Test.YtbijemnnbdndpaaGreatDoorProg
import Derived.Test.YtbijemnnbdndpaaGreatDoorKc
namespace Go.Proofs
open Go.Shelf
def Tryz.lays189_ren:Go.Shelf.Ren:=⟨fun | 189=> 102 | 125=> 112 | 257=> 111 | 128=> 128 | 129=> 115 | 294=> 119 | 295=> 120 | 296=> 121 | 297=> 122 | 298=> 123 | 299=> 124 | 216=> 125 | 300=> 126 | 301=> 127 | 328=> 130 | 329=> 131 | 330=> 132 | 331=> 133 | 332=> 134 | 215=> 135 | 343=> 136 | n=>n,fun | 28=> 52 | 3=> 3 | 46=> 141 | 0=> 0 | 51=> 136 | 53=> 24 | 4=> 4 | 183=> 174 | 182=> 173 | 131=> 81 | 5=> 5 | 9=> 9 | 218=> 183 | 222=> 187 | 228=> 189 | 229=> 190 | n=>n,fun | n=>n⟩
theorem Tryz.lays189:Go.Proofs.Lays.n189 Tryz.prog Tryz.lays189_ren:={
 mixed:=by kernel_rfl
 f125:=Tryz.func112.trans (congrArg some (by kernel_rfl))
 f128:=Tryz.func128.trans (congrArg some (by kernel_rfl))
 f129:=Tryz.func115.trans (congrArg some (by kernel_rfl))
 f189:=Tryz.func102.trans (congrArg some (by kernel_rfl))
 f215:=Tryz.func135.trans (congrArg some (by kernel_rfl))
 f216:=Tryz.func125.trans (congrArg some (by kernel_rfl))
 f257:=Tryz.func111.trans (congrArg some (by kernel_rfl))
 f294:=Tryz.func119.trans (congrArg some (by kernel_rfl))
 f295:=Tryz.func120.trans (congrArg some (by kernel_rfl))
 f296:=Tryz.func121.trans (congrArg some (by kernel_rfl))
 f297:=Tryz.func122.trans (congrArg some (by kernel_rfl))
 f298:=Tryz.func123.trans (congrArg some (by kernel_rfl))
 f299:=Tryz.func124.trans (congrArg some (by kernel_rfl))
 f300:=Tryz.func126.trans (congrArg some (by kernel_rfl))
 f301:=Tryz.func127.trans (congrArg some (by kernel_rfl))
 f328:=Tryz.func130.trans (congrArg some (by kernel_rfl))
 f329:=Tryz.func131.trans (congrArg some (by kernel_rfl))
 f330:=Tryz.func132.trans (congrArg some (by kernel_rfl))
 f331:=Tryz.func133.trans (congrArg some (by kernel_rfl))
 f332:=Tryz.func134.trans (congrArg some (by kernel_rfl))
 f343:=Tryz.func136.trans (congrArg some (by kernel_rfl))
 t0:=Tryz.underlying0
 a0:=Tryz.isAgg0
 z0:=Tryz.sizeOf0
 v0:=Tryz.zeroValue0
 t3:=Tryz.underlying3
 a3:=Tryz.isAgg3
 z3:=Tryz.sizeOf3
 v3:=Tryz.zeroValue3
 t4:=Tryz.underlying4
 a4:=Tryz.isAgg4
 z4:=Tryz.sizeOf4
 v4:=Tryz.zeroValue4
 t5:=Tryz.underlying5
 a5:=Tryz.isAgg5
 z5:=Tryz.sizeOf5
 v5:=Tryz.zeroValue5
 t9:=Tryz.underlying9
 a9:=Tryz.isAgg9
 z9:=Tryz.sizeOf9
 v9:=Tryz.zeroValue9
 t28:=Tryz.underlying52
 a28:=Tryz.isAgg52
 z28:=Tryz.sizeOf52
 v28:=Tryz.zeroValue52
 t46:=Tryz.underlying141
 a46:=Tryz.isAgg141
 z46:=Tryz.sizeOf141
 v46:=Tryz.zeroValue141
 t51:=Tryz.underlying136
 a51:=Tryz.isAgg136
 z51:=Tryz.sizeOf136
 v51:=Tryz.zeroValue136
 t53:=Tryz.underlying24
 a53:=Tryz.isAgg24
 z53:=Tryz.sizeOf24
 v53:=Tryz.zeroValue24
 t131:=Tryz.underlying81
 a131:=Tryz.isAgg81
 z131:=Tryz.sizeOf81
 v131:=Tryz.zeroValue81
 t182:=Tryz.underlying173
 a182:=Tryz.isAgg173
 z182:=Tryz.sizeOf173
 v182:=Tryz.zeroValue173
 t183:=Tryz.underlying174
 a183:=Tryz.isAgg174
 z183:=Tryz.sizeOf174
 v183:=Tryz.zeroValue174
 t218:=Tryz.underlying183
 a218:=Tryz.isAgg183
 z218:=Tryz.sizeOf183
 v218:=Tryz.zeroValue183
 t222:=Tryz.underlying187
 a222:=Tryz.isAgg187
 z222:=Tryz.sizeOf187
 v222:=Tryz.zeroValue187
 t228:=Tryz.underlying189
 a228:=Tryz.isAgg189
 z228:=Tryz.sizeOf189
 v228:=Tryz.zeroValue189
 t229:=Tryz.underlying190
 a229:=Tryz.isAgg190
 z229:=Tryz.sizeOf190
 v229:=Tryz.zeroValue190}
open Go.Sort Go.RowKit in
theorem Tryz.slices_Sort_int (blk off cap:Nat) (zs:List Int) (w:World) (hH:Holds (Value.int .i64) w blk off zs.toArray) (hblk:blk<w.heap.size) (hsz:zs.length<4611686018427387904) :
  Calls Tryz.prog 102 #[.slice (some ⟨blk,off,none⟩) zs.length cap] w fun e w'=>
   e = .returned (.tuple #[])∧∃n os,w'=grow (putRow (Value.int .i64) (Sort.ahead w n) blk off (zs.mergeSort fun x y=>decide (x≤y)).toArray) os:=Any.slices_Sort_int Tryz.lays189 blk off cap zs w hH hblk hsz
open Go.RowKit Go.Sort in
theorem Tryz.slices_Sort_int_none (p:Option Addr) (cap:Nat) (w:World) :
  Calls Tryz.prog 102 #[.slice p 0 cap] w fun e w'=>e = .returned (.tuple #[])∧w'=w:=Any.slices_Sort_int_none Tryz.lays189 p cap w
end Go.Proofs
namespace Go.Dn.F
theorem slices_Sort_int.holds:SortC Go.Proofs.Tryz.prog 102:=
 ⟨⟨Go.Proofs.Tryz.f102,Go.Proofs.Tryz.func102,by kernel_rfl,by kernel_rfl⟩,Go.Proofs.Tryz.slices_Sort_int_none,Go.Proofs.Tryz.slices_Sort_int⟩
end Go.Dn.F
