import Derived.Shelf.Sort.Plain
import Derived.Ground.Names2Prog
import Derived.Shelf.Slices.In.SortNone
import Derived.Test.YtbijmojagnjgcaaGreatDoorProg
import Derived.Test.YtbijmojagnjgcaaGreatDoorKc
namespace Go.Proofs
open Go.Shelf
def Tryz.lays189_ren:Go.Shelf.Ren:=⟨fun | 189=> 154 | 125=> 164 | 257=> 163 | 128=> 178 | 129=> 165 | 294=> 169 | 295=> 170 | 296=> 171 | 297=> 172 | 298=> 173 | 299=> 174 | 216=> 175 | 300=> 176 | 301=> 177 | 328=> 180 | 329=> 181 | 330=> 182 | 331=> 183 | 332=> 184 | 215=> 185 | 343=> 186 | n=>n,fun | 28=> 52 | 3=> 3 | 46=> 174 | 0=> 0 | 51=> 169 | 53=> 24 | 4=> 4 | 183=> 217 | 182=> 216 | 131=> 58 | 5=> 5 | 9=> 9 | 218=> 224 | 222=> 228 | 228=> 230 | 229=> 231 | n=>n,fun | n=>n⟩
theorem Tryz.lays189:Go.Proofs.Lays.n189 Tryz.prog Tryz.lays189_ren:={
 mixed:=by kernel_rfl
 f125:=Tryz.func164.trans (congrArg some (by kernel_rfl))
 f128:=Tryz.func178.trans (congrArg some (by kernel_rfl))
 f129:=Tryz.func165.trans (congrArg some (by kernel_rfl))
 f189:=Tryz.func154.trans (congrArg some (by kernel_rfl))
 f215:=Tryz.func185.trans (congrArg some (by kernel_rfl))
 f216:=Tryz.func175.trans (congrArg some (by kernel_rfl))
 f257:=Tryz.func163.trans (congrArg some (by kernel_rfl))
 f294:=Tryz.func169.trans (congrArg some (by kernel_rfl))
 f295:=Tryz.func170.trans (congrArg some (by kernel_rfl))
 f296:=Tryz.func171.trans (congrArg some (by kernel_rfl))
 f297:=Tryz.func172.trans (congrArg some (by kernel_rfl))
 f298:=Tryz.func173.trans (congrArg some (by kernel_rfl))
 f299:=Tryz.func174.trans (congrArg some (by kernel_rfl))
 f300:=Tryz.func176.trans (congrArg some (by kernel_rfl))
 f301:=Tryz.func177.trans (congrArg some (by kernel_rfl))
 f328:=Tryz.func180.trans (congrArg some (by kernel_rfl))
 f329:=Tryz.func181.trans (congrArg some (by kernel_rfl))
 f330:=Tryz.func182.trans (congrArg some (by kernel_rfl))
 f331:=Tryz.func183.trans (congrArg some (by kernel_rfl))
 f332:=Tryz.func184.trans (congrArg some (by kernel_rfl))
 f343:=Tryz.func186.trans (congrArg some (by kernel_rfl))
 t0:=Tryz.underlying0
 a0:=Tryz.isAgg0
 z0:=Tryz.sizeOf0
 v0:=Tryz.zeroValue0
 t3:=Tryz.underlying3
 a3:=Tryz.isAgg3
 z3:=Tryz.sizeOf3
 v3:=Tryz.zeroValue3
 t4:=Tryz.underlying4
 a4:=Tryz.isAgg4
 z4:=Tryz.sizeOf4
 v4:=Tryz.zeroValue4
 t5:=Tryz.underlying5
 a5:=Tryz.isAgg5
 z5:=Tryz.sizeOf5
 v5:=Tryz.zeroValue5
 t9:=Tryz.underlying9
 a9:=Tryz.isAgg9
 z9:=Tryz.sizeOf9
 v9:=Tryz.zeroValue9
 t28:=Tryz.underlying52
 a28:=Tryz.isAgg52
 z28:=Tryz.sizeOf52
 v28:=Tryz.zeroValue52
 t46:=Tryz.underlying174
 a46:=Tryz.isAgg174
 z46:=Tryz.sizeOf174
 v46:=Tryz.zeroValue174
 t51:=Tryz.underlying169
 a51:=Tryz.isAgg169
 z51:=Tryz.sizeOf169
 v51:=Tryz.zeroValue169
 t53:=Tryz.underlying24
 a53:=Tryz.isAgg24
 z53:=Tryz.sizeOf24
 v53:=Tryz.zeroValue24
 t131:=Tryz.underlying58
 a131:=Tryz.isAgg58
 z131:=Tryz.sizeOf58
 v131:=Tryz.zeroValue58
 t182:=Tryz.underlying216
 a182:=Tryz.isAgg216
 z182:=Tryz.sizeOf216
 v182:=Tryz.zeroValue216
 t183:=Tryz.underlying217
 a183:=Tryz.isAgg217
 z183:=Tryz.sizeOf217
 v183:=Tryz.zeroValue217
 t218:=Tryz.underlying224
 a218:=Tryz.isAgg224
 z218:=Tryz.sizeOf224
 v218:=Tryz.zeroValue224
 t222:=Tryz.underlying228
 a222:=Tryz.isAgg228
 z222:=Tryz.sizeOf228
 v222:=Tryz.zeroValue228
 t228:=Tryz.underlying230
 a228:=Tryz.isAgg230
 z228:=Tryz.sizeOf230
 v228:=Tryz.zeroValue230
 t229:=Tryz.underlying231
 a229:=Tryz.isAgg231
 z229:=Tryz.sizeOf231
 v229:=Tryz.zeroValue231}
open Go.Sort Go.RowKit in
theorem Tryz.slices_Sort_int (blk off cap:Nat) (zs:List Int) (w:World) (hH:Holds (Value.int .i64) w blk off zs.toArray) (hblk:blk<w.heap.size) (hsz:zs.length<4611686018427387904) :
  Calls Tryz.prog 154 #[.slice (some ⟨blk,off,none⟩) zs.length cap] w fun e w'=>
   e = .returned (.tuple #[])∧∃n os,w'=grow (putRow (Value.int .i64) (Sort.ahead w n) blk off (zs.mergeSort fun x y=>decide (x≤y)).toArray) os:=Any.slices_Sort_int Tryz.lays189 blk off cap zs w hH hblk hsz
open Go.RowKit Go.Sort in
theorem Tryz.slices_Sort_int_none (p:Option Addr) (cap:Nat) (w:World) :
  Calls Tryz.prog 154 #[.slice p 0 cap] w fun e w'=>e = .returned (.tuple #[])∧w'=w:=Any.slices_Sort_int_none Tryz.lays189 p cap w
end Go.Proofs
namespace Go.Dn.F
theorem slices_Sort_int.holds:SortC Go.Proofs.Tryz.prog 154:=
 ⟨⟨Go.Proofs.Tryz.f154,Go.Proofs.Tryz.func154,by kernel_rfl,by kernel_rfl⟩,Go.Proofs.Tryz.slices_Sort_int_none,Go.Proofs.Tryz.slices_Sort_int⟩
end Go.Dn.F
