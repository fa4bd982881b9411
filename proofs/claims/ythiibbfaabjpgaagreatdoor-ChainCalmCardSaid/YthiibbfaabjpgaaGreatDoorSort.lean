import Derived.Shelf.Sort.Plain
import Derived.Ground.Names2Prog
import Derived.Shelf.Slices.In.SortNone
import Derived.Test.YthiibbfaabjpgaaGreatDoorProg
import Derived.Test.YthiibbfaabjpgaaGreatDoorKc
namespace Go.Proofs
open Go.Shelf
def Tryz.lays189_ren:Go.Shelf.Ren:=⟨fun | 189=> 183 | 125=> 191 | 257=> 190 | 128=> 205 | 129=> 192 | 294=> 196 | 295=> 197 | 296=> 198 | 297=> 199 | 298=> 200 | 299=> 201 | 216=> 202 | 300=> 203 | 301=> 204 | 328=> 207 | 329=> 208 | 330=> 209 | 331=> 210 | 332=> 211 | 215=> 212 | 343=> 213 | n=>n,fun | 28=> 48 | 3=> 3 | 46=> 175 | 0=> 0 | 51=> 176 | 53=> 24 | 4=> 4 | 183=> 237 | 182=> 236 | 131=> 127 | 5=> 5 | 9=> 9 | 218=> 244 | 222=> 248 | 228=> 250 | 229=> 251 | n=>n,fun | n=>n⟩
theorem Tryz.lays189:Go.Proofs.Lays.n189 Tryz.prog Tryz.lays189_ren:={
 mixed:=by kernel_rfl
 f125:=Tryz.func191.trans (congrArg some aQ)
 f128:=Tryz.func205.trans (congrArg some aQ)
 f129:=Tryz.func192.trans (congrArg some aQ)
 f189:=Tryz.func183.trans (congrArg some aQ)
 f215:=Tryz.func212.trans (congrArg some aQ)
 f216:=Tryz.func202.trans (congrArg some aQ)
 f257:=Tryz.func190.trans (congrArg some aQ)
 f294:=Tryz.func196.trans (congrArg some aQ)
 f295:=Tryz.func197.trans (congrArg some aQ)
 f296:=Tryz.func198.trans (congrArg some aQ)
 f297:=Tryz.func199.trans (congrArg some aQ)
 f298:=Tryz.func200.trans (congrArg some aQ)
 f299:=Tryz.func201.trans (congrArg some aQ)
 f300:=Tryz.func203.trans (congrArg some aQ)
 f301:=Tryz.func204.trans (congrArg some aQ)
 f328:=Tryz.func207.trans (congrArg some aQ)
 f329:=Tryz.func208.trans (congrArg some aQ)
 f330:=Tryz.func209.trans (congrArg some aQ)
 f331:=Tryz.func210.trans (congrArg some aQ)
 f332:=Tryz.func211.trans (congrArg some aQ)
 f343:=Tryz.func213.trans (congrArg some aQ)
 t0:=Tryz.underlying0
 a0:=Tryz.isAgg0
 z0:=Tryz.sizeOf0
 v0:=Tryz.zeroValue0
 t3:=Tryz.underlying3
 a3:=Tryz.isAgg3
 z3:=Tryz.sizeOf3
 v3:=Tryz.zeroValue3
 t4:=Tryz.underlying4
 a4:=Tryz.isAgg4
 z4:=Tryz.sizeOf4
 v4:=Tryz.zeroValue4
 t5:=Tryz.underlying5
 a5:=Tryz.isAgg5
 z5:=Tryz.sizeOf5
 v5:=Tryz.zeroValue5
 t9:=Tryz.underlying9
 a9:=Tryz.isAgg9
 z9:=Tryz.sizeOf9
 v9:=Tryz.zeroValue9
 t28:=Tryz.underlying48
 a28:=Tryz.isAgg48
 z28:=Tryz.sizeOf48
 v28:=Tryz.zeroValue48
 t46:=Tryz.underlying175
 a46:=Tryz.isAgg175
 z46:=Tryz.sizeOf175
 v46:=Tryz.zeroValue175
 t51:=Tryz.underlying176
 a51:=Tryz.isAgg176
 z51:=Tryz.sizeOf176
 v51:=Tryz.zeroValue176
 t53:=Tryz.underlying24
 a53:=Tryz.isAgg24
 z53:=Tryz.sizeOf24
 v53:=Tryz.zeroValue24
 t131:=Tryz.underlying127
 a131:=Tryz.isAgg127
 z131:=Tryz.sizeOf127
 v131:=Tryz.zeroValue127
 t182:=Tryz.underlying236
 a182:=Tryz.isAgg236
 z182:=Tryz.sizeOf236
 v182:=Tryz.zeroValue236
 t183:=Tryz.underlying237
 a183:=Tryz.isAgg237
 z183:=Tryz.sizeOf237
 v183:=Tryz.zeroValue237
 t218:=Tryz.underlying244
 a218:=Tryz.isAgg244
 z218:=Tryz.sizeOf244
 v218:=Tryz.zeroValue244
 t222:=Tryz.underlying248
 a222:=Tryz.isAgg248
 z222:=Tryz.sizeOf248
 v222:=Tryz.zeroValue248
 t228:=Tryz.underlying250
 a228:=Tryz.isAgg250
 z228:=Tryz.sizeOf250
 v228:=Tryz.zeroValue250
 t229:=Tryz.underlying251
 a229:=Tryz.isAgg251
 z229:=Tryz.sizeOf251
 v229:=Tryz.zeroValue251}
open Go.Sort Go.RowKit in
theorem Tryz.slices_Sort_int (blk off cap:Nat) (zs:List Int) (w:World) (hH:Holds (Value.int .i64) w blk off zs.toArray) (hblk:blk<w.heap.size) (hsz:zs.length<4611686018427387904) :
  Calls Tryz.prog 183 #[.slice (some ⟨blk,off,none⟩) zs.length cap] w fun e w'=>
   e = .returned (.tuple #[])/\∃n os,w'=grow (putRow (Value.int .i64) (Sort.ahead w n) blk off (zs.mergeSort fun x y=>decide (x<=y)).toArray) os:=Any.slices_Sort_int Tryz.lays189 blk off cap zs w hH hblk hsz
open Go.RowKit Go.Sort in
theorem Tryz.slices_Sort_int_none (p:Option Addr) (cap:Nat) (w:World) :
  Calls Tryz.prog 183 #[.slice p 0 cap] w fun e w'=>e = .returned (.tuple #[])/\w'=w:=Any.slices_Sort_int_none Tryz.lays189 p cap w
end Go.Proofs
namespace Go.Dn.F
theorem slices_Sort_int.holds:SortC Go.Proofs.Tryz.prog 183:=
 ⟨⟨Go.Proofs.Tryz.f183,Go.Proofs.Tryz.func183,by kernel_rfl,by kernel_rfl⟩,Go.Proofs.Tryz.slices_Sort_int_none,Go.Proofs.Tryz.slices_Sort_int⟩
end Go.Dn.F
