import Derived.Shelf.Sort.Plain
import Derived.Ground.Names2Prog
import Derived.Shelf.Slices.In.SortNone
import Derived.Test.YtlofpeadcmldhaaGreatDoorProg
import Derived.Test.YtlofpeadcmldhaaGreatDoorKc
namespace Go.Proofs
open Go.Shelf
def Tryz.lays189_ren:Go.Shelf.Ren:=⟨fun | 189=> 137 | 125=> 147 | 257=> 146 | 128=> 161 | 129=> 148 | 294=> 152 | 295=> 153 | 296=> 154 | 297=> 155 | 298=> 156 | 299=> 157 | 216=> 158 | 300=> 159 | 301=> 160 | 328=> 163 | 329=> 164 | 330=> 165 | 331=> 166 | 332=> 167 | 215=> 168 | 343=> 169 | n=>n,fun | 28=> 34 | 3=> 3 | 46=> 145 | 0=> 0 | 51=> 164 | 53=> 24 | 4=> 4 | 183=> 200 | 182=> 199 | 131=> 82 | 5=> 5 | 9=> 9 | 218=> 207 | 222=> 211 | 228=> 213 | 229=> 214 | n=>n,fun | n=>n⟩
theorem Tryz.lays189:Go.Proofs.Lays.n189 Tryz.prog Tryz.lays189_ren:={
 mixed:=by kernel_rfl
 f125:=Tryz.func147.trans (congrArg some aG)
 f128:=Tryz.func161.trans (congrArg some aG)
 f129:=Tryz.func148.trans (congrArg some aG)
 f189:=Tryz.func137.trans (congrArg some aG)
 f215:=Tryz.func168.trans (congrArg some aG)
 f216:=Tryz.func158.trans (congrArg some aG)
 f257:=Tryz.func146.trans (congrArg some aG)
 f294:=Tryz.func152.trans (congrArg some aG)
 f295:=Tryz.func153.trans (congrArg some aG)
 f296:=Tryz.func154.trans (congrArg some aG)
 f297:=Tryz.func155.trans (congrArg some aG)
 f298:=Tryz.func156.trans (congrArg some aG)
 f299:=Tryz.func157.trans (congrArg some aG)
 f300:=Tryz.func159.trans (congrArg some aG)
 f301:=Tryz.func160.trans (congrArg some aG)
 f328:=Tryz.func163.trans (congrArg some aG)
 f329:=Tryz.func164.trans (congrArg some aG)
 f330:=Tryz.func165.trans (congrArg some aG)
 f331:=Tryz.func166.trans (congrArg some aG)
 f332:=Tryz.func167.trans (congrArg some aG)
 f343:=Tryz.func169.trans (congrArg some aG)
 t0:=Tryz.underlying0
 a0:=Tryz.isAgg0
 z0:=Tryz.sizeOf0
 v0:=Tryz.zeroValue0
 t3:=Tryz.underlying3
 a3:=Tryz.isAgg3
 z3:=Tryz.sizeOf3
 v3:=Tryz.zeroValue3
 t4:=Tryz.underlying4
 a4:=Tryz.isAgg4
 z4:=Tryz.sizeOf4
 v4:=Tryz.zeroValue4
 t5:=Tryz.underlying5
 a5:=Tryz.isAgg5
 z5:=Tryz.sizeOf5
 v5:=Tryz.zeroValue5
 t9:=Tryz.underlying9
 a9:=Tryz.isAgg9
 z9:=Tryz.sizeOf9
 v9:=Tryz.zeroValue9
 t28:=Tryz.underlying34
 a28:=Tryz.isAgg34
 z28:=Tryz.sizeOf34
 v28:=Tryz.zeroValue34
 t46:=Tryz.underlying145
 a46:=Tryz.isAgg145
 z46:=Tryz.sizeOf145
 v46:=Tryz.zeroValue145
 t51:=Tryz.underlying164
 a51:=Tryz.isAgg164
 z51:=Tryz.sizeOf164
 v51:=Tryz.zeroValue164
 t53:=Tryz.underlying24
 a53:=Tryz.isAgg24
 z53:=Tryz.sizeOf24
 v53:=Tryz.zeroValue24
 t131:=Tryz.underlying82
 a131:=Tryz.isAgg82
 z131:=Tryz.sizeOf82
 v131:=Tryz.zeroValue82
 t182:=Tryz.underlying199
 a182:=Tryz.isAgg199
 z182:=Tryz.sizeOf199
 v182:=Tryz.zeroValue199
 t183:=Tryz.underlying200
 a183:=Tryz.isAgg200
 z183:=Tryz.sizeOf200
 v183:=Tryz.zeroValue200
 t218:=Tryz.underlying207
 a218:=Tryz.isAgg207
 z218:=Tryz.sizeOf207
 v218:=Tryz.zeroValue207
 t222:=Tryz.underlying211
 a222:=Tryz.isAgg211
 z222:=Tryz.sizeOf211
 v222:=Tryz.zeroValue211
 t228:=Tryz.underlying213
 a228:=Tryz.isAgg213
 z228:=Tryz.sizeOf213
 v228:=Tryz.zeroValue213
 t229:=Tryz.underlying214
 a229:=Tryz.isAgg214
 z229:=Tryz.sizeOf214
 v229:=Tryz.zeroValue214}
open Go.Sort Go.RowKit in
theorem Tryz.slices_Sort_int (blk off cap:Nat) (zs:List Int) (w:World) (hH:Holds (Value.int .i64) w blk off zs.toArray) (hblk:blk<w.heap.size) (hsz:zs.length<4611686018427387904) :
  Calls Tryz.prog 137 #[.slice (some ⟨blk,off,none⟩) zs.length cap] w fun e w'=>
   e = .returned (.tuple #[])∧∃n os,w'=grow (putRow (Value.int .i64) (Sort.ahead w n) blk off (zs.mergeSort fun x y=>decide (x≤y)).toArray) os:=Any.slices_Sort_int Tryz.lays189 blk off cap zs w hH hblk hsz
open Go.RowKit Go.Sort in
theorem Tryz.slices_Sort_int_none (p:Option Addr) (cap:Nat) (w:World) :
  Calls Tryz.prog 137 #[.slice p 0 cap] w fun e w'=>e = .returned (.tuple #[])∧w'=w:=Any.slices_Sort_int_none Tryz.lays189 p cap w
end Go.Proofs
namespace Go.Dn.F
theorem slices_Sort_int.holds:SortC Go.Proofs.Tryz.prog 137:=
 ⟨⟨Go.Proofs.Tryz.f137,Go.Proofs.Tryz.func137,by kernel_rfl,by kernel_rfl⟩,Go.Proofs.Tryz.slices_Sort_int_none,Go.Proofs.Tryz.slices_Sort_int⟩
end Go.Dn.F
