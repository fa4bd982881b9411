import Derived.Test.YthiibbfaabjpgaaGreatDoorGb
import Derived.Test.YthiibbfaabjpgaaGreatDoorSort
namespace Go.Dn.F
open Go.Proofs
theorem ZeG.s {N:Nat} {h_0:Zal} {r:List Int} (h:ZeG N h_0=some r):ZdW Tryz.prog 118 [.agg h_0.ls] [.agg [L.arr .u8 32 r]]:=
 ZdW.of_ext (fun st=>(Zjx h st).elim fun ex e=>⟨ex,ZeT.s e⟩) rfl
theorem Zen.s {N:Nat} {p:Zae} {a:ZaW} {h_0:Zal} {r:ZaW} (h:Zen N p a h_0=some r):ZdW Tryz.prog 120 [.agg p.ls,.agg a.ls,.agg h_0.ls] [.agg r.ls]:=
 ZdW.of_ext (fun st=>(Zit h st).elim fun ex e=>⟨ex,ZaS.s e⟩) (ZhO h)
theorem Zgy.s {N:Nat} {p:Zae} {r:ZaW} (h:Zgy N p=some r):ZdW Tryz.prog 106 [.agg p.ls] [.agg r.ls]:=
 ZdW.of_ext (fun st=>(Zmd h st).elim fun ex e=>⟨ex,Zfr.s e⟩) (ZhO h)
end Go.Dn.F
