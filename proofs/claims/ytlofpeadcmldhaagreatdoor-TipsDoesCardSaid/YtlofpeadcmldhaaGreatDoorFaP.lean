import Derived.Test.YtlofpeadcmldhaaGreatDoorGb
import Derived.Test.YtlofpeadcmldhaaGreatDoorSort
namespace Go.Dn.F
open Go.Proofs
theorem ZdU.snd {N:Nat} {h_0:Zal} {r:List Int} (h:ZdU N h_0=some r):Zdo Tryz.prog 53 [.agg h_0.ls] [.agg [L.arr .u8 32 r]]:=
 Zdo.of_ext (fun st=>(ZiB h st).elim fun ex e=>⟨ex,Zem.snd e⟩) rfl
theorem ZdD.snd {N:Nat} {p:Zah} {a:ZaT} {h_0:Zal} {r:ZaT} (h:ZdD N p a h_0=some r):Zdo Tryz.prog 55 [.agg p.ls,.agg a.ls,.agg h_0.ls] [.agg r.ls]:=
 Zdo.of_ext (fun st=>(Zhv h st).elim fun ex e=>⟨ex,ZaP.snd e⟩) (ZgO h)
theorem ZfF.snd {N:Nat} {p:Zah} {r:ZaT} (h:ZfF N p=some r):Zdo Tryz.prog 51 [.agg p.ls] [.agg r.ls]:=
 Zdo.of_ext (fun st=>(Zlc h st).elim fun ex e=>⟨ex,ZeI.snd e⟩) (ZgO h)
end Go.Dn.F
