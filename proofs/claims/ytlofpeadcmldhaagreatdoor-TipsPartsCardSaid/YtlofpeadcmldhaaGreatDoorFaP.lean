import Derived.Test.YtlofpeadcmldhaaGreatDoorGb
import Derived.Test.YtlofpeadcmldhaaGreatDoorSort
namespace Go.Dn.F
open Go.Proofs
theorem ZcR.snd {N:Nat} {h_0:Zan} {r:List Int} (h:ZcR N h_0=some r):Zde Tryz.prog 53 [.agg h_0.ls] [.agg [L.arr .u8 32 r]]:=
 Zde.of_ext (fun st=>(ZgE h st).elim fun ex e=>⟨ex,Zdd.snd e⟩) rfl
theorem ZcF.snd {N:Nat} {p:Zaj} {a:ZaE} {h_0:Zan} {r:ZaE} (h:ZcF N p a h_0=some r):Zde Tryz.prog 55 [.agg p.ls,.agg a.ls,.agg h_0.ls] [.agg r.ls]:=
 Zde.of_ext (fun st=>(ZfN h st).elim fun ex e=>⟨ex,Zay.snd e⟩) (Zfm h)
theorem Zej.snd {N:Nat} {p:Zaj} {r:ZaE} (h:Zej N p=some r):Zde Tryz.prog 51 [.agg p.ls] [.agg r.ls]:=
 Zde.of_ext (fun st=>(ZiK h st).elim fun ex e=>⟨ex,Zdr.snd e⟩) (Zfm h)
end Go.Dn.F
