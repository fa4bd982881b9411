import Derived.Test.YtbijemnnbdndpaaGreatDoorGb
import Derived.Test.YtbijemnnbdndpaaGreatDoorSort
namespace Go.Dn.F
open Go.Proofs
theorem Zdi.snd {N:Nat} {h_0:Zaj} {r:List Int} (h:Zdi N h_0=some r):Zde Tryz.prog 26 [.agg h_0.ls] [.agg [L.arr .u8 32 r]]:=
 Zde.of_ext (fun st=>(Zhk h st).elim fun ex e=>⟨ex,Zdy.snd e⟩) rfl
theorem ZcE.snd {N:Nat} {p:Zae} {a:Zaz} {h_0:Zaj} {r:Zaz} (h:ZcE N p a h_0=some r):Zde Tryz.prog 13 [.agg p.ls,.agg a.ls,.agg h_0.ls] [.agg r.ls]:=
 Zde.of_ext (fun st=>(Zgj h st).elim fun ex e=>⟨ex,ZaE.snd e⟩) (ZfL h)
theorem ZdV.snd {N:Nat} {p:Zae} {r:Zaz} (h:ZdV N p=some r):Zde Tryz.prog 11 [.agg p.ls] [.agg r.ls]:=
 Zde.of_ext (fun st=>(ZjC h st).elim fun ex e=>⟨ex,ZdP.snd e⟩) (ZfL h)
end Go.Dn.F
