import Derived.Test.YtbijmojagnjgcaaGreatDoorGb
import Derived.Test.YtbijmojagnjgcaaGreatDoorSort
namespace Go.Dn.F
open Go.Proofs
theorem Zek.snd {N:Nat} {h_0:Zak} {r:List Int} (h:Zek N h_0=some r):ZdH Tryz.prog 81 [.agg h_0.ls] [.agg [L.arr .u8 32 r]]:=
 ZdH.of_ext (fun st=>(ZiR h st).elim fun ex e=>⟨ex,ZeA.snd e⟩) rfl
theorem ZdS.snd {N:Nat} {p:Zae} {a:ZaV} {h_0:Zak} {r:ZaV} (h:ZdS N p a h_0=some r):ZdH Tryz.prog 83 [.agg p.ls,.agg a.ls,.agg h_0.ls] [.agg r.ls]:=
 ZdH.of_ext (fun st=>(ZhK h st).elim fun ex e=>⟨ex,ZaS.snd e⟩) (Zhg h)
theorem ZfW.snd {N:Nat} {p:Zae} {r:ZaV} (h:ZfW N p=some r):ZdH Tryz.prog 74 [.agg p.ls] [.agg r.ls]:=
 ZdH.of_ext (fun st=>(Zlj h st).elim fun ex e=>⟨ex,ZeZ.snd e⟩) (Zhg h)
end Go.Dn.F
