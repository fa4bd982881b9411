import Derived.Test.YtbijmojagnjgcaaGreatDoorGb
import Derived.Test.YtbijmojagnjgcaaGreatDoorSort
namespace Go.Dn.F
open Go.Proofs
theorem Zer.snd {N:Nat} {h_0:Zak} {r:List Int} (h:Zer N h_0=some r):ZdP Tryz.prog 81 [.agg h_0.ls] [.agg [L.arr .u8 32 r]]:=
 ZdP.of_ext (fun st=>(ZiU h st).elim fun ex e=>⟨ex,ZeI.snd e⟩) rfl
theorem Zeb.snd {N:Nat} {p:Zae} {a:ZaX} {h_0:Zak} {r:ZaX} (h:Zeb N p a h_0=some r):ZdP Tryz.prog 83 [.agg p.ls,.agg a.ls,.agg h_0.ls] [.agg r.ls]:=
 ZdP.of_ext (fun st=>(ZhU h st).elim fun ex e=>⟨ex,ZaU.snd e⟩) (Zhq h)
theorem Zge.snd {N:Nat} {p:Zae} {r:ZaX} (h:Zge N p=some r):ZdP Tryz.prog 74 [.agg p.ls] [.agg r.ls]:=
 ZdP.of_ext (fun st=>(Zlu h st).elim fun ex e=>⟨ex,Zfh.snd e⟩) (Zhq h)
end Go.Dn.F
