import Derived.Test.YtbijmojagnjgcaaGreatDoorGb
import Derived.Test.YtbijmojagnjgcaaGreatDoorSort
namespace Go.Dn.F
open Go.Proofs
theorem Zeg.snd {N:Nat} {h_0:Zak} {r:List Int} (h:Zeg N h_0=some r):ZdE Tryz.prog 81 [.agg h_0.ls] [.agg [L.arr .u8 32 r]]:=
 ZdE.of_ext (fun st=>(ZiF h st).elim fun ex e=>⟨ex,Zev.snd e⟩) rfl
theorem ZdP.snd {N:Nat} {p:Zae} {a:ZaU} {h_0:Zak} {r:ZaU} (h:ZdP N p a h_0=some r):ZdE Tryz.prog 83 [.agg p.ls,.agg a.ls,.agg h_0.ls] [.agg r.ls]:=
 ZdE.of_ext (fun st=>(ZhE h st).elim fun ex e=>⟨ex,ZaR.snd e⟩) (Zhc h)
theorem ZfQ.snd {N:Nat} {p:Zae} {r:ZaU} (h:ZfQ N p=some r):ZdE Tryz.prog 74 [.agg p.ls] [.agg r.ls]:=
 ZdE.of_ext (fun st=>(Zlf h st).elim fun ex e=>⟨ex,ZeU.snd e⟩) (Zhc h)
end Go.Dn.F
