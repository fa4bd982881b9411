import Derived.Test.YtbijmojagnjgcaaGreatDoorGb
import Derived.Test.YtbijmojagnjgcaaGreatDoorSort
namespace Go.Dn.F
open Go.Proofs
theorem Zef.snd {N:Nat} {h_0:Zaj} {r:List Int} (h:Zef N h_0=some r):ZdD Tryz.prog 81 [.agg h_0.ls] [.agg [L.arr .u8 32 r]]:=
 ZdD.of_ext (fun st=>(ZiG h st).elim fun ex e=>⟨ex,Zeu.snd e⟩) rfl
theorem ZdO.snd {N:Nat} {p:Zae} {a:ZaU} {h_0:Zaj} {r:ZaU} (h:ZdO N p a h_0=some r):ZdD Tryz.prog 83 [.agg p.ls,.agg a.ls,.agg h_0.ls] [.agg r.ls]:=
 ZdD.of_ext (fun st=>(ZhE h st).elim fun ex e=>⟨ex,ZaR.snd e⟩) (Zhc h)
theorem ZfP.snd {N:Nat} {p:Zae} {r:ZaU} (h:ZfP N p=some r):ZdD Tryz.prog 74 [.agg p.ls] [.agg r.ls]:=
 ZdD.of_ext (fun st=>(Zlb h st).elim fun ex e=>⟨ex,ZeR.snd e⟩) (Zhc h)
end Go.Dn.F
