import Derived.Test.YtbijmojagnjgcaaGreatDoorGb
import Derived.Test.YtbijmojagnjgcaaGreatDoorSort
namespace Go.Dn.F
open Go.Proofs
theorem Zeu.snd {N:Nat} {h_0:Zak} {r:List Int} (h:Zeu N h_0=some r):ZdP Tryz.prog 81 [.agg h_0.ls] [.agg [L.arr .u8 32 r]]:=
 ZdP.of_ext (fun st=>(Zje h st).elim fun ex e=>⟨ex,ZeL.snd e⟩) rfl
theorem Zec.snd {N:Nat} {p:Zae} {a:Zbc} {h_0:Zak} {r:Zbc} (h:Zec N p a h_0=some r):ZdP Tryz.prog 83 [.agg p.ls,.agg a.ls,.agg h_0.ls] [.agg r.ls]:=
 ZdP.of_ext (fun st=>(ZhZ h st).elim fun ex e=>⟨ex,ZaX.snd e⟩) (Zhw h)
theorem Zgg.snd {N:Nat} {p:Zae} {r:Zbc} (h:Zgg N p=some r):ZdP Tryz.prog 74 [.agg p.ls] [.agg r.ls]:=
 ZdP.of_ext (fun st=>(ZlC h st).elim fun ex e=>⟨ex,Zfj.snd e⟩) (Zhw h)
end Go.Dn.F
