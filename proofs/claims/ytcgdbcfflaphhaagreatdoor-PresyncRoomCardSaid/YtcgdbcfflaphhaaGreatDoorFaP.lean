/- A header's name, and the spot behind a header: contracts of functions that lay nothing. -/
import Derived.Test.YtcgdbcfflaphhaaGreatDoorGb
import Derived.Test.YtcgdbcfflaphhaaGreatDoorSort
namespace Go.Dn.F
open Go.Proofs
theorem ZcC.snd {N:Nat} {h_0:Zah} {r:List Int} (h:ZcC N h_0=some r):SndQ Tryz.prog 91 [.agg h_0.ls] [.agg [L.arr .u8 32 r]]:=
 SndQ.of_ext (fun st=>(Zfi h st).elim fun ex e=>⟨ex,ZcQ.snd e⟩) rfl
theorem Zcf.snd {N:Nat} {p:Zan} {a:Zaq} {h_0:Zah} {r:Zaq} (h:Zcf N p a h_0=some r):SndQ Tryz.prog 93 [.agg p.ls,.agg a.ls,.agg h_0.ls] [.agg r.ls]:=
 SndQ.of_ext (fun st=>(ZeI h st).elim fun ex e=>⟨ex,Zaw.snd e⟩) (Zeq h)
theorem Zdn.snd {N:Nat} {p:Zan} {r:Zaq} (h:Zdn N p=some r):SndQ Tryz.prog 89 [.agg p.ls] [.agg r.ls]:=
 SndQ.of_ext (fun st=>(ZgF h st).elim fun ex e=>⟨ex,Zdg.snd e⟩) (Zeq h)
end Go.Dn.F
