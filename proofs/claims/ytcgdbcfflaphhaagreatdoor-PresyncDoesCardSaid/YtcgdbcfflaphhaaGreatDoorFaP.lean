/- A header's name, and the spot behind a header: contracts of functions that lay nothing. -/
import Derived.Test.YtcgdbcfflaphhaaGreatDoorGb
import Derived.Test.YtcgdbcfflaphhaaGreatDoorSort
namespace Go.Dn.F
open Go.Proofs
theorem Zdj.snd {N:Nat} {h_0:Zaa} {r:List Int} (h:Zdj N h_0=some r):SndQ Tryz.prog 91 [.agg h_0.ls] [.agg [L.arr .u8 32 r]]:=
 SndQ.of_ext (fun st=>(Zgl h st).elim fun ex e=>⟨ex,ZdF.snd e⟩) rfl
theorem ZcQ.snd {N:Nat} {p:Zak} {a:Zat} {h_0:Zaa} {r:Zat} (h:ZcQ N p a h_0=some r):SndQ Tryz.prog 93 [.agg p.ls,.agg a.ls,.agg h_0.ls] [.agg r.ls]:=
 SndQ.of_ext (fun st=>(ZfE h st).elim fun ex e=>⟨ex,ZaL.snd e⟩) (Zfm h)
theorem Zef.snd {N:Nat} {p:Zak} {r:Zat} (h:Zef N p=some r):SndQ Tryz.prog 89 [.agg p.ls] [.agg r.ls]:=
 SndQ.of_ext (fun st=>(Zie h st).elim fun ex e=>⟨ex,ZdZ.snd e⟩) (Zfm h)
end Go.Dn.F
