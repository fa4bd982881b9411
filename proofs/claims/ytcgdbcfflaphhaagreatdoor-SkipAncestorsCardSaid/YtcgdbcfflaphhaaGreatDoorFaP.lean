/- A header's name, and the spot behind a header: contracts of functions that lay nothing. -/
import Derived.Test.YtcgdbcfflaphhaaGreatDoorGb
import Derived.Test.YtcgdbcfflaphhaaGreatDoorSort
namespace Go.Dn.F
open Go.Proofs
theorem Zdu.snd {N:Nat} {h_0:Zai} {r:List Int} (h:Zdu N h_0=some r):SndQ Tryz.prog 91 [.agg h_0.ls] [.agg [L.arr .u8 32 r]]:=
 SndQ.of_ext (fun st=>(Zgw h st).elim fun ex e=>⟨ex,ZdI.snd e⟩) rfl
theorem Zdi.snd {N:Nat} {p:Zae} {a:ZaM} {h_0:Zai} {r:ZaM} (h:Zdi N p a h_0=some r):SndQ Tryz.prog 93 [.agg p.ls,.agg a.ls,.agg h_0.ls] [.agg r.ls]:=
 SndQ.of_ext (fun st=>(ZfL h st).elim fun ex e=>⟨ex,ZaJ.snd e⟩) (Zfn h)
theorem ZeF.snd {N:Nat} {p:Zae} {r:ZaM} (h:ZeF N p=some r):SndQ Tryz.prog 89 [.agg p.ls] [.agg r.ls]:=
 SndQ.of_ext (fun st=>(Zio h st).elim fun ex e=>⟨ex,ZdZ.snd e⟩) (Zfn h)
end Go.Dn.F
