/- A header's name, and the spot behind a header: contracts of functions that lay nothing. -/
import Derived.Test.YtcgdbcfflaphhaaGreatDoorGb
import Derived.Test.YtcgdbcfflaphhaaGreatDoorSort
namespace Go.Dn.F
open Go.Proofs
theorem Zdh.snd {N:Nat} {h_0:Zai} {r:List Int} (h:Zdh N h_0=some r):SndQ Tryz.prog 91 [.agg h_0.ls] [.agg [L.arr .u8 32 r]]:=
 SndQ.of_ext (fun st=>(ZgA h st).elim fun ex e=>⟨ex,ZdL.snd e⟩) rfl
theorem Zdm.snd {N:Nat} {p:Zae} {a:ZaN} {h_0:Zai} {r:ZaN} (h:Zdm N p a h_0=some r):SndQ Tryz.prog 93 [.agg p.ls,.agg a.ls,.agg h_0.ls] [.agg r.ls]:=
 SndQ.of_ext (fun st=>(ZfL h st).elim fun ex e=>⟨ex,ZaK.snd e⟩) (Zfs h)
theorem ZeJ.snd {N:Nat} {p:Zae} {r:ZaN} (h:ZeJ N p=some r):SndQ Tryz.prog 89 [.agg p.ls] [.agg r.ls]:=
 SndQ.of_ext (fun st=>(Zit h st).elim fun ex e=>⟨ex,Zea.snd e⟩) (Zfs h)
end Go.Dn.F
