/- A header's name, and the spot behind a header: contracts of functions that lay nothing. -/
import Derived.Test.YtcgdbcfflaphhaaGreatDoorGb
import Derived.Test.YtcgdbcfflaphhaaGreatDoorSort
namespace Go.Dn.F
open Go.Proofs
theorem Zdf.snd {N:Nat} {h_0:Zag} {r:List Int} (h:Zdf N h_0=some r):SndQ Tryz.prog 91 [.agg h_0.ls] [.agg [L.arr .u8 32 r]]:=
 SndQ.of_ext (fun st=>(Zgx h st).elim fun ex e=>⟨ex,Zdn.snd e⟩) rfl
theorem Zdh.snd {N:Nat} {p:Zae} {a:ZaR} {h_0:Zag} {r:ZaR} (h:Zdh N p a h_0=some r):SndQ Tryz.prog 93 [.agg p.ls,.agg a.ls,.agg h_0.ls] [.agg r.ls]:=
 SndQ.of_ext (fun st=>(ZfL h st).elim fun ex e=>⟨ex,ZaO.snd e⟩) (Zfm h)
theorem Zey.snd {N:Nat} {p:Zae} {r:ZaR} (h:Zey N p=some r):SndQ Tryz.prog 89 [.agg p.ls] [.agg r.ls]:=
 SndQ.of_ext (fun st=>(Ziq h st).elim fun ex e=>⟨ex,ZdU.snd e⟩) (Zfm h)
end Go.Dn.F
