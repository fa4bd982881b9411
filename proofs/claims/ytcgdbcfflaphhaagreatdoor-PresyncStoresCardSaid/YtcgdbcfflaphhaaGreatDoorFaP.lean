/- A header's name, and the spot behind a header: contracts of functions that lay nothing. -/
import Derived.Test.YtcgdbcfflaphhaaGreatDoorGb
import Derived.Test.YtcgdbcfflaphhaaGreatDoorSort
namespace Go.Dn.F
open Go.Proofs
theorem ZcS.snd {N:Nat} {h_0:Zaa} {r:List Int} (h:ZcS N h_0=some r):SndQ Tryz.prog 91 [.agg h_0.ls] [.agg [L.arr .u8 32 r]]:=
 SndQ.of_ext (fun st=>(ZfQ h st).elim fun ex e=>⟨ex,Zdo.snd e⟩) rfl
theorem Zcz.snd {N:Nat} {p:Zag} {a:Zax} {h_0:Zaa} {r:Zax} (h:Zcz N p a h_0=some r):SndQ Tryz.prog 93 [.agg p.ls,.agg a.ls,.agg h_0.ls] [.agg r.ls]:=
 SndQ.of_ext (fun st=>(Zfk h st).elim fun ex e=>⟨ex,ZaG.snd e⟩) (ZeS h)
theorem ZdM.snd {N:Nat} {p:Zag} {r:Zax} (h:ZdM N p=some r):SndQ Tryz.prog 89 [.agg p.ls] [.agg r.ls]:=
 SndQ.of_ext (fun st=>(Zhz h st).elim fun ex e=>⟨ex,ZdH.snd e⟩) (ZeS h)
end Go.Dn.F
