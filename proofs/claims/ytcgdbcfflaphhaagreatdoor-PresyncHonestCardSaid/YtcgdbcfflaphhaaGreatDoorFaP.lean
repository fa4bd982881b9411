/- A header's name, and the spot behind a header: contracts of functions that lay nothing. -/
import Derived.Test.YtcgdbcfflaphhaaGreatDoorGb
import Derived.Test.YtcgdbcfflaphhaaGreatDoorSort
namespace Go.Dn.F
open Go.Proofs
theorem ZcT.snd {N:Nat} {h_0:Zac} {r:List Int} (h:ZcT N h_0=some r):SndQ Tryz.prog 91 [.agg h_0.ls] [.agg [L.arr .u8 32 r]]:=
 SndQ.of_ext (fun st=>(ZfR h st).elim fun ex e=>⟨ex,Zdo.snd e⟩) rfl
theorem Zcz.snd {N:Nat} {p:Zai} {a:Zat} {h_0:Zac} {r:Zat} (h:Zcz N p a h_0=some r):SndQ Tryz.prog 93 [.agg p.ls,.agg a.ls,.agg h_0.ls] [.agg r.ls]:=
 SndQ.of_ext (fun st=>(Zfn h st).elim fun ex e=>⟨ex,ZaH.snd e⟩) (ZeU h)
theorem ZdN.snd {N:Nat} {p:Zai} {r:Zat} (h:ZdN N p=some r):SndQ Tryz.prog 89 [.agg p.ls] [.agg r.ls]:=
 SndQ.of_ext (fun st=>(Zhy h st).elim fun ex e=>⟨ex,ZdG.snd e⟩) (ZeU h)
end Go.Dn.F
