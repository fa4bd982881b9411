/- A header's name, and the spot behind a header: contracts of functions that lay nothing. -/
import Derived.Test.YtcgdbcfflaphhaaGreatDoorGb
import Derived.Test.YtcgdbcfflaphhaaGreatDoorSort
namespace Go.Dn.F
open Go.Proofs
theorem ZcC.snd {N:Nat} {h_0:Zan} {r:List Int} (h:ZcC N h_0=some r):SndQ Tryz.prog 91 [.agg h_0.ls] [.agg [L.arr .u8 32 r]]:=
 SndQ.of_ext (fun st=>(Zfd h st).elim fun ex e=>⟨ex,ZcM.snd e⟩) rfl
theorem Zcp.snd {N:Nat} {p:Zag} {a:Zav} {h_0:Zan} {r:Zav} (h:Zcp N p a h_0=some r):SndQ Tryz.prog 93 [.agg p.ls,.agg a.ls,.agg h_0.ls] [.agg r.ls]:=
 SndQ.of_ext (fun st=>(ZeC h st).elim fun ex e=>⟨ex,Zax.snd e⟩) (Zel h)
theorem ZdG.snd {N:Nat} {p:Zag} {r:Zav} (h:ZdG N p=some r):SndQ Tryz.prog 89 [.agg p.ls] [.agg r.ls]:=
 SndQ.of_ext (fun st=>(Zgx h st).elim fun ex e=>⟨ex,ZcX.snd e⟩) (Zel h)
end Go.Dn.F
