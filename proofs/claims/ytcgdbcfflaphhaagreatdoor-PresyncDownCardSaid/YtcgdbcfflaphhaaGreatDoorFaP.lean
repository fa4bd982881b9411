/- A header's name, and the spot behind a header: contracts of functions that lay nothing. -/
import Derived.Test.YtcgdbcfflaphhaaGreatDoorGb
import Derived.Test.YtcgdbcfflaphhaaGreatDoorSort
namespace Go.Dn.F
open Go.Proofs
theorem Zcz.snd {N:Nat} {h_0:Zaf} {r:List Int} (h:Zcz N h_0=some r):SndQ Tryz.prog 91 [.agg h_0.ls] [.agg [L.arr .u8 32 r]]:=
 SndQ.of_ext (fun st=>(Zfe h st).elim fun ex e=>⟨ex,ZcC.snd e⟩) rfl
theorem Zcg.snd {N:Nat} {p:Zan} {a:Zam} {h_0:Zaf} {r:Zam} (h:Zcg N p a h_0=some r):SndQ Tryz.prog 93 [.agg p.ls,.agg a.ls,.agg h_0.ls] [.agg r.ls]:=
 SndQ.of_ext (fun st=>(ZeD h st).elim fun ex e=>⟨ex,ZaA.snd e⟩) (Zel h)
theorem Zdi.snd {N:Nat} {p:Zan} {r:Zam} (h:Zdi N p=some r):SndQ Tryz.prog 89 [.agg p.ls] [.agg r.ls]:=
 SndQ.of_ext (fun st=>(ZgA h st).elim fun ex e=>⟨ex,Zdc.snd e⟩) (Zel h)
end Go.Dn.F
