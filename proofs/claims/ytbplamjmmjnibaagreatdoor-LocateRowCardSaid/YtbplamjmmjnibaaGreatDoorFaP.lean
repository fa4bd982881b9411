/- A header's name, and the spot behind a header: contracts of functions that lay nothing. -/
import Derived.Test.YtbplamjmmjnibaaGreatDoorGb
import Derived.Test.YtbplamjmmjnibaaGreatDoorSort
namespace Go.Dn.F
open Go.Proofs
theorem ZcW.snd {N:Nat} {h_0:Zah} {r:List Int} (h:ZcW N h_0=some r):SndQ Tryz.prog 60 [.agg h_0.ls] [.agg [L.arr .u8 32 r]]:=
 SndQ.of_ext (fun st=>(Zgh h st).elim fun ex e=>⟨ex,Zdg.snd e⟩) rfl
theorem ZcY.snd {N:Nat} {p:Zae} {a:ZaP} {h_0:Zah} {r:ZaP} (h:ZcY N p a h_0=some r):SndQ Tryz.prog 36 [.agg p.ls,.agg a.ls,.agg h_0.ls] [.agg r.ls]:=
 SndQ.of_ext (fun st=>(Zfw h st).elim fun ex e=>⟨ex,ZaK.snd e⟩) (Zfe h)
theorem Zes.snd {N:Nat} {p:Zae} {r:ZaP} (h:Zes N p=some r):SndQ Tryz.prog 34 [.agg p.ls] [.agg r.ls]:=
 SndQ.of_ext (fun st=>(Zib h st).elim fun ex e=>⟨ex,ZdQ.snd e⟩) (Zfe h)
end Go.Dn.F
