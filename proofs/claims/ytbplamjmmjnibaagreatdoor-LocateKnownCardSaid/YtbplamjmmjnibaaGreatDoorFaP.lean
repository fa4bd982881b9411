/- A header's name, and the spot behind a header: contracts of functions that lay nothing. -/
import Derived.Test.YtbplamjmmjnibaaGreatDoorGb
import Derived.Test.YtbplamjmmjnibaaGreatDoorSort
namespace Go.Dn.F
open Go.Proofs
theorem ZcC.snd {N:Nat} {h_0:Zah} {r:List Int} (h:ZcC N h_0=some r):SndQ Tryz.prog 60 [.agg h_0.ls] [.agg [L.arr .u8 32 r]]:=
 SndQ.of_ext (fun st=>(Zgf h st).elim fun ex e=>⟨ex,Zdf.snd e⟩) rfl
theorem ZcY.snd {N:Nat} {p:Zae} {a:ZaO} {h_0:Zah} {r:ZaO} (h:ZcY N p a h_0=some r):SndQ Tryz.prog 36 [.agg p.ls,.agg a.ls,.agg h_0.ls] [.agg r.ls]:=
 SndQ.of_ext (fun st=>(Zft h st).elim fun ex e=>⟨ex,ZaJ.snd e⟩) (ZeY h)
theorem Zeo.snd {N:Nat} {p:Zae} {r:ZaO} (h:Zeo N p=some r):SndQ Tryz.prog 34 [.agg p.ls] [.agg r.ls]:=
 SndQ.of_ext (fun st=>(ZhU h st).elim fun ex e=>⟨ex,ZdM.snd e⟩) (ZeY h)
end Go.Dn.F
