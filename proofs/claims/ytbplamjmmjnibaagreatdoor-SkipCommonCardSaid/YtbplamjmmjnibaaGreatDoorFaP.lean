/- A header's name, and the spot behind a header: contracts of functions that lay nothing. -/
import Derived.Test.YtbplamjmmjnibaaGreatDoorGb
import Derived.Test.YtbplamjmmjnibaaGreatDoorSort
namespace Go.Dn.F
open Go.Proofs
theorem ZcZ.snd {N:Nat} {h_0:Zai} {r:List Int} (h:ZcZ N h_0=some r):SndQ Tryz.prog 60 [.agg h_0.ls] [.agg [L.arr .u8 32 r]]:=
 SndQ.of_ext (fun st=>(Zgj h st).elim fun ex e=>⟨ex,Zdi.snd e⟩) rfl
theorem Zdd.snd {N:Nat} {p:Zae} {a:ZaQ} {h_0:Zai} {r:ZaQ} (h:Zdd N p a h_0=some r):SndQ Tryz.prog 36 [.agg p.ls,.agg a.ls,.agg h_0.ls] [.agg r.ls]:=
 SndQ.of_ext (fun st=>(Zfy h st).elim fun ex e=>⟨ex,ZaN.snd e⟩) (Zfd h)
theorem Zep.snd {N:Nat} {p:Zae} {r:ZaQ} (h:Zep N p=some r):SndQ Tryz.prog 34 [.agg p.ls] [.agg r.ls]:=
 SndQ.of_ext (fun st=>(Zif h st).elim fun ex e=>⟨ex,ZdO.snd e⟩) (Zfd h)
end Go.Dn.F
