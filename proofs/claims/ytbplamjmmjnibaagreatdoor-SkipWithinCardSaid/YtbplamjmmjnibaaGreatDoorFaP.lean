/- A header's name, and the spot behind a header: contracts of functions that lay nothing. -/
import Derived.Test.YtbplamjmmjnibaaGreatDoorGb
import Derived.Test.YtbplamjmmjnibaaGreatDoorSort
namespace Go.Dn.F
open Go.Proofs
theorem ZcV.snd {N:Nat} {h_0:Zai} {r:List Int} (h:ZcV N h_0=some r):SndQ Tryz.prog 60 [.agg h_0.ls] [.agg [L.arr .u8 32 r]]:=
 SndQ.of_ext (fun st=>(Zgh h st).elim fun ex e=>⟨ex,Zdf.snd e⟩) rfl
theorem ZcY.snd {N:Nat} {p:Zaf} {a:ZaQ} {h_0:Zai} {r:ZaQ} (h:ZcY N p a h_0=some r):SndQ Tryz.prog 36 [.agg p.ls,.agg a.ls,.agg h_0.ls] [.agg r.ls]:=
 SndQ.of_ext (fun st=>(Zfv h st).elim fun ex e=>⟨ex,ZaM.snd e⟩) (ZeZ h)
theorem Zeo.snd {N:Nat} {p:Zaf} {r:ZaQ} (h:Zeo N p=some r):SndQ Tryz.prog 34 [.agg p.ls] [.agg r.ls]:=
 SndQ.of_ext (fun st=>(Zib h st).elim fun ex e=>⟨ex,ZdN.snd e⟩) (ZeZ h)
end Go.Dn.F
