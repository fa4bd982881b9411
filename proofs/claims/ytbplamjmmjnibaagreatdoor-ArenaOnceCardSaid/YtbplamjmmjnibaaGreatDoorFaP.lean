/- A header's name, and the spot behind a header: contracts of functions that lay nothing. -/
import Derived.Test.YtbplamjmmjnibaaGreatDoorGb
import Derived.Test.YtbplamjmmjnibaaGreatDoorSort
namespace Go.Dn.F
open Go.Proofs
theorem Zci.snd {N:Nat} {h_0:Zan} {r:List Int} (h:Zci N h_0=some r):SndQ Tryz.prog 60 [.agg h_0.ls] [.agg [L.arr .u8 32 r]]:=
 SndQ.of_ext (fun st=>(ZeM h st).elim fun ex e=>⟨ex,Zcq.snd e⟩) rfl
theorem Zcl.snd {N:Nat} {p:Zam} {a:ZaA} {h_0:Zan} {r:ZaA} (h:Zcl N p a h_0=some r):SndQ Tryz.prog 36 [.agg p.ls,.agg a.ls,.agg h_0.ls] [.agg r.ls]:=
 SndQ.of_ext (fun st=>(Zei h st).elim fun ex e=>⟨ex,Zav.snd e⟩) (ZdS h)
theorem Zdk.snd {N:Nat} {p:Zam} {r:ZaA} (h:Zdk N p=some r):SndQ Tryz.prog 34 [.agg p.ls] [.agg r.ls]:=
 SndQ.of_ext (fun st=>(Zgq h st).elim fun ex e=>⟨ex,ZcE.snd e⟩) (ZdS h)
end Go.Dn.F
