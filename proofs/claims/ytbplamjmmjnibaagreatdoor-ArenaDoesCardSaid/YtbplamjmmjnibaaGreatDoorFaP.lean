/- A header's name, and the spot behind a header: contracts of functions that lay nothing. -/
import Derived.Test.YtbplamjmmjnibaaGreatDoorGb
import Derived.Test.YtbplamjmmjnibaaGreatDoorSort
namespace Go.Dn.F
open Go.Proofs
theorem ZcS.snd {N:Nat} {h_0:Zah} {r:List Int} (h:ZcS N h_0=some r):SndQ Tryz.prog 60 [.agg h_0.ls] [.agg [L.arr .u8 32 r]]:=
 SndQ.of_ext (fun st=>(ZfV h st).elim fun ex e=>⟨ex,Zdd.snd e⟩) rfl
theorem ZcV.snd {N:Nat} {p:Zae} {a:ZaJ} {h_0:Zah} {r:ZaJ} (h:ZcV N p a h_0=some r):SndQ Tryz.prog 36 [.agg p.ls,.agg a.ls,.agg h_0.ls] [.agg r.ls]:=
 SndQ.of_ext (fun st=>(Zfi h st).elim fun ex e=>⟨ex,ZaG.snd e⟩) (ZeO h)
theorem Zef.snd {N:Nat} {p:Zae} {r:ZaJ} (h:Zef N p=some r):SndQ Tryz.prog 34 [.agg p.ls] [.agg r.ls]:=
 SndQ.of_ext (fun st=>(ZhJ h st).elim fun ex e=>⟨ex,ZdG.snd e⟩) (ZeO h)
end Go.Dn.F
