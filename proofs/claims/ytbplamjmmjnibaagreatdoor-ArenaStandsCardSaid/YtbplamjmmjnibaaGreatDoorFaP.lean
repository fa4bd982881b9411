/- A header's name, and the spot behind a header: contracts of functions that lay nothing. -/
import Derived.Test.YtbplamjmmjnibaaGreatDoorGb
import Derived.Test.YtbplamjmmjnibaaGreatDoorSort
namespace Go.Dn.F
open Go.Proofs
theorem Zcu.snd {N:Nat} {h_0:Zag} {r:List Int} (h:Zcu N h_0=some r):SndQ Tryz.prog 60 [.agg h_0.ls] [.agg [L.arr .u8 32 r]]:=
 SndQ.of_ext (fun st=>(Zfe h st).elim fun ex e=>⟨ex,ZcC.snd e⟩) rfl
theorem Zcw.snd {N:Nat} {p:Zad} {a:ZaG} {h_0:Zag} {r:ZaG} (h:Zcw N p a h_0=some r):SndQ Tryz.prog 36 [.agg p.ls,.agg a.ls,.agg h_0.ls] [.agg r.ls]:=
 SndQ.of_ext (fun st=>(ZeB h st).elim fun ex e=>⟨ex,ZaD.snd e⟩) (Zel h)
theorem ZdE.snd {N:Nat} {p:Zad} {r:ZaG} (h:ZdE N p=some r):SndQ Tryz.prog 34 [.agg p.ls] [.agg r.ls]:=
 SndQ.of_ext (fun st=>(ZgZ h st).elim fun ex e=>⟨ex,Zdb.snd e⟩) (Zel h)
end Go.Dn.F
