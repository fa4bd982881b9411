/- A header's name, and the spot behind a header: contracts of functions that lay nothing. -/
import Derived.Test.YtbplamjmmjnibaaGreatDoorGb
import Derived.Test.YtbplamjmmjnibaaGreatDoorSort
namespace Go.Dn.F
open Go.Proofs
theorem Zci.snd {N:Nat} {h_0:Zam} {r:List Int} (h:Zci N h_0=some r):SndQ Tryz.prog 60 [.agg h_0.ls] [.agg [L.arr .u8 32 r]]:=
 SndQ.of_ext (fun st=>(ZeN h st).elim fun ex e=>⟨ex,Zcr.snd e⟩) rfl
theorem Zcl.snd {N:Nat} {p:Zal} {a:Zaz} {h_0:Zam} {r:Zaz} (h:Zcl N p a h_0=some r):SndQ Tryz.prog 36 [.agg p.ls,.agg a.ls,.agg h_0.ls] [.agg r.ls]:=
 SndQ.of_ext (fun st=>(Zej h st).elim fun ex e=>⟨ex,Zav.snd e⟩) (ZdT h)
theorem Zdl.snd {N:Nat} {p:Zal} {r:Zaz} (h:Zdl N p=some r):SndQ Tryz.prog 34 [.agg p.ls] [.agg r.ls]:=
 SndQ.of_ext (fun st=>(Zgt h st).elim fun ex e=>⟨ex,ZcF.snd e⟩) (ZdT h)
end Go.Dn.F
