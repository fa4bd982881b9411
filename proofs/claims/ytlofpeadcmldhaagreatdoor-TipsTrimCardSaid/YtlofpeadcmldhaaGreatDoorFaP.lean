import Derived.Test.YtlofpeadcmldhaaGreatDoorGb
import Derived.Test.YtlofpeadcmldhaaGreatDoorSort
namespace Go.Dn.F
open Go.Proofs
theorem ZcV.snd {N:Nat} {h_0:Zap} {r:List Int} (h:ZcV N h_0=some r):Zdh Tryz.prog 53 [.agg h_0.ls] [.agg [L.arr .u8 32 r]]:=
 Zdh.of_ext (fun st=>(ZgF h st).elim fun ex e=>⟨ex,Zdg.snd e⟩) rfl
theorem ZcK.snd {N:Nat} {p:Zaj} {a:ZaE} {h_0:Zap} {r:ZaE} (h:ZcK N p a h_0=some r):Zdh Tryz.prog 55 [.agg p.ls,.agg a.ls,.agg h_0.ls] [.agg r.ls]:=
 Zdh.of_ext (fun st=>(ZfJ h st).elim fun ex e=>⟨ex,ZaA.snd e⟩) (Zfm h)
theorem Zel.snd {N:Nat} {p:Zaj} {r:ZaE} (h:Zel N p=some r):Zdh Tryz.prog 51 [.agg p.ls] [.agg r.ls]:=
 Zdh.of_ext (fun st=>(ZiG h st).elim fun ex e=>⟨ex,Zdv.snd e⟩) (Zfm h)
end Go.Dn.F
