/- A header's name, and the spot behind a header: contracts of functions that lay nothing. -/
import Derived.Test.YtbplamjmmjnibaaGreatDoorPurS
import Derived.Test.YtbplamjmmjnibaaGreatDoorSort
namespace Go.Dn.F
open Go.Proofs
theorem Zcr.snd {N : Nat} {h_0 : Zae} {r : List Int} (h : Zcr N h_0 = some r) : SndQ Tryz.prog 60 [.agg h_0.ls] [.agg [L.arr .u8 32 r]] :=
  SndQ.of_ext (fun st => (ZeJ h st).elim fun ex e => ⟨ex, Zch.snd e⟩) rfl
theorem Zcb.snd {N : Nat} {p : Zac} {a : Zav} {h_0 : Zae} {r : Zav} (h : Zcb N p a h_0 = some r) : SndQ Tryz.prog 36 [.agg p.ls, .agg a.ls, .agg h_0.ls] [.agg r.ls] :=
  SndQ.of_ext (fun st => (Zef h st).elim fun ex e => ⟨ex, Zaz.snd e⟩) (ZdF h)
theorem ZcC.snd {N : Nat} {p : Zac} {r : Zav} (h : ZcC N p = some r) : SndQ Tryz.prog 34 [.agg p.ls] [.agg r.ls] :=
  SndQ.of_ext (fun st => (Zgq h st).elim fun ex e => ⟨ex, Zcz.snd e⟩) (ZdF h)
end Go.Dn.F
