/- A header's name, and the spot behind a header: contracts of functions that lay nothing. -/
import Derived.Test.YtbplamjmmjnibaaDoorPurS
import Derived.Test.YtbplamjmmjnibaaDoorSort
namespace Go.Dn.F
open Go.Proofs
theorem header_IdP.snd {N : Nat} {h_0 : api_Header} {r : List Int} (h : header_IdP N h_0 = some r) : SndQ Tryd.prog 13 [.agg h_0.ls] [.agg [L.arr .u8 32 r]] :=
  SndQ.of_ext (fun st => (header_IdP_ext h st).elim fun ex e => ⟨ex, header_Id.snd e⟩) rfl
theorem rule_BehindP.snd {N : Nat} {p : api_Params} {a : rule_Spot} {h_0 : api_Header} {r : rule_Spot} (h : rule_BehindP N p a h_0 = some r) : SndQ Tryd.prog 8 [.agg p.ls, .agg a.ls, .agg h_0.ls] [.agg r.ls] :=
  SndQ.of_ext (fun st => (rule_BehindP_ext h st).elim fun ex e => ⟨ex, rule_Behind.snd e⟩) (rule_BehindP_flat h)
theorem rule_BeginP.snd {N : Nat} {p : api_Params} {r : rule_Spot} (h : rule_BeginP N p = some r) : SndQ Tryd.prog 12 [.agg p.ls] [.agg r.ls] :=
  SndQ.of_ext (fun st => (rule_BeginP_ext h st).elim fun ex e => ⟨ex, rule_Begin.snd e⟩) (rule_BehindP_flat h)
end Go.Dn.F
