/- Contracts of functions of the program, as shallow functions, and their proofs. -/
import Derived.Test.YtgminfbhlipobaaSortPlain
import Derived.Test.YtgminfbhlipobaaKc
namespace Go.Dn.F
theorem slices_Sort_int.holds : SortC Go.Proofs.Try.prog 23 :=
  ⟨⟨Go.Proofs.Try.f23, Go.Proofs.Try.func23, by kernel_rfl, by kernel_rfl⟩, Go.Proofs.Try.slices_Sort_int_none, Go.Proofs.Try.slices_Sort_int⟩
end Go.Dn.F
