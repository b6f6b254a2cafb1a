/- Functions of the given program as Lean functions, each with its contract, and what they answer; words for it. No condition but those of each. -/
import Derived.Test.YtjknpmibdkoklaaMA5
import Derived.Test.YtjknpmibdkoklaaMA9
namespace Go.Proofs.Ytjknpmibdkoklaa.Q
open Go.RowKit Go.Proofs.YtjknpmibdkoklaaW.PrintWords Go.Proofs.YtjknpmibdkoklaaW.PrintLast Go.Proofs.YtjknpmibdkoklaaW.PrintMore
theorem fixed_true : tabardlaw06_fixed.f 20 = some true := by decide +kernel
end Go.Proofs.Ytjknpmibdkoklaa.Q
namespace Go.Proofs.Ytjknpmibdkoklaa.Pure
open Go.RowKit Go.Proofs.Ytjknpmibdkoklaa.Q Go.Proofs.YtjknpmibdkoklaaW.PrintWords Go.Proofs.YtjknpmibdkoklaaW.PrintLast
theorem TreeNumbers : tabardlaw06_TreeNumbers.Pure := ⟨20, by unfold tabardlaw06_TreeNumbers.f; rw [fixed_true]; rfl⟩
end Go.Proofs.Ytjknpmibdkoklaa.Pure
