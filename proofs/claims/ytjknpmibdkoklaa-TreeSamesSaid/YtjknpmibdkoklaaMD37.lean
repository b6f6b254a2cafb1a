/- Functions of the given program as Lean functions, each with its contract, and what they answer; words for it. No condition but those of each. -/
import Derived.Test.YtjknpmibdkoklaaMD16
import Derived.Test.YtjknpmibdkoklaaMD2
import Derived.Test.YtjknpmibdkoklaaMD17
import Derived.Test.YtjknpmibdkoklaaMD5
import Derived.Test.YtjknpmibdkoklaaMD34
import Derived.Test.YtjknpmibdkoklaaMD35
import Derived.Test.YtjknpmibdkoklaaMD31
import Derived.Test.YtjknpmibdkoklaaMD36
set_option maxRecDepth 100000
namespace Go.Proofs.Ytjknpmibdkoklaa.Q
open Go.RowKit Go.Proofs.YtjknpmibdkoklaaW.PrintWords Go.Proofs.YtjknpmibdkoklaaW.PrintLast Go.Proofs.YtjknpmibdkoklaaW.PrintMore
theorem eta39 (t : S39) : (⟨t.f0, t.f1, t.f2, t.f3, t.f4⟩ : S39) = t := by cases t; rfl
theorem rCheck_eq {t : S39} (h : FitF t) : tabardref06_Check.f t.f0 t.f1 t.f2 t.f3 t.f4 = some (measF t 1 (0, 0, 0)).2.2 := by
  unfold tabardref06_Check.f tabardref06_Measure.f
  rw [eta39, if_pos h.sized]
  rfl
end Go.Proofs.Ytjknpmibdkoklaa.Q
