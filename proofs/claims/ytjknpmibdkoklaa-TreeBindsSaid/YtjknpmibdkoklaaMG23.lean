/- Functions of the given program as Lean functions, each with its contract, and what they answer; words for it. No condition but those of each. -/
import Derived.Test.YtjknpmibdkoklaaMG19
import Derived.Test.YtjknpmibdkoklaaMG22
namespace Go.Proofs.Ytjknpmibdkoklaa.Q
open Go.RowKit Go.Proofs.YtjknpmibdkoklaaW.PrintWords Go.Proofs.YtjknpmibdkoklaaW.PrintLast Go.Proofs.YtjknpmibdkoklaaW.PrintMore
theorem fixed_true : tabardlaw06_fixed.f 20 = some true := by decide +kernel
theorem fixed_ev : Ev (fun k => tabardlaw06_fixed.f k) true := Ev.of (fun k => tabardlaw06_fixed.mono k) fixed_true
end Go.Proofs.Ytjknpmibdkoklaa.Q
