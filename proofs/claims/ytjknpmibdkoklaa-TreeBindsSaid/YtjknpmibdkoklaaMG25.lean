/- Functions of the given program as Lean functions, each with its contract, and what they answer; words for it. No condition but those of each. -/
import Derived.Test.YtjknpmibdkoklaaMG4
import Derived.Test.YtjknpmibdkoklaaMG21
import Derived.Test.YtjknpmibdkoklaaMG22
import Derived.Test.YtjknpmibdkoklaaMG20
import Derived.Test.YtjknpmibdkoklaaMG5
namespace Go.Proofs.Ytjknpmibdkoklaa.Q
open Go.RowKit Go.Proofs.YtjknpmibdkoklaaW.PrintWords Go.Proofs.YtjknpmibdkoklaaW.PrintLast Go.Proofs.YtjknpmibdkoklaaW.PrintMore
open Aside0 (mk)
open List (setIfInBounds_toArray set_cons_zero set_cons_succ)
attribute [local go_sem] max2_int min2_int max_two min_two max_three min_three max_four min_four
set_option linter.unusedVariables false
set_option linter.unusedSimpArgs false
attribute [local go_sem] fld99_2 fld103_2 fld160_0 fld160_1
end Go.Proofs.Ytjknpmibdkoklaa.Q
