/- Functions of the given program as Lean functions, each with its contract, and what they answer; words for it. No condition but those of each. -/
import Derived.Test.YtjknpmibdkoklaaMD2
import Derived.Test.YtjknpmibdkoklaaMD5
import Derived.Laws.Strings
set_option maxRecDepth 100000
namespace Go.Proofs.Ytjknpmibdkoklaa.Q
open Go.RowKit Go.Sort Go.Lib Go.Proofs.YtjknpmibdkoklaaW.PrintWords Go.Proofs.YtjknpmibdkoklaaW.PrintLast Go.Proofs.YtjknpmibdkoklaaW.PrintMore
theorem bl_eq (s : ByteArray) : s.toList = bl s := by unfold bl; rw [ByteArray.toList_eq]
theorem bl_inj {a b : ByteArray} (h : bl a = bl b) : a = b := by rw [← lb_bl a, h, lb_bl]
theorem wrap_add {i n : Nat} (h : i < n) (hn : n < 4611686018427387904) : wrap64 ((i : Int) + 1) = ((i + 1 : Nat) : Int) := by
  unfold wrap64
  omega
end Go.Proofs.Ytjknpmibdkoklaa.Q
