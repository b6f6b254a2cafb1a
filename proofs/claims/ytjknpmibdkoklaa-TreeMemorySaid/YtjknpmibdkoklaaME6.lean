/- Functions of the given program as Lean functions, each with its contract, and what they answer; words for it. No condition but those of each. -/
import Derived.Test.YtjknpmibdkoklaaME2
import Derived.Test.YtjknpmibdkoklaaME5
import Derived.Laws.Strings
set_option maxRecDepth 100000
namespace Go.Proofs.Ytjknpmibdkoklaa.Q
open Go.RowKit Go.Sort Go.Lib Go.Proofs.YtjknpmibdkoklaaW.PrintWords Go.Proofs.YtjknpmibdkoklaaW.PrintLast Go.Proofs.YtjknpmibdkoklaaW.PrintMore
def canon (l : List ByteArray) : List ByteArray := compactS (sortedS l)
theorem canon_length (l : List ByteArray) : (canon l).length ≤ l.length := by
  unfold canon compactS
  rw [List.length_map]
  exact Nat.le_trans (compact_le _) (by rw [List.length_map, sortedS_length]; exact Nat.le_refl _)
theorem sorted_canon {l : List ByteArray} (h : l.length < 4611686018427387904) : tree_sorted.f l = some (canon l) := by
  unfold tree_sorted.f slices_Sort_string_string.f slices_Compact_string_string.f
  rw [if_pos h, Option.bind_some, if_pos (by rw [sortedS_length]; omega)]
  rfl
theorem wrap_add {i n : Nat} (h : i < n) (hn : n < 4611686018427387904) : wrap64 ((i : Int) + 1) = ((i + 1 : Nat) : Int) := by
  unfold wrap64
  omega
theorem rdOf_nat {α : Type} (d : α) (l : List α) (i : Nat) : rdOf d l (i : Int) = l.getD i d := rfl
end Go.Proofs.Ytjknpmibdkoklaa.Q
