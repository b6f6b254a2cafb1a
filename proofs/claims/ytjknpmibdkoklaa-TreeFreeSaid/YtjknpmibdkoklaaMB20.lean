/- Functions of the given program as Lean functions, each with its contract, and what they answer; words for it. No condition but those of each. -/
import Derived.Shelf.SlicesE.DeleteFunc
import Derived.Shelf.SlicesQ.IndexFunc
import Derived.Test.YtjknpmibdkoklaaProg
namespace Go.Proofs
open Go.Shelf
def Try.laysH10_ren : Go.Shelf.Ren := ⟨fun | 10 => 110 | 6 => 102 | n => n, fun | 22 => 22 | 23 => 9 | 25 => 51 | 3 => 3 | 4 => 4 | 0 => 0 | n => n, fun | n => n⟩
theorem Try.laysH10 : Go.Proofs.SlLaysH.n10 Try.prog Try.laysH10_ren := {
  mixed := by kernel_rfl
  f6 := ⟨Try.f102.name, by decide, Try.func102.trans (congrArg some (by kernel_rfl))⟩
  f10 := ⟨Try.f110.name, by decide, Try.func110.trans (congrArg some (by kernel_rfl))⟩
  t0 := Try.underlying0
  a0 := Try.isAgg0
  z0 := Try.sizeOf0
  v0 := Try.zeroValue0
  t3 := Try.underlying3
  a3 := Try.isAgg3
  z3 := Try.sizeOf3
  v3 := Try.zeroValue3
  t4 := Try.underlying4
  a4 := Try.isAgg4
  z4 := Try.sizeOf4
  v4 := Try.zeroValue4
  t22 := Try.underlying22
  a22 := Try.isAgg22
  z22 := Try.sizeOf22
  v22 := Try.zeroValue22
  a23 := Try.isAgg9
  z23 := Try.sizeOf9
  t25 := Try.underlying51
  a25 := Try.isAgg51
  z25 := Try.sizeOf51
  v25 := Try.zeroValue51 }
end Go.Proofs
