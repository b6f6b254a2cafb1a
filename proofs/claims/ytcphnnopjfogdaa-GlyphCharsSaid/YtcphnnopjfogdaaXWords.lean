/- Words of this session's own beside the printed ones. -/
import Derived.Test.YtcphnnopjfogdaaWMore
import Derived.Laws.Slices
namespace Go.Proofs.Ytcphnnopjfogdaa
open Go.RowKit
/-- 'xs[:j:j]': the cut has no spare room. -/
theorem cut_to3 {P : Program} (t e : TypeId) (kh : IntKind) {i : TypeInfo} (ht : P.underlying t = some (.slice e)) (hi : P.info? e = some i) (A : Option Addr) (n c : Nat) (j : Int) (h0 : 0 ≤ j) (hm : j ≤ n) (hc : n ≤ c) :
    ∀ W : World, (Instr.slice t (.slice A n c) none (some (.int kh j)) (some (.int kh j))).run P W = .ok (.slice A j.toNat j.toNat) W := by
  intro W
  have hel : P.elem t = e := by simp [Program.elem, ht]
  have hu : P.underlying t = some (.slice (P.elem t)) := by rw [hel]; exact ht
  have ha : (A.map fun x => x.add 0) = A := by cases A <;> simp [Addr.add]
  rw [run_slice_hm W t A n c hu kh kh j j h0 (Int.le_refl _) (by omega), hel]
  simp [sizeOf, typeInfo, hi, sliced, Result.andThen, ha]
theorem C_len_ {α : Type} {d : Go.Proofs.YtcphnnopjfogdaaW.PrintWords.Kd α} {w : World} {A : Option Addr} {n m : Nat} {xs : List α} (h : n = m) (hc : Go.Proofs.YtcphnnopjfogdaaW.PrintWords.Kd.C d w A n xs) : Go.Proofs.YtcphnnopjfogdaaW.PrintWords.Kd.C d w A m xs := h ▸ hc
end Go.Proofs.Ytcphnnopjfogdaa
