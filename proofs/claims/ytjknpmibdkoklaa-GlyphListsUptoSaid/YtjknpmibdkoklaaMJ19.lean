/- Functions of the given program as Lean functions, each with its contract, and what they answer; words for it. No condition but those of each. -/
import Derived.Test.YtjknpmibdkoklaaMJ17
import Derived.Test.YtjknpmibdkoklaaMJ18
set_option maxRecDepth 100000
namespace Go.Proofs.Ytjknpmibdkoklaa.G
open Go.RowKit Go.Proofs.YtjknpmibdkoklaaW.PrintWords Go.Proofs.YtjknpmibdkoklaaW.PrintLast Go.Proofs.YtjknpmibdkoklaaW.PrintMore
def idxFrom (s : ByteArray) : Int → List ByteArray → Int
  | _, [] => -1
  | i, x :: l => if x = s then i else idxFrom s (i + 1) l
theorem index_loop (l : List ByteArray) (s : ByteArray) (hl : l.length < 4611686018427387904) : ∀ (n i : Nat), i ≤ l.length → l.length - i = n → Ev (fun k => slices_Index_string_string.l0 k l s (l.length : Int) (i : Int)) (idxFrom s (i : Int) (l.drop i))
  | 0, i, hi, hn => by
    rw [List.drop_of_length_le (by omega)]
    exact Ev.step (f := fun _ => some (-1)) (fun k => by
      show slices_Index_string_string.l0 (k + 1) l s (l.length : Int) (i : Int) = _
      rw [slices_Index_string_string.l0, if_neg (by omega)]) (Ev.now _)
  | n + 1, i, hi, hn => by
    have hlt : i < l.length := by omega
    have ih := index_loop l s hl n (i + 1) (by omega) (by omega)
    rw [List.drop_eq_getElem_cons hlt]
    unfold idxFrom
    have hw : wrap64 ((i : Int) + 1) = ((i + 1 : Nat) : Int) := by unfold wrap64; omega
    by_cases h : l[i] = s
    · rw [if_pos h]
      refine Ev.step (f := fun _ => some (i : Int)) (fun k => ?_) (Ev.now _)
      show slices_Index_string_string.l0 (k + 1) l s (l.length : Int) (i : Int) = _
      rw [slices_Index_string_string.l0, if_pos (by omega), if_pos (by omega), if_pos (by omega), rd_nat hlt, if_pos (by rw [h])]
    · rw [if_neg h, show (i : Int) + 1 = ((i + 1 : Nat) : Int) by omega]
      refine Ev.step (f := fun k => slices_Index_string_string.l0 k l s (l.length : Int) ((i + 1 : Nat) : Int)) (fun k => ?_) ih
      show slices_Index_string_string.l0 (k + 1) l s (l.length : Int) (i : Int) = _
      rw [slices_Index_string_string.l0, if_pos (by omega), if_pos (by omega), if_pos (by omega), rd_nat hlt, if_neg (fun e => h (bl_inj (by rw [← bl_eq, ← bl_eq, e]))), hw]
theorem index_ev (l : List ByteArray) (s : ByteArray) (hl : l.length < 4611686018427387904) : Ev (fun k => glyph_Index.f k l s) (idxFrom s 0 l) := by
  refine Ev.bind (a := idxFrom s 0 l) ?_ (Ev.now _)
  exact index_loop l s hl _ 0 (Nat.zero_le _) rfl
end Go.Proofs.Ytjknpmibdkoklaa.G
