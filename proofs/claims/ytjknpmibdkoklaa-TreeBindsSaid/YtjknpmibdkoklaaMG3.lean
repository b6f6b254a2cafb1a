/- Functions of the given program as Lean functions, each with its contract, and what they answer; words for it. No condition but those of each. -/
import Derived.Test.YtjknpmibdkoklaaMG1
import Derived.Laws.Slices
namespace Go.Proofs.Ytjknpmibdkoklaa
open Go.RowKit
theorem args2_ {P : Program} {f : FuncId} {W : World} {Q : Ending → World → Prop} (u v : Value) (h : Calls P f #[u, v] W Q) : Calls P f #[u, v] W Q := h
theorem less_or_eq : ∀ a b : List UInt8, (Op.bytesLess a b || a == b) = !(Op.bytesLess b a)
  | [], [] => rfl
  | [], _ :: _ => rfl
  | _ :: _, [] => rfl
  | x :: a, y :: b => by
    have ih := less_or_eq a b
    have e : ((x :: a) == (y :: b)) = ((x == y) && (a == b)) := rfl
    rw [e]
    simp only [Op.bytesLess]
    have hx : ∀ p q : UInt8, (p == q) = decide (p.toNat = q.toNat) := fun p q => by
      by_cases h : p = q
      · subst h; simp
      · rw [beq_eq_false_iff_ne.2 h, decide_eq_false (fun e => h (UInt8.toNat_inj.1 e))]
    have hl : ∀ p q : UInt8, decide (p < q) = decide (p.toNat < q.toNat) := fun p q => by simp [UInt8.lt_iff_toNat_lt]
    rw [hx x y, hx y x, hl x y, hl y x]
    rcases Nat.lt_trichotomy x.toNat y.toNat with h | h | h
    · simp [h, Nat.lt_asymm h, Nat.ne_of_gt h, Nat.ne_of_lt h]
    · simp [h]
      exact ih
    · simp [h, Nat.lt_asymm h, Nat.ne_of_gt h, Nat.ne_of_lt h]
@[go_sem] theorem str_leq (t : TypeId) (a b : ByteArray) : binOp .leq t (.string a) (.string b) = pure (.bool !(Op.bytesLess b.toList a.toList)) := by rw [← less_or_eq]; simp [binOp, Op.stringOp]
@[go_sem] theorem str_gtr (t : TypeId) (a b : ByteArray) : binOp .gtr t (.string a) (.string b) = pure (.bool (Op.bytesLess b.toList a.toList)) := by
  rw [← Bool.not_not (Op.bytesLess b.toList a.toList), ← less_or_eq]; simp [binOp, Op.stringOp]
@[go_sem] theorem str_geq (t : TypeId) (a b : ByteArray) : binOp .geq t (.string a) (.string b) = pure (.bool !(Op.bytesLess a.toList b.toList)) := by simp [binOp, Op.stringOp]
end Go.Proofs.Ytjknpmibdkoklaa
