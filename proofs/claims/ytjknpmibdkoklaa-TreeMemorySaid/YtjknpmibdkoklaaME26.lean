/- Functions of the given program as Lean functions, each with its contract, and what they answer; words for it. No condition but those of each. -/
import Derived.Test.YtjknpmibdkoklaaME18
import Derived.Test.YtjknpmibdkoklaaME23
import Derived.Test.YtjknpmibdkoklaaME24
import Derived.Test.YtjknpmibdkoklaaME20
import Derived.Test.YtjknpmibdkoklaaME5
import Derived.Test.YtjknpmibdkoklaaME25
set_option maxRecDepth 100000
namespace Go.Proofs.Ytjknpmibdkoklaa.Q
open Go.RowKit Go.Proofs.YtjknpmibdkoklaaW.PrintWords Go.Proofs.YtjknpmibdkoklaaW.PrintLast Go.Proofs.YtjknpmibdkoklaaW.PrintMore
theorem same_loop (l : List ByteArray) (hl : l.length ≤ 1000000) : ∀ (n i : Nat), i ≤ l.length → l.length - i = n → Ev (fun k => tabardlaw06_same.l0 k l l (l.length : Int) (i : Int)) true
  | 0, i, hi, hn => Ev.step (f := fun _ => some true) (fun k => by
      unfold tabardlaw06_same.l0
      rw [if_neg (by omega)]) (Ev.now _)
  | n + 1, i, hi, hn => by
    refine Ev.step (f := fun k => tabardlaw06_same.l0 k l l (l.length : Int) ((i + 1 : Nat) : Int)) (fun k => ?_) (same_loop l hl n (i + 1) (by omega) (by omega))
    show tabardlaw06_same.l0 (k + 1) l l (l.length : Int) (i : Int) = _
    conv => lhs; unfold tabardlaw06_same.l0
    rw [if_pos (by omega), if_pos (by omega), if_pos (by omega), if_pos (by omega), if_pos rfl, wrap_add (show i < l.length by omega) (by omega)]
theorem same_ev (l : List ByteArray) (hl : l.length ≤ 1000000) : Ev (fun k => tabardlaw06_same.f k l l) true := by
  refine Ev.congr (f := fun k => tabardlaw06_same.l0 k l l (l.length : Int) ((0 : Nat) : Int)) (fun k => ?_) (same_loop l hl _ 0 (Nat.zero_le _) rfl)
  unfold tabardlaw06_same.f
  rw [if_pos rfl]
  rfl
theorem eta39 (t : S39) : (⟨t.f0, t.f1, t.f2, t.f3, t.f4⟩ : S39) = t := by cases t; rfl
def freeA (t : S39) : List ByteArray × Int := if (measF t 1 (0, 0, 0)).2.2 = 0 then (freeF t, 0) else ([], (measF t 1 (0, 0, 0)).2.2)
theorem Free_ev (t : S39) : Ev (fun k => tree_Free.f k t.f0 t.f1 t.f2 t.f3 t.f4) (freeA t) := by
  unfold freeA
  by_cases h : (measF t 1 (0, 0, 0)).2.2 = 0
  · rw [if_pos h]
    obtain ⟨_, _, hc⟩ := measF_right t 1 (0, 0, 0) (by decide) (by decide) h
    have hc2 : cntF t ≤ 500 := by simp only [Int.zero_add] at hc; omega
    refine Ev.congr (f := fun k => (tree_free.f k t.f0 t.f1 t.f2 t.f3 t.f4).bind fun b => some (b.1, 0)) (fun k => ?_) (Ev.bind (free_ev 900 t (by omega) (by omega)) (Ev.now _))
    unfold tree_Free.f tree_Check.f tree_measured.f
    rw [Option.bind_some, Option.bind_some, eta39]
    exact if_pos h
  · rw [if_neg h]
    refine Ev.congr (f := fun _ => some ([], (measF t 1 (0, 0, 0)).2.2)) (fun k => ?_) (Ev.now _)
    unfold tree_Free.f tree_Check.f tree_measured.f
    rw [Option.bind_some, Option.bind_some, eta39]
    exact if_neg h
theorem freeA_len (t : S39) : (freeA t).1.length ≤ 500 := by
  unfold freeA
  split
  · rename_i h
    obtain ⟨_, _, hc⟩ := measF_right t 1 (0, 0, 0) (by decide) (by decide) h
    have := freeF_len t
    simp only [Int.zero_add] at hc
    show (freeF t).length ≤ 500
    omega
  · exact Nat.zero_le _
end Go.Proofs.Ytjknpmibdkoklaa.Q
