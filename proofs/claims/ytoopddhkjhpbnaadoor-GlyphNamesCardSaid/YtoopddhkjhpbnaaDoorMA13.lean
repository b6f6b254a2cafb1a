/- Functions of the given program as Lean functions, each with its contract, and what they answer; words for it. No condition but those of each. -/
import Derived.Test.YtoopddhkjhpbnaaDoorMA2
import Derived.Test.YtoopddhkjhpbnaaDoorMA6
namespace Go.Proofs.YtoopddhkjhpbnaaDoor.Q
open Go.RowKit Go.Proofs.YtoopddhkjhpbnaaDoorW.PrintWords Go.Proofs.YtoopddhkjhpbnaaDoorW.PrintLast Go.Proofs.YtoopddhkjhpbnaaDoorW.PrintMore
open Aside0 (mk)
open List (setIfInBounds_toArray set_cons_zero set_cons_succ)
attribute [local go_sem] max2_int min2_int max_two min_two max_three min_three max_four min_four
set_option linter.unusedVariables false
set_option linter.unusedSimpArgs false
def tabardref04_Good.l0 : Nat → ByteArray → Int → Option (Int)
  | 0, _, _ => none
  | k + 1, x0, x3 => if x3 < (x0.size : Int) then ((tabardref04_Read.f k x0 x3).bind fun bt131 => (if bt131.2.2 = true then (tabardref04_Good.l0 k x0 (wrap64 (x3 + bt131.2.1))) else (some x3))) else (some x3)
def tabardref04_Good.f (k : Nat) (a0 : ByteArray) : Option (Int) := tabardref04_Good.l0 k a0 0
theorem tabardref04_Good.mono_l : ∀ k, (∀ y0 y1, LeO (tabardref04_Good.l0 k y0 y1) (tabardref04_Good.l0 (k + 1) y0 y1))
  | 0 => fun _ _ r h => by simp [tabardref04_Good.l0] at h
  | k + 1 => by
    have ih0 := tabardref04_Good.mono_l k
    · intro y0 y1; (unfold tabardref04_Good.l0)
      repeat' first
      | (with_reducible exact ih0 _ _)
      | (with_reducible exact tabardref04_Read.mono _ _ _)
      | (with_reducible exact LeO.refl _)
      | (with_reducible exact LeO.none _)
      | (with_reducible refine LeO.ite ?_ ?_)
      | (with_reducible refine LeO.bind ?_ (fun _ => ?_))
      | exact ih0 _ _
      | exact tabardref04_Read.mono _ _ _
      | exact LeO.none _
      | refine LeO.ite ?_ ?_
      | refine LeO.bind ?_ (fun _ => ?_)
theorem tabardref04_Good.mono : ∀ a0 k, LeO (tabardref04_Good.f k a0) (tabardref04_Good.f (k + 1) a0) := by
  intro a0 k
  have ih0 := tabardref04_Good.mono_l k
  unfold tabardref04_Good.f
  repeat' first
      | (with_reducible exact ih0 _ _)
      | (with_reducible exact tabardref04_Read.mono _ _ _)
      | (with_reducible exact LeO.refl _)
      | (with_reducible exact LeO.none _)
      | (with_reducible refine LeO.ite ?_ ?_)
      | (with_reducible refine LeO.bind ?_ (fun _ => ?_))
      | exact ih0 _ _
      | exact tabardref04_Read.mono _ _ _
      | exact LeO.none _
      | refine LeO.ite ?_ ?_
      | refine LeO.bind ?_ (fun _ => ?_)
set_option maxHeartbeats 8000000 in
set_option maxRecDepth 100000 in
theorem tabardref04_Good.calls (k : Nat) (a0 : ByteArray) (r : Int) (w : World) (h : tabardref04_Good.f k a0 = some r) :
    Calls Tryd.prog 11 #[.string a0] w fun e w' => e = .returned (.int .i64 r) ∧ Drawn0 w w' := by
  have H : (tabardref04_Good.l0 k a0 0) = some r := h
  clear h
  have H' := mk H
  clear H
  go_enter Tryd.func11, Tryd.ntmps11
  go_wp2
  go_loopg [3] k (fun kq v3 w' => ∃ (x3_1 : Int), v3 = .int .i64 x3_1 ∧ Aside0 (tabardref04_Good.l0 kq a0 x3_1 = some r) ∧ Aside0 (kq ≤ k) ∧ Drawn0 w w')
  case atStart => exact ⟨(0), (by first | rfl | (simp; done) | (simp [*]; done)), H', ⟨Nat.le_refl _⟩, by repeat (first | exact Drawn0.refl _ | apply Drawn0.step)⟩
  case round =>
    clear H'
    try clear c1
    obtain ⟨x3_1, rfl, HA, HK1, ⟨m1, rfl⟩⟩ := hrel
    cases gk with
    | zero => exact absurd HA.out (by simp [tabardref04_Good.l0])
    | succ k1 =>
      (have H := HA.out); clear HA; (simp only [tabardref04_Good.l0] at H); (by_cases c2 : x3_1 < (a0.size : Int))
      · (rw [if_pos c2] at H); (have c2b0 : decide (x3_1 < (a0.size : Int)) = true := decide_eq_true c2); clear c2; (replace H := Option.bind_eq_some_iff.mp H); (obtain ⟨⟨t131, t132, t133⟩, A30, H⟩ := H); (replace H : (if t133 = true then (tabardref04_Good.l0 k1 a0 (wrap64 (x3_1 + t132))) else (some x3_1)) = some r := H); (have A3 := mk A30); clear A30; (by_cases c4 : t133 = true)
        · subst c4; (have H1 : (tabardref04_Good.l0 k1 a0 (wrap64 (x3_1 + t132))) = some r := by rw [if_pos rfl] at H; exact H); clear H; (have H := H1); clear H1; (have H' := mk H); clear H; (go_wp2_with (first | ((with_reducible refine gate_callee (f := 16) rfl ?_); refine goesL_ (some 14) rfl rfl Tryd.func16 (by kernel_rfl) rfl #[.string a0, .int .i64 x3_1] rfl (by (try simp only [List.map_toArray, List.map_cons, List.map_nil]); first | done | rfl | (simp only [List.length_drop, List.length_take]; rfl)) ?_; (with_reducible refine (tabardref04_Read.calls k1 a0 x3_1 t131 t132 true _ A3.out).mono ?_); rintro e w' ⟨rfl, ⟨nd, rfl⟩⟩; refine ⟨_, rfl, ?_⟩))); (go_roundg k1)
          case measure => have := HK1.out; omega
          case rel => exact ⟨(wrap64 (x3_1 + t132)), (by first | rfl | (simp; done) | (simp [*]; done)), H', ⟨by have := HK1.out; omega⟩, by repeat (first | exact Drawn0.refl _ | apply Drawn0.step)⟩
        · (replace c4 := Bool.eq_false_iff.mpr c4); subst c4; (have H1 : (some x3_1) = some r := by rw [if_neg (show ¬ (false = true) by decide)] at H; exact H); clear H; (have H := H1); clear H1; (obtain rfl := Option.some.inj H); (go_wp2_with (first | ((with_reducible refine gate_callee (f := 16) rfl ?_); refine goesL_ (some 14) rfl rfl Tryd.func16 (by kernel_rfl) rfl #[.string a0, .int .i64 x3_1] rfl (by (try simp only [List.map_toArray, List.map_cons, List.map_nil]); first | done | rfl | (simp only [List.length_drop, List.length_take]; rfl)) ?_; (with_reducible refine (tabardref04_Read.calls k1 a0 x3_1 t131 t132 false _ A3.out).mono ?_); rintro e w' ⟨rfl, ⟨nd, rfl⟩⟩; refine ⟨_, rfl, ?_⟩))); go_ret; (exact ⟨by first | rfl | (simp; done) | (simp [*]; done), by repeat (first | exact Drawn0.refl _ | apply Drawn0.step)⟩)
      · (rw [if_neg c2] at H); (have c2b0 : decide (x3_1 < (a0.size : Int)) = false := decide_eq_false c2); clear c2; (obtain rfl := Option.some.inj H); go_wp2; go_ret; (exact ⟨by first | rfl | (simp; done) | (simp [*]; done), by repeat (first | exact Drawn0.refl _ | apply Drawn0.step)⟩)
end Go.Proofs.YtoopddhkjhpbnaaDoor.Q
