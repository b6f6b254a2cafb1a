/- Functions of the given program as Lean functions, each with its contract, and what they answer; words for it. No condition but those of each. -/
import Derived.Test.YtjknpmibdkoklaaMLS
import Derived.Test.YtjknpmibdkoklaaMLR
import Derived.Test.YtjknpmibdkoklaaML3
import Derived.Test.YtjknpmibdkoklaaML5
import Derived.Test.YtjknpmibdkoklaaML4
namespace Go.Proofs.Ytjknpmibdkoklaa.Q
open Go.RowKit Go.Proofs.YtjknpmibdkoklaaW.PrintWords Go.Proofs.YtjknpmibdkoklaaW.PrintLast Go.Proofs.YtjknpmibdkoklaaW.PrintMore
open Aside0 (mk)
open List (setIfInBounds_toArray set_cons_zero set_cons_succ)
attribute [local go_sem] max2_int min2_int max_two min_two max_three min_three max_four min_four
set_option linter.unusedVariables false
set_option linter.unusedSimpArgs false
attribute [local go_sem] fld99_2 fld103_2 fld160_0 fld160_1
mutual
def chk_Mul.j0 : Nat → Int → Int → Bool → Option (Int × Int)
  | 0, _, _, _ => none
  | k + 1, x0, x1, x12 => if x12 = true then (some (0, 0)) else (if x0 = (-1) then (if x1 = (-9223372036854775808) then (chk_Mul.j1 k x0 x1 true) else (if x1 = (-1) then (chk_Mul.j1 k x0 x1 (x0 == (-9223372036854775808))) else (chk_Mul.j1 k x0 x1 false))) else (if x1 = (-1) then (chk_Mul.j1 k x0 x1 (x0 == (-9223372036854775808))) else (chk_Mul.j1 k x0 x1 false)))
def chk_Mul.j1 : Nat → Int → Int → Bool → Option (Int × Int)
  | 0, _, _, _ => none
  | k + 1, x0, x1, x26 => if x26 = true then (some (0, 10)) else (if x1 = 0 then (none) else (if (wrap64 (Int.tdiv (wrap64 (x0 * x1)) x1)) = x0 then (some (wrap64 (x0 * x1), 0)) else (some (0, 10))))
end
def chk_Mul.f (k : Nat) (a0 : Int) (a1 : Int) : Option (Int × Int) := if a0 = 0 then (chk_Mul.j0 k a0 a1 true) else (chk_Mul.j0 k a0 a1 (a1 == 0))
theorem chk_Mul.mono_l : ∀ k, (∀ y0 y1 y2, LeO (chk_Mul.j0 k y0 y1 y2) (chk_Mul.j0 (k + 1) y0 y1 y2)) ∧ (∀ y0 y1 y2, LeO (chk_Mul.j1 k y0 y1 y2) (chk_Mul.j1 (k + 1) y0 y1 y2))
  | 0 => ⟨fun _ _ _ r h => by simp [chk_Mul.j0] at h, fun _ _ _ r h => by simp [chk_Mul.j1] at h⟩
  | k + 1 => by
    obtain ⟨ih0, ih1⟩ := chk_Mul.mono_l k
    refine ⟨?_, ?_⟩ <;> intros <;> (first | unfold chk_Mul.j0 | unfold chk_Mul.j1) <;> repeat' first | (with_reducible first | exact ih0 _ _ _ | exact ih1 _ _ _ | exact LeO.refl _ | exact LeO.none _ | refine LeO.ite ?_ ?_ | refine LeO.bind ?_ (fun _ => ?_)) | exact ih0 _ _ _ | exact ih1 _ _ _ | exact LeO.none _ | refine LeO.ite ?_ ?_ | refine LeO.bind ?_ (fun _ => ?_)
theorem chk_Mul.mono : ∀ a0 a1 k, LeO (chk_Mul.f k a0 a1) (chk_Mul.f (k + 1) a0 a1) := by
  intro a0 a1 k
  obtain ⟨ih0, ih1⟩ := chk_Mul.mono_l k
  unfold chk_Mul.f
  repeat' first
      | (with_reducible exact ih0 _ _ _)
      | (with_reducible exact ih1 _ _ _)
      | (with_reducible exact LeO.refl _)
      | (with_reducible exact LeO.none _)
      | (with_reducible refine LeO.ite ?_ ?_)
      | (with_reducible refine LeO.bind ?_ (fun _ => ?_))
      | exact ih0 _ _ _
      | exact ih1 _ _ _
      | exact LeO.none _
      | refine LeO.ite ?_ ?_
      | refine LeO.bind ?_ (fun _ => ?_)
set_option maxHeartbeats 8000000 in
set_option maxRecDepth 100000 in
theorem chk_Mul.calls (k : Nat) (a0 : Int) (a1 : Int) (r1 : Int) (r2 : Int) (w : World) (h : chk_Mul.f k a0 a1 = some (r1, r2)) :
    Calls Try.prog 187 #[.int .i64 a0, .int .i64 a1] w fun e w' => e = .returned (.tuple #[.int .i64 r1, .int .i64 r2]) ∧ Drawn0 w w' := by
  have H : (if a0 = 0 then (chk_Mul.j0 k a0 a1 true) else (chk_Mul.j0 k a0 a1 (a1 == 0))) = some (r1, r2) := h
  clear h
  have HC3 := mk H
  clear H
  go_enter Try.func187, Try.ntmps187
  go_upto_region 1 with (fail)
  go_cut [12] (fun v12 wc => ∃ (kq : Nat) (x12_2 : Bool), v12 = .bool x12_2 ∧ Aside0 (chk_Mul.j0 kq a0 a1 x12_2 = some (r1, r2)) ∧ Aside0 (kq ≤ k) ∧ Drawn0 w wc)
  case first =>
    have H := HC3.out
    clear HC3
    replace H := ic_ H; obtain ⟨c4, H⟩ | ⟨c4, H⟩ := H
    · (obtain ⟨c4b0, c4b1⟩ := eTn_ c4); clear c4; ((first | rw [c4b0] | (simp only [i64_w, i32_w]; rw [c4b0]) | skip)); (have H' := mk H); clear H; go_wp2; (go_meet)
      case rel => exact ⟨_, (true), kq3, H', ⟨kq4⟩, kq5⟩
    · (obtain ⟨c4b0, c4b1⟩ := eFn_ c4); ((first | rw [c4b0] | (simp only [i64_w, i32_w]; rw [c4b0]) | skip)); (have H' := mk H); clear H; go_wp2; (go_meet)
      case rel => exact ⟨_, ((a1 == 0)), kq3, H', ⟨kq4⟩, kq5⟩
  case rest =>
    clear HC3
    obtain ⟨kq, x12_2, rfl, HA, HJ2, ⟨mc2, rfl⟩⟩ := hcut
    cases kq with
    | zero => exact absurd HA.out (by simp [chk_Mul.j0])
    | succ kj2 =>
      (have H := HA.out); clear HA; (simp only [chk_Mul.j0] at H); (by_cases c5 : x12_2 = true)
      · subst c5; (have H1 : (some (0, 0)) = some (r1, r2) := by rw [if_pos rfl] at H; exact H); clear H; (have H := H1); clear H1; (simp only [Option.some.injEq, Prod.mk.injEq] at H); (obtain ⟨rfl, rfl⟩ := H); go_wp2; go_ret2; (exact ⟨kq3, kq5⟩)
      · (replace c5 := Bool.eq_false_iff.mpr c5); subst c5; (have H1 : (if a0 = (-1) then (if a1 = (-9223372036854775808) then (chk_Mul.j1 kj2 a0 a1 true) else (if a1 = (-1) then (chk_Mul.j1 kj2 a0 a1 (a0 == (-9223372036854775808))) else (chk_Mul.j1 kj2 a0 a1 false))) else (if a1 = (-1) then (chk_Mul.j1 kj2 a0 a1 (a0 == (-9223372036854775808))) else (chk_Mul.j1 kj2 a0 a1 false))) = some (r1, r2) := by rw [if_neg (show ¬ (false = true) by decide)] at H; exact H); clear H; (have H := H1); clear H1; (have HC6 := mk H); clear H; (go_upto_region 3 with (fail)); (go_cut [26] (fun v26 wc => ∃ (kq : Nat) (x26_5 : Bool), v26 = .bool x26_5 ∧ Aside0 (chk_Mul.j1 kq a0 a1 x26_5 = some (r1, r2)) ∧ Aside0 (kq ≤ kj2) ∧ Drawn0 w wc))
        case first =>
          (have H := HC6.out); clear HC6; replace H := ic_ H; obtain ⟨c7, H⟩ | ⟨c7, H⟩ := H
          · (obtain ⟨c7b0, c7b1⟩ := eTn_ c7); clear c7; ((first | rw [c7b0] | (simp only [i64_w, i32_w]; rw [c7b0]) | skip)); replace H := ic_ H; obtain ⟨c8, H⟩ | ⟨c8, H⟩ := H
            · (obtain ⟨c8b0, c8b1⟩ := eTn_ c8); clear c8; (have H' := mk H); clear H; go_wp2; (go_meet)
              case rel => exact ⟨_, (true), kq3, H', ⟨kq19⟩, kq5⟩
            · (obtain ⟨c8b0, c8b1⟩ := eFn_ c8); replace H := ic_ H; obtain ⟨c9, H⟩ | ⟨c9, H⟩ := H
              · (obtain ⟨c9b0, c9b1⟩ := eTn_ c9); clear c9; (have H' := mk H); clear H; go_wp2; (go_meet)
                case rel => exact ⟨_, ((a0 == (-9223372036854775808))), kq3, H', ⟨kq19⟩, kq5⟩
              · (obtain ⟨c9b0, c9b1⟩ := eFn_ c9); (have H' := mk H); clear H; go_wp2; (go_meet)
                case rel => exact ⟨_, (false), kq3, H', ⟨kq19⟩, kq5⟩
          · (obtain ⟨c7b0, c7b1⟩ := eFn_ c7); ((first | rw [c7b0] | (simp only [i64_w, i32_w]; rw [c7b0]) | skip)); replace H := ic_ H; obtain ⟨c10, H⟩ | ⟨c10, H⟩ := H
            · (obtain ⟨c10b0, c10b1⟩ := eTn_ c10); clear c10; (have H' := mk H); clear H; go_wp2; (go_meet)
              case rel => exact ⟨_, ((a0 == (-9223372036854775808))), kq3, H', ⟨kq19⟩, kq5⟩
            · (obtain ⟨c10b0, c10b1⟩ := eFn_ c10); (have H' := mk H); clear H; go_wp2; (go_meet)
              case rel => exact ⟨_, (false), kq3, H', ⟨kq19⟩, kq5⟩
        case rest =>
          clear HC6; (obtain ⟨kq, x26_5, rfl, HA, HJ5, ⟨mc5, rfl⟩⟩ := hcut)
          cases kq with
          | zero => exact absurd HA.out (by simp [chk_Mul.j1])
          | succ kj5 =>
            (have H := HA.out); clear HA; (simp only [chk_Mul.j1] at H); (by_cases c11 : x26_5 = true)
            · subst c11; (have H1 : (some (0, 10)) = some (r1, r2) := by rw [if_pos rfl] at H; exact H); clear H; (have H := H1); clear H1; (simp only [Option.some.injEq, Prod.mk.injEq] at H); (obtain ⟨rfl, rfl⟩ := H); go_wp2; go_ret2; (exact ⟨kq3, kq5⟩)
            · (replace c11 := Bool.eq_false_iff.mpr c11); subst c11; (have H1 : (if a1 = 0 then (none) else (if (wrap64 (Int.tdiv (wrap64 (a0 * a1)) a1)) = a0 then (some (wrap64 (a0 * a1), 0)) else (some (0, 10)))) = some (r1, r2) := by rw [if_neg (show ¬ (false = true) by decide)] at H; exact H); clear H; (have H := H1); clear H1; replace H := ic_ H; obtain ⟨c12, H⟩ | ⟨c12, H⟩ := H
              · (exact absurd H (by simp))
              · (obtain ⟨c12b0, c12b1⟩ := eFn_ c12); replace H := ic_ H; obtain ⟨c13, H⟩ | ⟨c13, H⟩ := H
                · (obtain ⟨c13b0, c13b1⟩ := eTn_ c13); clear c13; (simp only [Option.some.injEq, Prod.mk.injEq] at H); (obtain ⟨rfl, rfl⟩ := H); go_wp2; go_ret2; (exact ⟨kq3, kq5⟩)
                · (obtain ⟨c13b0, c13b1⟩ := eFn_ c13); (simp only [Option.some.injEq, Prod.mk.injEq] at H); (obtain ⟨rfl, rfl⟩ := H); go_wp2; go_ret2; (exact ⟨kq3, kq5⟩)
end Go.Proofs.Ytjknpmibdkoklaa.Q
namespace Go.Proofs.Ytjknpmibdkoklaa.Q
open Go.RowKit Go.Proofs.YtjknpmibdkoklaaW.PrintWords Go.Proofs.YtjknpmibdkoklaaW.PrintLast Go.Proofs.YtjknpmibdkoklaaW.PrintMore
open Aside0 (mk)
open List (setIfInBounds_toArray set_cons_zero set_cons_succ)
attribute [local go_sem] max2_int min2_int max_two min_two max_three min_three max_four min_four
set_option linter.unusedVariables false
set_option linter.unusedSimpArgs false
attribute [local go_sem] fld99_2 fld103_2 fld160_0 fld160_1
def chk_Neg.f (a0 : Int) : Option (Int × Int) := (chk_Sub.f 0 a0).bind fun bt760 => (some (bt760.1, bt760.2))
set_option maxHeartbeats 8000000 in
set_option maxRecDepth 100000 in
theorem chk_Neg.calls (a0 : Int) (r1 : Int) (r2 : Int) (w : World) (h : chk_Neg.f a0 = some (r1, r2)) :
    Calls Try.prog 85 #[.int .i64 a0] w fun e w' => e = .returned (.tuple #[.int .i64 r1, .int .i64 r2]) ∧ Drawn0 w w' := by
  have H : ((chk_Sub.f 0 a0).bind fun bt760 => (some (bt760.1, bt760.2))) = some (r1, r2) := h
  clear h
  replace H := Option.bind_eq_some_iff.mp H
  obtain ⟨⟨t760, t761⟩, A20, H⟩ := H
  replace H : (some (t760, t761)) = some (r1, r2) := H
  have A2 := mk A20
  clear A20
  simp only [Option.some.injEq, Prod.mk.injEq] at H
  obtain ⟨rfl, rfl⟩ := H
  go_enter Try.func85, Try.ntmps85
  go_wp2_with (first | ((with_reducible refine gate_callee (f := 83) rfl ?_); refine goesL_ (some 5) rfl rfl Try.func83 kq0 rfl #[.int .i64 0, .int .i64 a0] rfl kq7 ?_; (with_reducible refine (chk_Sub.calls 0 a0 t760 t761 _ A2.out).mono ?_); rintro e w' ⟨rfl, ⟨nd, rfl⟩⟩; refine ⟨_, rfl, ?_⟩))
  go_ret2
  exact ⟨kq3, kq5⟩
def chk_Rest.f (a0 : Int) (a1 : Int) : Option (Int × Int) := if a1 < 1 then (some (0, 2)) else (if a1 = 0 then (none) else (if (Int.tmod a0 a1) < 0 then (some (wrap64 ((Int.tmod a0 a1) + a1), 0)) else (some (Int.tmod a0 a1, 0))))
set_option maxHeartbeats 8000000 in
set_option maxRecDepth 100000 in
theorem chk_Rest.calls (a0 : Int) (a1 : Int) (r1 : Int) (r2 : Int) (w : World) (h : chk_Rest.f a0 a1 = some (r1, r2)) :
    Calls Try.prog 124 #[.int .i64 a0, .int .i64 a1] w fun e w' => e = .returned (.tuple #[.int .i64 r1, .int .i64 r2]) ∧ Drawn0 w w' := by
  have H : (if a1 < 1 then (some (0, 2)) else (if a1 = 0 then (none) else (if (Int.tmod a0 a1) < 0 then (some (wrap64 ((Int.tmod a0 a1) + a1), 0)) else (some (Int.tmod a0 a1, 0))))) = some (r1, r2) := h
  clear h
  by_cases c3 : a1 < 1
  · rw [if_pos c3] at H
    have c3b0 : decide (a1 < 1) = true := decide_eq_true c3
    clear c3
    simp only [Option.some.injEq, Prod.mk.injEq] at H
    obtain ⟨rfl, rfl⟩ := H
    go_enter Try.func124, Try.ntmps124
    go_wp2
    go_ret2
    exact ⟨kq3, kq5⟩
  · rw [if_neg c3] at H
    have c3b0 : decide (a1 < 1) = false := decide_eq_false c3
    clear c3
    replace H := ic_ H; obtain ⟨c4, H⟩ | ⟨c4, H⟩ := H
    · (exact absurd H (by simp))
    · (obtain ⟨c4b0, c4b1⟩ := eFn_ c4); replace H := ic_ H; obtain ⟨c5, H⟩ | ⟨c5, H⟩ := H
      · (have c5b0 : decide ((Int.tmod a0 a1) < 0) = true := decide_eq_true c5); clear c5; (simp only [Option.some.injEq, Prod.mk.injEq] at H); (obtain ⟨rfl, rfl⟩ := H); (go_enter Try.func124, Try.ntmps124); go_wp2; go_ret2; (exact ⟨kq3, kq5⟩)
      · (have c5b0 : decide ((Int.tmod a0 a1) < 0) = false := decide_eq_false c5); clear c5; (simp only [Option.some.injEq, Prod.mk.injEq] at H); (obtain ⟨rfl, rfl⟩ := H); (go_enter Try.func124, Try.ntmps124); go_wp2; go_ret2; (exact ⟨kq3, kq5⟩)
def chk_Abs.f (a0 : Int) : Option (Int × Int) := if a0 < 0 then ((chk_Neg.f a0).bind fun bt765 => (some (bt765.1, bt765.2))) else (some (a0, 0))
set_option maxHeartbeats 8000000 in
set_option maxRecDepth 100000 in
theorem chk_Abs.calls (a0 : Int) (r1 : Int) (r2 : Int) (w : World) (h : chk_Abs.f a0 = some (r1, r2)) :
    Calls Try.prog 125 #[.int .i64 a0] w fun e w' => e = .returned (.tuple #[.int .i64 r1, .int .i64 r2]) ∧ Drawn0 w w' := by
  have H : (if a0 < 0 then ((chk_Neg.f a0).bind fun bt765 => (some (bt765.1, bt765.2))) else (some (a0, 0))) = some (r1, r2) := h
  clear h
  by_cases c2 : a0 < 0
  · rw [if_pos c2] at H
    have c2b0 : decide (a0 < 0) = true := decide_eq_true c2
    clear c2
    replace H := Option.bind_eq_some_iff.mp H
    obtain ⟨⟨t765, t766⟩, A30, H⟩ := H
    replace H : (some (t765, t766)) = some (r1, r2) := H
    have A3 := mk A30
    clear A30
    simp only [Option.some.injEq, Prod.mk.injEq] at H
    obtain ⟨rfl, rfl⟩ := H
    go_enter Try.func125, Try.ntmps125
    go_wp2_with (first | ((with_reducible refine gate_callee (f := 85) rfl ?_); refine goesL_ (some 7) rfl rfl Try.func85 kq0 rfl #[.int .i64 a0] rfl kq7 ?_; (with_reducible refine (chk_Neg.calls a0 t765 t766 _ A3.out).mono ?_); rintro e w' ⟨rfl, ⟨nd, rfl⟩⟩; refine ⟨_, rfl, ?_⟩))
    go_ret2
    exact ⟨kq3, kq5⟩
  · rw [if_neg c2] at H
    have c2b0 : decide (a0 < 0) = false := decide_eq_false c2
    clear c2
    simp only [Option.some.injEq, Prod.mk.injEq] at H
    obtain ⟨rfl, rfl⟩ := H
    go_enter Try.func125, Try.ntmps125
    go_wp2
    go_ret2
    exact ⟨kq3, kq5⟩
def chk_Total.l0 : Nat → Int → List Int → Int → Int → Option (Int × Int)
  | 0, _, _, _, _ => none
  | k + 1, x4, x9, x10, x11 => if x11 < x10 then (if 0 ≤ x11 then (if x11 < (x9.length : Int) then ((chk_Abs.f (rd x9 x11)).bind fun bt768 => (if bt768.2 = 0 then ((chk_Add.f x4 bt768.1).bind fun bt770 => (if bt770.2 = 0 then (chk_Total.l0 k bt770.1 x9 x10 (wrap64 (x11 + 1))) else (some (0, bt770.2)))) else (some (0, bt768.2)))) else (none)) else (none)) else (some (x4, 0))
def chk_Total.f (k : Nat) (l0 : List Int) : Option (Int × Int) := chk_Total.l0 k 0 l0 (l0.length : Int) 0
theorem chk_Total.mono_l : ∀ k, (∀ y0 y1 y2 y3, LeO (chk_Total.l0 k y0 y1 y2 y3) (chk_Total.l0 (k + 1) y0 y1 y2 y3))
  | 0 => fun _ _ _ _ r h => by simp [chk_Total.l0] at h
  | k + 1 => by
    have ih0 := chk_Total.mono_l k
    · intro y0 y1 y2 y3; (unfold chk_Total.l0)
      repeat' first
      | (with_reducible exact ih0 _ _ _ _)
      | (with_reducible exact LeO.refl _)
      | (with_reducible exact LeO.none _)
      | (with_reducible refine LeO.ite ?_ ?_)
      | (with_reducible refine LeO.bind ?_ (fun _ => ?_))
      | exact ih0 _ _ _ _
      | exact LeO.none _
      | refine LeO.ite ?_ ?_
      | refine LeO.bind ?_ (fun _ => ?_)
theorem chk_Total.mono : ∀ a0 k, LeO (chk_Total.f k a0) (chk_Total.f (k + 1) a0) := by
  intro a0 k
  have ih0 := chk_Total.mono_l k
  unfold chk_Total.f
  repeat' first
      | (with_reducible exact ih0 _ _ _ _)
      | (with_reducible exact LeO.refl _)
      | (with_reducible exact LeO.none _)
      | (with_reducible refine LeO.ite ?_ ?_)
      | (with_reducible refine LeO.bind ?_ (fun _ => ?_))
      | exact ih0 _ _ _ _
      | exact LeO.none _
      | refine LeO.ite ?_ ?_
      | refine LeO.bind ?_ (fun _ => ?_)
set_option maxHeartbeats 8000000 in
set_option maxRecDepth 100000 in
theorem chk_Total.calls (k : Nat) (A0 : Option Addr) (c0 : Nat) (l0 : List Int) (r1 : Int) (r2 : Int) (w : World) (hr0 : Kd.C (Kd.int .i64) w A0 l0.length l0) (hc0 : l0.length ≤ c0) (h : chk_Total.f k l0 = some (r1, r2)) :
    Calls Try.prog 87 #[.slice A0 l0.length c0] w fun e w' => e = .returned (.tuple #[.int .i64 r1, .int .i64 r2]) ∧ Drawn0 w w' := by
  have HR0 := mk hr0
  have HC0 := mk hc0
  clear hr0 hc0
  have H : (chk_Total.l0 k 0 l0 (l0.length : Int) 0) = some (r1, r2) := h
  clear h
  have H' := mk H
  clear H
  go_enter Try.func87, Try.ntmps87
  go_wp2
  go_loopg [4, 11] k (fun kq v4 v11 w' => ∃ (x4_1 : Int) (x11_1 : Int), v4 = .int .i64 x4_1 ∧ v11 = .int .i64 x11_1 ∧ Aside0 (chk_Total.l0 kq x4_1 l0 (l0.length : Int) x11_1 = some (r1, r2)) ∧ Aside0 (kq ≤ k) ∧ Drawn0 w w')
  case atStart => exact ⟨(0), (0), kq3, kq3, H', ⟨Nat.le_refl _⟩, kq5⟩
  case round =>
    clear H'
    obtain ⟨x4_1, x11_1, rfl, rfl, HA, HK1, ⟨m1, rfl⟩⟩ := hrel
    cases gk with
    | zero => exact absurd HA.out (by simp [chk_Total.l0])
    | succ k1 =>
      (have H := HA.out); clear HA; (simp only [chk_Total.l0] at H); replace H := ic_ H; obtain ⟨c2, H⟩ | ⟨c2, H⟩ := H
      · (have c2b0 : decide (x11_1 < (l0.length : Int)) = true := decide_eq_true c2); clear c2; replace H := ic_ H; obtain ⟨c3, H⟩ | ⟨c3, H⟩ := H
        · (have c3b0 : decide (0 ≤ x11_1) = true := decide_eq_true c3); clear c3; replace H := ic_ H; obtain ⟨c4, H⟩ | ⟨c4, H⟩ := H
          · (have c4b0 : decide (x11_1 < (l0.length : Int)) = true := decide_eq_true c4); clear c4; (replace H := Option.bind_eq_some_iff.mp H); (obtain ⟨⟨t768, t769⟩, A50, H⟩ := H); (replace H : (if t769 = 0 then ((chk_Add.f x4_1 t768).bind fun bt770 => (if bt770.2 = 0 then (chk_Total.l0 k1 bt770.1 l0 (l0.length : Int) (wrap64 (x11_1 + 1))) else (some (0, bt770.2)))) else (some (0, t769))) = some (r1, r2) := H); (have A5 := mk A50); clear A50; replace H := ic_ H; obtain ⟨c6, H⟩ | ⟨c6, H⟩ := H
            · (obtain ⟨c6b0, c6b1⟩ := eTn_ c6); clear c6; (replace H := Option.bind_eq_some_iff.mp H); (obtain ⟨⟨t770, t771⟩, A70, H⟩ := H); (replace H : (if t771 = 0 then (chk_Total.l0 k1 t770 l0 (l0.length : Int) (wrap64 (x11_1 + 1))) else (some (0, t771))) = some (r1, r2) := H); (have A7 := mk A70); clear A70; replace H := ic_ H; obtain ⟨c8, H⟩ | ⟨c8, H⟩ := H
              · (obtain ⟨c8b0, c8b1⟩ := eTn_ c8); clear c8; (have H' := mk H); clear H; (have p767 : 0 ≤ (x11_1 : Int) := of_decide_eq_true kq8); (have q767 : x11_1 < (l0.length : Int) := of_decide_eq_true kq8); (obtain ⟨ad767, e767, hx767_0⟩ := Kd.at_int HR0.out x11_1 p767 q767); cases e767; replace p767 := eq_true p767; replace q767 := eq_true q767; (go_wp2_with (first | ((with_reducible refine gate_callee (f := 125) rfl ?_); refine goesL_ (some 17) rfl rfl Try.func125 kq0 rfl #[.int .i64 (rd l0 x11_1)] rfl kq7 ?_; (with_reducible refine (chk_Abs.calls (rd l0 x11_1) t768 t769 _ A5.out).mono ?_); rintro e w' ⟨rfl, ⟨nd, rfl⟩⟩; refine ⟨_, rfl, ?_⟩) | ((with_reducible refine gate_callee (f := 121) rfl ?_); refine goesL_ (some 26) rfl rfl Try.func121 kq0 rfl #[.int .i64 x4_1, .int .i64 t768] rfl kq7 ?_; (with_reducible refine (chk_Add.calls x4_1 t768 t770 t771 _ A7.out).mono ?_); rintro e w' ⟨rfl, ⟨nd, rfl⟩⟩; refine ⟨_, rfl, ?_⟩))); (go_roundg k1)
                case measure => have := HK1.out; omega
                case rel => exact ⟨(t770), (wrap64 (x11_1 + 1)), kq3, kq3, H', ⟨kq13⟩, kq5⟩
              · (obtain ⟨c8b0, c8b1⟩ := eFn_ c8); (simp only [Option.some.injEq, Prod.mk.injEq] at H); (obtain ⟨rfl, rfl⟩ := H); (have p767 : 0 ≤ (x11_1 : Int) := of_decide_eq_true kq8); (have q767 : x11_1 < (l0.length : Int) := of_decide_eq_true kq8); (obtain ⟨ad767, e767, hx767_0⟩ := Kd.at_int HR0.out x11_1 p767 q767); cases e767; replace p767 := eq_true p767; replace q767 := eq_true q767; (go_wp2_with (first | ((with_reducible refine gate_callee (f := 125) rfl ?_); refine goesL_ (some 17) rfl rfl Try.func125 kq0 rfl #[.int .i64 (rd l0 x11_1)] rfl kq7 ?_; (with_reducible refine (chk_Abs.calls (rd l0 x11_1) t768 t769 _ A5.out).mono ?_); rintro e w' ⟨rfl, ⟨nd, rfl⟩⟩; refine ⟨_, rfl, ?_⟩) | ((with_reducible refine gate_callee (f := 121) rfl ?_); refine goesL_ (some 26) rfl rfl Try.func121 kq0 rfl #[.int .i64 x4_1, .int .i64 t768] rfl kq7 ?_; (with_reducible refine (chk_Add.calls x4_1 t768 t770 t771 _ A7.out).mono ?_); rintro e w' ⟨rfl, ⟨nd, rfl⟩⟩; refine ⟨_, rfl, ?_⟩))); go_ret2; (exact ⟨kq3, kq5⟩)
            · (obtain ⟨c6b0, c6b1⟩ := eFn_ c6); (simp only [Option.some.injEq, Prod.mk.injEq] at H); (obtain ⟨rfl, rfl⟩ := H); (have p767 : 0 ≤ (x11_1 : Int) := of_decide_eq_true kq8); (have q767 : x11_1 < (l0.length : Int) := of_decide_eq_true kq8); (obtain ⟨ad767, e767, hx767_0⟩ := Kd.at_int HR0.out x11_1 p767 q767); cases e767; replace p767 := eq_true p767; replace q767 := eq_true q767; (go_wp2_with (first | ((with_reducible refine gate_callee (f := 125) rfl ?_); refine goesL_ (some 17) rfl rfl Try.func125 kq0 rfl #[.int .i64 (rd l0 x11_1)] rfl kq7 ?_; (with_reducible refine (chk_Abs.calls (rd l0 x11_1) t768 t769 _ A5.out).mono ?_); rintro e w' ⟨rfl, ⟨nd, rfl⟩⟩; refine ⟨_, rfl, ?_⟩))); go_ret2; (exact ⟨kq3, kq5⟩)
          · (exact absurd H (by simp))
        · (exact absurd H (by simp))
      · (have c2b0 : decide (x11_1 < (l0.length : Int)) = false := decide_eq_false c2); clear c2; (simp only [Option.some.injEq, Prod.mk.injEq] at H); (obtain ⟨rfl, rfl⟩ := H); go_wp2; go_ret2; (exact ⟨kq3, kq5⟩)
end Go.Proofs.Ytjknpmibdkoklaa.Q
namespace Go.Proofs.Ytjknpmibdkoklaa.Q
open Go.RowKit Go.Proofs.YtjknpmibdkoklaaW.PrintWords Go.Proofs.YtjknpmibdkoklaaW.PrintLast Go.Proofs.YtjknpmibdkoklaaW.PrintMore
def In64 (a : Int) : Prop := -9223372036854775808 ≤ a ∧ a ≤ 9223372036854775807
instance (a : Int) : Decidable (In64 a) := by unfold In64; infer_instance
def fit (z : Int) : Int × Int := if -9223372036854775808 ≤ z ∧ z ≤ 9223372036854775807 then (z, 0) else (0, 10)
theorem fit_in {z : Int} (h : In64 z) : fit z = (z, 0) := if_pos h
theorem fit_out {z : Int} (h : ¬ In64 z) : fit z = (0, 10) := if_neg h
theorem wrap_in {a : Int} (h : In64 a) : wrap64 a = a := by
  obtain ⟨h1, h2⟩ := h
  unfold wrap64; omega
theorem uwrap (n : Int) : IntKind.u64.wrap n = n % 18446744073709551616 := by simp [IntKind.wrap, IntKind.bits, IntKind.signed]
theorem uwrap_in {n : Int} (h0 : 0 ≤ n) (h1 : n < 18446744073709551616) : IntKind.u64.wrap n = n := by rw [uwrap]; omega
theorem add_spec {a b : Int} (ha : In64 a) (hb : In64 b) : chk_Add.f a b = some (fit (a + b)) := by
  obtain ⟨ha1, ha2⟩ := ha
  obtain ⟨hb1, hb2⟩ := hb
  unfold chk_Add.f fit
  have hw : wrap64 (a + b) = (a + b + 9223372036854775808) % 18446744073709551616 - 9223372036854775808 := by unfold wrap64; rfl
  generalize wrap64 (a + b) = w at hw
  by_cases h1 : a ≥ 0 <;> by_cases h2 : b ≥ 0 <;> by_cases h3 : w ≥ 0 <;> simp [h1, h2, h3] <;>
    first | omega | (rw [if_pos kq1]; simp; omega) | (rw [if_neg kq1])
theorem sub_spec {a b : Int} (ha : In64 a) (hb : In64 b) : chk_Sub.f a b = some (fit (a - b)) := by
  obtain ⟨ha1, ha2⟩ := ha
  obtain ⟨hb1, hb2⟩ := hb
  unfold chk_Sub.f fit
  have hw : wrap64 (a - b) = (a - b + 9223372036854775808) % 18446744073709551616 - 9223372036854775808 := by unfold wrap64; rfl
  generalize wrap64 (a - b) = w at hw
  by_cases h1 : a ≥ 0 <;> by_cases h2 : b ≥ 0 <;> by_cases h3 : w ≥ 0 <;> simp [h1, h2, h3] <;>
    first | omega | (rw [if_pos kq1]; simp; omega) | (rw [if_neg kq1])
theorem in_zero : In64 0 := ⟨kq2, kq2⟩
theorem neg_spec {a : Int} (ha : In64 a) : chk_Neg.f a = some (fit (-a)) := by
  unfold chk_Neg.f
  rw [sub_spec in_zero ha]
  simp [Int.zero_sub]
theorem abs_spec {a : Int} (ha : In64 a) : chk_Abs.f a = some (fit (a.natAbs : Int)) := by
  unfold chk_Abs.f
  by_cases h : a < 0
  · rw [if_pos h, neg_spec ha, show ((a.natAbs : Int)) = -a by omega]
    simp
  · rw [if_neg h, show ((a.natAbs : Int)) = a by omega, fit_in ha]
theorem rd_of_lt {l : List Int} {i : Nat} (h : i < l.length) : rd l (i : Int) = l[i] := by
  unfold rd
  simp [List.getD_eq_getElem?_getD, h]
theorem Ev_at {α : Type} {g : Nat → Option α} {r : α} (K : Nat) (h : ∀ k, K < k → g k = some r) : Ev g r := ⟨K + 1, fun k hk => h k kq1⟩
theorem wrap_nat {i : Nat} (h : i < 9223372036854775808) : wrap64 (i : Int) = i := wrap_in ⟨kq1, kq1⟩
theorem wrap_succ {i : Nat} (h : i + 1 < 9223372036854775808) : wrap64 ((i : Int) + 1) = ((i + 1 : Nat) : Int) := by
  rw [show ((i : Int) + 1) = ((i + 1 : Nat) : Int) by omega]
  exact wrap_nat h
def total : List Int → Int
  | [] => 0
  | a :: l => (a.natAbs : Int) + total l
theorem total_nonneg (l : List Int) : 0 ≤ total l := by
  induction l with
  | nil => exact Int.le_refl _
  | cons a l ih => simp only [total]; omega
theorem total_append (l m : List Int) : total (l ++ m) = total l + total m := by
  induction l with
  | nil => simp [total]
  | cons a l ih => simp only [List.cons_append, total, ih]; omega
theorem total_le {l : List Int} (h : ∀ x ∈ l, In64 x) : total l ≤ l.length * 9223372036854775808 := by
  induction l with
  | nil => simp [total]
  | cons a l ih =>
    have h1 := ih (fun x hx => h x (List.mem_cons_of_mem _ hx))
    obtain ⟨h2, h3⟩ := h a List.mem_cons_self
    simp only [total, List.length_cons]
    omega
theorem total_drop {l : List Int} {i : Nat} (h : i < l.length) : total (l.drop i) = (l[i].natAbs : Int) + total (l.drop (i + 1)) := by
  rw [List.drop_eq_getElem_cons h]
  rfl
theorem total_loop {l : List Int} (h : ∀ x ∈ l, In64 x) (hl : l.length < 9223372036854775807) :
    ∀ (d i : Nat) (s : Int), i + d = l.length → 0 ≤ s → In64 s → Ev (fun k => chk_Total.l0 k s l (l.length : Int) (i : Int)) (fit (s + total (l.drop i))) := by
  intro d
  induction d with
  | zero =>
    intro i s hi h0 hs
    refine Ev_at 0 (fun k hk => ?_)
    obtain ⟨k, rfl⟩ : ∃ m, k = m + 1 := ⟨k - 1, kq1⟩
    simp only [chk_Total.l0]
    rw [if_neg kq1, List.drop_eq_nil_of_le kq1]
    simp [total, fit_in hs]
  | succ d ih =>
    intro i s hi h0 hs
    have hil : i < l.length := by omega
    have hx := h _ (List.getElem_mem hil)
    have ht := total_nonneg (l.drop (i + 1))
    have hs' := hs
    obtain ⟨hs1, hs2⟩ := hs
    rw [total_drop hil]
    by_cases h1 : In64 (l[i].natAbs : Int)
    · by_cases h2 : In64 (s + (l[i].natAbs : Int))
      · have := ih (i + 1) (s + (l[i].natAbs : Int)) kq1 kq1 h2
        rw [← Int.add_assoc]
        refine Ev.step (fun k => ?_) this
        simp only [chk_Total.l0]
        rw [if_pos kq1, if_pos kq1, if_pos kq1, rd_of_lt hil, abs_spec hx, fit_in h1]
        simp only [Option.bind_some, if_true]
        rw [add_spec hs' h1, fit_in h2]
        simp only [Option.bind_some, if_true]
        rw [wrap_succ kq1]
      · have hn : ¬ In64 (s + ((l[i].natAbs : Int) + total (l.drop (i + 1)))) := by
          intro h3
          apply h2
          obtain ⟨h4, h5⟩ := h3
          constructor <;> omega
        rw [fit_out hn]
        refine Ev_at 0 (fun k hk => ?_)
        obtain ⟨k, rfl⟩ : ∃ m, k = m + 1 := ⟨k - 1, kq1⟩
        simp only [chk_Total.l0]
        rw [if_pos kq1, if_pos kq1, if_pos kq1, rd_of_lt hil, abs_spec hx, fit_in h1]
        simp only [Option.bind_some, if_true]
        rw [add_spec hs' h1, fit_out h2]
        simp
    · have hn : ¬ In64 (s + ((l[i].natAbs : Int) + total (l.drop (i + 1)))) := by
        intro h3
        apply h1
        obtain ⟨h4, h5⟩ := h3
        constructor <;> omega
      rw [fit_out hn]
      refine Ev_at 0 (fun k hk => ?_)
      obtain ⟨k, rfl⟩ : ∃ m, k = m + 1 := ⟨k - 1, kq1⟩
      simp only [chk_Total.l0]
      rw [if_pos kq1, if_pos kq1, if_pos kq1, rd_of_lt hil, abs_spec hx, fit_out h1]
      simp
theorem total_spec {l : List Int} (h : ∀ x ∈ l, In64 x) (hl : l.length < 9223372036854775807) : Ev (fun k => chk_Total.f k l) (fit (total l)) := by
  have := total_loop h hl l.length 0 0 kq1 kq1 kq2
  simp only [List.drop_zero, Int.zero_add] at this
  exact this
end Go.Proofs.Ytjknpmibdkoklaa.Q
namespace Go.Proofs.Ytjknpmibdkoklaa.Q
open Go.RowKit Go.Proofs.YtjknpmibdkoklaaW.PrintWords Go.Proofs.YtjknpmibdkoklaaW.PrintLast Go.Proofs.YtjknpmibdkoklaaW.PrintMore
open Aside0 (mk)
open List (setIfInBounds_toArray set_cons_zero set_cons_succ)
attribute [local go_sem] max2_int min2_int max_two min_two max_three min_three max_four min_four
set_option linter.unusedVariables false
set_option linter.unusedSimpArgs false
attribute [local go_sem] fld99_2 fld103_2 fld160_0 fld160_1
def tabardlaw09_same.l0 : Nat → List ByteArray → List ByteArray → Int → Int → Option (Bool)
  | 0, _, _, _, _ => none
  | k + 1, x0, x1, x12, x13 => if x13 < x12 then (if 0 ≤ x13 then (if x13 < (x0.length : Int) then (if x13 < (x1.length : Int) then (if (rdOf ByteArray.empty x0 x13).toList = (rdOf ByteArray.empty x1 x13).toList then (tabardlaw09_same.l0 k x0 x1 x12 (wrap64 (x13 + 1))) else (some false)) else (none)) else (none)) else (none)) else (some true)
def tabardlaw09_same.f (k : Nat) (l0 : List ByteArray) (l1 : List ByteArray) : Option (Bool) := if (l0.length : Int) = (l1.length : Int) then (tabardlaw09_same.l0 k l0 l1 (l0.length : Int) 0) else (some false)
theorem tabardlaw09_same.mono_l : ∀ k, (∀ y0 y1 y2 y3, LeO (tabardlaw09_same.l0 k y0 y1 y2 y3) (tabardlaw09_same.l0 (k + 1) y0 y1 y2 y3))
  | 0 => fun _ _ _ _ r h => by simp [tabardlaw09_same.l0] at h
  | k + 1 => by
    have ih0 := tabardlaw09_same.mono_l k
    · intro y0 y1 y2 y3; (unfold tabardlaw09_same.l0)
      repeat' first
      | (with_reducible exact ih0 _ _ _ _)
      | (with_reducible exact LeO.refl _)
      | (with_reducible exact LeO.none _)
      | (with_reducible refine LeO.ite ?_ ?_)
      | (with_reducible refine LeO.bind ?_ (fun _ => ?_))
      | exact ih0 _ _ _ _
      | exact LeO.none _
      | refine LeO.ite ?_ ?_
      | refine LeO.bind ?_ (fun _ => ?_)
theorem tabardlaw09_same.mono : ∀ a0 a1 k, LeO (tabardlaw09_same.f k a0 a1) (tabardlaw09_same.f (k + 1) a0 a1) := by
  intro a0 a1 k
  have ih0 := tabardlaw09_same.mono_l k
  unfold tabardlaw09_same.f
  repeat' first
      | (with_reducible exact ih0 _ _ _ _)
      | (with_reducible exact LeO.refl _)
      | (with_reducible exact LeO.none _)
      | (with_reducible refine LeO.ite ?_ ?_)
      | (with_reducible refine LeO.bind ?_ (fun _ => ?_))
      | exact ih0 _ _ _ _
      | exact LeO.none _
      | refine LeO.ite ?_ ?_
      | refine LeO.bind ?_ (fun _ => ?_)
set_option maxHeartbeats 8000000 in
set_option maxRecDepth 100000 in
theorem tabardlaw09_same.calls (k : Nat) (A0 : Option Addr) (c0 : Nat) (l0 : List ByteArray) (A1 : Option Addr) (c1 : Nat) (l1 : List ByteArray) (r : Bool) (w : World) (hr0 : Kd.C Kd.string w A0 l0.length l0) (hc0 : l0.length ≤ c0) (hr1 : Kd.C Kd.string w A1 l1.length l1) (hc1 : l1.length ≤ c1) (h : tabardlaw09_same.f k l0 l1 = some r) :
    Calls Try.prog 51 #[.slice A0 l0.length c0, .slice A1 l1.length c1] w fun e w' => e = .returned (.bool r) ∧ Drawn0 w w' := by
  have HR0 := mk hr0
  have HC0 := mk hc0
  clear hr0 hc0
  have HR1 := mk hr1
  have HC1 := mk hc1
  clear hr1 hc1
  have H : (if (l0.length : Int) = (l1.length : Int) then (tabardlaw09_same.l0 k l0 l1 (l0.length : Int) 0) else (some false)) = some r := h
  clear h
  by_cases c3 : (l0.length : Int) = (l1.length : Int)
  · rw [if_pos c3] at H
    have c3b0 := eT_ c3
    have c3b1 := nF_ c3
    have c3b2 : (l0.length == l1.length) = true := by first | simpa using c3 | (simp at c3 ⊢; omega)
    clear c3
    have H' := mk H
    clear H
    go_enter Try.func51, Try.ntmps51
    go_wp2
    go_loopg [13] k (fun kq v13 w' => ∃ (x13_1 : Int), v13 = .int .i64 x13_1 ∧ Aside0 (tabardlaw09_same.l0 kq l0 l1 (l0.length : Int) x13_1 = some r) ∧ Aside0 (kq ≤ k) ∧ Drawn0 w w')
    case atStart => exact ⟨(0), kq3, H', ⟨Nat.le_refl _⟩, kq5⟩
    case round =>
      clear H'; (obtain ⟨x13_1, rfl, HA, HK1, ⟨m1, rfl⟩⟩ := hrel)
      cases gk with
      | zero => exact absurd HA.out (by simp [tabardlaw09_same.l0])
      | succ k1 =>
        (have H := HA.out); clear HA; (simp only [tabardlaw09_same.l0] at H); replace H := ic_ H; obtain ⟨c4, H⟩ | ⟨c4, H⟩ := H
        · (have c4b0 : decide (x13_1 < (l0.length : Int)) = true := decide_eq_true c4); clear c4; replace H := ic_ H; obtain ⟨c5, H⟩ | ⟨c5, H⟩ := H
          · (have c5b0 : decide (0 ≤ x13_1) = true := decide_eq_true c5); clear c5; replace H := ic_ H; obtain ⟨c6, H⟩ | ⟨c6, H⟩ := H
            · (have c6b0 : decide (x13_1 < (l0.length : Int)) = true := decide_eq_true c6); clear c6; replace H := ic_ H; obtain ⟨c7, H⟩ | ⟨c7, H⟩ := H
              · (have c7b0 : decide (x13_1 < (l1.length : Int)) = true := decide_eq_true c7); clear c7; replace H := ic_ H; obtain ⟨c8, H⟩ | ⟨c8, H⟩ := H
                · (obtain ⟨c8b0, c8b1⟩ := eTn_ c8); clear c8; (have H' := mk H); clear H; (have p772 : 0 ≤ (x13_1 : Int) := of_decide_eq_true kq8); (have q772 : x13_1 < (l0.length : Int) := of_decide_eq_true kq8); (obtain ⟨ad772, e772, hx772_0⟩ := Kd.at_string HR0.out x13_1 p772 q772); cases e772; replace p772 := eq_true p772; replace q772 := eq_true q772; (have p773 : 0 ≤ (x13_1 : Int) := of_decide_eq_true kq8); (have q773 : x13_1 < (l1.length : Int) := of_decide_eq_true kq8); (obtain ⟨ad773, e773, hx773_0⟩ := Kd.at_string HR1.out x13_1 p773 q773); cases e773; replace p773 := eq_true p773; replace q773 := eq_true q773; go_wp2; (repeat (go_quiet (fail); try go_wp2)); (go_roundg k1)
                  case measure => have := HK1.out; omega
                  case rel => exact ⟨(wrap64 (x13_1 + 1)), kq3, H', ⟨kq13⟩, kq5⟩
                · (obtain ⟨c8b0, c8b1⟩ := eFn_ c8); (obtain rfl := Option.some.inj H); (have p772 : 0 ≤ (x13_1 : Int) := of_decide_eq_true kq8); (have q772 : x13_1 < (l0.length : Int) := of_decide_eq_true kq8); (obtain ⟨ad772, e772, hx772_0⟩ := Kd.at_string HR0.out x13_1 p772 q772); cases e772; replace p772 := eq_true p772; replace q772 := eq_true q772; (have p773 : 0 ≤ (x13_1 : Int) := of_decide_eq_true kq8); (have q773 : x13_1 < (l1.length : Int) := of_decide_eq_true kq8); (obtain ⟨ad773, e773, hx773_0⟩ := Kd.at_string HR1.out x13_1 p773 q773); cases e773; replace p773 := eq_true p773; replace q773 := eq_true q773; go_wp2; (repeat (go_quiet (fail); try go_wp2)); go_ret; (exact ⟨kq3, kq5⟩)
              · (exact absurd H (by simp))
            · (exact absurd H (by simp))
          · (exact absurd H (by simp))
        · (have c4b0 : decide (x13_1 < (l0.length : Int)) = false := decide_eq_false c4); clear c4; (obtain rfl := Option.some.inj H); go_wp2; go_ret; (exact ⟨kq3, kq5⟩)
  · rw [if_neg c3] at H
    have c3b0 := eF_ c3
    have c3b1 := nT_ c3
    have c3b2 : (l0.length == l1.length) = false := by first | simpa using c3 | (simp at c3 ⊢; omega)
    obtain rfl := Option.some.inj H
    go_enter Try.func51, Try.ntmps51
    go_wp2
    go_ret
    exact ⟨kq3, kq5⟩
end Go.Proofs.Ytjknpmibdkoklaa.Q
namespace Go.Proofs.Ytjknpmibdkoklaa.Q
open Go.RowKit Go.Proofs.YtjknpmibdkoklaaW.PrintWords Go.Proofs.YtjknpmibdkoklaaW.PrintLast Go.Proofs.YtjknpmibdkoklaaW.PrintMore
open Aside0 (mk)
open List (setIfInBounds_toArray set_cons_zero set_cons_succ)
attribute [local go_sem] max2_int min2_int max_two min_two max_three min_three max_four min_four
set_option linter.unusedVariables false
set_option linter.unusedSimpArgs false
attribute [local go_sem] fld99_2 fld103_2 fld160_0 fld160_1
def tabardlaw09_numbers.l0 : Nat → List Int → List Int → Int → Int → Option (Bool)
  | 0, _, _, _, _ => none
  | k + 1, x0, x1, x12, x13 => if x13 < x12 then (if 0 ≤ x13 then (if x13 < (x0.length : Int) then (if x13 < (x1.length : Int) then (if (rd x0 x13) = (rd x1 x13) then (tabardlaw09_numbers.l0 k x0 x1 x12 (wrap64 (x13 + 1))) else (some false)) else (none)) else (none)) else (none)) else (some true)
def tabardlaw09_numbers.f (k : Nat) (l0 : List Int) (l1 : List Int) : Option (Bool) := if (l0.length : Int) = (l1.length : Int) then (tabardlaw09_numbers.l0 k l0 l1 (l0.length : Int) 0) else (some false)
theorem tabardlaw09_numbers.mono_l : ∀ k, (∀ y0 y1 y2 y3, LeO (tabardlaw09_numbers.l0 k y0 y1 y2 y3) (tabardlaw09_numbers.l0 (k + 1) y0 y1 y2 y3))
  | 0 => fun _ _ _ _ r h => by simp [tabardlaw09_numbers.l0] at h
  | k + 1 => by
    have ih0 := tabardlaw09_numbers.mono_l k
    · intro y0 y1 y2 y3; (unfold tabardlaw09_numbers.l0)
      repeat' first
      | (with_reducible exact ih0 _ _ _ _)
      | (with_reducible exact LeO.refl _)
      | (with_reducible exact LeO.none _)
      | (with_reducible refine LeO.ite ?_ ?_)
      | (with_reducible refine LeO.bind ?_ (fun _ => ?_))
      | exact ih0 _ _ _ _
      | exact LeO.none _
      | refine LeO.ite ?_ ?_
      | refine LeO.bind ?_ (fun _ => ?_)
theorem tabardlaw09_numbers.mono : ∀ a0 a1 k, LeO (tabardlaw09_numbers.f k a0 a1) (tabardlaw09_numbers.f (k + 1) a0 a1) := by
  intro a0 a1 k
  have ih0 := tabardlaw09_numbers.mono_l k
  unfold tabardlaw09_numbers.f
  repeat' first
      | (with_reducible exact ih0 _ _ _ _)
      | (with_reducible exact LeO.refl _)
      | (with_reducible exact LeO.none _)
      | (with_reducible refine LeO.ite ?_ ?_)
      | (with_reducible refine LeO.bind ?_ (fun _ => ?_))
      | exact ih0 _ _ _ _
      | exact LeO.none _
      | refine LeO.ite ?_ ?_
      | refine LeO.bind ?_ (fun _ => ?_)
set_option maxHeartbeats 8000000 in
set_option maxRecDepth 100000 in
theorem tabardlaw09_numbers.calls (k : Nat) (A0 : Option Addr) (c0 : Nat) (l0 : List Int) (A1 : Option Addr) (c1 : Nat) (l1 : List Int) (r : Bool) (w : World) (hr0 : Kd.C (Kd.int .i64) w A0 l0.length l0) (hc0 : l0.length ≤ c0) (hr1 : Kd.C (Kd.int .i64) w A1 l1.length l1) (hc1 : l1.length ≤ c1) (h : tabardlaw09_numbers.f k l0 l1 = some r) :
    Calls Try.prog 52 #[.slice A0 l0.length c0, .slice A1 l1.length c1] w fun e w' => e = .returned (.bool r) ∧ Drawn0 w w' := by
  have HR0 := mk hr0
  have HC0 := mk hc0
  clear hr0 hc0
  have HR1 := mk hr1
  have HC1 := mk hc1
  clear hr1 hc1
  have H : (if (l0.length : Int) = (l1.length : Int) then (tabardlaw09_numbers.l0 k l0 l1 (l0.length : Int) 0) else (some false)) = some r := h
  clear h
  by_cases c3 : (l0.length : Int) = (l1.length : Int)
  · rw [if_pos c3] at H
    have c3b0 := eT_ c3
    have c3b1 := nF_ c3
    have c3b2 : (l0.length == l1.length) = true := by first | simpa using c3 | (simp at c3 ⊢; omega)
    clear c3
    have H' := mk H
    clear H
    go_enter Try.func52, Try.ntmps52
    go_wp2
    go_loopg [13] k (fun kq v13 w' => ∃ (x13_1 : Int), v13 = .int .i64 x13_1 ∧ Aside0 (tabardlaw09_numbers.l0 kq l0 l1 (l0.length : Int) x13_1 = some r) ∧ Aside0 (kq ≤ k) ∧ Drawn0 w w')
    case atStart => exact ⟨(0), kq3, H', ⟨Nat.le_refl _⟩, kq5⟩
    case round =>
      clear H'; (obtain ⟨x13_1, rfl, HA, HK1, ⟨m1, rfl⟩⟩ := hrel)
      cases gk with
      | zero => exact absurd HA.out (by simp [tabardlaw09_numbers.l0])
      | succ k1 =>
        (have H := HA.out); clear HA; (simp only [tabardlaw09_numbers.l0] at H); replace H := ic_ H; obtain ⟨c4, H⟩ | ⟨c4, H⟩ := H
        · (have c4b0 : decide (x13_1 < (l0.length : Int)) = true := decide_eq_true c4); clear c4; replace H := ic_ H; obtain ⟨c5, H⟩ | ⟨c5, H⟩ := H
          · (have c5b0 : decide (0 ≤ x13_1) = true := decide_eq_true c5); clear c5; replace H := ic_ H; obtain ⟨c6, H⟩ | ⟨c6, H⟩ := H
            · (have c6b0 : decide (x13_1 < (l0.length : Int)) = true := decide_eq_true c6); clear c6; replace H := ic_ H; obtain ⟨c7, H⟩ | ⟨c7, H⟩ := H
              · (have c7b0 : decide (x13_1 < (l1.length : Int)) = true := decide_eq_true c7); clear c7; replace H := ic_ H; obtain ⟨c8, H⟩ | ⟨c8, H⟩ := H
                · (obtain ⟨c8b0, c8b1⟩ := eTn_ c8); clear c8; (have H' := mk H); clear H; (have p774 : 0 ≤ (x13_1 : Int) := of_decide_eq_true kq8); (have q774 : x13_1 < (l0.length : Int) := of_decide_eq_true kq8); (obtain ⟨ad774, e774, hx774_0⟩ := Kd.at_int HR0.out x13_1 p774 q774); cases e774; replace p774 := eq_true p774; replace q774 := eq_true q774; (have p775 : 0 ≤ (x13_1 : Int) := of_decide_eq_true kq8); (have q775 : x13_1 < (l1.length : Int) := of_decide_eq_true kq8); (obtain ⟨ad775, e775, hx775_0⟩ := Kd.at_int HR1.out x13_1 p775 q775); cases e775; replace p775 := eq_true p775; replace q775 := eq_true q775; go_wp2; (repeat (go_quiet (fail); try go_wp2)); (go_roundg k1)
                  case measure => have := HK1.out; omega
                  case rel => exact ⟨(wrap64 (x13_1 + 1)), kq3, H', ⟨kq13⟩, kq5⟩
                · (obtain ⟨c8b0, c8b1⟩ := eFn_ c8); (obtain rfl := Option.some.inj H); (have p774 : 0 ≤ (x13_1 : Int) := of_decide_eq_true kq8); (have q774 : x13_1 < (l0.length : Int) := of_decide_eq_true kq8); (obtain ⟨ad774, e774, hx774_0⟩ := Kd.at_int HR0.out x13_1 p774 q774); cases e774; replace p774 := eq_true p774; replace q774 := eq_true q774; (have p775 : 0 ≤ (x13_1 : Int) := of_decide_eq_true kq8); (have q775 : x13_1 < (l1.length : Int) := of_decide_eq_true kq8); (obtain ⟨ad775, e775, hx775_0⟩ := Kd.at_int HR1.out x13_1 p775 q775); cases e775; replace p775 := eq_true p775; replace q775 := eq_true q775; go_wp2; (repeat (go_quiet (fail); try go_wp2)); go_ret; (exact ⟨kq3, kq5⟩)
              · (exact absurd H (by simp))
            · (exact absurd H (by simp))
          · (exact absurd H (by simp))
        · (have c4b0 : decide (x13_1 < (l0.length : Int)) = false := decide_eq_false c4); clear c4; (obtain rfl := Option.some.inj H); go_wp2; go_ret; (exact ⟨kq3, kq5⟩)
  · rw [if_neg c3] at H
    have c3b0 := eF_ c3
    have c3b1 := nT_ c3
    have c3b2 : (l0.length == l1.length) = false := by first | simpa using c3 | (simp at c3 ⊢; omega)
    obtain rfl := Option.some.inj H
    go_enter Try.func52, Try.ntmps52
    go_wp2
    go_ret
    exact ⟨kq3, kq5⟩
end Go.Proofs.Ytjknpmibdkoklaa.Q
namespace Go.Proofs.Ytjknpmibdkoklaa.Q
open Go.RowKit Go.Proofs.YtjknpmibdkoklaaW.PrintWords Go.Proofs.YtjknpmibdkoklaaW.PrintLast Go.Proofs.YtjknpmibdkoklaaW.PrintMore
open Aside0 (mk)
open List (setIfInBounds_toArray set_cons_zero set_cons_succ)
attribute [local go_sem] max2_int min2_int max_two min_two max_three min_three max_four min_four
set_option linter.unusedVariables false
set_option linter.unusedSimpArgs false
attribute [local go_sem] fld99_2 fld103_2 fld160_0 fld160_1
def tabardref04_Rises.l0 : Nat → List ByteArray → Int → Option (Bool)
  | 0, _, _ => none
  | k + 1, x0, x3 => if x3 < (x0.length : Int) then (if 0 ≤ x3 then ((tabardref04_Name.f k (rdOf ByteArray.empty x0 x3)).bind fun t1410 => (if t1410 = true then (if x3 > 0 then (if 0 ≤ (wrap64 (x3 - 1)) then (if (wrap64 (x3 - 1)) < (x0.length : Int) then (if ((Op.bytesLess ((rdOf ByteArray.empty x0 (wrap64 (x3 - 1))).toList) ((rdOf ByteArray.empty x0 x3).toList)) = true) then (tabardref04_Rises.l0 k x0 (wrap64 (x3 + 1))) else (some false)) else (none)) else (none)) else (tabardref04_Rises.l0 k x0 (wrap64 (x3 + 1)))) else (some false))) else (none)) else (some true)
def tabardref04_Rises.f (k : Nat) (l0 : List ByteArray) : Option (Bool) := tabardref04_Rises.l0 k l0 0
theorem tabardref04_Rises.mono_l : ∀ k, (∀ y0 y1, LeO (tabardref04_Rises.l0 k y0 y1) (tabardref04_Rises.l0 (k + 1) y0 y1))
  | 0 => fun _ _ r h => by simp [tabardref04_Rises.l0] at h
  | k + 1 => by
    have ih0 := tabardref04_Rises.mono_l k
    · intro y0 y1; (unfold tabardref04_Rises.l0)
      repeat' first
      | (with_reducible exact ih0 _ _)
      | (with_reducible exact tabardref04_Name.mono _ _)
      | (with_reducible exact LeO.refl _)
      | (with_reducible exact LeO.none _)
      | (with_reducible refine LeO.ite ?_ ?_)
      | (with_reducible refine LeO.bind ?_ (fun _ => ?_))
      | exact ih0 _ _
      | exact tabardref04_Name.mono _ _
      | exact LeO.none _
      | refine LeO.ite ?_ ?_
      | refine LeO.bind ?_ (fun _ => ?_)
theorem tabardref04_Rises.mono : ∀ a0 k, LeO (tabardref04_Rises.f k a0) (tabardref04_Rises.f (k + 1) a0) := by
  intro a0 k
  have ih0 := tabardref04_Rises.mono_l k
  unfold tabardref04_Rises.f
  repeat' first
      | (with_reducible exact ih0 _ _)
      | (with_reducible exact tabardref04_Name.mono _ _)
      | (with_reducible exact LeO.refl _)
      | (with_reducible exact LeO.none _)
      | (with_reducible refine LeO.ite ?_ ?_)
      | (with_reducible refine LeO.bind ?_ (fun _ => ?_))
      | exact ih0 _ _
      | exact tabardref04_Name.mono _ _
      | exact LeO.none _
      | refine LeO.ite ?_ ?_
      | refine LeO.bind ?_ (fun _ => ?_)
def tabardref04_Rises.T4 : Bool × List (List Nat × List Nat) := (true, [([], []), ([], []), ([0, 1], [0, 1]), ([2], [2]), ([3], [3]), ([4], [4]), ([5, 4], [5]), ([6], [6]), ([7, 6], [6, 7]), ([8, 6, 6], [6, 8]), ([9], [9]), ([9], [9]), ([11, 9], [9, 11]), ([10, 12, 9], [9, 10, 12]), ([13, 9], [9, 13]), ([9], [9]), ([9], [9]), ([15, 16, 9], [9, 15, 16]), ([17, 9], [9, 17]), ([14, 18, 9], [9, 14, 18]), ([9, 19, 6], [6, 9, 19]), ([6, 20], [6, 20])])
def tabardref04_Rises.B4 : List Nat := [0, 0, 3, 7, 15, 31, 63, 127, 255, 511, 1023, 1023, 3071, 8191, 16383, 1023, 1023, 99327, 230399, 524287, 1048575, 2097151]
theorem tabardref04_Rises.tab4 : rtab .any (opsOf Try.f26 4) = tabardref04_Rises.T4 := by kernel_rfl
theorem tabardref04_Rises.bits4 : waitsOk tabardref04_Rises.T4.2 tabardref04_Rises.B4 = true := by kernel_rfl
set_option maxHeartbeats 8000000 in
set_option maxRecDepth 100000 in
theorem tabardref04_Rises.calls (k : Nat) (A0 : Option Addr) (c0 : Nat) (l0 : List ByteArray) (r : Bool) (w : World) (hr0 : Kd.C Kd.string w A0 l0.length l0) (hc0 : l0.length ≤ c0) (h : tabardref04_Rises.f k l0 = some r) :
    Calls Try.prog 26 #[.slice A0 l0.length c0] w fun e w' => e = .returned (.bool r) ∧ Below w.heap.size w w' := by
  have HR0 := mk hr0
  have HC0 := mk hc0
  clear hr0 hc0
  have HB := mk (Below.refl w.heap.size w)
  have H : (tabardref04_Rises.l0 k l0 0) = some r := h
  clear h
  have H' := mk H
  clear H
  go_enter Try.func26, Try.ntmps26
  go_wp2
  go_loopg [3] k (fun kq v3 w' => ∃ (x3_1 : Int), v3 = .int .i64 x3_1 ∧ Aside0 (tabardref04_Rises.l0 kq l0 x3_1 = some r) ∧ Aside0 (kq ≤ k) ∧ Aside0 (Below w.heap.size w w'))
  case atStart => exact ⟨(0), kq3, H', ⟨Nat.le_refl _⟩, ⟨kq9⟩⟩
  case round =>
    clear H'
    obtain ⟨x3_1, rfl, HA, HK1, HB⟩ := hrel
    cases gk with
    | zero => exact absurd HA.out (by simp [tabardref04_Rises.l0])
    | succ k1 =>
      (have H := HA.out); clear HA; (simp only [tabardref04_Rises.l0] at H); replace H := ic_ H; obtain ⟨c2, H⟩ | ⟨c2, H⟩ := H
      · (have c2b0 : decide (x3_1 < (l0.length : Int)) = true := decide_eq_true c2); clear c2; replace H := ic_ H; obtain ⟨c3, H⟩ | ⟨c3, H⟩ := H
        · (have c3b0 : decide (0 ≤ x3_1) = true := decide_eq_true c3); clear c3; (replace H := Option.bind_eq_some_iff.mp H); (obtain ⟨t1410, A40, H⟩ := H); (replace H : (if t1410 = true then (if x3_1 > 0 then (if 0 ≤ (wrap64 (x3_1 - 1)) then (if (wrap64 (x3_1 - 1)) < (l0.length : Int) then (if ((Op.bytesLess ((rdOf ByteArray.empty l0 (wrap64 (x3_1 - 1))).toList) ((rdOf ByteArray.empty l0 x3_1).toList)) = true) then (tabardref04_Rises.l0 k1 l0 (wrap64 (x3_1 + 1))) else (some false)) else (none)) else (none)) else (tabardref04_Rises.l0 k1 l0 (wrap64 (x3_1 + 1)))) else (some false)) = some r := H); (have A4 := mk A40); clear A40; (by_cases c5 : t1410 = true)
          · subst c5; (have H1 : (if x3_1 > 0 then (if 0 ≤ (wrap64 (x3_1 - 1)) then (if (wrap64 (x3_1 - 1)) < (l0.length : Int) then (if ((Op.bytesLess ((rdOf ByteArray.empty l0 (wrap64 (x3_1 - 1))).toList) ((rdOf ByteArray.empty l0 x3_1).toList)) = true) then (tabardref04_Rises.l0 k1 l0 (wrap64 (x3_1 + 1))) else (some false)) else (none)) else (none)) else (tabardref04_Rises.l0 k1 l0 (wrap64 (x3_1 + 1)))) = some r := by rw [if_pos rfl] at H; exact H); clear H; (have H := H1); clear H1; replace H := ic_ H; obtain ⟨c6, H⟩ | ⟨c6, H⟩ := H
            · (have c6b0 : decide (0 < x3_1) = true := decide_eq_true c6); clear c6; (obtain ⟨ji7, hji7⟩ : ∃ j_ : Int, (wrap64 (x3_1 - 1)) = j_ := ⟨_, rfl⟩); (replace H : (if 0 ≤ (ji7) then (if (ji7) < (l0.length : Int) then (if ((Op.bytesLess ((rdOf ByteArray.empty l0 (ji7)).toList) ((rdOf ByteArray.empty l0 x3_1).toList)) = true) then (tabardref04_Rises.l0 k1 l0 (wrap64 (x3_1 + 1))) else (some false)) else (none)) else (none)) = some r := by first | (rw [hji7] at H; exact H) | (simp only [hji7] at H ⊢; exact H)); ((try rw [hji7] at A4)); (have hji7w : (IntKind.i64.wrap (x3_1 - 1)) = ji7 := (i64_w _).trans hji7); replace H := ic_ H; obtain ⟨c8, H⟩ | ⟨c8, H⟩ := H
              · (have c8b0 : decide (0 ≤ (ji7)) = true := decide_eq_true c8); clear c8; replace H := ic_ H; obtain ⟨c9, H⟩ | ⟨c9, H⟩ := H
                · (have c9b0 : decide ((ji7) < (l0.length : Int)) = true := decide_eq_true c9); clear c9; replace H := ic_ H; obtain ⟨c10, H⟩ | ⟨c10, H⟩ := H
                  · (have c10b0 : (Op.bytesLess ((rdOf ByteArray.empty l0 (ji7)).toList) ((rdOf ByteArray.empty l0 x3_1).toList)) = true := c10); clear c10; (have H' := mk H); clear H; (try go_wp2); (replace HB := mk (below_drew1 HB.out)); (have p1409 : 0 ≤ (x3_1 : Int) := of_decide_eq_true kq8); (have q1409 : x3_1 < (l0.length : Int) := of_decide_eq_true kq8); (obtain ⟨ad1409, e1409, hx1409_0⟩ := Kd.at_string HR0.out x3_1 p1409 q1409); (have hw1409_0 := hx1409_0); cases e1409; (replace hx1409_0 := (HB.out.cell (World.block_lt_of_cell? w _ hx1409_0)).trans hx1409_0); replace p1409 := eq_true p1409; replace q1409 := eq_true q1409; (have p1411 : 0 ≤ ((ji7) : Int) := of_decide_eq_true kq8); (have q1411 : (ji7) < (l0.length : Int) := of_decide_eq_true kq8); (obtain ⟨ad1411, e1411, hx1411_0⟩ := Kd.at_string HR0.out (ji7) p1411 q1411); (have hw1411_0 := hx1411_0); (obtain rfl : ad1409 = ad1411 := (by injection e1411)); (replace hx1411_0 := (HB.out.cell (World.block_lt_of_cell? w _ hx1411_0)).trans hx1411_0); replace p1411 := eq_true p1411; replace q1411 := eq_true q1411; (have p1412 : 0 ≤ (x3_1 : Int) := of_decide_eq_true kq8); (have q1412 : x3_1 < (l0.length : Int) := of_decide_eq_true kq8); (obtain ⟨ad1412, e1412, hx1412_0⟩ := Kd.at_string HR0.out x3_1 p1412 q1412); (have hw1412_0 := hx1412_0); (obtain rfl : ad1409 = ad1412 := (by injection e1412)); (replace hx1412_0 := (HB.out.cell (World.block_lt_of_cell? w _ hx1412_0)).trans hx1412_0); replace p1412 := eq_true p1412; replace q1412 := eq_true q1412; (refine start_ (n := 22) (S := fun w' => w'.cell? (ad1409.add (x3_1).toNat) = some (.string (rdOf ByteArray.empty l0 x3_1)) ∧ w'.cell? (ad1409.add ((ji7)).toNat) = some (.string (rdOf ByteArray.empty l0 (ji7))) ∧ w'.cell? (ad1409.add (x3_1).toNat) = some (.string (rdOf ByteArray.empty l0 x3_1))) (ds := []) #[false,false,false,false,false,false,false,false,false,false,false,false,false,false,false,false,false,false,false,false,false,false] kq0 rfl rfl ⟨((HB.out.cell (World.block_lt_of_cell? w _ hw1409_0)).trans hw1409_0), ((HB.out.cell (World.block_lt_of_cell? w _ hw1411_0)).trans hw1411_0), ((HB.out.cell (World.block_lt_of_cell? w _ hw1412_0)).trans hw1412_0)⟩ (fun hHeld => ?_); refine with_tabW tabardref04_Rises.tab4 tabardref04_Rises.bits4 (fun HT_ HW_ => ?_)); (generalize wr.drew = w11 at HB hx1409_0 hx1411_0 hx1412_0 hHeld ⊢); refine puT_ 0 10 ?_
                    refine puT_ 1 11 ?_
                    refine puT_ 2 12 ?_
                    refine taT_ 3 13 hHeld ?_
                    (refine onT_ 4 14 (fun K hK => ?_)); (refine goes_ Try.func64 kq0 rfl #[.string (rdOf ByteArray.empty l0 x3_1)] (by rfl) rfl rfl kq7 ?_); (with_reducible refine (tabardref04_Name.calls k1 (rdOf ByteArray.empty l0 x3_1) true _ A4.out).mono ?_); (rintro e w12 ⟨rfl, hb⟩); (refine ⟨_, rfl, ?_⟩); (replace HB := mk (below_step kq9 hb)); ((try clear hb)); ((try clear hb2)); ((try clear hk)); ((try clear hi)); (refine hK.out _ _ ⟨((HB.out.cell (World.block_lt_of_cell? w _ hw1409_0)).trans hw1409_0), ((HB.out.cell (World.block_lt_of_cell? w _ hw1411_0)).trans hw1411_0), ((HB.out.cell (World.block_lt_of_cell? w _ hw1412_0)).trans hw1412_0)⟩ (fun hHeld => ?_)); clear hK K; (refine norm_ (a' := ?_) ?_ ?_); rotate_left
                    · (show Act.put _ (some 14) _ = _); (simp only [Act.put, setIfInBounds_toArray, set_cons_zero, set_cons_succ, i64_w, i32_w]); rfl
                    refine puT_ 5 15 ?_
                    refine puT_ 6 16 ?_
                    refine puT_ 7 17 ?_
                    refine puT_ 8 18 ?_
                    refine puT_ 9 19 ?_
                    refine puT_ 10 20 ?_
                    refine puT_ 11 21 ?_
                    refine puT_ 12 22 ?_
                    refine puT_ 13 23 ?_
                    refine puT_ 15 25 ?_
                    refine puT_ 16 26 ?_
                    refine puT_ 17 27 ?_
                    refine taT_ 14 24 hHeld ?_
                    refine taT_ 18 28 hHeld ?_
                    refine puT_ 19 29 ?_
                    refine puT_ 20 30 ?_
                    refine puT_ 21 31 ?_
                    (refine done_ (done_of HT_.out kq0) ?_); (try go_wp2); (go_roundg k1)
                    case measure => have := HK1.out; omega
                    case rel => exact ⟨(wrap64 (x3_1 + 1)), kq3, H', ⟨kq13⟩, ⟨kq9⟩⟩
                  · (have c10b0 : (Op.bytesLess ((rdOf ByteArray.empty l0 (ji7)).toList) ((rdOf ByteArray.empty l0 x3_1).toList)) = false := by simpa using c10); clear c10; (obtain rfl := Option.some.inj H); (try go_wp2); (replace HB := mk (below_drew1 HB.out)); (have p1409 : 0 ≤ (x3_1 : Int) := of_decide_eq_true kq8); (have q1409 : x3_1 < (l0.length : Int) := of_decide_eq_true kq8); (obtain ⟨ad1409, e1409, hx1409_0⟩ := Kd.at_string HR0.out x3_1 p1409 q1409); (have hw1409_0 := hx1409_0); cases e1409; (replace hx1409_0 := (HB.out.cell (World.block_lt_of_cell? w _ hx1409_0)).trans hx1409_0); replace p1409 := eq_true p1409; replace q1409 := eq_true q1409; (have p1411 : 0 ≤ ((ji7) : Int) := of_decide_eq_true kq8); (have q1411 : (ji7) < (l0.length : Int) := of_decide_eq_true kq8); (obtain ⟨ad1411, e1411, hx1411_0⟩ := Kd.at_string HR0.out (ji7) p1411 q1411); (have hw1411_0 := hx1411_0); (obtain rfl : ad1409 = ad1411 := (by injection e1411)); (replace hx1411_0 := (HB.out.cell (World.block_lt_of_cell? w _ hx1411_0)).trans hx1411_0); replace p1411 := eq_true p1411; replace q1411 := eq_true q1411; (have p1412 : 0 ≤ (x3_1 : Int) := of_decide_eq_true kq8); (have q1412 : x3_1 < (l0.length : Int) := of_decide_eq_true kq8); (obtain ⟨ad1412, e1412, hx1412_0⟩ := Kd.at_string HR0.out x3_1 p1412 q1412); (have hw1412_0 := hx1412_0); (obtain rfl : ad1409 = ad1412 := (by injection e1412)); (replace hx1412_0 := (HB.out.cell (World.block_lt_of_cell? w _ hx1412_0)).trans hx1412_0); replace p1412 := eq_true p1412; replace q1412 := eq_true q1412; (refine start_ (n := 22) (S := fun w' => w'.cell? (ad1409.add (x3_1).toNat) = some (.string (rdOf ByteArray.empty l0 x3_1)) ∧ w'.cell? (ad1409.add ((ji7)).toNat) = some (.string (rdOf ByteArray.empty l0 (ji7))) ∧ w'.cell? (ad1409.add (x3_1).toNat) = some (.string (rdOf ByteArray.empty l0 x3_1))) (ds := []) #[false,false,false,false,false,false,false,false,false,false,false,false,false,false,false,false,false,false,false,false,false,false] kq0 rfl rfl ⟨((HB.out.cell (World.block_lt_of_cell? w _ hw1409_0)).trans hw1409_0), ((HB.out.cell (World.block_lt_of_cell? w _ hw1411_0)).trans hw1411_0), ((HB.out.cell (World.block_lt_of_cell? w _ hw1412_0)).trans hw1412_0)⟩ (fun hHeld => ?_); refine with_tabW tabardref04_Rises.tab4 tabardref04_Rises.bits4 (fun HT_ HW_ => ?_)); (generalize wr.drew = w13 at HB hx1409_0 hx1411_0 hx1412_0 hHeld ⊢); refine puT_ 0 10 ?_
                    refine puT_ 1 11 ?_
                    refine puT_ 2 12 ?_
                    refine taT_ 3 13 hHeld ?_
                    (refine onT_ 4 14 (fun K hK => ?_)); (refine goes_ Try.func64 kq0 rfl #[.string (rdOf ByteArray.empty l0 x3_1)] (by rfl) rfl rfl kq7 ?_); (with_reducible refine (tabardref04_Name.calls k1 (rdOf ByteArray.empty l0 x3_1) true _ A4.out).mono ?_); (rintro e w14 ⟨rfl, hb⟩); (refine ⟨_, rfl, ?_⟩); (replace HB := mk (below_step kq9 hb)); ((try clear hb)); ((try clear hb2)); ((try clear hk)); ((try clear hi)); (refine hK.out _ _ ⟨((HB.out.cell (World.block_lt_of_cell? w _ hw1409_0)).trans hw1409_0), ((HB.out.cell (World.block_lt_of_cell? w _ hw1411_0)).trans hw1411_0), ((HB.out.cell (World.block_lt_of_cell? w _ hw1412_0)).trans hw1412_0)⟩ (fun hHeld => ?_)); clear hK K; (refine norm_ (a' := ?_) ?_ ?_); rotate_left
                    · (show Act.put _ (some 14) _ = _); (simp only [Act.put, setIfInBounds_toArray, set_cons_zero, set_cons_succ, i64_w, i32_w]); rfl
                    refine puT_ 5 15 ?_
                    refine puT_ 6 16 ?_
                    refine puT_ 7 17 ?_
                    refine puT_ 8 18 ?_
                    refine puT_ 9 19 ?_
                    refine puT_ 10 20 ?_
                    refine puT_ 11 21 ?_
                    refine puT_ 12 22 ?_
                    refine puT_ 13 23 ?_
                    refine puT_ 15 25 ?_
                    refine puT_ 16 26 ?_
                    refine puT_ 17 27 ?_
                    refine taT_ 14 24 hHeld ?_
                    refine taT_ 18 28 hHeld ?_
                    refine puT_ 19 29 ?_
                    refine puT_ 20 30 ?_
                    refine puT_ 21 31 ?_
                    (refine done_ (done_of HT_.out kq0) ?_); (try go_wp2); go_ret; (exact ⟨kq20, kq9⟩)
                · (exact absurd H (by simp))
              · (exact absurd H (by simp))
            · (have c6b0 : decide (0 < x3_1) = false := decide_eq_false c6); clear c6; (have H' := mk H); clear H; (try go_wp2); (replace HB := mk (below_drew1 HB.out)); (have p1409 : 0 ≤ (x3_1 : Int) := of_decide_eq_true kq8); (have q1409 : x3_1 < (l0.length : Int) := of_decide_eq_true kq8); (obtain ⟨ad1409, e1409, hx1409_0⟩ := Kd.at_string HR0.out x3_1 p1409 q1409); (have hw1409_0 := hx1409_0); cases e1409; (replace hx1409_0 := (HB.out.cell (World.block_lt_of_cell? w _ hx1409_0)).trans hx1409_0); replace p1409 := eq_true p1409; replace q1409 := eq_true q1409; (refine start_ (n := 22) (S := fun w' => w'.cell? (ad1409.add (x3_1).toNat) = some (.string (rdOf ByteArray.empty l0 x3_1))) (ds := []) #[false,false,false,false,false,false,false,false,false,false,false,false,false,false,false,false,false,false,false,false,false,false] kq0 rfl rfl (((HB.out.cell (World.block_lt_of_cell? w _ hw1409_0)).trans hw1409_0)) (fun hHeld => ?_); refine with_tabW tabardref04_Rises.tab4 tabardref04_Rises.bits4 (fun HT_ HW_ => ?_)); (generalize wr.drew = w15 at HB hx1409_0 hHeld ⊢); refine puT_ 0 10 ?_
              refine puT_ 1 11 ?_
              refine puT_ 2 12 ?_
              refine taT_ 3 13 hHeld ?_
              (refine onT_ 4 14 (fun K hK => ?_)); (refine goes_ Try.func64 kq0 rfl #[.string (rdOf ByteArray.empty l0 x3_1)] (by rfl) rfl rfl kq7 ?_); (with_reducible refine (tabardref04_Name.calls k1 (rdOf ByteArray.empty l0 x3_1) true _ A4.out).mono ?_); (rintro e w16 ⟨rfl, hb⟩); (refine ⟨_, rfl, ?_⟩); (replace HB := mk (below_step kq9 hb)); ((try clear hb)); ((try clear hb2)); ((try clear hk)); ((try clear hi)); (refine hK.out _ _ (((HB.out.cell (World.block_lt_of_cell? w _ hw1409_0)).trans hw1409_0)) (fun hHeld => ?_)); clear hK K; (refine norm_ (a' := ?_) ?_ ?_); rotate_left
              · (show Act.put _ (some 14) _ = _); (simp only [Act.put, setIfInBounds_toArray, set_cons_zero, set_cons_succ, i64_w, i32_w]); rfl
              refine puT_ 5 15 ?_
              refine puT_ 6 16 ?_
              refine puT_ 7 17 ?_
              refine puT_ 8 18 ?_
              refine puT_ 9 19 ?_
              refine pvT_ 10 20 ?_
              refine pvT_ 11 21 ?_
              refine pvT_ 12 22 ?_
              refine pvT_ 13 23 ?_
              refine pvT_ 14 24 ?_
              refine pvT_ 15 25 ?_
              refine pvT_ 16 26 ?_
              refine pvT_ 17 27 ?_
              refine pvT_ 18 28 ?_
              refine pvT_ 19 29 ?_
              refine puT_ 20 30 ?_
              refine puT_ 21 31 ?_
              (refine done_ (done_of HT_.out kq0) ?_); (try go_wp2); (go_roundg k1)
              case measure => have := HK1.out; omega
              case rel => exact ⟨(wrap64 (x3_1 + 1)), kq3, H', ⟨kq13⟩, ⟨kq9⟩⟩
          · (replace c5 := Bool.eq_false_iff.mpr c5); subst c5; (have H1 : (some false) = some r := by rw [if_neg (show ¬ (false = true) by decide)] at H; exact H); clear H; (have H := H1); clear H1; (obtain rfl := Option.some.inj H); (try go_wp2); (replace HB := mk (below_drew1 HB.out)); (have p1409 : 0 ≤ (x3_1 : Int) := of_decide_eq_true kq8); (have q1409 : x3_1 < (l0.length : Int) := of_decide_eq_true kq8); (obtain ⟨ad1409, e1409, hx1409_0⟩ := Kd.at_string HR0.out x3_1 p1409 q1409); (have hw1409_0 := hx1409_0); cases e1409; (replace hx1409_0 := (HB.out.cell (World.block_lt_of_cell? w _ hx1409_0)).trans hx1409_0); replace p1409 := eq_true p1409; replace q1409 := eq_true q1409; (refine start_ (n := 22) (S := fun w' => w'.cell? (ad1409.add (x3_1).toNat) = some (.string (rdOf ByteArray.empty l0 x3_1))) (ds := []) #[false,false,false,false,false,false,false,false,false,false,false,false,false,false,false,false,false,false,false,false,false,false] kq0 rfl rfl (((HB.out.cell (World.block_lt_of_cell? w _ hw1409_0)).trans hw1409_0)) (fun hHeld => ?_); refine with_tabW tabardref04_Rises.tab4 tabardref04_Rises.bits4 (fun HT_ HW_ => ?_)); (generalize wr.drew = w17 at HB hx1409_0 hHeld ⊢); refine puT_ 0 10 ?_
            refine puT_ 1 11 ?_
            refine puT_ 2 12 ?_
            refine taT_ 3 13 hHeld ?_
            (refine onT_ 4 14 (fun K hK => ?_)); (refine goes_ Try.func64 kq0 rfl #[.string (rdOf ByteArray.empty l0 x3_1)] (by rfl) rfl rfl kq7 ?_); (with_reducible refine (tabardref04_Name.calls k1 (rdOf ByteArray.empty l0 x3_1) false _ A4.out).mono ?_); (rintro e w18 ⟨rfl, hb⟩); (refine ⟨_, rfl, ?_⟩); (replace HB := mk (below_step kq9 hb)); ((try clear hb)); ((try clear hb2)); ((try clear hk)); ((try clear hi)); (refine hK.out _ _ (((HB.out.cell (World.block_lt_of_cell? w _ hw1409_0)).trans hw1409_0)) (fun hHeld => ?_)); clear hK K; (refine norm_ (a' := ?_) ?_ ?_); rotate_left
            · (show Act.put _ (some 14) _ = _); (simp only [Act.put, setIfInBounds_toArray, set_cons_zero, set_cons_succ, i64_w, i32_w]); rfl
            refine puT_ 5 15 ?_
            refine puT_ 6 16 ?_
            refine pvT_ 7 17 ?_
            refine pvT_ 8 18 ?_
            refine pvT_ 9 19 ?_
            refine pvT_ 10 20 ?_
            refine pvT_ 11 21 ?_
            refine pvT_ 12 22 ?_
            refine pvT_ 13 23 ?_
            refine pvT_ 14 24 ?_
            refine pvT_ 15 25 ?_
            refine pvT_ 16 26 ?_
            refine pvT_ 17 27 ?_
            refine pvT_ 18 28 ?_
            refine pvT_ 19 29 ?_
            refine pvT_ 20 30 ?_
            refine puT_ 21 31 ?_
            (refine done_ (done_of HT_.out kq0) ?_); (try go_wp2); go_ret; (exact ⟨kq14, kq9⟩)
        · (exact absurd H (by simp))
      · (have c2b0 : decide (x3_1 < (l0.length : Int)) = false := decide_eq_false c2); clear c2; (obtain rfl := Option.some.inj H); go_wp2; go_ret; (exact ⟨kq14, kq9⟩)
end Go.Proofs.Ytjknpmibdkoklaa.Q
