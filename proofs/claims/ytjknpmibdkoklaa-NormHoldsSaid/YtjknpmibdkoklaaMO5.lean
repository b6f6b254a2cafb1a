/- Functions of the given program as Lean functions, each with its contract, and what they answer; words for it. No condition but those of each. -/
import Derived.Test.YtjknpmibdkoklaaMOS
import Derived.Test.YtjknpmibdkoklaaMO2
import Derived.Test.YtjknpmibdkoklaaMO3
import Derived.Test.YtjknpmibdkoklaaMO4
import Derived.Test.YtjknpmibdkoklaaMO1
import Derived.Shelf.SlicesE.DeleteFunc
import Derived.Shelf.SlicesQ.IndexFunc
import Derived.Test.YtjknpmibdkoklaaProg
set_option linter.unusedVariables false
set_option linter.unusedSimpArgs false
namespace Go.Proofs.Ytjknpmibdkoklaa.Q
open Go.RowKit Go.Proofs.YtjknpmibdkoklaaW.PrintWords Go.Proofs.YtjknpmibdkoklaaW.PrintLast Go.Proofs.YtjknpmibdkoklaaW.PrintMore
open Aside0 (mk)
open List (setIfInBounds_toArray set_cons_zero set_cons_succ)
attribute [local go_sem] max2_int min2_int max_two min_two max_three min_three max_four min_four
set_option linter.unusedVariables false
set_option linter.unusedSimpArgs false
attribute [local go_sem] fld99_2 fld103_2 fld160_0 fld160_1
end Go.Proofs.Ytjknpmibdkoklaa.Q
namespace Go.Proofs.Ytjknpmibdkoklaa.Q
open Go.RowKit Go.Proofs.YtjknpmibdkoklaaW.PrintWords Go.Proofs.YtjknpmibdkoklaaW.PrintLast Go.Proofs.YtjknpmibdkoklaaW.PrintMore
open Aside0 (mk)
open List (setIfInBounds_toArray set_cons_zero set_cons_succ)
attribute [local go_sem] max2_int min2_int max_two min_two max_three min_three max_four min_four
set_option linter.unusedVariables false
set_option linter.unusedSimpArgs false
attribute [local go_sem] fld99_2 fld103_2 fld160_0 fld160_1
end Go.Proofs.Ytjknpmibdkoklaa.Q
namespace Go.Proofs.Ytjknpmibdkoklaa.Q
open Go.RowKit Go.Proofs.YtjknpmibdkoklaaW.PrintWords Go.Proofs.YtjknpmibdkoklaaW.PrintLast Go.Proofs.YtjknpmibdkoklaaW.PrintMore
open Aside0 (mk)
open List (setIfInBounds_toArray set_cons_zero set_cons_succ)
attribute [local go_sem] max2_int min2_int max_two min_two max_three min_three max_four min_four
set_option linter.unusedVariables false
set_option linter.unusedSimpArgs false
attribute [local go_sem] fld99_2 fld103_2 fld160_0 fld160_1
end Go.Proofs.Ytjknpmibdkoklaa.Q
namespace Go.Proofs.Ytjknpmibdkoklaa.Q
open Go.RowKit Go.Proofs.YtjknpmibdkoklaaW.PrintWords Go.Proofs.YtjknpmibdkoklaaW.PrintLast Go.Proofs.YtjknpmibdkoklaaW.PrintMore
open Aside0 (mk)
open List (setIfInBounds_toArray set_cons_zero set_cons_succ)
attribute [local go_sem] max2_int min2_int max_two min_two max_three min_three max_four min_four
set_option linter.unusedVariables false
set_option linter.unusedSimpArgs false
attribute [local go_sem] fld99_2 fld103_2 fld160_0 fld160_1
def tabardlaw09_same.l0 : Nat → List ByteArray → List ByteArray → Int → Int → Option (Bool)
  | 0, _, _, _, _ => none
  | k + 1, x0, x1, x12, x13 => if x13 < x12 then (if 0 ≤ x13 then (if x13 < (x0.length : Int) then (if x13 < (x1.length : Int) then (if (rdOf ByteArray.empty x0 x13).toList = (rdOf ByteArray.empty x1 x13).toList then (tabardlaw09_same.l0 k x0 x1 x12 (wrap64 (x13 + 1))) else (some false)) else (none)) else (none)) else (none)) else (some true)
def tabardlaw09_same.f (k : Nat) (l0 : List ByteArray) (l1 : List ByteArray) : Option (Bool) := if (l0.length : Int) = (l1.length : Int) then (tabardlaw09_same.l0 k l0 l1 (l0.length : Int) 0) else (some false)
theorem tabardlaw09_same.mono_l : ∀ k, (∀ y0 y1 y2 y3, LeO (tabardlaw09_same.l0 k y0 y1 y2 y3) (tabardlaw09_same.l0 (k + 1) y0 y1 y2 y3))
  | 0 => fun _ _ _ _ r h => by simp [tabardlaw09_same.l0] at h
  | k + 1 => by
    have ih0 := tabardlaw09_same.mono_l k
    · intro y0 y1 y2 y3; (unfold tabardlaw09_same.l0)
      repeat' first
      | (with_reducible exact ih0 _ _ _ _)
      | (with_reducible exact LeO.refl _)
      | (with_reducible exact LeO.none _)
      | (with_reducible refine LeO.ite ?_ ?_)
      | (with_reducible refine LeO.bind ?_ (fun _ => ?_))
      | exact ih0 _ _ _ _
      | exact LeO.none _
      | refine LeO.ite ?_ ?_
      | refine LeO.bind ?_ (fun _ => ?_)
theorem tabardlaw09_same.mono : ∀ a0 a1 k, LeO (tabardlaw09_same.f k a0 a1) (tabardlaw09_same.f (k + 1) a0 a1) := by
  intro a0 a1 k
  have ih0 := tabardlaw09_same.mono_l k
  unfold tabardlaw09_same.f
  repeat' first
      | (with_reducible exact ih0 _ _ _ _)
      | (with_reducible exact LeO.refl _)
      | (with_reducible exact LeO.none _)
      | (with_reducible refine LeO.ite ?_ ?_)
      | (with_reducible refine LeO.bind ?_ (fun _ => ?_))
      | exact ih0 _ _ _ _
      | exact LeO.none _
      | refine LeO.ite ?_ ?_
      | refine LeO.bind ?_ (fun _ => ?_)
set_option maxHeartbeats 8000000 in
set_option maxRecDepth 100000 in
theorem tabardlaw09_same.calls (k : Nat) (A0 : Option Addr) (c0 : Nat) (l0 : List ByteArray) (A1 : Option Addr) (c1 : Nat) (l1 : List ByteArray) (r : Bool) (w : World) (hr0 : Kd.C Kd.string w A0 l0.length l0) (hc0 : l0.length ≤ c0) (hr1 : Kd.C Kd.string w A1 l1.length l1) (hc1 : l1.length ≤ c1) (h : tabardlaw09_same.f k l0 l1 = some r) :
    Calls Try.prog 51 #[.slice A0 l0.length c0, .slice A1 l1.length c1] w fun e w' => e = .returned (.bool r) ∧ Drawn0 w w' := by
  have HR0 := mk hr0
  have HC0 := mk hc0
  clear hr0 hc0
  have HR1 := mk hr1
  have HC1 := mk hc1
  clear hr1 hc1
  have H : (if (l0.length : Int) = (l1.length : Int) then (tabardlaw09_same.l0 k l0 l1 (l0.length : Int) 0) else (some false)) = some r := h
  clear h
  by_cases c3 : (l0.length : Int) = (l1.length : Int)
  · rw [if_pos c3] at H
    have c3b0 := eT_ c3
    have c3b1 := nF_ c3
    have c3b2 : (l0.length == l1.length) = true := by first | simpa using c3 | (simp at c3 ⊢; omega)
    clear c3
    have H' := mk H
    clear H
    go_enter Try.func51, Try.ntmps51
    go_wp2
    go_loopg [13] k (fun kq v13 w' => ∃ (x13_1 : Int), v13 = .int .i64 x13_1 ∧ Aside0 (tabardlaw09_same.l0 kq l0 l1 (l0.length : Int) x13_1 = some r) ∧ Aside0 (kq ≤ k) ∧ Drawn0 w w')
    case atStart => exact ⟨(0), kq3, H', ⟨Nat.le_refl _⟩, kq5⟩
    case round =>
      clear H'; (obtain ⟨x13_1, rfl, HA, HK1, ⟨m1, rfl⟩⟩ := hrel)
      cases gk with
      | zero => exact absurd HA.out (by simp [tabardlaw09_same.l0])
      | succ k1 =>
        (have H := HA.out); clear HA; (simp only [tabardlaw09_same.l0] at H); replace H := ic_ H; obtain ⟨c4, H⟩ | ⟨c4, H⟩ := H
        · (have c4b0 : decide (x13_1 < (l0.length : Int)) = true := decide_eq_true c4); clear c4; replace H := ic_ H; obtain ⟨c5, H⟩ | ⟨c5, H⟩ := H
          · (have c5b0 : decide (0 ≤ x13_1) = true := decide_eq_true c5); clear c5; replace H := ic_ H; obtain ⟨c6, H⟩ | ⟨c6, H⟩ := H
            · (have c6b0 : decide (x13_1 < (l0.length : Int)) = true := decide_eq_true c6); clear c6; replace H := ic_ H; obtain ⟨c7, H⟩ | ⟨c7, H⟩ := H
              · (have c7b0 : decide (x13_1 < (l1.length : Int)) = true := decide_eq_true c7); clear c7; replace H := ic_ H; obtain ⟨c8, H⟩ | ⟨c8, H⟩ := H
                · (obtain ⟨c8b0, c8b1⟩ := eTn_ c8); clear c8; (have H' := mk H); clear H; (have p772 : 0 ≤ (x13_1 : Int) := of_decide_eq_true kq8); (have q772 : x13_1 < (l0.length : Int) := of_decide_eq_true kq8); (obtain ⟨ad772, e772, hx772_0⟩ := Kd.at_string HR0.out x13_1 p772 q772); cases e772; replace p772 := eq_true p772; replace q772 := eq_true q772; (have p773 : 0 ≤ (x13_1 : Int) := of_decide_eq_true kq8); (have q773 : x13_1 < (l1.length : Int) := of_decide_eq_true kq8); (obtain ⟨ad773, e773, hx773_0⟩ := Kd.at_string HR1.out x13_1 p773 q773); cases e773; replace p773 := eq_true p773; replace q773 := eq_true q773; go_wp2; (repeat (go_quiet (fail); try go_wp2)); (go_roundg k1)
                  case measure => have := HK1.out; omega
                  case rel => exact ⟨(wrap64 (x13_1 + 1)), kq3, H', ⟨kq12⟩, kq5⟩
                · (obtain ⟨c8b0, c8b1⟩ := eFn_ c8); (obtain rfl := Option.some.inj H); (have p772 : 0 ≤ (x13_1 : Int) := of_decide_eq_true kq8); (have q772 : x13_1 < (l0.length : Int) := of_decide_eq_true kq8); (obtain ⟨ad772, e772, hx772_0⟩ := Kd.at_string HR0.out x13_1 p772 q772); cases e772; replace p772 := eq_true p772; replace q772 := eq_true q772; (have p773 : 0 ≤ (x13_1 : Int) := of_decide_eq_true kq8); (have q773 : x13_1 < (l1.length : Int) := of_decide_eq_true kq8); (obtain ⟨ad773, e773, hx773_0⟩ := Kd.at_string HR1.out x13_1 p773 q773); cases e773; replace p773 := eq_true p773; replace q773 := eq_true q773; go_wp2; (repeat (go_quiet (fail); try go_wp2)); go_ret; (exact ⟨kq3, kq5⟩)
              · (exact absurd H (by simp))
            · (exact absurd H (by simp))
          · (exact absurd H (by simp))
        · (have c4b0 : decide (x13_1 < (l0.length : Int)) = false := decide_eq_false c4); clear c4; (obtain rfl := Option.some.inj H); go_wp2; go_ret; (exact ⟨kq3, kq5⟩)
  · rw [if_neg c3] at H
    have c3b0 := eF_ c3
    have c3b1 := nT_ c3
    have c3b2 : (l0.length == l1.length) = false := by first | simpa using c3 | (simp at c3 ⊢; omega)
    obtain rfl := Option.some.inj H
    go_enter Try.func51, Try.ntmps51
    go_wp2
    go_ret
    exact ⟨kq3, kq5⟩
end Go.Proofs.Ytjknpmibdkoklaa.Q
namespace Go.Proofs.Ytjknpmibdkoklaa.Q
open Go.RowKit Go.Proofs.YtjknpmibdkoklaaW.PrintWords Go.Proofs.YtjknpmibdkoklaaW.PrintLast Go.Proofs.YtjknpmibdkoklaaW.PrintMore
open Aside0 (mk)
open List (setIfInBounds_toArray set_cons_zero set_cons_succ)
attribute [local go_sem] max2_int min2_int max_two min_two max_three min_three max_four min_four
set_option linter.unusedVariables false
set_option linter.unusedSimpArgs false
attribute [local go_sem] fld99_2 fld103_2 fld160_0 fld160_1
def tabardlaw09_numbers.l0 : Nat → List Int → List Int → Int → Int → Option (Bool)
  | 0, _, _, _, _ => none
  | k + 1, x0, x1, x12, x13 => if x13 < x12 then (if 0 ≤ x13 then (if x13 < (x0.length : Int) then (if x13 < (x1.length : Int) then (if (rd x0 x13) = (rd x1 x13) then (tabardlaw09_numbers.l0 k x0 x1 x12 (wrap64 (x13 + 1))) else (some false)) else (none)) else (none)) else (none)) else (some true)
def tabardlaw09_numbers.f (k : Nat) (l0 : List Int) (l1 : List Int) : Option (Bool) := if (l0.length : Int) = (l1.length : Int) then (tabardlaw09_numbers.l0 k l0 l1 (l0.length : Int) 0) else (some false)
theorem tabardlaw09_numbers.mono_l : ∀ k, (∀ y0 y1 y2 y3, LeO (tabardlaw09_numbers.l0 k y0 y1 y2 y3) (tabardlaw09_numbers.l0 (k + 1) y0 y1 y2 y3))
  | 0 => fun _ _ _ _ r h => by simp [tabardlaw09_numbers.l0] at h
  | k + 1 => by
    have ih0 := tabardlaw09_numbers.mono_l k
    · intro y0 y1 y2 y3; (unfold tabardlaw09_numbers.l0)
      repeat' first
      | (with_reducible exact ih0 _ _ _ _)
      | (with_reducible exact LeO.refl _)
      | (with_reducible exact LeO.none _)
      | (with_reducible refine LeO.ite ?_ ?_)
      | (with_reducible refine LeO.bind ?_ (fun _ => ?_))
      | exact ih0 _ _ _ _
      | exact LeO.none _
      | refine LeO.ite ?_ ?_
      | refine LeO.bind ?_ (fun _ => ?_)
theorem tabardlaw09_numbers.mono : ∀ a0 a1 k, LeO (tabardlaw09_numbers.f k a0 a1) (tabardlaw09_numbers.f (k + 1) a0 a1) := by
  intro a0 a1 k
  have ih0 := tabardlaw09_numbers.mono_l k
  unfold tabardlaw09_numbers.f
  repeat' first
      | (with_reducible exact ih0 _ _ _ _)
      | (with_reducible exact LeO.refl _)
      | (with_reducible exact LeO.none _)
      | (with_reducible refine LeO.ite ?_ ?_)
      | (with_reducible refine LeO.bind ?_ (fun _ => ?_))
      | exact ih0 _ _ _ _
      | exact LeO.none _
      | refine LeO.ite ?_ ?_
      | refine LeO.bind ?_ (fun _ => ?_)
set_option maxHeartbeats 8000000 in
set_option maxRecDepth 100000 in
theorem tabardlaw09_numbers.calls (k : Nat) (A0 : Option Addr) (c0 : Nat) (l0 : List Int) (A1 : Option Addr) (c1 : Nat) (l1 : List Int) (r : Bool) (w : World) (hr0 : Kd.C (Kd.int .i64) w A0 l0.length l0) (hc0 : l0.length ≤ c0) (hr1 : Kd.C (Kd.int .i64) w A1 l1.length l1) (hc1 : l1.length ≤ c1) (h : tabardlaw09_numbers.f k l0 l1 = some r) :
    Calls Try.prog 52 #[.slice A0 l0.length c0, .slice A1 l1.length c1] w fun e w' => e = .returned (.bool r) ∧ Drawn0 w w' := by
  have HR0 := mk hr0
  have HC0 := mk hc0
  clear hr0 hc0
  have HR1 := mk hr1
  have HC1 := mk hc1
  clear hr1 hc1
  have H : (if (l0.length : Int) = (l1.length : Int) then (tabardlaw09_numbers.l0 k l0 l1 (l0.length : Int) 0) else (some false)) = some r := h
  clear h
  by_cases c3 : (l0.length : Int) = (l1.length : Int)
  · rw [if_pos c3] at H
    have c3b0 := eT_ c3
    have c3b1 := nF_ c3
    have c3b2 : (l0.length == l1.length) = true := by first | simpa using c3 | (simp at c3 ⊢; omega)
    clear c3
    have H' := mk H
    clear H
    go_enter Try.func52, Try.ntmps52
    go_wp2
    go_loopg [13] k (fun kq v13 w' => ∃ (x13_1 : Int), v13 = .int .i64 x13_1 ∧ Aside0 (tabardlaw09_numbers.l0 kq l0 l1 (l0.length : Int) x13_1 = some r) ∧ Aside0 (kq ≤ k) ∧ Drawn0 w w')
    case atStart => exact ⟨(0), kq3, H', ⟨Nat.le_refl _⟩, kq5⟩
    case round =>
      clear H'; (obtain ⟨x13_1, rfl, HA, HK1, ⟨m1, rfl⟩⟩ := hrel)
      cases gk with
      | zero => exact absurd HA.out (by simp [tabardlaw09_numbers.l0])
      | succ k1 =>
        (have H := HA.out); clear HA; (simp only [tabardlaw09_numbers.l0] at H); replace H := ic_ H; obtain ⟨c4, H⟩ | ⟨c4, H⟩ := H
        · (have c4b0 : decide (x13_1 < (l0.length : Int)) = true := decide_eq_true c4); clear c4; replace H := ic_ H; obtain ⟨c5, H⟩ | ⟨c5, H⟩ := H
          · (have c5b0 : decide (0 ≤ x13_1) = true := decide_eq_true c5); clear c5; replace H := ic_ H; obtain ⟨c6, H⟩ | ⟨c6, H⟩ := H
            · (have c6b0 : decide (x13_1 < (l0.length : Int)) = true := decide_eq_true c6); clear c6; replace H := ic_ H; obtain ⟨c7, H⟩ | ⟨c7, H⟩ := H
              · (have c7b0 : decide (x13_1 < (l1.length : Int)) = true := decide_eq_true c7); clear c7; replace H := ic_ H; obtain ⟨c8, H⟩ | ⟨c8, H⟩ := H
                · (obtain ⟨c8b0, c8b1⟩ := eTn_ c8); clear c8; (have H' := mk H); clear H; (have p774 : 0 ≤ (x13_1 : Int) := of_decide_eq_true kq8); (have q774 : x13_1 < (l0.length : Int) := of_decide_eq_true kq8); (obtain ⟨ad774, e774, hx774_0⟩ := Kd.at_int HR0.out x13_1 p774 q774); cases e774; replace p774 := eq_true p774; replace q774 := eq_true q774; (have p775 : 0 ≤ (x13_1 : Int) := of_decide_eq_true kq8); (have q775 : x13_1 < (l1.length : Int) := of_decide_eq_true kq8); (obtain ⟨ad775, e775, hx775_0⟩ := Kd.at_int HR1.out x13_1 p775 q775); cases e775; replace p775 := eq_true p775; replace q775 := eq_true q775; go_wp2; (repeat (go_quiet (fail); try go_wp2)); (go_roundg k1)
                  case measure => have := HK1.out; omega
                  case rel => exact ⟨(wrap64 (x13_1 + 1)), kq3, H', ⟨kq12⟩, kq5⟩
                · (obtain ⟨c8b0, c8b1⟩ := eFn_ c8); (obtain rfl := Option.some.inj H); (have p774 : 0 ≤ (x13_1 : Int) := of_decide_eq_true kq8); (have q774 : x13_1 < (l0.length : Int) := of_decide_eq_true kq8); (obtain ⟨ad774, e774, hx774_0⟩ := Kd.at_int HR0.out x13_1 p774 q774); cases e774; replace p774 := eq_true p774; replace q774 := eq_true q774; (have p775 : 0 ≤ (x13_1 : Int) := of_decide_eq_true kq8); (have q775 : x13_1 < (l1.length : Int) := of_decide_eq_true kq8); (obtain ⟨ad775, e775, hx775_0⟩ := Kd.at_int HR1.out x13_1 p775 q775); cases e775; replace p775 := eq_true p775; replace q775 := eq_true q775; go_wp2; (repeat (go_quiet (fail); try go_wp2)); go_ret; (exact ⟨kq3, kq5⟩)
              · (exact absurd H (by simp))
            · (exact absurd H (by simp))
          · (exact absurd H (by simp))
        · (have c4b0 : decide (x13_1 < (l0.length : Int)) = false := decide_eq_false c4); clear c4; (obtain rfl := Option.some.inj H); go_wp2; go_ret; (exact ⟨kq3, kq5⟩)
  · rw [if_neg c3] at H
    have c3b0 := eF_ c3
    have c3b1 := nT_ c3
    have c3b2 : (l0.length == l1.length) = false := by first | simpa using c3 | (simp at c3 ⊢; omega)
    obtain rfl := Option.some.inj H
    go_enter Try.func52, Try.ntmps52
    go_wp2
    go_ret
    exact ⟨kq3, kq5⟩
end Go.Proofs.Ytjknpmibdkoklaa.Q
namespace Go.Proofs.Ytjknpmibdkoklaa.Q
open Go.RowKit Go.Proofs.YtjknpmibdkoklaaW.PrintWords Go.Proofs.YtjknpmibdkoklaaW.PrintLast Go.Proofs.YtjknpmibdkoklaaW.PrintMore
open Aside0 (mk)
open List (setIfInBounds_toArray set_cons_zero set_cons_succ)
attribute [local go_sem] max2_int min2_int max_two min_two max_three min_three max_four min_four
set_option linter.unusedVariables false
set_option linter.unusedSimpArgs false
attribute [local go_sem] fld99_2 fld103_2 fld160_0 fld160_1
def tabardlaw09_small.l0 : Nat → List Int → List Int → Int → Int → Option (List Int)
  | 0, _, _, _, _ => none
  | k + 1, x0, x5, x10, x11 => if x11 < x10 then (if x11 < (x0.length : Int) then (if 0 ≤ x11 then (if x11 < (x5.length : Int) then (tabardlaw09_small.l0 k x0 (x5.set (x11 : Int).toNat (Int.tmod (rd x0 x11) 1000)) x10 (wrap64 (x11 + 1))) else (none)) else (none)) else (tabardlaw09_small.l0 k x0 x5 x10 (wrap64 (x11 + 1)))) else (some x5)
def tabardlaw09_small.f (k : Nat) (l0 : List Int) (a1 : Int) : Option (List Int) := if 0 ≤ a1 then (if (a1 : Int).toNat ≤ 35184372088832 then ((some (List.replicate (a1 : Int).toNat 0 : List Int)).bind fun y799 => (tabardlaw09_small.l0 k l0 y799 (y799.length : Int) 0)) else (none)) else (none)
theorem tabardlaw09_small.mono_l : ∀ k, (∀ y0 y1 y2 y3, LeO (tabardlaw09_small.l0 k y0 y1 y2 y3) (tabardlaw09_small.l0 (k + 1) y0 y1 y2 y3))
  | 0 => fun _ _ _ _ r h => by simp [tabardlaw09_small.l0] at h
  | k + 1 => by
    have ih0 := tabardlaw09_small.mono_l k
    · intro y0 y1 y2 y3; (unfold tabardlaw09_small.l0)
      repeat' first
      | (with_reducible exact ih0 _ _ _ _)
      | (with_reducible exact LeO.refl _)
      | (with_reducible exact LeO.none _)
      | (with_reducible refine LeO.ite ?_ ?_)
      | (with_reducible refine LeO.bind ?_ (fun _ => ?_))
      | exact ih0 _ _ _ _
      | exact LeO.none _
      | refine LeO.ite ?_ ?_
      | refine LeO.bind ?_ (fun _ => ?_)
theorem tabardlaw09_small.mono : ∀ a0 a1 k, LeO (tabardlaw09_small.f k a0 a1) (tabardlaw09_small.f (k + 1) a0 a1) := by
  intro a0 a1 k
  have ih0 := tabardlaw09_small.mono_l k
  unfold tabardlaw09_small.f
  repeat' first
      | (with_reducible exact ih0 _ _ _ _)
      | (with_reducible exact LeO.refl _)
      | (with_reducible exact LeO.none _)
      | (with_reducible refine LeO.ite ?_ ?_)
      | (with_reducible refine LeO.bind ?_ (fun _ => ?_))
      | exact ih0 _ _ _ _
      | exact LeO.none _
      | refine LeO.ite ?_ ?_
      | refine LeO.bind ?_ (fun _ => ?_)
set_option maxHeartbeats 8000000 in
set_option maxRecDepth 100000 in
theorem tabardlaw09_small.calls (k : Nat) (A0 : Option Addr) (c0 : Nat) (l0 : List Int) (a1 : Int) (r : List Int) (w : World) (hr0 : Kd.C (Kd.int .i64) w A0 l0.length l0) (hc0 : l0.length ≤ c0) (h : tabardlaw09_small.f k l0 a1 = some r) :
    Calls Try.prog 45 #[.slice A0 l0.length c0, .int .i64 a1] w fun e w' => ∃ v0_ : Value, e = .returned (v0_) ∧ Kd.R (Kd.int .i64) 2 w' w.heap.size (fun _ => True) v0_ r ∧ Below w.heap.size w w' := by
  have HR0 := mk hr0
  have HC0 := mk hc0
  clear hr0 hc0
  have HB := mk (Below.refl w.heap.size w)
  have H : (if 0 ≤ a1 then (if (a1 : Int).toNat ≤ 35184372088832 then ((some (List.replicate (a1 : Int).toNat 0 : List Int)).bind fun y799 => (tabardlaw09_small.l0 k l0 y799 (y799.length : Int) 0)) else (none)) else (none)) = some r := h
  clear h
  by_cases c3 : 0 ≤ a1
  · rw [if_pos c3] at H
    have c3b0 := eq_true c3
    have c3b1 : decide (0 ≤ a1) = true := decide_eq_true c3
    clear c3
    replace H := ic_ H; obtain ⟨c4, H⟩ | ⟨c4, H⟩ := H
    · (have c4b0 := eq_true c4); (have c4b1 : decide ((a1 : Int).toNat ≤ 35184372088832) = true := decide_eq_true c4); clear c4; (obtain ⟨y799, hy799⟩ : ∃ y_ : List Int, y_ = (List.replicate (a1 : Int).toNat 0) := ⟨_, rfl⟩); (replace H : (tabardlaw09_small.l0 k l0 y799 (y799.length : Int) 0) = some r := by first | (rw [hy799]; with_reducible exact H) | (have H2_ := (Option.bind_some _ _).symm.trans H; rw [hy799]; with_reducible exact H2_) | (have H2_ := (Option.bind_some _ _).symm.trans H; with_reducible exact H2_) | with_reducible exact H | (rw [hy799]; exact H) | exact H); (have Ny799 := mk hy799); clear hy799; (have H' := mk H); clear H; (go_enter Try.func45, Try.ntmps45); (go_wp2_with (first | ((with_reducible refine gate_dst (N := 8) rfl ?_); refine Kd.R_make (Kd.int .i64) _ 2 rfl (N := 8) rfl 55 _ _ rfl a1 rfl rfl Try.underlying55 (.int .i64 0) 8 info2 rfl kq2 kq1 0 (ok := fun _ => True) (okp := fun _ => True) rfl (fun _ hk => hk) trivial (of_decide_eq_true kq8) (Nat.le_trans (Nat.mul_le_mul_right _ (of_decide_eq_true kq8 : a1.toNat ≤ 35184372088832)) kq1) (Below.refl _ _) (Nat.le_refl _) ?_; intro v800 w5 ho6 hb hg_ hnew_; clear hg_ hnew_; (first | rw [← Ny799.out] at ho6 | (simp only [Int.reduceToNat] at ho6; rw [← Ny799.out] at ho6)); have HO801 := mk (Kd.R_lower ho6 (below_size kq9)); replace HB := mk (below_step kq9 hb); clear hb ho6; obtain ⟨Ao7, co7, eo7⟩ := Kd.R_slice HO801.out; subst eo7))); (go_loopg [11] k (fun kq v11 w' => ∃ (x5_1 : List Int) (x11_1 : Int), v11 = .int .i64 x11_1 ∧ Aside0 (tabardlaw09_small.l0 kq l0 x5_1 (y799.length : Int) x11_1 = some r) ∧ Aside0 (kq ≤ k) ∧ Aside0 (Kd.R (Kd.int .i64) 2 w' w.heap.size (fun _ => True) (.slice Ao7 y799.length co7) x5_1) ∧ Aside0 (Below w.heap.size w w')))
      case atStart => exact ⟨(y799), (0), kq3, H', ⟨Nat.le_refl _⟩, ⟨(kq17 HO801)⟩, ⟨kq9⟩⟩
      case round =>
        clear H'; (obtain ⟨x5_1, x11_1, rfl, HA, HK1, HO_5, HB⟩ := hrel); (have hl5_1 := (Kd.R_reads' HO_5.out).1); (rw [hl5_1] at HO_5); ((try simp only [hl5_1]))
        cases gk with
        | zero => exact absurd HA.out (by simp [tabardlaw09_small.l0])
        | succ k1 =>
          (have H := HA.out); clear HA; (simp only [tabardlaw09_small.l0] at H); replace H := ic_ H; obtain ⟨c8, H⟩ | ⟨c8, H⟩ := H
          · (have c8b0 : decide (x11_1 < (y799.length : Int)) = true := decide_eq_true c8); ((try (have c8q := c8b0; rw [hl5_1] at c8q))); clear c8; replace H := ic_ H; obtain ⟨c9, H⟩ | ⟨c9, H⟩ := H
            · (have c9b0 : decide (x11_1 < (l0.length : Int)) = true := decide_eq_true c9); clear c9; replace H := ic_ H; obtain ⟨c10, H⟩ | ⟨c10, H⟩ := H
              · (have c10b0 : decide (0 ≤ x11_1) = true := decide_eq_true c10); clear c10; replace H := ic_ H; obtain ⟨c11, H⟩ | ⟨c11, H⟩ := H
                · (have c11b0 : decide (x11_1 < (x5_1.length : Int)) = true := decide_eq_true c11); clear c11; (obtain ⟨y803, hy803⟩ : ∃ y_ : List Int, y_ = (x5_1.set (x11_1 : Int).toNat (Int.tmod (rd l0 x11_1) 1000)) := ⟨_, rfl⟩); (replace H : (tabardlaw09_small.l0 k1 l0 y803 (y799.length : Int) (wrap64 (x11_1 + 1))) = some r := by first | (rw [hy803]; with_reducible exact H) | (have H2_ := (Option.bind_some _ _).symm.trans H; rw [hy803]; with_reducible exact H2_) | (have H2_ := (Option.bind_some _ _).symm.trans H; with_reducible exact H2_) | with_reducible exact H | (rw [hy803]; exact H) | exact H); (have Ny803 := mk hy803); clear hy803; (have H' := mk H); clear H; (have p802 : 0 ≤ (x11_1 : Int) := of_decide_eq_true kq8); (have q802 : x11_1 < (l0.length : Int) := of_decide_eq_true kq8); (obtain ⟨ad802, e802, hx802_0⟩ := Kd.at_int HR0.out x11_1 p802 q802); cases e802; (replace hx802_0 := (HB.out.cell (World.block_lt_of_cell? w _ hx802_0)).trans hx802_0); replace p802 := eq_true p802; replace q802 := eq_true q802; (have p12 : 0 ≤ (x11_1 : Int) := of_decide_eq_true kq8); (have q12 : (x11_1 : Int) < ((x5_1.length : Int) : Int) := of_decide_eq_true kq8); (obtain ⟨go12, co12, eo12, gb12, gl12, cl12, HG12⟩ := Kd.R_form HO_5.out kq1); ((first | cases eo12 | (injection eo12 with ea_ en_ ec_; (first | subst ea_ | (injection ea_ with ea_; subst ea_)); subst ec_; clear en_))); (have GB12 := mk gb12); (have GG12 := mk HG12); clear gb12 gl12 HG12; (obtain ⟨hx12_0, hf12_0⟩ := Kd.R_celln 0 HO_5.out (x11_1 : Int) p12 q12); replace p12 := eq_true p12; replace q12 := eq_true q12; (have HP13 := Kd.R_putg HO_5.out (x11_1 : Int) (Int.tmod (rd l0 x11_1) 1000)); (go_wp2_with (first | ((with_reducible refine gate_store (t := 2) (p := 25) rfl ?_); refine store_event (t := 2) (p := 25) (v := ?vo_w14) (w1 := (wr.setCell ⟨go12, (x11_1 : Int).toNat, none⟩ (.int .i64 (Int.tmod (rd l0 x11_1) 1000)))) ?hg ?ho ?hn ?hr ?_; (case ho => rfl); (case hg => rfl); (case hn => rfl); (case hr => exact kq11); intro w14 hw; have hg : wr.grownBy w14 (some go12) := (by rw [hw]; exact HP13.2); have hp_ : Kd.R (Kd.int .i64) 2 w14 w.heap.size (fun _ => True) (.slice (some ⟨go12, 0, none⟩) x5_1.length co7) y803 := (by rw [hw, Ny803.out]; exact HP13.1); clear HP13; replace HO_5 := mk (hp_); replace HB := mk ((by rw [hw]; exact below_set (HB.out) GB12.out : Below w.heap.size w w14)); clear hg hw hp_))); ((try simp only [← hl5_1])); (go_roundg k1)
                  case measure => have := HK1.out; omega
                  case rel => exact ⟨(y803), (wrap64 (x11_1 + 1)), kq3, H', ⟨kq12⟩, ⟨by (try simp only [hl5_1]); (with_reducible repeat (first | apply Kd.R_alloc | apply Kd.R_drewN | apply Kd.R_drew)); exact HO_5.out⟩, ⟨kq9⟩⟩
                · (exact absurd H (by simp))
              · (exact absurd H (by simp))
            · (have c9b0 : decide (x11_1 < (l0.length : Int)) = false := decide_eq_false c9); clear c9; (have H' := mk H); clear H; go_wp2; ((try simp only [← hl5_1])); (go_roundg k1)
              case measure => have := HK1.out; omega
              case rel => exact ⟨(x5_1), (wrap64 (x11_1 + 1)), kq3, H', ⟨kq12⟩, ⟨by (try simp only [hl5_1]); (with_reducible repeat (first | apply Kd.R_alloc | apply Kd.R_drewN | apply Kd.R_drew)); exact HO_5.out⟩, ⟨kq9⟩⟩
          · (have c8b0 : decide (x11_1 < (y799.length : Int)) = false := decide_eq_false c8); ((try (have c8q := c8b0; rw [hl5_1] at c8q))); clear c8; (obtain rfl := Option.some.inj H); go_wp2; go_ret; (exact ⟨_, kq13, (kq17 HO_5), kq9⟩)
    · (exact absurd H (by simp))
  · rw [if_neg c3] at H
    exact absurd H (by simp)
end Go.Proofs.Ytjknpmibdkoklaa.Q
namespace Go.Proofs.Ytjknpmibdkoklaa.Q
open Go.RowKit Go.Proofs.YtjknpmibdkoklaaW.PrintWords Go.Proofs.YtjknpmibdkoklaaW.PrintLast Go.Proofs.YtjknpmibdkoklaaW.PrintMore
open Aside0 (mk)
open List (setIfInBounds_toArray set_cons_zero set_cons_succ)
attribute [local go_sem] max2_int min2_int max_two min_two max_three min_three max_four min_four
set_option linter.unusedVariables false
set_option linter.unusedSimpArgs false
attribute [local go_sem] fld99_2 fld103_2 fld160_0 fld160_1
mutual
def tabardlaw09_value.l0 : Nat → List Int → Int → Bool → List ByteArray → Int → Int → Int → Int → ByteArray → List (S66) → Option (Int × Bool)
  | 0, _, _, _, _, _, _, _, _, _, _ => none
  | k + 1, x2, x8, x9, x70, x71, x72, x805000, x805001, x805002, x805003 => if x72 < x71 then (if 0 ≤ x72 then (if x72 < (x70.length : Int) then (if (rdOf ByteArray.empty x70 x72).toList = x805002.toList then (if x72 < (x2.length : Int) then (tabardlaw09_value.l0 k x2 (rd x2 x72) x9 x70 x71 (wrap64 (x72 + 1)) x805000 x805001 x805002 x805003) else (none)) else (tabardlaw09_value.l0 k x2 x8 x9 x70 x71 (wrap64 (x72 + 1)) x805000 x805001 x805002 x805003)) else (none)) else (none)) else (if x9 = true then (if x8 < 1073741824 then (some (x8, decide (x8 > (-1073741824)))) else (some (x8, false))) else (some (x8, false)))
def tabardlaw09_value.j1 : Nat → Int → Bool → Int → Int → Int → Int → ByteArray → List (S66) → Option (Int × Bool)
  | 0, _, _, _, _, _, _, _, _ => none
  | k + 1, x8, x9, x14, x16, x805000, x805001, x805002, x805003 => if x9 = true then (if x805000 = 3 then (if (wrap64 (x14 + x16)) < 1073741824 then (some (wrap64 (x14 + x16), decide ((wrap64 (x14 + x16)) > (-1073741824)))) else (some (wrap64 (x14 + x16), false))) else (if x805000 = 4 then (if (wrap64 (x14 - x16)) < 1073741824 then (some (wrap64 (x14 - x16), decide ((wrap64 (x14 - x16)) > (-1073741824)))) else (some (wrap64 (x14 - x16), false))) else (if (wrap64 (x14 * x16)) < 1073741824 then (some (wrap64 (x14 * x16), decide ((wrap64 (x14 * x16)) > (-1073741824)))) else (some (wrap64 (x14 * x16), false))))) else (some (x8, false))
def tabardlaw09_value.f : Nat → Int → Int → ByteArray → List (S66) → List ByteArray → List Int → Option (Int × Bool)
  | 0, _, _, _, _, _, _ => none
  | k + 1, a0_0, a0_1, a0_2, l0_3, l1, l2 => if a0_0 = 0 then (if a0_1 < 1073741824 then (some (a0_1, decide (a0_1 > (-1073741824)))) else (some (a0_1, false))) else (if a0_0 = 1 then (tabardlaw09_value.l0 k l2 0 true l1 (l1.length : Int) 0 a0_0 a0_1 a0_2 l0_3) else (if a0_0 = 2 then (if 0 < (l0_3.length : Int) then ((tabardlaw09_value.f k ((rd_T66 l0_3 0).f0) ((rd_T66 l0_3 0).f1) ((rd_T66 l0_3 0).f2) ((rd_T66 l0_3 0).f3) l1 l2).bind fun bt808 => (if bt808.2 = true then (if (wrap64 (-bt808.1)) < 1073741824 then (some (wrap64 (-bt808.1), decide ((wrap64 (-bt808.1)) > (-1073741824)))) else (some (wrap64 (-bt808.1), false))) else (some (wrap64 (-bt808.1), false)))) else (none)) else (if 0 < (l0_3.length : Int) then ((tabardlaw09_value.f k ((rd_T66 l0_3 0).f0) ((rd_T66 l0_3 0).f1) ((rd_T66 l0_3 0).f2) ((rd_T66 l0_3 0).f3) l1 l2).bind fun bt811 => (if 1 < (l0_3.length : Int) then ((tabardlaw09_value.f k ((rd_T66 l0_3 1).f0) ((rd_T66 l0_3 1).f1) ((rd_T66 l0_3 1).f2) ((rd_T66 l0_3 1).f3) l1 l2).bind fun bt814 => (if bt811.2 = true then (tabardlaw09_value.j1 k 0 bt814.2 bt811.1 bt814.1 a0_0 a0_1 a0_2 l0_3) else (tabardlaw09_value.j1 k 0 false bt811.1 bt814.1 a0_0 a0_1 a0_2 l0_3))) else (none))) else (none))))
end
theorem tabardlaw09_value.mono_l : ∀ k, (∀ y0 y1 y2 y3 y4 y5, LeO (tabardlaw09_value.f k y0 y1 y2 y3 y4 y5) (tabardlaw09_value.f (k + 1) y0 y1 y2 y3 y4 y5)) ∧ (∀ y0 y1 y2 y3 y4 y5 y6 y7 y8 y9, LeO (tabardlaw09_value.l0 k y0 y1 y2 y3 y4 y5 y6 y7 y8 y9) (tabardlaw09_value.l0 (k + 1) y0 y1 y2 y3 y4 y5 y6 y7 y8 y9)) ∧ (∀ y0 y1 y2 y3 y4 y5 y6 y7, LeO (tabardlaw09_value.j1 k y0 y1 y2 y3 y4 y5 y6 y7) (tabardlaw09_value.j1 (k + 1) y0 y1 y2 y3 y4 y5 y6 y7))
  | 0 => ⟨fun _ _ _ _ _ _ r h => by simp [tabardlaw09_value.f] at h, fun _ _ _ _ _ _ _ _ _ _ r h => by simp [tabardlaw09_value.l0] at h, fun _ _ _ _ _ _ _ _ r h => by simp [tabardlaw09_value.j1] at h⟩
  | k + 1 => by
    obtain ⟨ih0, ih1, ih2⟩ := tabardlaw09_value.mono_l k
    refine ⟨?_, ?_, ?_⟩ <;> intros <;> (first | unfold tabardlaw09_value.f | unfold tabardlaw09_value.l0 | unfold tabardlaw09_value.j1) <;> repeat' first | (with_reducible first | exact ih0 _ _ _ _ _ _ | exact ih1 _ _ _ _ _ _ _ _ _ _ | exact ih2 _ _ _ _ _ _ _ _ | exact LeO.refl _ | exact LeO.none _ | refine LeO.ite ?_ ?_ | refine LeO.bind ?_ (fun _ => ?_)) | exact ih0 _ _ _ _ _ _ | exact ih1 _ _ _ _ _ _ _ _ _ _ | exact ih2 _ _ _ _ _ _ _ _ | exact LeO.none _ | refine LeO.ite ?_ ?_ | refine LeO.bind ?_ (fun _ => ?_)
theorem tabardlaw09_value.mono : ∀ a0 a1 a2 a3 a4 a5 k, LeO (tabardlaw09_value.f k a0 a1 a2 a3 a4 a5) (tabardlaw09_value.f (k + 1) a0 a1 a2 a3 a4 a5) := by
  intro a0 a1 a2 a3 a4 a5 k
  obtain ⟨ih0, ih1, ih2⟩ := tabardlaw09_value.mono_l k
  exact ih0 a0 a1 a2 a3 a4 a5
set_option maxHeartbeats 8000000 in
set_option maxRecDepth 100000 in
theorem tabardlaw09_value.calls (k : Nat) : ∀ (a0_0 : Int) (a0_1 : Int) (a0_2 : ByteArray) (A0_3 : Option Addr) (c0_3 : Nat) (l0_3 : List (S66)) (A1 : Option Addr) (c1 : Nat) (l1 : List ByteArray) (A2 : Option Addr) (c2 : Nat) (l2 : List Int) (r1 : Int) (r2 : Bool) (w : World) (hr0_3 : Kd.C k66 w A0_3 l0_3.length l0_3) (hc0_3 : l0_3.length ≤ c0_3) (hr1 : Kd.C Kd.string w A1 l1.length l1) (hc1 : l1.length ≤ c1) (hr2 : Kd.C (Kd.int .i64) w A2 l2.length l2) (hc2 : l2.length ≤ c2) (h : tabardlaw09_value.f k a0_0 a0_1 a0_2 l0_3 l1 l2 = some (r1, r2)),
    Calls Try.prog 46 #[.agg #[.int .i64 a0_0, .int .i64 a0_1, .string a0_2, .slice A0_3 l0_3.length c0_3], .slice A1 l1.length c1, .slice A2 l2.length c2] w fun e w' => e = .returned (.tuple #[.int .i64 r1, .bool r2]) ∧ Below w.heap.size w w' := by
  induction k using Nat.strongRecOn with
  | _ k ih =>
  intro a0_0 a0_1 a0_2 A0_3 c0_3 l0_3 A1 c1 l1 A2 c2 l2 r1 r2 w hr0_3 hc0_3 hr1 hc1 hr2 hc2 h
  cases k with
  | zero => exact absurd h (by simp [tabardlaw09_value.f])
  | succ k =>
  simp only [tabardlaw09_value.f] at h
  have hu66 := Try.underlying66
  have HR0_3 := mk hr0_3
  have HC0_3 := mk hc0_3
  clear hr0_3 hc0_3
  have HR1 := mk hr1
  have HC1 := mk hc1
  clear hr1 hc1
  have HR2 := mk hr2
  have HC2 := mk hc2
  clear hr2 hc2
  have HB := mk (Below.refl w.heap.size w)
  have H : (if a0_0 = 0 then (if a0_1 < 1073741824 then (some (a0_1, decide (a0_1 > (-1073741824)))) else (some (a0_1, false))) else (if a0_0 = 1 then (tabardlaw09_value.l0 k l2 0 true l1 (l1.length : Int) 0 a0_0 a0_1 a0_2 l0_3) else (if a0_0 = 2 then (if 0 < (l0_3.length : Int) then ((tabardlaw09_value.f k ((rd_T66 l0_3 0).f0) ((rd_T66 l0_3 0).f1) ((rd_T66 l0_3 0).f2) ((rd_T66 l0_3 0).f3) l1 l2).bind fun bt808 => (if bt808.2 = true then (if (wrap64 (-bt808.1)) < 1073741824 then (some (wrap64 (-bt808.1), decide ((wrap64 (-bt808.1)) > (-1073741824)))) else (some (wrap64 (-bt808.1), false))) else (some (wrap64 (-bt808.1), false)))) else (none)) else (if 0 < (l0_3.length : Int) then ((tabardlaw09_value.f k ((rd_T66 l0_3 0).f0) ((rd_T66 l0_3 0).f1) ((rd_T66 l0_3 0).f2) ((rd_T66 l0_3 0).f3) l1 l2).bind fun bt811 => (if 1 < (l0_3.length : Int) then ((tabardlaw09_value.f k ((rd_T66 l0_3 1).f0) ((rd_T66 l0_3 1).f1) ((rd_T66 l0_3 1).f2) ((rd_T66 l0_3 1).f3) l1 l2).bind fun bt814 => (if bt811.2 = true then (tabardlaw09_value.j1 k 0 bt814.2 bt811.1 bt814.1 a0_0 a0_1 a0_2 l0_3) else (tabardlaw09_value.j1 k 0 false bt811.1 bt814.1 a0_0 a0_1 a0_2 l0_3))) else (none))) else (none))))) = some (r1, r2) := h
  clear h
  by_cases c4 : a0_0 = 0
  · rw [if_pos c4] at H
    have c4b0 := eT_ c4
    have c4b1 := nF_ c4
    clear c4
    replace H := ic_ H; obtain ⟨c5, H⟩ | ⟨c5, H⟩ := H
    · (have c5b0 : decide (a0_1 < 1073741824) = true := decide_eq_true c5); clear c5; (simp only [Option.some.injEq, Prod.mk.injEq] at H); (obtain ⟨rfl, rfl⟩ := H); (go_enter Try.func46, Try.ntmps46); (go_wp2_with (first | ((with_reducible refine gate_dst (N := 3) rfl ?_); refine box_event ?hg (N := 3) ?hd (cs := #[.int .i64 a0_0, .int .i64 a0_1, .string a0_2, .slice A0_3 l0_3.length c0_3]) (t := 66) ?hr ?_; (case hd => rfl); (case hg => rfl); (case hr => exact kq11); intro gb804 hg w6 hbox hb; have BK804 := mk (hbox); have GW804 := (gs_ hg kq9); have GE804 := GW804; replace HB := mk (below_step kq9 hb); clear hb hbox hg; obtain ⟨_, _, _, _, _, _, _, _⟩ := cz4_ BK804.out))); go_ret2; (exact ⟨kq13, (kq10 GE804)⟩)
    · (have c5b0 : decide (a0_1 < 1073741824) = false := decide_eq_false c5); clear c5; (simp only [Option.some.injEq, Prod.mk.injEq] at H); (obtain ⟨rfl, rfl⟩ := H); (go_enter Try.func46, Try.ntmps46); (go_wp2_with (first | ((with_reducible refine gate_dst (N := 3) rfl ?_); refine box_event ?hg (N := 3) ?hd (cs := #[.int .i64 a0_0, .int .i64 a0_1, .string a0_2, .slice A0_3 l0_3.length c0_3]) (t := 66) ?hr ?_; (case hd => rfl); (case hg => rfl); (case hr => exact kq11); intro gb804 hg w8 hbox hb; have BK804 := mk (hbox); have GW804 := (gs_ hg kq9); have GE804 := GW804; replace HB := mk (below_step kq9 hb); clear hb hbox hg; obtain ⟨_, _, _, _, _, _, _, _⟩ := cz4_ BK804.out))); go_ret2; (exact ⟨kq13, (kq10 GE804)⟩)
  · rw [if_neg c4] at H
    have c4b0 := eF_ c4
    have c4b1 := nT_ c4
    replace H := ic_ H; obtain ⟨c10, H⟩ | ⟨c10, H⟩ := H
    · (obtain ⟨c10b0, c10b1⟩ := eTn_ c10); clear c10; (have H' := mk H); clear H; (go_enter Try.func46, Try.ntmps46); (go_wp2_with (first | ((with_reducible refine gate_dst (N := 3) rfl ?_); refine box_event ?hg (N := 3) ?hd (cs := #[.int .i64 a0_0, .int .i64 a0_1, .string a0_2, .slice A0_3 l0_3.length c0_3]) (t := 66) ?hr ?_; (case hd => rfl); (case hg => rfl); (case hr => exact kq11); intro gb804 hg w11 hbox hb; have BK804 := mk (hbox); have GW804 := (gs_ hg kq9); have GE804 := GW804; replace HB := mk (below_step kq9 hb); clear hb hbox hg; obtain ⟨_, _, _, _, _, _, _, _⟩ := cz4_ BK804.out))); (go_loopg [8, 72] k (fun kq v8 v72 w' => ∃ (x8_1 : Int) (x72_1 : Int), v8 = .int .i64 x8_1 ∧ v72 = .int .i64 x72_1 ∧ Aside0 (tabardlaw09_value.l0 kq l2 x8_1 true l1 (l1.length : Int) x72_1 a0_0 a0_1 a0_2 l0_3 = some (r1, r2)) ∧ Aside0 (kq ≤ k) ∧ Aside0 (w'.heap[gb804]? = some (.cells #[.int .i64 a0_0, .int .i64 a0_1, .string a0_2, (.slice A0_3 l0_3.length c0_3)] 66 (0, 0))) ∧ Aside0 (Below w.heap.size w w')))
      case atStart => exact ⟨(0), (0), kq3, kq3, H', ⟨Nat.le_refl _⟩, ⟨(kq15 BK804)⟩, ⟨(kq10 GE804)⟩⟩
      case round =>
        clear H'; (obtain ⟨x8_1, x72_1, rfl, rfl, HA, HK1, BK804, HB⟩ := hrel)
        cases gk with
        | zero => exact absurd HA.out (by simp [tabardlaw09_value.l0])
        | succ k1 =>
          (have H := HA.out); clear HA; (simp only [tabardlaw09_value.l0] at H); replace H := ic_ H; obtain ⟨c13, H⟩ | ⟨c13, H⟩ := H
          · (have c13b0 := decide_eq_true c13); clear c13; replace H := ic_ H; obtain ⟨c14, H⟩ | ⟨c14, H⟩ := H
            · (have c14b0 := decide_eq_true c14); clear c14; replace H := ic_ H; obtain ⟨c15, H⟩ | ⟨c15, H⟩ := H
              · (have c15b0 := decide_eq_true c15); clear c15; replace H := ic_ H; obtain ⟨c16, H⟩ | ⟨c16, H⟩ := H
                · (obtain ⟨c16b0, c16b1⟩ := eTn_ c16); clear c16; replace H := ic_ H; obtain ⟨c17, H⟩ | ⟨c17, H⟩ := H
                  · (have c17b0 := decide_eq_true c17); clear c17; (have H' := mk H); clear H; (have p805 : 0 ≤ (x72_1 : Int) := of_decide_eq_true kq8); (have q805 : x72_1 < (l1.length : Int) := of_decide_eq_true kq8); (obtain ⟨ad805, e805, hx805_0⟩ := Kd.at_string HR1.out x72_1 p805 q805); cases e805; (replace hx805_0 := (HB.out.cell (World.block_lt_of_cell? w _ hx805_0)).trans hx805_0); replace p805 := eq_true p805; replace q805 := eq_true q805; (obtain ⟨_, _, _, _, _, _, _, _⟩ := cz4_ BK804.out); (have p806 : 0 ≤ (x72_1 : Int) := of_decide_eq_true kq8); (have q806 : x72_1 < (l2.length : Int) := of_decide_eq_true kq8); (obtain ⟨ad806, e806, hx806_0⟩ := Kd.at_int HR2.out x72_1 p806 q806); cases e806; (replace hx806_0 := (HB.out.cell (World.block_lt_of_cell? w _ hx806_0)).trans hx806_0); replace p806 := eq_true p806; replace q806 := eq_true q806; go_wp2; (go_roundg k1)
                    case measure => have := HK1.out; omega
                    case rel => exact ⟨(rd l2 x72_1), (wrap64 (x72_1 + 1)), kq3, kq3, H', ⟨kq12⟩, ⟨(kq15 BK804)⟩, ⟨(kq10 GE804)⟩⟩
                  · (exact absurd H (by simp))
                · (obtain ⟨c16b0, c16b1⟩ := eFn_ c16); (have H' := mk H); clear H; (have p805 : 0 ≤ (x72_1 : Int) := of_decide_eq_true kq8); (have q805 : x72_1 < (l1.length : Int) := of_decide_eq_true kq8); (obtain ⟨ad805, e805, hx805_0⟩ := Kd.at_string HR1.out x72_1 p805 q805); cases e805; (replace hx805_0 := (HB.out.cell (World.block_lt_of_cell? w _ hx805_0)).trans hx805_0); replace p805 := eq_true p805; replace q805 := eq_true q805; (obtain ⟨_, _, _, _, _, _, _, _⟩ := cz4_ BK804.out); go_wp2; (go_roundg k1)
                  case measure => have := HK1.out; omega
                  case rel => exact ⟨(x8_1), (wrap64 (x72_1 + 1)), kq3, kq3, H', ⟨kq12⟩, ⟨(kq15 BK804)⟩, ⟨(kq10 GE804)⟩⟩
              · (exact absurd H (by simp))
            · (exact absurd H (by simp))
          · (have c13b0 := decide_eq_false c13); clear c13; (by_cases c20 : true = true)
            · clear c20; (have H1 : (if x8_1 < 1073741824 then (some (x8_1, decide (x8_1 > (-1073741824)))) else (some (x8_1, false))) = some (r1, r2) := by first | (rw [if_pos rfl] at H; exact H) | exact H); clear H; (have H := H1); clear H1; replace H := ic_ H; obtain ⟨c21, H⟩ | ⟨c21, H⟩ := H
              · (have c21b0 := decide_eq_true c21); clear c21; (simp only [Option.some.injEq, Prod.mk.injEq] at H); (obtain ⟨rfl, rfl⟩ := H); go_wp2; go_ret2; (exact ⟨kq13, (kq10 GE804)⟩)
              · (have c21b0 := decide_eq_false c21); clear c21; (simp only [Option.some.injEq, Prod.mk.injEq] at H); (obtain ⟨rfl, rfl⟩ := H); go_wp2; go_ret2; (exact ⟨kq13, (kq10 GE804)⟩)
            · exact absurd rfl c20
    · (obtain ⟨c10b0, c10b1⟩ := eFn_ c10); replace H := ic_ H; obtain ⟨c22, H⟩ | ⟨c22, H⟩ := H
      · (obtain ⟨c22b0, c22b1⟩ := eTn_ c22); clear c22; replace H := ic_ H; obtain ⟨c23, H⟩ | ⟨c23, H⟩ := H
        · (have c23b0 := decide_eq_true c23); (have c23b1 : decide (0 < l0_3.length) = true := decide_eq_true kq1); clear c23; (replace H := Option.bind_eq_some_iff.mp H); (obtain ⟨⟨t808, t809⟩, A240, H⟩ := H); (replace H : (if t809 = true then (if (wrap64 (-t808)) < 1073741824 then (some (wrap64 (-t808), decide ((wrap64 (-t808)) > (-1073741824)))) else (some (wrap64 (-t808), false))) else (some (wrap64 (-t808), false))) = some (r1, r2) := H); (have A24 := mk A240); clear A240; (by_cases c25 : t809 = true)
          · subst c25; (have H1 : (if (wrap64 (-t808)) < 1073741824 then (some (wrap64 (-t808), decide ((wrap64 (-t808)) > (-1073741824)))) else (some (wrap64 (-t808), false))) = some (r1, r2) := by rw [if_pos rfl] at H; exact H); clear H; (have H := H1); clear H1; replace H := ic_ H; obtain ⟨c26, H⟩ | ⟨c26, H⟩ := H
            · (have c26b0 := decide_eq_true c26); clear c26; (simp only [Option.some.injEq, Prod.mk.injEq] at H); (obtain ⟨rfl, rfl⟩ := H); (go_enter Try.func46, Try.ntmps46); (go_wp2_with (first | ((with_reducible refine gate_dst (N := 3) rfl ?_); refine box_event ?hg (N := 3) ?hd (cs := #[.int .i64 a0_0, .int .i64 a0_1, .string a0_2, .slice A0_3 l0_3.length c0_3]) (t := 66) ?hr ?_; (case hd => rfl); (case hg => rfl); (case hr => exact kq11); intro gb804 hg w27 hbox hb; have BK804 := mk (hbox); have GW804 := (gs_ hg kq9); have GE804 := GW804; replace HB := mk (below_step kq9 hb); clear hb hbox hg; obtain ⟨_, _, _, _, _, _, _, _⟩ := cz4_ BK804.out; have p807 : 0 ≤ (0 : Int) := kq1; have q807 : 0 < (l0_3.length : Int) := of_decide_eq_true kq8; obtain ⟨ad807, A807_3, c807_3, e807, hx807_0, hx807_1, hx807_2, hx807_3, hl807_3, hi807_3⟩ := at_T66 HR0_3.out 0 p807 q807; cases e807; have qi807 : (0 < l0_3.length) = True := eq_true kq1; (try rw [show ((0 : Int)).toNat = 0 from rfl] at hx807_0); (try rw [show 0 * 4 = 0 from rfl] at hx807_0); (try rw [Addr.add_zero'] at hx807_0); (try rw [show ((0 : Int)).toNat = 0 from rfl] at hx807_1); (try rw [show 0 * 4 = 0 from rfl] at hx807_1); (try rw [Addr.add_zero'] at hx807_1); (try rw [show ((0 : Int)).toNat = 0 from rfl] at hx807_2); (try rw [show 0 * 4 = 0 from rfl] at hx807_2); (try rw [Addr.add_zero'] at hx807_2); (try rw [show ((0 : Int)).toNat = 0 from rfl] at hx807_3); (try rw [show 0 * 4 = 0 from rfl] at hx807_3); (try rw [Addr.add_zero'] at hx807_3); replace hx807_0 := (HB.out.cell (World.block_lt_of_cell? w _ hx807_0)).trans hx807_0; replace hx807_1 := (HB.out.cell (World.block_lt_of_cell? w _ hx807_1)).trans hx807_1; replace hx807_2 := (HB.out.cell (World.block_lt_of_cell? w _ hx807_2)).trans hx807_2; replace hx807_3 := (HB.out.cell (World.block_lt_of_cell? w _ hx807_3)).trans hx807_3; have HR807_3 := mk hi807_3; have HC807_3 := mk hl807_3; clear hi807_3 hl807_3; replace p807 := eq_true p807; replace q807 := eq_true q807) | ((with_reducible refine gate_callee (f := 46) rfl ?_); refine goesL_ (some 95) rfl rfl Try.func46 kq0 rfl #[.agg #[.int .i64 ((rd_T66 l0_3 0).f0), .int .i64 ((rd_T66 l0_3 0).f1), .string ((rd_T66 l0_3 0).f2), .slice A807_3 ((rd_T66 l0_3 0).f3).length c807_3], .slice A1 l1.length c1, .slice A2 l2.length c2] rfl kq7 ?_; (with_reducible refine (ih k kq1 ((rd_T66 l0_3 0).f0) ((rd_T66 l0_3 0).f1) ((rd_T66 l0_3 0).f2) _ _ ((rd_T66 l0_3 0).f3) _ _ l1 _ _ l2 t808 true _ ?side1 ?side2 ?side3 ?side4 ?side5 ?side6 A24.out).mono ?_); (case side1 => exact kq14 HR807_3); (case side2 => exact HC807_3.out); (case side3 => exact kq14 HR1); (case side4 => exact HC1.out); (case side5 => exact kq14 HR2); (case side6 => exact HC2.out); rintro e w29 ⟨rfl, hb⟩; refine ⟨_, rfl, ?_⟩; replace BK804 := (bb_ BK804 hb); replace HB := mk (below_step (kq10 GE804) hb)))); go_ret2; (exact ⟨kq13, (kq10 GE804)⟩)
            · (have c26b0 := decide_eq_false c26); clear c26; (simp only [Option.some.injEq, Prod.mk.injEq] at H); (obtain ⟨rfl, rfl⟩ := H); (go_enter Try.func46, Try.ntmps46); (go_wp2_with (first | ((with_reducible refine gate_dst (N := 3) rfl ?_); refine box_event ?hg (N := 3) ?hd (cs := #[.int .i64 a0_0, .int .i64 a0_1, .string a0_2, .slice A0_3 l0_3.length c0_3]) (t := 66) ?hr ?_; (case hd => rfl); (case hg => rfl); (case hr => exact kq11); intro gb804 hg w30 hbox hb; have BK804 := mk (hbox); have GW804 := (gs_ hg kq9); have GE804 := GW804; replace HB := mk (below_step kq9 hb); clear hb hbox hg; obtain ⟨_, _, _, _, _, _, _, _⟩ := cz4_ BK804.out; have p807 : 0 ≤ (0 : Int) := kq1; have q807 : 0 < (l0_3.length : Int) := of_decide_eq_true kq8; obtain ⟨ad807, A807_3, c807_3, e807, hx807_0, hx807_1, hx807_2, hx807_3, hl807_3, hi807_3⟩ := at_T66 HR0_3.out 0 p807 q807; cases e807; have qi807 : (0 < l0_3.length) = True := eq_true kq1; (try rw [show ((0 : Int)).toNat = 0 from rfl] at hx807_0); (try rw [show 0 * 4 = 0 from rfl] at hx807_0); (try rw [Addr.add_zero'] at hx807_0); (try rw [show ((0 : Int)).toNat = 0 from rfl] at hx807_1); (try rw [show 0 * 4 = 0 from rfl] at hx807_1); (try rw [Addr.add_zero'] at hx807_1); (try rw [show ((0 : Int)).toNat = 0 from rfl] at hx807_2); (try rw [show 0 * 4 = 0 from rfl] at hx807_2); (try rw [Addr.add_zero'] at hx807_2); (try rw [show ((0 : Int)).toNat = 0 from rfl] at hx807_3); (try rw [show 0 * 4 = 0 from rfl] at hx807_3); (try rw [Addr.add_zero'] at hx807_3); replace hx807_0 := (HB.out.cell (World.block_lt_of_cell? w _ hx807_0)).trans hx807_0; replace hx807_1 := (HB.out.cell (World.block_lt_of_cell? w _ hx807_1)).trans hx807_1; replace hx807_2 := (HB.out.cell (World.block_lt_of_cell? w _ hx807_2)).trans hx807_2; replace hx807_3 := (HB.out.cell (World.block_lt_of_cell? w _ hx807_3)).trans hx807_3; have HR807_3 := mk hi807_3; have HC807_3 := mk hl807_3; clear hi807_3 hl807_3; replace p807 := eq_true p807; replace q807 := eq_true q807) | ((with_reducible refine gate_callee (f := 46) rfl ?_); refine goesL_ (some 95) rfl rfl Try.func46 kq0 rfl #[.agg #[.int .i64 ((rd_T66 l0_3 0).f0), .int .i64 ((rd_T66 l0_3 0).f1), .string ((rd_T66 l0_3 0).f2), .slice A807_3 ((rd_T66 l0_3 0).f3).length c807_3], .slice A1 l1.length c1, .slice A2 l2.length c2] rfl kq7 ?_; (with_reducible refine (ih k kq1 ((rd_T66 l0_3 0).f0) ((rd_T66 l0_3 0).f1) ((rd_T66 l0_3 0).f2) _ _ ((rd_T66 l0_3 0).f3) _ _ l1 _ _ l2 t808 true _ ?side1 ?side2 ?side3 ?side4 ?side5 ?side6 A24.out).mono ?_); (case side1 => exact kq14 HR807_3); (case side2 => exact HC807_3.out); (case side3 => exact kq14 HR1); (case side4 => exact HC1.out); (case side5 => exact kq14 HR2); (case side6 => exact HC2.out); rintro e w32 ⟨rfl, hb⟩; refine ⟨_, rfl, ?_⟩; replace BK804 := (bb_ BK804 hb); replace HB := mk (below_step (kq10 GE804) hb)))); go_ret2; (exact ⟨kq13, (kq10 GE804)⟩)
          · (replace c25 := Bool.eq_false_iff.mpr c25); subst c25; (have H1 : (some (wrap64 (-t808), false)) = some (r1, r2) := by rw [if_neg (show ¬ (false = true) by decide)] at H; exact H); clear H; (have H := H1); clear H1; (simp only [Option.some.injEq, Prod.mk.injEq] at H); (obtain ⟨rfl, rfl⟩ := H); (go_enter Try.func46, Try.ntmps46); (go_wp2_with (first | ((with_reducible refine gate_dst (N := 3) rfl ?_); refine box_event ?hg (N := 3) ?hd (cs := #[.int .i64 a0_0, .int .i64 a0_1, .string a0_2, .slice A0_3 l0_3.length c0_3]) (t := 66) ?hr ?_; (case hd => rfl); (case hg => rfl); (case hr => exact kq11); intro gb804 hg w33 hbox hb; have BK804 := mk (hbox); have GW804 := (gs_ hg kq9); have GE804 := GW804; replace HB := mk (below_step kq9 hb); clear hb hbox hg; obtain ⟨_, _, _, _, _, _, _, _⟩ := cz4_ BK804.out; have p807 : 0 ≤ (0 : Int) := kq1; have q807 : 0 < (l0_3.length : Int) := of_decide_eq_true kq8; obtain ⟨ad807, A807_3, c807_3, e807, hx807_0, hx807_1, hx807_2, hx807_3, hl807_3, hi807_3⟩ := at_T66 HR0_3.out 0 p807 q807; cases e807; have qi807 : (0 < l0_3.length) = True := eq_true kq1; (try rw [show ((0 : Int)).toNat = 0 from rfl] at hx807_0); (try rw [show 0 * 4 = 0 from rfl] at hx807_0); (try rw [Addr.add_zero'] at hx807_0); (try rw [show ((0 : Int)).toNat = 0 from rfl] at hx807_1); (try rw [show 0 * 4 = 0 from rfl] at hx807_1); (try rw [Addr.add_zero'] at hx807_1); (try rw [show ((0 : Int)).toNat = 0 from rfl] at hx807_2); (try rw [show 0 * 4 = 0 from rfl] at hx807_2); (try rw [Addr.add_zero'] at hx807_2); (try rw [show ((0 : Int)).toNat = 0 from rfl] at hx807_3); (try rw [show 0 * 4 = 0 from rfl] at hx807_3); (try rw [Addr.add_zero'] at hx807_3); replace hx807_0 := (HB.out.cell (World.block_lt_of_cell? w _ hx807_0)).trans hx807_0; replace hx807_1 := (HB.out.cell (World.block_lt_of_cell? w _ hx807_1)).trans hx807_1; replace hx807_2 := (HB.out.cell (World.block_lt_of_cell? w _ hx807_2)).trans hx807_2; replace hx807_3 := (HB.out.cell (World.block_lt_of_cell? w _ hx807_3)).trans hx807_3; have HR807_3 := mk hi807_3; have HC807_3 := mk hl807_3; clear hi807_3 hl807_3; replace p807 := eq_true p807; replace q807 := eq_true q807) | ((with_reducible refine gate_callee (f := 46) rfl ?_); refine goesL_ (some 95) rfl rfl Try.func46 kq0 rfl #[.agg #[.int .i64 ((rd_T66 l0_3 0).f0), .int .i64 ((rd_T66 l0_3 0).f1), .string ((rd_T66 l0_3 0).f2), .slice A807_3 ((rd_T66 l0_3 0).f3).length c807_3], .slice A1 l1.length c1, .slice A2 l2.length c2] rfl kq7 ?_; (with_reducible refine (ih k kq1 ((rd_T66 l0_3 0).f0) ((rd_T66 l0_3 0).f1) ((rd_T66 l0_3 0).f2) _ _ ((rd_T66 l0_3 0).f3) _ _ l1 _ _ l2 t808 false _ ?side1 ?side2 ?side3 ?side4 ?side5 ?side6 A24.out).mono ?_); (case side1 => exact kq14 HR807_3); (case side2 => exact HC807_3.out); (case side3 => exact kq14 HR1); (case side4 => exact HC1.out); (case side5 => exact kq14 HR2); (case side6 => exact HC2.out); rintro e w35 ⟨rfl, hb⟩; refine ⟨_, rfl, ?_⟩; replace BK804 := (bb_ BK804 hb); replace HB := mk (below_step (kq10 GE804) hb)))); go_ret2; (exact ⟨kq13, (kq10 GE804)⟩)
        · (exact absurd H (by simp))
      · (obtain ⟨c22b0, c22b1⟩ := eFn_ c22); replace H := ic_ H; obtain ⟨c36, H⟩ | ⟨c36, H⟩ := H
        · (have c36b0 := decide_eq_true c36); (have c36b1 : decide (0 < l0_3.length) = true := decide_eq_true kq1); clear c36; (replace H := Option.bind_eq_some_iff.mp H); (obtain ⟨⟨t811, t812⟩, A370, H⟩ := H); (replace H : (if 1 < (l0_3.length : Int) then ((tabardlaw09_value.f k ((rd_T66 l0_3 1).f0) ((rd_T66 l0_3 1).f1) ((rd_T66 l0_3 1).f2) ((rd_T66 l0_3 1).f3) l1 l2).bind fun bt814 => (if t812 = true then (tabardlaw09_value.j1 k 0 bt814.2 t811 bt814.1 a0_0 a0_1 a0_2 l0_3) else (tabardlaw09_value.j1 k 0 false t811 bt814.1 a0_0 a0_1 a0_2 l0_3))) else (none)) = some (r1, r2) := H); (have A37 := mk A370); clear A370; replace H := ic_ H; obtain ⟨c38, H⟩ | ⟨c38, H⟩ := H
          · (have c38b0 := decide_eq_true c38); (have c38b1 : decide (1 < l0_3.length) = true := decide_eq_true kq1); clear c38; (replace H := Option.bind_eq_some_iff.mp H); (obtain ⟨⟨t814, t815⟩, A390, H⟩ := H); (replace H : (if t812 = true then (tabardlaw09_value.j1 k 0 t815 t811 t814 a0_0 a0_1 a0_2 l0_3) else (tabardlaw09_value.j1 k 0 false t811 t814 a0_0 a0_1 a0_2 l0_3)) = some (r1, r2) := H); (have A39 := mk A390); clear A390; (have HC40 := mk H); clear H; (go_enter Try.func46, Try.ntmps46); (go_upto_region 5 with (first | ((with_reducible refine gate_dst (N := 3) rfl ?_); refine box_event ?hg (N := 3) ?hd (cs := #[.int .i64 a0_0, .int .i64 a0_1, .string a0_2, .slice A0_3 l0_3.length c0_3]) (t := 66) ?hr ?_; (case hd => rfl); (case hg => rfl); (case hr => exact kq11); intro gb804 hg w41 hbox hb; have BK804 := mk (hbox); have GW804 := (gs_ hg kq9); have GE804 := GW804; replace HB := mk (below_step kq9 hb); clear hb hbox hg; obtain ⟨_, _, _, _, _, _, _, _⟩ := cz4_ BK804.out; have p810 : 0 ≤ (0 : Int) := kq1; have q810 : 0 < (l0_3.length : Int) := of_decide_eq_true kq8; obtain ⟨ad810, A810_3, c810_3, e810, hx810_0, hx810_1, hx810_2, hx810_3, hl810_3, hi810_3⟩ := at_T66 HR0_3.out 0 p810 q810; cases e810; have qi810 : (0 < l0_3.length) = True := eq_true kq1; (try rw [show ((0 : Int)).toNat = 0 from rfl] at hx810_0); (try rw [show 0 * 4 = 0 from rfl] at hx810_0); (try rw [Addr.add_zero'] at hx810_0); (try rw [show ((0 : Int)).toNat = 0 from rfl] at hx810_1); (try rw [show 0 * 4 = 0 from rfl] at hx810_1); (try rw [Addr.add_zero'] at hx810_1); (try rw [show ((0 : Int)).toNat = 0 from rfl] at hx810_2); (try rw [show 0 * 4 = 0 from rfl] at hx810_2); (try rw [Addr.add_zero'] at hx810_2); (try rw [show ((0 : Int)).toNat = 0 from rfl] at hx810_3); (try rw [show 0 * 4 = 0 from rfl] at hx810_3); (try rw [Addr.add_zero'] at hx810_3); replace hx810_0 := (HB.out.cell (World.block_lt_of_cell? w _ hx810_0)).trans hx810_0; replace hx810_1 := (HB.out.cell (World.block_lt_of_cell? w _ hx810_1)).trans hx810_1; replace hx810_2 := (HB.out.cell (World.block_lt_of_cell? w _ hx810_2)).trans hx810_2; replace hx810_3 := (HB.out.cell (World.block_lt_of_cell? w _ hx810_3)).trans hx810_3; have HR810_3 := mk hi810_3; have HC810_3 := mk hl810_3; clear hi810_3 hl810_3; replace p810 := eq_true p810; replace q810 := eq_true q810) | ((with_reducible refine gate_callee (f := 46) rfl ?_); refine goesL_ (some 27) rfl rfl Try.func46 kq0 rfl #[.agg #[.int .i64 ((rd_T66 l0_3 0).f0), .int .i64 ((rd_T66 l0_3 0).f1), .string ((rd_T66 l0_3 0).f2), .slice A810_3 ((rd_T66 l0_3 0).f3).length c810_3], .slice A1 l1.length c1, .slice A2 l2.length c2] rfl kq7 ?_; (with_reducible refine (ih k kq1 ((rd_T66 l0_3 0).f0) ((rd_T66 l0_3 0).f1) ((rd_T66 l0_3 0).f2) _ _ ((rd_T66 l0_3 0).f3) _ _ l1 _ _ l2 t811 t812 _ ?side1 ?side2 ?side3 ?side4 ?side5 ?side6 A37.out).mono ?_); (case side1 => exact kq14 HR810_3); (case side2 => exact HC810_3.out); (case side3 => exact kq14 HR1); (case side4 => exact HC1.out); (case side5 => exact kq14 HR2); (case side6 => exact HC2.out); rintro e w43 ⟨rfl, hb⟩; refine ⟨_, rfl, ?_⟩; replace BK804 := (bb_ BK804 hb); replace HB := mk (below_step (kq10 GE804) hb); obtain ⟨_, _, _, _, _, _, _, _⟩ := cz4_ BK804.out; have p813 : 0 ≤ (1 : Int) := kq1; have q813 : 1 < (l0_3.length : Int) := of_decide_eq_true kq8; obtain ⟨ad813, A813_3, c813_3, e813, hx813_0, hx813_1, hx813_2, hx813_3, hl813_3, hi813_3⟩ := at_T66 HR0_3.out 1 p813 q813; obtain rfl : ad810 = ad813 := (by injection e813); (try simp only [show (1 : Int).toNat = 1 from rfl, Nat.reduceMul, Nat.reduceEqDiff, Go.Addr.add, ↓reduceIte] at hx813_0); (try simp only [show (1 : Int).toNat = 1 from rfl, Nat.reduceMul, Nat.reduceEqDiff, Go.Addr.add, ↓reduceIte] at hx813_1); (try simp only [show (1 : Int).toNat = 1 from rfl, Nat.reduceMul, Nat.reduceEqDiff, Go.Addr.add, ↓reduceIte] at hx813_2); (try simp only [show (1 : Int).toNat = 1 from rfl, Nat.reduceMul, Nat.reduceEqDiff, Go.Addr.add, ↓reduceIte] at hx813_3); have qi813 : (1 < l0_3.length) = True := eq_true kq1; (try rw [show ((1 : Int)).toNat = 1 from rfl] at hx813_0); (try rw [show 1 * 4 = 4 from rfl] at hx813_0); (try rw [show ((1 : Int)).toNat = 1 from rfl] at hx813_1); (try rw [show 1 * 4 = 4 from rfl] at hx813_1); (try rw [show ((1 : Int)).toNat = 1 from rfl] at hx813_2); (try rw [show 1 * 4 = 4 from rfl] at hx813_2); (try rw [show ((1 : Int)).toNat = 1 from rfl] at hx813_3); (try rw [show 1 * 4 = 4 from rfl] at hx813_3); replace hx813_0 := (HB.out.cell (World.block_lt_of_cell? w _ hx813_0)).trans hx813_0; replace hx813_1 := (HB.out.cell (World.block_lt_of_cell? w _ hx813_1)).trans hx813_1; replace hx813_2 := (HB.out.cell (World.block_lt_of_cell? w _ hx813_2)).trans hx813_2; replace hx813_3 := (HB.out.cell (World.block_lt_of_cell? w _ hx813_3)).trans hx813_3; have HR813_3 := mk hi813_3; have HC813_3 := mk hl813_3; clear hi813_3 hl813_3; replace p813 := eq_true p813; replace q813 := eq_true q813) | ((with_reducible refine gate_callee (f := 46) rfl ?_); refine goesL_ (some 37) rfl rfl Try.func46 kq0 rfl #[.agg #[.int .i64 ((rd_T66 l0_3 1).f0), .int .i64 ((rd_T66 l0_3 1).f1), .string ((rd_T66 l0_3 1).f2), .slice A813_3 ((rd_T66 l0_3 1).f3).length c813_3], .slice A1 l1.length c1, .slice A2 l2.length c2] rfl kq7 ?_; (with_reducible refine (ih k kq1 ((rd_T66 l0_3 1).f0) ((rd_T66 l0_3 1).f1) ((rd_T66 l0_3 1).f2) _ _ ((rd_T66 l0_3 1).f3) _ _ l1 _ _ l2 t814 t815 _ ?side1 ?side2 ?side3 ?side4 ?side5 ?side6 A39.out).mono ?_); (case side1 => exact kq14 HR813_3); (case side2 => exact HC813_3.out); (case side3 => exact kq14 HR1); (case side4 => exact HC1.out); (case side5 => exact kq14 HR2); (case side6 => exact HC2.out); rintro e w45 ⟨rfl, hb⟩; refine ⟨_, rfl, ?_⟩; replace BK804 := (bb_ BK804 hb); replace HB := mk (below_step (kq10 GE804) hb)))); ((try simp only [Act.put, setIfInBounds_toArray, set_cons_zero, set_cons_succ])); (go_cut [9] (fun v9 wc => ∃ (kq : Nat) (x9_39 : Bool), v9 = .bool x9_39 ∧ Aside0 (tabardlaw09_value.j1 kq 0 x9_39 t811 t814 a0_0 a0_1 a0_2 l0_3 = some (r1, r2)) ∧ Aside0 (kq ≤ k) ∧ Aside0 (wc.heap[gb804]? = some (.cells #[.int .i64 a0_0, .int .i64 a0_1, .string a0_2, (.slice (some ad810) l0_3.length c0_3)] 66 (0, 0))) ∧ Aside0 (Below w.heap.size w wc)))
            case first =>
              (have H := HC40.out); clear HC40; (by_cases c46 : t812 = true)
              · subst c46; (have H1 : (tabardlaw09_value.j1 k 0 t815 t811 t814 a0_0 a0_1 a0_2 l0_3) = some (r1, r2) := by rw [if_pos rfl] at H; exact H); clear H; (have H := H1); clear H1; (have H' := mk H); clear H; go_wp2; (go_meet)
                case rel => exact ⟨_, (t815), kq3, H', ⟨kq4⟩, ⟨(kq15 BK804)⟩, ⟨(kq10 GE804)⟩⟩
              · (replace c46 := Bool.eq_false_iff.mpr c46); subst c46; (have H1 : (tabardlaw09_value.j1 k 0 false t811 t814 a0_0 a0_1 a0_2 l0_3) = some (r1, r2) := by rw [if_neg (show ¬ (false = true) by decide)] at H; exact H); clear H; (have H := H1); clear H1; (have H' := mk H); clear H; go_wp2; (go_meet)
                case rel => exact ⟨_, (false), kq3, H', ⟨kq4⟩, ⟨(kq15 BK804)⟩, ⟨(kq10 GE804)⟩⟩
            case rest =>
              clear HC40; (obtain ⟨kq, x9_39, rfl, HA, HJ39, BK804, HB⟩ := hcut)
              cases kq with
              | zero => exact absurd HA.out (by simp [tabardlaw09_value.j1])
              | succ kj39 =>
                (have H := HA.out); clear HA; (simp only [tabardlaw09_value.j1] at H); (by_cases c47 : x9_39 = true)
                · subst c47; (have H1 : (if a0_0 = 3 then (if (wrap64 (t811 + t814)) < 1073741824 then (some (wrap64 (t811 + t814), decide ((wrap64 (t811 + t814)) > (-1073741824)))) else (some (wrap64 (t811 + t814), false))) else (if a0_0 = 4 then (if (wrap64 (t811 - t814)) < 1073741824 then (some (wrap64 (t811 - t814), decide ((wrap64 (t811 - t814)) > (-1073741824)))) else (some (wrap64 (t811 - t814), false))) else (if (wrap64 (t811 * t814)) < 1073741824 then (some (wrap64 (t811 * t814), decide ((wrap64 (t811 * t814)) > (-1073741824)))) else (some (wrap64 (t811 * t814), false))))) = some (r1, r2) := by rw [if_pos rfl] at H; exact H); clear H; (have H := H1); clear H1; replace H := ic_ H; obtain ⟨c48, H⟩ | ⟨c48, H⟩ := H
                  · (obtain ⟨c48b0, c48b1⟩ := eTn_ c48); clear c48; replace H := ic_ H; obtain ⟨c49, H⟩ | ⟨c49, H⟩ := H
                    · (have c49b0 := decide_eq_true c49); clear c49; (simp only [Option.some.injEq, Prod.mk.injEq] at H); (obtain ⟨rfl, rfl⟩ := H); (obtain ⟨_, _, _, _, _, _, _, _⟩ := cz4_ BK804.out); go_wp2; go_ret2; (exact ⟨kq13, (kq10 GE804)⟩)
                    · (have c49b0 := decide_eq_false c49); clear c49; (simp only [Option.some.injEq, Prod.mk.injEq] at H); (obtain ⟨rfl, rfl⟩ := H); (obtain ⟨_, _, _, _, _, _, _, _⟩ := cz4_ BK804.out); go_wp2; go_ret2; (exact ⟨kq13, (kq10 GE804)⟩)
                  · (obtain ⟨c48b0, c48b1⟩ := eFn_ c48); replace H := ic_ H; obtain ⟨c52, H⟩ | ⟨c52, H⟩ := H
                    · (obtain ⟨c52b0, c52b1⟩ := eTn_ c52); clear c52; replace H := ic_ H; obtain ⟨c53, H⟩ | ⟨c53, H⟩ := H
                      · (have c53b0 := decide_eq_true c53); clear c53; (simp only [Option.some.injEq, Prod.mk.injEq] at H); (obtain ⟨rfl, rfl⟩ := H); (obtain ⟨_, _, _, _, _, _, _, _⟩ := cz4_ BK804.out); go_wp2; go_ret2; (exact ⟨kq13, (kq10 GE804)⟩)
                      · (have c53b0 := decide_eq_false c53); clear c53; (simp only [Option.some.injEq, Prod.mk.injEq] at H); (obtain ⟨rfl, rfl⟩ := H); (obtain ⟨_, _, _, _, _, _, _, _⟩ := cz4_ BK804.out); go_wp2; go_ret2; (exact ⟨kq13, (kq10 GE804)⟩)
                    · (obtain ⟨c52b0, c52b1⟩ := eFn_ c52); replace H := ic_ H; obtain ⟨c56, H⟩ | ⟨c56, H⟩ := H
                      · (have c56b0 := decide_eq_true c56); clear c56; (simp only [Option.some.injEq, Prod.mk.injEq] at H); (obtain ⟨rfl, rfl⟩ := H); (obtain ⟨_, _, _, _, _, _, _, _⟩ := cz4_ BK804.out); go_wp2; go_ret2; (exact ⟨kq13, (kq10 GE804)⟩)
                      · (have c56b0 := decide_eq_false c56); clear c56; (simp only [Option.some.injEq, Prod.mk.injEq] at H); (obtain ⟨rfl, rfl⟩ := H); (obtain ⟨_, _, _, _, _, _, _, _⟩ := cz4_ BK804.out); go_wp2; go_ret2; (exact ⟨kq13, (kq10 GE804)⟩)
                · (replace c47 := Bool.eq_false_iff.mpr c47); subst c47; (have H1 : (some (0, false)) = some (r1, r2) := by rw [if_neg (show ¬ (false = true) by decide)] at H; exact H); clear H; (have H := H1); clear H1; (simp only [Option.some.injEq, Prod.mk.injEq] at H); (obtain ⟨rfl, rfl⟩ := H); go_wp2; go_ret2; (exact ⟨kq13, (kq10 GE804)⟩)
          · (exact absurd H (by simp))
        · (exact absurd H (by simp))
end Go.Proofs.Ytjknpmibdkoklaa.Q
namespace Go.Proofs.Ytjknpmibdkoklaa.Q
open Go.RowKit Go.Proofs.YtjknpmibdkoklaaW.PrintWords Go.Proofs.YtjknpmibdkoklaaW.PrintLast Go.Proofs.YtjknpmibdkoklaaW.PrintMore
open Aside0 (mk)
open List (setIfInBounds_toArray set_cons_zero set_cons_succ)
attribute [local go_sem] max2_int min2_int max_two min_two max_three min_three max_four min_four
set_option linter.unusedVariables false
set_option linter.unusedSimpArgs false
attribute [local go_sem] fld99_2 fld103_2 fld160_0 fld160_1
def tabardlaw09_worked.l0 : Nat → List Int → Int → List Int → Int → Int → Option (Int × Bool)
  | 0, _, _, _, _, _ => none
  | k + 1, x1, x2, x10, x11, x12 => if x12 < x11 then (if 0 ≤ x12 then (if x12 < (x10.length : Int) then (if (rd x10 x12) ≥ 1073741824 then (some (0, false)) else (if (rd x10 x12) ≤ (-1073741824) then (some (0, false)) else (if x2 ≥ 1125899906842624 then (some (0, false)) else (if x2 ≤ (-1125899906842624) then (some (0, false)) else (if x12 < (x1.length : Int) then (tabardlaw09_worked.l0 k x1 (wrap64 (x2 + (wrap64 ((rd x10 x12) * (rd x1 x12))))) x10 x11 (wrap64 (x12 + 1))) else (none)))))) else (none)) else (none)) else (some (x2, true))
def tabardlaw09_worked.f (k : Nat) (l0 : List Int) (l1 : List Int) (a2 : Int) : Option (Int × Bool) := tabardlaw09_worked.l0 k l1 a2 l0 (l0.length : Int) 0
theorem tabardlaw09_worked.mono_l : ∀ k, (∀ y0 y1 y2 y3 y4, LeO (tabardlaw09_worked.l0 k y0 y1 y2 y3 y4) (tabardlaw09_worked.l0 (k + 1) y0 y1 y2 y3 y4))
  | 0 => fun _ _ _ _ _ r h => by simp [tabardlaw09_worked.l0] at h
  | k + 1 => by
    have ih0 := tabardlaw09_worked.mono_l k
    · intro y0 y1 y2 y3 y4; (unfold tabardlaw09_worked.l0)
      repeat' first
      | (with_reducible exact ih0 _ _ _ _ _)
      | (with_reducible exact LeO.refl _)
      | (with_reducible exact LeO.none _)
      | (with_reducible refine LeO.ite ?_ ?_)
      | (with_reducible refine LeO.bind ?_ (fun _ => ?_))
      | exact ih0 _ _ _ _ _
      | exact LeO.none _
      | refine LeO.ite ?_ ?_
      | refine LeO.bind ?_ (fun _ => ?_)
theorem tabardlaw09_worked.mono : ∀ a0 a1 a2 k, LeO (tabardlaw09_worked.f k a0 a1 a2) (tabardlaw09_worked.f (k + 1) a0 a1 a2) := by
  intro a0 a1 a2 k
  have ih0 := tabardlaw09_worked.mono_l k
  unfold tabardlaw09_worked.f
  repeat' first
      | (with_reducible exact ih0 _ _ _ _ _)
      | (with_reducible exact LeO.refl _)
      | (with_reducible exact LeO.none _)
      | (with_reducible refine LeO.ite ?_ ?_)
      | (with_reducible refine LeO.bind ?_ (fun _ => ?_))
      | exact ih0 _ _ _ _ _
      | exact LeO.none _
      | refine LeO.ite ?_ ?_
      | refine LeO.bind ?_ (fun _ => ?_)
set_option maxHeartbeats 8000000 in
set_option maxRecDepth 100000 in
theorem tabardlaw09_worked.calls (k : Nat) (A0 : Option Addr) (c0 : Nat) (l0 : List Int) (A1 : Option Addr) (c1 : Nat) (l1 : List Int) (a2 : Int) (r1 : Int) (r2 : Bool) (w : World) (hr0 : Kd.C (Kd.int .i64) w A0 l0.length l0) (hc0 : l0.length ≤ c0) (hr1 : Kd.C (Kd.int .i64) w A1 l1.length l1) (hc1 : l1.length ≤ c1) (h : tabardlaw09_worked.f k l0 l1 a2 = some (r1, r2)) :
    Calls Try.prog 47 #[.slice A0 l0.length c0, .slice A1 l1.length c1, .int .i64 a2] w fun e w' => e = .returned (.tuple #[.int .i64 r1, .bool r2]) ∧ Drawn0 w w' := by
  have HR0 := mk hr0
  have HC0 := mk hc0
  clear hr0 hc0
  have HR1 := mk hr1
  have HC1 := mk hc1
  clear hr1 hc1
  have H : (tabardlaw09_worked.l0 k l1 a2 l0 (l0.length : Int) 0) = some (r1, r2) := h
  clear h
  have H' := mk H
  clear H
  go_enter Try.func47, Try.ntmps47
  go_wp2
  go_loopg [2, 12] k (fun kq v2 v12 w' => ∃ (x2_1 : Int) (x12_1 : Int), v2 = .int .i64 x2_1 ∧ v12 = .int .i64 x12_1 ∧ Aside0 (tabardlaw09_worked.l0 kq l1 x2_1 l0 (l0.length : Int) x12_1 = some (r1, r2)) ∧ Aside0 (kq ≤ k) ∧ Drawn0 w w')
  case atStart => exact ⟨(a2), (0), kq3, kq3, H', ⟨Nat.le_refl _⟩, kq5⟩
  case round =>
    clear H'
    obtain ⟨x2_1, x12_1, rfl, rfl, HA, HK1, ⟨m1, rfl⟩⟩ := hrel
    cases gk with
    | zero => exact absurd HA.out (by simp [tabardlaw09_worked.l0])
    | succ k1 =>
      (have H := HA.out); clear HA; (simp only [tabardlaw09_worked.l0] at H); replace H := ic_ H; obtain ⟨c4, H⟩ | ⟨c4, H⟩ := H
      · (have c4b0 : decide (x12_1 < (l0.length : Int)) = true := decide_eq_true c4); clear c4; replace H := ic_ H; obtain ⟨c5, H⟩ | ⟨c5, H⟩ := H
        · (have c5b0 : decide (0 ≤ x12_1) = true := decide_eq_true c5); clear c5; replace H := ic_ H; obtain ⟨c6, H⟩ | ⟨c6, H⟩ := H
          · (have c6b0 : decide (x12_1 < (l0.length : Int)) = true := decide_eq_true c6); clear c6; replace H := ic_ H; obtain ⟨c7, H⟩ | ⟨c7, H⟩ := H
            · (have c7b0 : decide (1073741824 ≤ (rd l0 x12_1)) = true := decide_eq_true c7); clear c7; (simp only [Option.some.injEq, Prod.mk.injEq] at H); (obtain ⟨rfl, rfl⟩ := H); (have p816 : 0 ≤ (x12_1 : Int) := of_decide_eq_true kq8); (have q816 : x12_1 < (l0.length : Int) := of_decide_eq_true kq8); (obtain ⟨ad816, e816, hx816_0⟩ := Kd.at_int HR0.out x12_1 p816 q816); cases e816; replace p816 := eq_true p816; replace q816 := eq_true q816; go_wp2; go_ret2; (exact ⟨kq3, kq5⟩)
            · (have c7b0 : decide (1073741824 ≤ (rd l0 x12_1)) = false := decide_eq_false c7); clear c7; replace H := ic_ H; obtain ⟨c8, H⟩ | ⟨c8, H⟩ := H
              · (have c8b0 : decide ((rd l0 x12_1) ≤ (-1073741824)) = true := decide_eq_true c8); clear c8; (simp only [Option.some.injEq, Prod.mk.injEq] at H); (obtain ⟨rfl, rfl⟩ := H); (have p816 : 0 ≤ (x12_1 : Int) := of_decide_eq_true kq8); (have q816 : x12_1 < (l0.length : Int) := of_decide_eq_true kq8); (obtain ⟨ad816, e816, hx816_0⟩ := Kd.at_int HR0.out x12_1 p816 q816); cases e816; replace p816 := eq_true p816; replace q816 := eq_true q816; go_wp2; go_ret2; (exact ⟨kq3, kq5⟩)
              · (have c8b0 : decide ((rd l0 x12_1) ≤ (-1073741824)) = false := decide_eq_false c8); clear c8; replace H := ic_ H; obtain ⟨c9, H⟩ | ⟨c9, H⟩ := H
                · (have c9b0 : decide (1125899906842624 ≤ x2_1) = true := decide_eq_true c9); clear c9; (simp only [Option.some.injEq, Prod.mk.injEq] at H); (obtain ⟨rfl, rfl⟩ := H); (have p816 : 0 ≤ (x12_1 : Int) := of_decide_eq_true kq8); (have q816 : x12_1 < (l0.length : Int) := of_decide_eq_true kq8); (obtain ⟨ad816, e816, hx816_0⟩ := Kd.at_int HR0.out x12_1 p816 q816); cases e816; replace p816 := eq_true p816; replace q816 := eq_true q816; go_wp2; go_ret2; (exact ⟨kq3, kq5⟩)
                · (have c9b0 : decide (1125899906842624 ≤ x2_1) = false := decide_eq_false c9); clear c9; replace H := ic_ H; obtain ⟨c10, H⟩ | ⟨c10, H⟩ := H
                  · (have c10b0 : decide (x2_1 ≤ (-1125899906842624)) = true := decide_eq_true c10); clear c10; (simp only [Option.some.injEq, Prod.mk.injEq] at H); (obtain ⟨rfl, rfl⟩ := H); (have p816 : 0 ≤ (x12_1 : Int) := of_decide_eq_true kq8); (have q816 : x12_1 < (l0.length : Int) := of_decide_eq_true kq8); (obtain ⟨ad816, e816, hx816_0⟩ := Kd.at_int HR0.out x12_1 p816 q816); cases e816; replace p816 := eq_true p816; replace q816 := eq_true q816; go_wp2; go_ret2; (exact ⟨kq3, kq5⟩)
                  · (have c10b0 : decide (x2_1 ≤ (-1125899906842624)) = false := decide_eq_false c10); clear c10; replace H := ic_ H; obtain ⟨c11, H⟩ | ⟨c11, H⟩ := H
                    · (have c11b0 : decide (x12_1 < (l1.length : Int)) = true := decide_eq_true c11); clear c11; (have H' := mk H); clear H; (have p816 : 0 ≤ (x12_1 : Int) := of_decide_eq_true kq8); (have q816 : x12_1 < (l0.length : Int) := of_decide_eq_true kq8); (obtain ⟨ad816, e816, hx816_0⟩ := Kd.at_int HR0.out x12_1 p816 q816); cases e816; replace p816 := eq_true p816; replace q816 := eq_true q816; (have p817 : 0 ≤ (x12_1 : Int) := of_decide_eq_true kq8); (have q817 : x12_1 < (l1.length : Int) := of_decide_eq_true kq8); (obtain ⟨ad817, e817, hx817_0⟩ := Kd.at_int HR1.out x12_1 p817 q817); cases e817; replace p817 := eq_true p817; replace q817 := eq_true q817; go_wp2; (go_roundg k1)
                      case measure => have := HK1.out; omega
                      case rel => exact ⟨(wrap64 (x2_1 + (wrap64 ((rd l0 x12_1) * (rd l1 x12_1))))), (wrap64 (x12_1 + 1)), kq3, kq3, H', ⟨kq12⟩, kq5⟩
                    · (exact absurd H (by simp))
          · (exact absurd H (by simp))
        · (exact absurd H (by simp))
      · (have c4b0 : decide (x12_1 < (l0.length : Int)) = false := decide_eq_false c4); clear c4; (simp only [Option.some.injEq, Prod.mk.injEq] at H); (obtain ⟨rfl, rfl⟩ := H); go_wp2; go_ret2; (exact ⟨kq3, kq5⟩)
end Go.Proofs.Ytjknpmibdkoklaa.Q
namespace Go.Proofs.Ytjknpmibdkoklaa.Q
open Go.RowKit Go.Proofs.YtjknpmibdkoklaaW.PrintWords Go.Proofs.YtjknpmibdkoklaaW.PrintLast Go.Proofs.YtjknpmibdkoklaaW.PrintMore
open Aside0 (mk)
open List (setIfInBounds_toArray set_cons_zero set_cons_succ)
attribute [local go_sem] max2_int min2_int max_two min_two max_three min_three max_four min_four
set_option linter.unusedVariables false
set_option linter.unusedSimpArgs false
attribute [local go_sem] fld99_2 fld103_2 fld160_0 fld160_1
end Go.Proofs.Ytjknpmibdkoklaa.Q
