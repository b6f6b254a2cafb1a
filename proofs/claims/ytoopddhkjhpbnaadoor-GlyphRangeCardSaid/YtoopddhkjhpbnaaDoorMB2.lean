/- Functions of the given program as Lean functions, each with its contract, and what they answer; words for it. No condition but those of each. -/
import Derived.Test.YtoopddhkjhpbnaaDoorProg
import Derived.Below
import Derived.Deep.Draws
import Derived.Deep.AppendLies
import Derived.Maps.AppendAt
import Derived.OwnWalk
import Derived.Laws.BytesArg
import Derived.Laws.MakeOwn
import Derived.Laws.OwnMore
import Derived.Deep.OwnRows
import Derived.Tactics
import Derived.Lib.ConvBytes
import Derived.Laws.Slices
import Derived.WalkKit
import Derived.KernelRfl
import Derived.RowKit3
import Derived.Deep.LoopGhost
import Derived.Deep.QuietTactic
import Derived.BigQuiet
import Derived.WideLaws
import Derived.Deep.DeepCutAuto
import Derived.Deep.CutBlock
import Derived.Deep.RegionHeld3
import Derived.Laws.Rows
import Derived.Lib.AppendStr
import Derived.ArgAppend
import Derived.Laws.IdiomCopy
import Derived.OrdersHeld
import Derived.Laws.BitsLemmas
import Derived.RowKit
import Derived.Test.YtoopddhkjhpbnaaDoorMB1
import Derived.Test.YtoopddhkjhpbnaaDoorMB0
namespace Go.Proofs.YtoopddhkjhpbnaaDoor.Q
open Go.RowKit Go.Proofs.YtoopddhkjhpbnaaDoorW.PrintWords Go.Proofs.YtoopddhkjhpbnaaDoorW.PrintLast Go.Proofs.YtoopddhkjhpbnaaDoorW.PrintMore
open Aside0 (mk)
open List (setIfInBounds_toArray set_cons_zero set_cons_succ)
abbrev bA_ := @below_alloc
abbrev bN_ := @pw_below_drewN
abbrev b1_ := @below_drew1
attribute [local go_sem] max2_int min2_int max_two min_two max_three min_three max_four min_four
set_option linter.unusedVariables false
set_option linter.unusedSimpArgs false
def errW : Option Int → Value
  | none => .nilIface
  | some c => .iface 0 (.int .i64 c)
theorem errW_none : errW none = .nilIface := rfl
theorem errW_some (c : Int) : errW (some c) = .iface 0 (.int .i64 c) := rfl
end Go.Proofs.YtoopddhkjhpbnaaDoor.Q
namespace Go.Proofs.YtoopddhkjhpbnaaDoor.Q
open Go.RowKit Go.Proofs.YtoopddhkjhpbnaaDoorW.PrintWords Go.Proofs.YtoopddhkjhpbnaaDoorW.PrintLast Go.Proofs.YtoopddhkjhpbnaaDoorW.PrintMore
open Aside0 (mk)
open List (setIfInBounds_toArray set_cons_zero set_cons_succ)
attribute [local go_sem] max2_int min2_int max_two min_two max_three min_three max_four min_four
set_option linter.unusedVariables false
set_option linter.unusedSimpArgs false
def glyph_Reserved.f (a0 : ByteArray) : Option (Bool) := if a0.toList = ([97, 110, 100] : List UInt8) then (some true) else (if a0.toList = ([111, 114] : List UInt8) then (some true) else (if a0.toList = ([110, 111, 116] : List UInt8) then (some true) else (if a0.toList = ([101, 120] : List UInt8) then (some true) else (if a0.toList = ([97, 108, 108] : List UInt8) then (some true) else (if a0.toList = ([109, 111, 100] : List UInt8) then (some true) else (if a0.toList = ([116, 114, 117, 101] : List UInt8) then (some true) else (if a0.toList = ([102, 97, 108, 115, 101] : List UInt8) then (some true) else (some false))))))))
set_option maxHeartbeats 8000000 in
set_option maxRecDepth 100000 in
theorem glyph_Reserved.calls (a0 : ByteArray) (r : Bool) (w : World) (h : glyph_Reserved.f a0 = some r) :
    Calls Tryd.prog 8 #[.string a0] w fun e w' => e = .returned (.bool r) ∧ Drawn0 w w' := by
  have H : (if a0.toList = ([97, 110, 100] : List UInt8) then (some true) else (if a0.toList = ([111, 114] : List UInt8) then (some true) else (if a0.toList = ([110, 111, 116] : List UInt8) then (some true) else (if a0.toList = ([101, 120] : List UInt8) then (some true) else (if a0.toList = ([97, 108, 108] : List UInt8) then (some true) else (if a0.toList = ([109, 111, 100] : List UInt8) then (some true) else (if a0.toList = ([116, 114, 117, 101] : List UInt8) then (some true) else (if a0.toList = ([102, 97, 108, 115, 101] : List UInt8) then (some true) else (some false))))))))) = some r := h
  clear h
  by_cases c2 : a0.toList = ([97, 110, 100] : List UInt8)
  · rw [if_pos c2] at H
    have c2b0 : (a0.toList == ([97, 110, 100] : List UInt8)) = true := beq_iff_eq.mpr c2
    have c2b1 : (a0.toList != ([97, 110, 100] : List UInt8)) = false := bne_eq_false_iff_eq.mpr c2
    clear c2
    obtain rfl := Option.some.inj H
    go_enter Tryd.func8, Tryd.ntmps8
    go_wp2
    go_ret
    exact ⟨by first | rfl | (simp; done) | (simp [*]; done), by repeat (first | exact Drawn0.refl _ | apply Drawn0.step)⟩
  · rw [if_neg c2] at H
    have c2b0 : (a0.toList == ([97, 110, 100] : List UInt8)) = false := beq_eq_false_iff_ne.mpr c2
    have c2b1 : (a0.toList != ([97, 110, 100] : List UInt8)) = true := bne_iff_ne.mpr c2
    by_cases c3 : a0.toList = ([111, 114] : List UInt8)
    · (rw [if_pos c3] at H); (have c3b0 : (a0.toList == ([111, 114] : List UInt8)) = true := beq_iff_eq.mpr c3); (have c3b1 : (a0.toList != ([111, 114] : List UInt8)) = false := bne_eq_false_iff_eq.mpr c3); clear c3; (obtain rfl := Option.some.inj H); (go_enter Tryd.func8, Tryd.ntmps8); go_wp2; go_ret; (exact ⟨by first | rfl | (simp; done) | (simp [*]; done), by repeat (first | exact Drawn0.refl _ | apply Drawn0.step)⟩)
    · (rw [if_neg c3] at H); (have c3b0 : (a0.toList == ([111, 114] : List UInt8)) = false := beq_eq_false_iff_ne.mpr c3); (have c3b1 : (a0.toList != ([111, 114] : List UInt8)) = true := bne_iff_ne.mpr c3); (by_cases c4 : a0.toList = ([110, 111, 116] : List UInt8))
      · (rw [if_pos c4] at H); (have c4b0 : (a0.toList == ([110, 111, 116] : List UInt8)) = true := beq_iff_eq.mpr c4); (have c4b1 : (a0.toList != ([110, 111, 116] : List UInt8)) = false := bne_eq_false_iff_eq.mpr c4); clear c4; (obtain rfl := Option.some.inj H); (go_enter Tryd.func8, Tryd.ntmps8); go_wp2; go_ret; (exact ⟨by first | rfl | (simp; done) | (simp [*]; done), by repeat (first | exact Drawn0.refl _ | apply Drawn0.step)⟩)
      · (rw [if_neg c4] at H); (have c4b0 : (a0.toList == ([110, 111, 116] : List UInt8)) = false := beq_eq_false_iff_ne.mpr c4); (have c4b1 : (a0.toList != ([110, 111, 116] : List UInt8)) = true := bne_iff_ne.mpr c4); (by_cases c5 : a0.toList = ([101, 120] : List UInt8))
        · (rw [if_pos c5] at H); (have c5b0 : (a0.toList == ([101, 120] : List UInt8)) = true := beq_iff_eq.mpr c5); (have c5b1 : (a0.toList != ([101, 120] : List UInt8)) = false := bne_eq_false_iff_eq.mpr c5); clear c5; (obtain rfl := Option.some.inj H); (go_enter Tryd.func8, Tryd.ntmps8); go_wp2; go_ret; (exact ⟨by first | rfl | (simp; done) | (simp [*]; done), by repeat (first | exact Drawn0.refl _ | apply Drawn0.step)⟩)
        · (rw [if_neg c5] at H); (have c5b0 : (a0.toList == ([101, 120] : List UInt8)) = false := beq_eq_false_iff_ne.mpr c5); (have c5b1 : (a0.toList != ([101, 120] : List UInt8)) = true := bne_iff_ne.mpr c5); (by_cases c6 : a0.toList = ([97, 108, 108] : List UInt8))
          · (rw [if_pos c6] at H); (have c6b0 : (a0.toList == ([97, 108, 108] : List UInt8)) = true := beq_iff_eq.mpr c6); (have c6b1 : (a0.toList != ([97, 108, 108] : List UInt8)) = false := bne_eq_false_iff_eq.mpr c6); clear c6; (obtain rfl := Option.some.inj H); (go_enter Tryd.func8, Tryd.ntmps8); go_wp2; go_ret; (exact ⟨by first | rfl | (simp; done) | (simp [*]; done), by repeat (first | exact Drawn0.refl _ | apply Drawn0.step)⟩)
          · (rw [if_neg c6] at H); (have c6b0 : (a0.toList == ([97, 108, 108] : List UInt8)) = false := beq_eq_false_iff_ne.mpr c6); (have c6b1 : (a0.toList != ([97, 108, 108] : List UInt8)) = true := bne_iff_ne.mpr c6); (by_cases c7 : a0.toList = ([109, 111, 100] : List UInt8))
            · (rw [if_pos c7] at H); (have c7b0 : (a0.toList == ([109, 111, 100] : List UInt8)) = true := beq_iff_eq.mpr c7); (have c7b1 : (a0.toList != ([109, 111, 100] : List UInt8)) = false := bne_eq_false_iff_eq.mpr c7); clear c7; (obtain rfl := Option.some.inj H); (go_enter Tryd.func8, Tryd.ntmps8); go_wp2; go_ret; (exact ⟨by first | rfl | (simp; done) | (simp [*]; done), by repeat (first | exact Drawn0.refl _ | apply Drawn0.step)⟩)
            · (rw [if_neg c7] at H); (have c7b0 : (a0.toList == ([109, 111, 100] : List UInt8)) = false := beq_eq_false_iff_ne.mpr c7); (have c7b1 : (a0.toList != ([109, 111, 100] : List UInt8)) = true := bne_iff_ne.mpr c7); (by_cases c8 : a0.toList = ([116, 114, 117, 101] : List UInt8))
              · (rw [if_pos c8] at H); (have c8b0 : (a0.toList == ([116, 114, 117, 101] : List UInt8)) = true := beq_iff_eq.mpr c8); (have c8b1 : (a0.toList != ([116, 114, 117, 101] : List UInt8)) = false := bne_eq_false_iff_eq.mpr c8); clear c8; (obtain rfl := Option.some.inj H); (go_enter Tryd.func8, Tryd.ntmps8); go_wp2; go_ret; (exact ⟨by first | rfl | (simp; done) | (simp [*]; done), by repeat (first | exact Drawn0.refl _ | apply Drawn0.step)⟩)
              · (rw [if_neg c8] at H); (have c8b0 : (a0.toList == ([116, 114, 117, 101] : List UInt8)) = false := beq_eq_false_iff_ne.mpr c8); (have c8b1 : (a0.toList != ([116, 114, 117, 101] : List UInt8)) = true := bne_iff_ne.mpr c8); (by_cases c9 : a0.toList = ([102, 97, 108, 115, 101] : List UInt8))
                · (rw [if_pos c9] at H); (have c9b0 : (a0.toList == ([102, 97, 108, 115, 101] : List UInt8)) = true := beq_iff_eq.mpr c9); (have c9b1 : (a0.toList != ([102, 97, 108, 115, 101] : List UInt8)) = false := bne_eq_false_iff_eq.mpr c9); clear c9; (obtain rfl := Option.some.inj H); (go_enter Tryd.func8, Tryd.ntmps8); go_wp2; go_ret; (exact ⟨by first | rfl | (simp; done) | (simp [*]; done), by repeat (first | exact Drawn0.refl _ | apply Drawn0.step)⟩)
                · (rw [if_neg c9] at H); (have c9b0 : (a0.toList == ([102, 97, 108, 115, 101] : List UInt8)) = false := beq_eq_false_iff_ne.mpr c9); (have c9b1 : (a0.toList != ([102, 97, 108, 115, 101] : List UInt8)) = true := bne_iff_ne.mpr c9); (obtain rfl := Option.some.inj H); (go_enter Tryd.func8, Tryd.ntmps8); go_wp2; go_ret; (exact ⟨by first | rfl | (simp; done) | (simp [*]; done), by repeat (first | exact Drawn0.refl _ | apply Drawn0.step)⟩)
end Go.Proofs.YtoopddhkjhpbnaaDoor.Q
namespace Go.Proofs.YtoopddhkjhpbnaaDoor.Q
open Go.RowKit Go.Proofs.YtoopddhkjhpbnaaDoorW.PrintWords Go.Proofs.YtoopddhkjhpbnaaDoorW.PrintLast Go.Proofs.YtoopddhkjhpbnaaDoorW.PrintMore
open Aside0 (mk)
open List (setIfInBounds_toArray set_cons_zero set_cons_succ)
attribute [local go_sem] max2_int min2_int max_two min_two max_three min_three max_four min_four
set_option linter.unusedVariables false
set_option linter.unusedSimpArgs false
end Go.Proofs.YtoopddhkjhpbnaaDoor.Q
namespace Go.Proofs.YtoopddhkjhpbnaaDoor.Q
open Go.RowKit Go.Proofs.YtoopddhkjhpbnaaDoorW.PrintWords Go.Proofs.YtoopddhkjhpbnaaDoorW.PrintLast Go.Proofs.YtoopddhkjhpbnaaDoorW.PrintMore
open Aside0 (mk)
open List (setIfInBounds_toArray set_cons_zero set_cons_succ)
attribute [local go_sem] max2_int min2_int max_two min_two max_three min_three max_four min_four
set_option linter.unusedVariables false
set_option linter.unusedSimpArgs false
theorem eqA26 (d : Nat) (w : World) (x0 y0 : Int) (x1 y1 : Int) :
    (Op.equalIn (d + 2) 26 (.agg #[.int .i64 x0, .int .i64 x1]) (.agg #[.int .i64 y0, .int .i64 y1])).run Tryd.prog w = .ok (x0 == y0 && (x1 == y1)) w := by
  refine eqA_of Tryd.underlying26 (by kernel_rfl) ?_
  refine eqf_cons (by rfl) (by go_simp; rfl) (by go_simp; rfl) (by go_simp) ?_
  exact eqf_last (by rfl) (by go_simp; rfl) (by go_simp; rfl) (by go_simp)
end Go.Proofs.YtoopddhkjhpbnaaDoor.Q
namespace Go.Proofs.YtoopddhkjhpbnaaDoor.Q
open Go.RowKit Go.Proofs.YtoopddhkjhpbnaaDoorW.PrintWords Go.Proofs.YtoopddhkjhpbnaaDoorW.PrintLast Go.Proofs.YtoopddhkjhpbnaaDoorW.PrintMore
open Aside0 (mk)
open List (setIfInBounds_toArray set_cons_zero set_cons_succ)
attribute [local go_sem] max2_int min2_int max_two min_two max_three min_three max_four min_four
set_option linter.unusedVariables false
set_option linter.unusedSimpArgs false
end Go.Proofs.YtoopddhkjhpbnaaDoor.Q
namespace Go.Proofs.YtoopddhkjhpbnaaDoor.Q
open Go.RowKit Go.Proofs.YtoopddhkjhpbnaaDoorW.PrintWords Go.Proofs.YtoopddhkjhpbnaaDoorW.PrintLast Go.Proofs.YtoopddhkjhpbnaaDoorW.PrintMore
open Aside0 (mk)
open List (setIfInBounds_toArray set_cons_zero set_cons_succ)
attribute [local go_sem] max2_int min2_int max_two min_two max_three min_three max_four min_four
set_option linter.unusedVariables false
set_option linter.unusedSimpArgs false
end Go.Proofs.YtoopddhkjhpbnaaDoor.Q
