/- Functions of the given program as Lean functions, each with its contract, and what they answer; words for it. No condition but those of each. -/
import Derived.Test.YtjknpmibdkoklaaMLS
import Derived.Test.YtjknpmibdkoklaaML3
import Derived.Test.YtjknpmibdkoklaaML2
import Derived.Laws.Strings
import Derived.Lib.OthersKept
import Derived.Laws.RangeAny
import Derived.LoopTactic
namespace Go.Proofs.Ytjknpmibdkoklaa.Q
open Go.RowKit Go.Proofs.YtjknpmibdkoklaaW.PrintWords Go.Proofs.YtjknpmibdkoklaaW.PrintLast Go.Proofs.YtjknpmibdkoklaaW.PrintMore
open Aside0 (mk)
open List (setIfInBounds_toArray set_cons_zero set_cons_succ)
attribute [local go_sem] max2_int min2_int max_two min_two max_three min_three max_four min_four
set_option linter.unusedVariables false
set_option linter.unusedSimpArgs false
attribute [local go_sem] fld99_2 fld103_2 fld160_0 fld160_1
end Go.Proofs.Ytjknpmibdkoklaa.Q
namespace Go.Proofs.Ytjknpmibdkoklaa.Q
open Go.RowKit Go.Proofs.YtjknpmibdkoklaaW.PrintWords Go.Proofs.YtjknpmibdkoklaaW.PrintLast Go.Proofs.YtjknpmibdkoklaaW.PrintMore
open Aside0 (mk)
open List (setIfInBounds_toArray set_cons_zero set_cons_succ)
attribute [local go_sem] max2_int min2_int max_two min_two max_three min_three max_four min_four
set_option linter.unusedVariables false
set_option linter.unusedSimpArgs false
attribute [local go_sem] fld99_2 fld103_2 fld160_0 fld160_1
end Go.Proofs.Ytjknpmibdkoklaa.Q
namespace Go.Proofs.Ytjknpmibdkoklaa.Q
open Go.RowKit Go.Proofs.YtjknpmibdkoklaaW.PrintWords Go.Proofs.YtjknpmibdkoklaaW.PrintLast Go.Proofs.YtjknpmibdkoklaaW.PrintMore
open Aside0 (mk)
open List (setIfInBounds_toArray set_cons_zero set_cons_succ)
attribute [local go_sem] max2_int min2_int max_two min_two max_three min_three max_four min_four
set_option linter.unusedVariables false
set_option linter.unusedSimpArgs false
attribute [local go_sem] fld99_2 fld103_2 fld160_0 fld160_1
end Go.Proofs.Ytjknpmibdkoklaa.Q
set_option maxRecDepth 100000
namespace Go.Proofs.Ytjknpmibdkoklaa.Q
open Go.RowKit Go.Sort Go.Lib Go.Proofs.YtjknpmibdkoklaaW.PrintWords Go.Proofs.YtjknpmibdkoklaaW.PrintLast Go.Proofs.YtjknpmibdkoklaaW.PrintMore
theorem bl_eq (s : ByteArray) : s.toList = bl s := by unfold bl; rw [ByteArray.toList_eq]
theorem bl_inj {a b : ByteArray} (h : bl a = bl b) : a = b := by rw [← lb_bl a, h, lb_bl]
theorem less_eq (a b : ByteArray) : Op.bytesLess a.toList b.toList = decide (bl a < bl b) := by rw [bytesLess_eq, bl_eq, bl_eq]
def canon (l : List ByteArray) : List ByteArray := compactS (sortedS l)
theorem canon_length (l : List ByteArray) : (canon l).length ≤ l.length := by
  unfold canon compactS
  rw [List.length_map]
  exact Nat.le_trans (compact_le _) (by rw [List.length_map, sortedS_length]; exact Nat.le_refl _)
theorem rdOf_nat {α : Type} (d : α) (l : List α) (i : Nat) : rdOf d l (i : Int) = l.getD i d := rfl
end Go.Proofs.Ytjknpmibdkoklaa.Q
namespace Go.Proofs.Ytjknpmibdkoklaa.Q
open Go.RowKit Go.Proofs.YtjknpmibdkoklaaW.PrintWords Go.Proofs.YtjknpmibdkoklaaW.PrintLast Go.Proofs.YtjknpmibdkoklaaW.PrintMore
open Aside0 (mk)
open List (setIfInBounds_toArray set_cons_zero set_cons_succ)
attribute [local go_sem] max2_int min2_int max_two min_two max_three min_three max_four min_four
set_option linter.unusedVariables false
set_option linter.unusedSimpArgs false
attribute [local go_sem] fld99_2 fld103_2 fld160_0 fld160_1
def glyph_Rest.f (k : Nat) (a0 : Int) : Option (Bool) := (glyph_Start.f k a0).bind fun t101 => (if t101 = true then (some true) else (if a0 ≥ 48 then (if a0 ≤ 57 then (some true) else (if a0 = 8242 then (some true) else (if a0 ≥ 8320 then (some (decide (a0 ≤ 8329))) else (some false)))) else (if a0 = 8242 then (some true) else (if a0 ≥ 8320 then (some (decide (a0 ≤ 8329))) else (some false)))))
theorem glyph_Rest.mono : ∀ a0 k, LeO (glyph_Rest.f k a0) (glyph_Rest.f (k + 1) a0) := by
  intro a0 k
  unfold glyph_Rest.f
  repeat' first
      | (with_reducible exact glyph_Start.mono _ _)
      | (with_reducible exact LeO.refl _)
      | (with_reducible exact LeO.none _)
      | (with_reducible refine LeO.ite ?_ ?_)
      | (with_reducible refine LeO.bind ?_ (fun _ => ?_))
      | exact glyph_Start.mono _ _
      | exact LeO.none _
      | refine LeO.ite ?_ ?_
      | refine LeO.bind ?_ (fun _ => ?_)
set_option maxHeartbeats 8000000 in
set_option maxRecDepth 100000 in
theorem glyph_Rest.calls (k : Nat) (a0 : Int) (r : Bool) (w : World) (h : glyph_Rest.f k a0 = some r) :
    Calls Try.prog 78 #[.int .i32 a0] w fun e w' => e = .returned (.bool r) ∧ Drawn0 w w' := by
  have H : ((glyph_Start.f k a0).bind fun t101 => (if t101 = true then (some true) else (if a0 ≥ 48 then (if a0 ≤ 57 then (some true) else (if a0 = 8242 then (some true) else (if a0 ≥ 8320 then (some (decide (a0 ≤ 8329))) else (some false)))) else (if a0 = 8242 then (some true) else (if a0 ≥ 8320 then (some (decide (a0 ≤ 8329))) else (some false)))))) = some r := h
  clear h
  replace H := Option.bind_eq_some_iff.mp H
  obtain ⟨t101, A20, H⟩ := H
  replace H : (if t101 = true then (some true) else (if a0 ≥ 48 then (if a0 ≤ 57 then (some true) else (if a0 = 8242 then (some true) else (if a0 ≥ 8320 then (some (decide (a0 ≤ 8329))) else (some false)))) else (if a0 = 8242 then (some true) else (if a0 ≥ 8320 then (some (decide (a0 ≤ 8329))) else (some false))))) = some r := H
  have A2 := mk A20
  clear A20
  by_cases c3 : t101 = true
  · subst c3
    have H1 : (some true) = some r := by rw [if_pos rfl] at H; exact H
    clear H
    have H := H1
    clear H1
    obtain rfl := Option.some.inj H
    go_enter Try.func78, Try.ntmps78
    go_wp2_with (first | ((with_reducible refine gate_callee (f := 77) rfl ?_); refine goesL_ (some 4) rfl rfl Try.func77 kq0 rfl #[.int .i32 a0] rfl kq7 ?_; (with_reducible refine (glyph_Start.calls k a0 true _ A2.out).mono ?_); rintro e w' ⟨rfl, ⟨nd, rfl⟩⟩; refine ⟨_, rfl, ?_⟩))
    go_ret
    exact ⟨kq3, kq5⟩
  · replace c3 := Bool.eq_false_iff.mpr c3
    subst c3
    have H1 : (if a0 ≥ 48 then (if a0 ≤ 57 then (some true) else (if a0 = 8242 then (some true) else (if a0 ≥ 8320 then (some (decide (a0 ≤ 8329))) else (some false)))) else (if a0 = 8242 then (some true) else (if a0 ≥ 8320 then (some (decide (a0 ≤ 8329))) else (some false)))) = some r := by rw [if_neg (show ¬ (false = true) by decide)] at H; exact H
    clear H
    have H := H1
    clear H1
    replace H := ic_ H; obtain ⟨c4, H⟩ | ⟨c4, H⟩ := H
    · (have c4b0 : decide (48 ≤ a0) = true := decide_eq_true c4); clear c4; replace H := ic_ H; obtain ⟨c5, H⟩ | ⟨c5, H⟩ := H
      · (have c5b0 : decide (a0 ≤ 57) = true := decide_eq_true c5); clear c5; (obtain rfl := Option.some.inj H); (go_enter Try.func78, Try.ntmps78); (go_wp2_with (first | ((with_reducible refine gate_callee (f := 77) rfl ?_); refine goesL_ (some 4) rfl rfl Try.func77 kq0 rfl #[.int .i32 a0] rfl kq7 ?_; (with_reducible refine (glyph_Start.calls k a0 false _ A2.out).mono ?_); rintro e w' ⟨rfl, ⟨nd, rfl⟩⟩; refine ⟨_, rfl, ?_⟩))); go_ret; (exact ⟨kq3, kq5⟩)
      · (have c5b0 : decide (a0 ≤ 57) = false := decide_eq_false c5); clear c5; replace H := ic_ H; obtain ⟨c6, H⟩ | ⟨c6, H⟩ := H
        · (obtain ⟨c6b0, c6b1⟩ := eTn_ c6); clear c6; (obtain rfl := Option.some.inj H); (go_enter Try.func78, Try.ntmps78); (go_wp2_with (first | ((with_reducible refine gate_callee (f := 77) rfl ?_); refine goesL_ (some 4) rfl rfl Try.func77 kq0 rfl #[.int .i32 a0] rfl kq7 ?_; (with_reducible refine (glyph_Start.calls k a0 false _ A2.out).mono ?_); rintro e w' ⟨rfl, ⟨nd, rfl⟩⟩; refine ⟨_, rfl, ?_⟩))); go_ret; (exact ⟨kq3, kq5⟩)
        · (obtain ⟨c6b0, c6b1⟩ := eFn_ c6); replace H := ic_ H; obtain ⟨c7, H⟩ | ⟨c7, H⟩ := H
          · (have c7b0 : decide (8320 ≤ a0) = true := decide_eq_true c7); clear c7; (obtain rfl := Option.some.inj H); (go_enter Try.func78, Try.ntmps78); (go_wp2_with (first | ((with_reducible refine gate_callee (f := 77) rfl ?_); refine goesL_ (some 4) rfl rfl Try.func77 kq0 rfl #[.int .i32 a0] rfl kq7 ?_; (with_reducible refine (glyph_Start.calls k a0 false _ A2.out).mono ?_); rintro e w' ⟨rfl, ⟨nd, rfl⟩⟩; refine ⟨_, rfl, ?_⟩))); go_ret; (exact ⟨kq3, kq5⟩)
          · (have c7b0 : decide (8320 ≤ a0) = false := decide_eq_false c7); clear c7; (obtain rfl := Option.some.inj H); (go_enter Try.func78, Try.ntmps78); (go_wp2_with (first | ((with_reducible refine gate_callee (f := 77) rfl ?_); refine goesL_ (some 4) rfl rfl Try.func77 kq0 rfl #[.int .i32 a0] rfl kq7 ?_; (with_reducible refine (glyph_Start.calls k a0 false _ A2.out).mono ?_); rintro e w' ⟨rfl, ⟨nd, rfl⟩⟩; refine ⟨_, rfl, ?_⟩))); go_ret; (exact ⟨kq3, kq5⟩)
    · (have c4b0 : decide (48 ≤ a0) = false := decide_eq_false c4); clear c4; replace H := ic_ H; obtain ⟨c8, H⟩ | ⟨c8, H⟩ := H
      · (obtain ⟨c8b0, c8b1⟩ := eTn_ c8); clear c8; (obtain rfl := Option.some.inj H); (go_enter Try.func78, Try.ntmps78); (go_wp2_with (first | ((with_reducible refine gate_callee (f := 77) rfl ?_); refine goesL_ (some 4) rfl rfl Try.func77 kq0 rfl #[.int .i32 a0] rfl kq7 ?_; (with_reducible refine (glyph_Start.calls k a0 false _ A2.out).mono ?_); rintro e w' ⟨rfl, ⟨nd, rfl⟩⟩; refine ⟨_, rfl, ?_⟩))); go_ret; (exact ⟨kq3, kq5⟩)
      · (obtain ⟨c8b0, c8b1⟩ := eFn_ c8); replace H := ic_ H; obtain ⟨c9, H⟩ | ⟨c9, H⟩ := H
        · (have c9b0 : decide (8320 ≤ a0) = true := decide_eq_true c9); clear c9; (obtain rfl := Option.some.inj H); (go_enter Try.func78, Try.ntmps78); (go_wp2_with (first | ((with_reducible refine gate_callee (f := 77) rfl ?_); refine goesL_ (some 4) rfl rfl Try.func77 kq0 rfl #[.int .i32 a0] rfl kq7 ?_; (with_reducible refine (glyph_Start.calls k a0 false _ A2.out).mono ?_); rintro e w' ⟨rfl, ⟨nd, rfl⟩⟩; refine ⟨_, rfl, ?_⟩))); go_ret; (exact ⟨kq3, kq5⟩)
        · (have c9b0 : decide (8320 ≤ a0) = false := decide_eq_false c9); clear c9; (obtain rfl := Option.some.inj H); (go_enter Try.func78, Try.ntmps78); (go_wp2_with (first | ((with_reducible refine gate_callee (f := 77) rfl ?_); refine goesL_ (some 4) rfl rfl Try.func77 kq0 rfl #[.int .i32 a0] rfl kq7 ?_; (with_reducible refine (glyph_Start.calls k a0 false _ A2.out).mono ?_); rintro e w' ⟨rfl, ⟨nd, rfl⟩⟩; refine ⟨_, rfl, ?_⟩))); go_ret; (exact ⟨kq3, kq5⟩)
def glyph_Reserved.f (a0 : ByteArray) : Option (Bool) := if a0.toList = ([97, 110, 100] : List UInt8) then (some true) else (if a0.toList = ([111, 114] : List UInt8) then (some true) else (if a0.toList = ([110, 111, 116] : List UInt8) then (some true) else (if a0.toList = ([101, 120] : List UInt8) then (some true) else (if a0.toList = ([97, 108, 108] : List UInt8) then (some true) else (if a0.toList = ([109, 111, 100] : List UInt8) then (some true) else (if a0.toList = ([116, 114, 117, 101] : List UInt8) then (some true) else (if a0.toList = ([102, 97, 108, 115, 101] : List UInt8) then (some true) else (some false))))))))
set_option maxHeartbeats 8000000 in
set_option maxRecDepth 100000 in
theorem glyph_Reserved.calls (a0 : ByteArray) (r : Bool) (w : World) (h : glyph_Reserved.f a0 = some r) :
    Calls Try.prog 79 #[.string a0] w fun e w' => e = .returned (.bool r) ∧ Drawn0 w w' := by
  have H : (if a0.toList = ([97, 110, 100] : List UInt8) then (some true) else (if a0.toList = ([111, 114] : List UInt8) then (some true) else (if a0.toList = ([110, 111, 116] : List UInt8) then (some true) else (if a0.toList = ([101, 120] : List UInt8) then (some true) else (if a0.toList = ([97, 108, 108] : List UInt8) then (some true) else (if a0.toList = ([109, 111, 100] : List UInt8) then (some true) else (if a0.toList = ([116, 114, 117, 101] : List UInt8) then (some true) else (if a0.toList = ([102, 97, 108, 115, 101] : List UInt8) then (some true) else (some false))))))))) = some r := h
  clear h
  by_cases c2 : a0.toList = ([97, 110, 100] : List UInt8)
  · rw [if_pos c2] at H
    have c2b0 := eT_ c2
    have c2b1 := nF_ c2
    clear c2
    obtain rfl := Option.some.inj H
    go_enter Try.func79, Try.ntmps79
    go_wp2
    go_ret
    exact ⟨kq3, kq5⟩
  · rw [if_neg c2] at H
    have c2b0 := eF_ c2
    have c2b1 := nT_ c2
    replace H := ic_ H; obtain ⟨c3, H⟩ | ⟨c3, H⟩ := H
    · (obtain ⟨c3b0, c3b1⟩ := eTn_ c3); clear c3; (obtain rfl := Option.some.inj H); (go_enter Try.func79, Try.ntmps79); go_wp2; go_ret; (exact ⟨kq3, kq5⟩)
    · (obtain ⟨c3b0, c3b1⟩ := eFn_ c3); replace H := ic_ H; obtain ⟨c4, H⟩ | ⟨c4, H⟩ := H
      · (obtain ⟨c4b0, c4b1⟩ := eTn_ c4); clear c4; (obtain rfl := Option.some.inj H); (go_enter Try.func79, Try.ntmps79); go_wp2; go_ret; (exact ⟨kq3, kq5⟩)
      · (obtain ⟨c4b0, c4b1⟩ := eFn_ c4); replace H := ic_ H; obtain ⟨c5, H⟩ | ⟨c5, H⟩ := H
        · (obtain ⟨c5b0, c5b1⟩ := eTn_ c5); clear c5; (obtain rfl := Option.some.inj H); (go_enter Try.func79, Try.ntmps79); go_wp2; go_ret; (exact ⟨kq3, kq5⟩)
        · (obtain ⟨c5b0, c5b1⟩ := eFn_ c5); replace H := ic_ H; obtain ⟨c6, H⟩ | ⟨c6, H⟩ := H
          · (obtain ⟨c6b0, c6b1⟩ := eTn_ c6); clear c6; (obtain rfl := Option.some.inj H); (go_enter Try.func79, Try.ntmps79); go_wp2; go_ret; (exact ⟨kq3, kq5⟩)
          · (obtain ⟨c6b0, c6b1⟩ := eFn_ c6); replace H := ic_ H; obtain ⟨c7, H⟩ | ⟨c7, H⟩ := H
            · (obtain ⟨c7b0, c7b1⟩ := eTn_ c7); clear c7; (obtain rfl := Option.some.inj H); (go_enter Try.func79, Try.ntmps79); go_wp2; go_ret; (exact ⟨kq3, kq5⟩)
            · (obtain ⟨c7b0, c7b1⟩ := eFn_ c7); replace H := ic_ H; obtain ⟨c8, H⟩ | ⟨c8, H⟩ := H
              · (obtain ⟨c8b0, c8b1⟩ := eTn_ c8); clear c8; (obtain rfl := Option.some.inj H); (go_enter Try.func79, Try.ntmps79); go_wp2; go_ret; (exact ⟨kq3, kq5⟩)
              · (obtain ⟨c8b0, c8b1⟩ := eFn_ c8); replace H := ic_ H; obtain ⟨c9, H⟩ | ⟨c9, H⟩ := H
                · (obtain ⟨c9b0, c9b1⟩ := eTn_ c9); clear c9; (obtain rfl := Option.some.inj H); (go_enter Try.func79, Try.ntmps79); go_wp2; go_ret; (exact ⟨kq3, kq5⟩)
                · (obtain ⟨c9b0, c9b1⟩ := eFn_ c9); (obtain rfl := Option.some.inj H); (go_enter Try.func79, Try.ntmps79); go_wp2; go_ret; (exact ⟨kq3, kq5⟩)
end Go.Proofs.Ytjknpmibdkoklaa.Q
set_option maxRecDepth 100000
namespace Go.Proofs.Ytjknpmibdkoklaa.Q
open Go.RowKit Go.Proofs.YtjknpmibdkoklaaW.PrintWords Go.Proofs.YtjknpmibdkoklaaW.PrintLast Go.Proofs.YtjknpmibdkoklaaW.PrintMore
open Aside0 (mk)
def startB (r : Int) : Bool := decide ((65 ≤ r ∧ r ≤ 90) ∨ (97 ≤ r ∧ r ≤ 122) ∨ r = 95 ∨ (913 ≤ r ∧ r ≤ 929) ∨ (931 ≤ r ∧ r ≤ 937) ∨ (945 ≤ r ∧ r ≤ 969))
def restB (r : Int) : Bool := startB r || decide ((48 ≤ r ∧ r ≤ 57) ∨ r = 8242 ∨ (8320 ≤ r ∧ r ≤ 8329))
theorem start_j3 (k : Nat) (r : Int) (b : Bool) : glyph_Start.j3 (k + 1) r b = some (b || decide (945 ≤ r ∧ r ≤ 969)) := by
  simp only [glyph_Start.j3]
  cases b
  · by_cases h1 : r ≥ 945 <;> by_cases h2 : r ≤ 969 <;> simp [h1, h2] <;> omega
  · simp
theorem start_j2 (k : Nat) (r : Int) (b : Bool) : glyph_Start.j2 (k + 2) r b = some (b || decide ((931 ≤ r ∧ r ≤ 937) ∨ (945 ≤ r ∧ r ≤ 969))) := by
  simp only [glyph_Start.j2, start_j3]
  cases b
  · by_cases h1 : r ≥ 931 <;> by_cases h2 : r ≤ 937 <;> simp [h1, h2] <;> omega
  · simp
theorem start_j1 (k : Nat) (r : Int) (b : Bool) : glyph_Start.j1 (k + 3) r b = some (b || decide ((913 ≤ r ∧ r ≤ 929) ∨ (931 ≤ r ∧ r ≤ 937) ∨ (945 ≤ r ∧ r ≤ 969))) := by
  simp only [glyph_Start.j1, start_j2]
  cases b
  · by_cases h1 : r ≥ 913 <;> by_cases h2 : r ≤ 929 <;> simp [h1, h2] <;> omega
  · simp
theorem start_j0 (k : Nat) (r : Int) (b : Bool) : glyph_Start.j0 (k + 4) r b = some (b || decide ((97 ≤ r ∧ r ≤ 122) ∨ r = 95 ∨ (913 ≤ r ∧ r ≤ 929) ∨ (931 ≤ r ∧ r ≤ 937) ∨ (945 ≤ r ∧ r ≤ 969))) := by
  simp only [glyph_Start.j0, start_j1]
  cases b
  · by_cases h1 : r ≥ 97 <;> by_cases h2 : r ≤ 122 <;> by_cases h3 : r = 95 <;> simp [h1, h2, h3] <;> omega
  · simp
theorem start_ev (k : Nat) (r : Int) : glyph_Start.f (k + 4) r = some (startB r) := by
  simp only [glyph_Start.f, start_j0, startB]
  by_cases h1 : r ≥ 65 <;> by_cases h2 : r ≤ 90 <;> simp [h1, h2] <;> omega
theorem start_at (r : Int) : glyph_Start.f 6 r = some (startB r) := start_ev 2 r
theorem rest_ev (k : Nat) (r : Int) : glyph_Rest.f (k + 4) r = some (restB r) := by
  unfold glyph_Rest.f
  rw [start_ev]
  unfold restB
  cases h : startB r
  · simp only [Option.bind_some, Bool.false_or]
    by_cases h1 : r ≥ 48 <;> by_cases h2 : r ≤ 57 <;> by_cases h3 : r = 8242 <;> by_cases h4 : r ≥ 8320 <;> by_cases h5 : r ≤ 8329 <;> simp [h1, h2, h3, h4, h5] <;> omega
  · simp
theorem rest_at (r : Int) : glyph_Rest.f 6 r = some (restB r) := rest_ev 2 r
def reservedB (s : ByteArray) : Bool := (glyph_Reserved.f s).getD false
theorem reserved_at (s : ByteArray) : glyph_Reserved.f s = some (reservedB s) := by
  unfold reservedB glyph_Reserved.f
  repeat' split
  all_goals rfl
theorem decode_pos (s : ByteArray) (p : Nat) (h : p < s.size) : 1 ≤ (Utf8.decode s p).2 := by
  by_cases ha : (s[p]'h).toNat < 128
  · rw [decode_ascii s p h ha]
    exact Nat.le_refl 1
  · exact (decode_high s p h kq1).2
def nameGo (s : ByteArray) (pos : Nat) (n : Int) : Bool × Int :=
  if h : pos < s.size then
    if ((pos == 0 && !startB ((Utf8.decode s pos).1 : Nat)) || !restB ((Utf8.decode s pos).1 : Nat)) = true then (false, 0) else nameGo s (pos + (Utf8.decode s pos).2) (wrap64 (n + 1))
  else (true, n)
termination_by s.size - pos
decreasing_by
  have := decode_pos s pos h
  omega
def nameB (s : ByteArray) : Bool := (nameGo s 0 0).1 && decide ((nameGo s 0 0).2 > 0) && decide ((nameGo s 0 0).2 ≤ 16) && !reservedB s
def glyph_Name.f (a0 : ByteArray) : Option Bool := some (nameB a0)
theorem name_end {s : ByteArray} {pos : Nat} {n : Int} (h : ¬ pos < s.size) (e : nameGo s pos n = nameGo s 0 0) : nameGo s 0 0 = (true, n) := by
  rw [← e, nameGo, dif_neg h]
theorem name_bad {s : ByteArray} {pos : Nat} {n : Int} (h : pos < s.size) (e : nameGo s pos n = nameGo s 0 0) (hb : ((pos == 0 && !startB ((Utf8.decode s pos).1 : Nat)) || !restB ((Utf8.decode s pos).1 : Nat)) = true) : nameB s = false := by
  unfold nameB
  rw [← e, nameGo, dif_pos h, if_pos hb]
  rfl
theorem name_go {s : ByteArray} {pos : Nat} {n : Int} (h : pos < s.size) (e : nameGo s pos n = nameGo s 0 0) (hb : ((pos == 0 && !startB ((Utf8.decode s pos).1 : Nat)) || !restB ((Utf8.decode s pos).1 : Nat)) = false) : nameGo s (pos + (Utf8.decode s pos).2) (wrap64 (n + 1)) = nameGo s 0 0 := by
  rw [← e]
  conv => rhs; rw [nameGo, dif_pos h, if_neg (by rw [hb]; decide)]
theorem name_val {s : ByteArray} {m : Int} (e : nameGo s 0 0 = (true, m)) : nameB s = (decide (m > 0) && decide (m ≤ 16) && !reservedB s) := by
  unfold nameB
  rw [e]
  rfl
theorem below_draw0 {B : Nat} {a w w' : World} (h : Below B a w) (hd : Drawn0 w w') : Below B a w' := by
  obtain ⟨n, rfl⟩ := hd
  exact pw_below_drewN h n
set_option maxHeartbeats 4000000 in
theorem glyph_Name.calls (a0 : ByteArray) (r : Bool) (w : World) (h : glyph_Name.f a0 = some r) :
    Calls Try.prog 41 #[.string a0] w fun e w' => e = .returned (.bool r) ∧ Below w.heap.size w w' := by
  have HR := mk (Option.some.inj h)
  clear h
  go_enter Try.func41, Try.ntmps41
  go_wp2
  go_loopw [3] (fun n wr => ∃ (pos : Nat) (m : Int), n = .int .i64 m ∧ Aside0 (nameGo a0 pos m = nameGo a0 0 0) ∧ Aside0 (wr.heap[w.heap.size]? = some (.stringIter a0 pos)) ∧ Aside0 (Below w.heap.size w wr)) (fun _ wr => a0.size - wr.iterPos w.heap.size)
  case atStart => exact ⟨0, 0, rfl, ⟨rfl⟩, ⟨World.iter_heap w a0 0⟩, ⟨below_alloc (Below.refl _ _) _⟩⟩
  case round =>
    obtain ⟨pos, m, rfl, HN, HI, HB⟩ := hrel
    by_cases hp : pos < a0.size
    · have hnx := fun ty => Lib.run_next_any_at (P := Try.prog) wr w.heap.size a0 pos ty HI.out hp
      have HI2 := mk (Lib.iterAt_heap wr w.heap.size a0 pos (pos + (Utf8.decode a0 pos).2) HI.out)
      have HB2 := mk (Lib.below_iterAt HB.out (Nat.le_refl _) a0 (pos + (Utf8.decode a0 pos).2))
      have hd := decode_pos a0 pos hp
      have HM := mk (show a0.size - (pos + (Utf8.decode a0 pos).2) < a0.size - pos by omega)
      have HG := mk (name_go hp HN.out)
      have HX := mk (name_bad hp HN.out)
      have HS := mk (start_at ((Utf8.decode a0 pos).1 : Nat))
      have HT := mk (rest_at ((Utf8.decode a0 pos).1 : Nat))
      clear HN HB hd hp
      have hz : (pos == 0) = ((pos : Int) == 0) := by
        by_cases h : pos = 0
        · subst h; rfl
        · rw [beq_eq_false_iff_ne.2 h, beq_eq_false_iff_ne.2 kq1]
      rw [hz] at HG HX
      clear hz
      generalize startB ((Utf8.decode a0 pos).1 : Nat) = sb at HS HG HX
      generalize restB ((Utf8.decode a0 pos).1 : Nat) = rb at HT HG HX
      cases hz : ((pos : Int) == 0) <;> cases sb <;> cases rb <;> rw [hz] at HG HX
      all_goals
        go_wp2_with (first | (go_at_call 77; (with_reducible refine (glyph_Start.calls 6 _ _ _ HS.out).mono ?_); rintro e w' ⟨rfl, ⟨nd, rfl⟩⟩) | (go_at_call 78; (with_reducible refine (glyph_Rest.calls 6 _ _ _ HT.out).mono ?_); rintro e w' ⟨rfl, ⟨nd, rfl⟩⟩))
        first
          | (go_ret; exact ⟨by rw [← HR.out, HX.out rfl]; rfl, by repeat (first | exact HB2.out | apply pw_below_drewN)⟩)
          | (go_roundw; (case rel => exact ⟨_, _, rfl, ⟨HG.out rfl⟩, ⟨HI2.out⟩, ⟨by repeat (first | exact HB2.out | apply pw_below_drewN)⟩⟩); (case measure => simpa [World.iterPos, HI.out, HI2.out] using HM.out))
    · have hnx := fun ty => Lib.run_next_end_at (P := Try.prog) wr w.heap.size a0 pos ty HI.out hp
      have HE := mk (name_end hp HN.out)
      have HV := mk (reserved_at a0)
      clear hp
      go_wp2_with (go_at_call 79; (with_reducible refine (glyph_Reserved.calls a0 _ _ HV.out).mono ?_); rintro e w' ⟨rfl, HD⟩)
      all_goals go_ret
      · exact ⟨by rw [← HR.out, name_val HE.out, decide_eq_true (show m > 0 by assumption), decide_eq_true (show m ≤ 16 by assumption)]; rfl, below_draw0 HB.out HD⟩
      · exact ⟨by rw [← HR.out, name_val HE.out, decide_eq_true (show m > 0 by assumption), decide_eq_false (show ¬ m ≤ 16 by omega)]; rfl, HB.out⟩
      · exact ⟨by rw [← HR.out, name_val HE.out, decide_eq_false (show ¬ m > 0 by omega)]; rfl, HB.out⟩
end Go.Proofs.Ytjknpmibdkoklaa.Q
namespace Go.Proofs.Ytjknpmibdkoklaa.Q
open Go.RowKit Go.Proofs.YtjknpmibdkoklaaW.PrintWords Go.Proofs.YtjknpmibdkoklaaW.PrintLast Go.Proofs.YtjknpmibdkoklaaW.PrintMore
open Aside0 (mk)
open List (setIfInBounds_toArray set_cons_zero set_cons_succ)
attribute [local go_sem] max2_int min2_int max_two min_two max_three min_three max_four min_four
set_option linter.unusedVariables false
set_option linter.unusedSimpArgs false
attribute [local go_sem] fld99_2 fld103_2 fld160_0 fld160_1
def glyph_Rises.l0 : Nat → List ByteArray → List ByteArray → Int → Int → Option (Bool)
  | 0, _, _, _, _ => none
  | k + 1, x0, x5, x6, x7 => if x7 < x6 then (if 0 ≤ x7 then (if x7 < (x5.length : Int) then ((glyph_Name.f (rdOf ByteArray.empty x5 x7)).bind fun t537 => (if t537 = true then (if x7 > 0 then (if 0 ≤ (wrap64 (x7 - 1)) then (if (wrap64 (x7 - 1)) < (x0.length : Int) then (if ((Op.bytesLess ((rdOf ByteArray.empty x0 (wrap64 (x7 - 1))).toList) ((rdOf ByteArray.empty x5 x7).toList)) = true) then (glyph_Rises.l0 k x0 x5 x6 (wrap64 (x7 + 1))) else (some false)) else (none)) else (none)) else (glyph_Rises.l0 k x0 x5 x6 (wrap64 (x7 + 1)))) else (some false))) else (none)) else (none)) else (some true)
def glyph_Rises.f (k : Nat) (l0 : List ByteArray) : Option (Bool) := glyph_Rises.l0 k l0 l0 (l0.length : Int) 0
theorem glyph_Rises.mono_l : ∀ k, (∀ y0 y1 y2 y3, LeO (glyph_Rises.l0 k y0 y1 y2 y3) (glyph_Rises.l0 (k + 1) y0 y1 y2 y3))
  | 0 => fun _ _ _ _ r h => by simp [glyph_Rises.l0] at h
  | k + 1 => by
    have ih0 := glyph_Rises.mono_l k
    · intro y0 y1 y2 y3; (unfold glyph_Rises.l0)
      repeat' first
      | (with_reducible exact ih0 _ _ _ _)
      | (with_reducible exact LeO.refl _)
      | (with_reducible exact LeO.none _)
      | (with_reducible refine LeO.ite ?_ ?_)
      | (with_reducible refine LeO.bind ?_ (fun _ => ?_))
      | exact ih0 _ _ _ _
      | exact LeO.none _
      | refine LeO.ite ?_ ?_
      | refine LeO.bind ?_ (fun _ => ?_)
theorem glyph_Rises.mono : ∀ a0 k, LeO (glyph_Rises.f k a0) (glyph_Rises.f (k + 1) a0) := by
  intro a0 k
  have ih0 := glyph_Rises.mono_l k
  unfold glyph_Rises.f
  repeat' first
      | (with_reducible exact ih0 _ _ _ _)
      | (with_reducible exact LeO.refl _)
      | (with_reducible exact LeO.none _)
      | (with_reducible refine LeO.ite ?_ ?_)
      | (with_reducible refine LeO.bind ?_ (fun _ => ?_))
      | exact ih0 _ _ _ _
      | exact LeO.none _
      | refine LeO.ite ?_ ?_
      | refine LeO.bind ?_ (fun _ => ?_)
set_option maxHeartbeats 8000000 in
set_option maxRecDepth 100000 in
theorem glyph_Rises.calls (k : Nat) (A0 : Option Addr) (c0 : Nat) (l0 : List ByteArray) (r : Bool) (w : World) (hr0 : Kd.C Kd.string w A0 l0.length l0) (hc0 : l0.length ≤ c0) (h : glyph_Rises.f k l0 = some r) :
    Calls Try.prog 25 #[.slice A0 l0.length c0] w fun e w' => e = .returned (.bool r) ∧ Below w.heap.size w w' := by
  have HR0 := mk hr0
  have HC0 := mk hc0
  clear hr0 hc0
  have HB := mk (Below.refl w.heap.size w)
  have H : (glyph_Rises.l0 k l0 l0 (l0.length : Int) 0) = some r := h
  clear h
  have H' := mk H
  clear H
  go_enter Try.func25, Try.ntmps25
  go_wp2
  go_loopg [7] k (fun kq v7 w' => ∃ (x7_1 : Int), v7 = .int .i64 x7_1 ∧ Aside0 (glyph_Rises.l0 kq l0 l0 (l0.length : Int) x7_1 = some r) ∧ Aside0 (kq ≤ k) ∧ Aside0 (Below w.heap.size w w'))
  case atStart => exact ⟨(0), kq3, H', ⟨Nat.le_refl _⟩, ⟨kq9⟩⟩
  case round =>
    clear H'
    obtain ⟨x7_1, rfl, HA, HK1, HB⟩ := hrel
    cases gk with
    | zero => exact absurd HA.out (by simp [glyph_Rises.l0])
    | succ k1 =>
      (have H := HA.out); clear HA; (simp only [glyph_Rises.l0] at H); replace H := ic_ H; obtain ⟨c2, H⟩ | ⟨c2, H⟩ := H
      · (have c2b0 : decide (x7_1 < (l0.length : Int)) = true := decide_eq_true c2); clear c2; replace H := ic_ H; obtain ⟨c3, H⟩ | ⟨c3, H⟩ := H
        · (have c3b0 : decide (0 ≤ x7_1) = true := decide_eq_true c3); clear c3; replace H := ic_ H; obtain ⟨c4, H⟩ | ⟨c4, H⟩ := H
          · (have c4b0 : decide (x7_1 < (l0.length : Int)) = true := decide_eq_true c4); clear c4; (replace H := Option.bind_eq_some_iff.mp H); (obtain ⟨t537, A50, H⟩ := H); (replace H : (if t537 = true then (if x7_1 > 0 then (if 0 ≤ (wrap64 (x7_1 - 1)) then (if (wrap64 (x7_1 - 1)) < (l0.length : Int) then (if ((Op.bytesLess ((rdOf ByteArray.empty l0 (wrap64 (x7_1 - 1))).toList) ((rdOf ByteArray.empty l0 x7_1).toList)) = true) then (glyph_Rises.l0 k1 l0 l0 (l0.length : Int) (wrap64 (x7_1 + 1))) else (some false)) else (none)) else (none)) else (glyph_Rises.l0 k1 l0 l0 (l0.length : Int) (wrap64 (x7_1 + 1)))) else (some false)) = some r := H); (have A5 := mk A50); clear A50; (by_cases c6 : t537 = true)
            · subst c6; (have H1 : (if x7_1 > 0 then (if 0 ≤ (wrap64 (x7_1 - 1)) then (if (wrap64 (x7_1 - 1)) < (l0.length : Int) then (if ((Op.bytesLess ((rdOf ByteArray.empty l0 (wrap64 (x7_1 - 1))).toList) ((rdOf ByteArray.empty l0 x7_1).toList)) = true) then (glyph_Rises.l0 k1 l0 l0 (l0.length : Int) (wrap64 (x7_1 + 1))) else (some false)) else (none)) else (none)) else (glyph_Rises.l0 k1 l0 l0 (l0.length : Int) (wrap64 (x7_1 + 1)))) = some r := by rw [if_pos rfl] at H; exact H); clear H; (have H := H1); clear H1; replace H := ic_ H; obtain ⟨c7, H⟩ | ⟨c7, H⟩ := H
              · (have c7b0 : decide (0 < x7_1) = true := decide_eq_true c7); clear c7; (obtain ⟨ji8, hji8⟩ : ∃ j_ : Int, (wrap64 (x7_1 - 1)) = j_ := ⟨_, rfl⟩); (replace H : (if 0 ≤ (ji8) then (if (ji8) < (l0.length : Int) then (if ((Op.bytesLess ((rdOf ByteArray.empty l0 (ji8)).toList) ((rdOf ByteArray.empty l0 x7_1).toList)) = true) then (glyph_Rises.l0 k1 l0 l0 (l0.length : Int) (wrap64 (x7_1 + 1))) else (some false)) else (none)) else (none)) = some r := by first | (rw [hji8] at H; exact H) | (simp only [hji8] at H ⊢; exact H)); ((try rw [hji8] at A5)); (have hji8w : (IntKind.i64.wrap (x7_1 - 1)) = ji8 := (i64_w _).trans hji8); replace H := ic_ H; obtain ⟨c9, H⟩ | ⟨c9, H⟩ := H
                · (have c9b0 : decide (0 ≤ (ji8)) = true := decide_eq_true c9); clear c9; replace H := ic_ H; obtain ⟨c10, H⟩ | ⟨c10, H⟩ := H
                  · (have c10b0 : decide ((ji8) < (l0.length : Int)) = true := decide_eq_true c10); clear c10; replace H := ic_ H; obtain ⟨c11, H⟩ | ⟨c11, H⟩ := H
                    · (have c11b0 : (Op.bytesLess ((rdOf ByteArray.empty l0 (ji8)).toList) ((rdOf ByteArray.empty l0 x7_1).toList)) = true := c11); clear c11; (have H' := mk H); clear H; (have p536 : 0 ≤ (x7_1 : Int) := of_decide_eq_true kq8); (have q536 : x7_1 < (l0.length : Int) := of_decide_eq_true kq8); (obtain ⟨ad536, e536, hx536_0⟩ := Kd.at_string HR0.out x7_1 p536 q536); cases e536; (replace hx536_0 := (HB.out.cell (World.block_lt_of_cell? w _ hx536_0)).trans hx536_0); replace p536 := eq_true p536; replace q536 := eq_true q536; (go_wp2_with (first | ((with_reducible refine gate_callee (f := 41) rfl ?_); refine goesL_ (some 13) rfl rfl Try.func41 kq0 rfl #[.string (rdOf ByteArray.empty l0 x7_1)] rfl kq7 ?_; (with_reducible refine (glyph_Name.calls (rdOf ByteArray.empty l0 x7_1) true _ A5.out).mono ?_); rintro e w12 ⟨rfl, hb⟩; refine ⟨_, rfl, ?_⟩; replace HB := mk (below_step kq9 hb); have p538 : 0 ≤ ((ji8) : Int) := of_decide_eq_true kq8; have q538 : (ji8) < (l0.length : Int) := of_decide_eq_true kq8; obtain ⟨ad538, e538, hx538_0⟩ := Kd.at_string HR0.out (ji8) p538 q538; obtain rfl : ad536 = ad538 := (by injection e538); replace hx538_0 := (HB.out.cell (World.block_lt_of_cell? w _ hx538_0)).trans hx538_0; replace p538 := eq_true p538; replace q538 := eq_true q538))); (go_roundg k1)
                      case measure => have := HK1.out; omega
                      case rel => exact ⟨(wrap64 (x7_1 + 1)), kq3, H', ⟨kq13⟩, ⟨kq9⟩⟩
                    · (have c11b0 : (Op.bytesLess ((rdOf ByteArray.empty l0 (ji8)).toList) ((rdOf ByteArray.empty l0 x7_1).toList)) = false := by simpa using c11); clear c11; (obtain rfl := Option.some.inj H); (have p536 : 0 ≤ (x7_1 : Int) := of_decide_eq_true kq8); (have q536 : x7_1 < (l0.length : Int) := of_decide_eq_true kq8); (obtain ⟨ad536, e536, hx536_0⟩ := Kd.at_string HR0.out x7_1 p536 q536); cases e536; (replace hx536_0 := (HB.out.cell (World.block_lt_of_cell? w _ hx536_0)).trans hx536_0); replace p536 := eq_true p536; replace q536 := eq_true q536; (go_wp2_with (first | ((with_reducible refine gate_callee (f := 41) rfl ?_); refine goesL_ (some 13) rfl rfl Try.func41 kq0 rfl #[.string (rdOf ByteArray.empty l0 x7_1)] rfl kq7 ?_; (with_reducible refine (glyph_Name.calls (rdOf ByteArray.empty l0 x7_1) true _ A5.out).mono ?_); rintro e w13 ⟨rfl, hb⟩; refine ⟨_, rfl, ?_⟩; replace HB := mk (below_step kq9 hb); have p538 : 0 ≤ ((ji8) : Int) := of_decide_eq_true kq8; have q538 : (ji8) < (l0.length : Int) := of_decide_eq_true kq8; obtain ⟨ad538, e538, hx538_0⟩ := Kd.at_string HR0.out (ji8) p538 q538; obtain rfl : ad536 = ad538 := (by injection e538); replace hx538_0 := (HB.out.cell (World.block_lt_of_cell? w _ hx538_0)).trans hx538_0; replace p538 := eq_true p538; replace q538 := eq_true q538))); go_ret; (exact ⟨by first | rfl | (simp [errW_none, errW_some] <;> rfl) | (simp only [← hji8]; first | rfl | (simp [errW_none, errW_some] <;> rfl)) | (simp [*, errW_none, errW_some] <;> rfl), kq9⟩)
                  · (exact absurd H (by simp))
                · (exact absurd H (by simp))
              · (have c7b0 : decide (0 < x7_1) = false := decide_eq_false c7); clear c7; (have H' := mk H); clear H; (have p536 : 0 ≤ (x7_1 : Int) := of_decide_eq_true kq8); (have q536 : x7_1 < (l0.length : Int) := of_decide_eq_true kq8); (obtain ⟨ad536, e536, hx536_0⟩ := Kd.at_string HR0.out x7_1 p536 q536); cases e536; (replace hx536_0 := (HB.out.cell (World.block_lt_of_cell? w _ hx536_0)).trans hx536_0); replace p536 := eq_true p536; replace q536 := eq_true q536; (go_wp2_with (first | ((with_reducible refine gate_callee (f := 41) rfl ?_); refine goesL_ (some 13) rfl rfl Try.func41 kq0 rfl #[.string (rdOf ByteArray.empty l0 x7_1)] rfl kq7 ?_; (with_reducible refine (glyph_Name.calls (rdOf ByteArray.empty l0 x7_1) true _ A5.out).mono ?_); rintro e w14 ⟨rfl, hb⟩; refine ⟨_, rfl, ?_⟩; replace HB := mk (below_step kq9 hb)))); (go_roundg k1)
                case measure => have := HK1.out; omega
                case rel => exact ⟨(wrap64 (x7_1 + 1)), kq3, H', ⟨kq13⟩, ⟨kq9⟩⟩
            · (replace c6 := Bool.eq_false_iff.mpr c6); subst c6; (have H1 : (some false) = some r := by rw [if_neg (show ¬ (false = true) by decide)] at H; exact H); clear H; (have H := H1); clear H1; (obtain rfl := Option.some.inj H); (have p536 : 0 ≤ (x7_1 : Int) := of_decide_eq_true kq8); (have q536 : x7_1 < (l0.length : Int) := of_decide_eq_true kq8); (obtain ⟨ad536, e536, hx536_0⟩ := Kd.at_string HR0.out x7_1 p536 q536); cases e536; (replace hx536_0 := (HB.out.cell (World.block_lt_of_cell? w _ hx536_0)).trans hx536_0); replace p536 := eq_true p536; replace q536 := eq_true q536; (go_wp2_with (first | ((with_reducible refine gate_callee (f := 41) rfl ?_); refine goesL_ (some 13) rfl rfl Try.func41 kq0 rfl #[.string (rdOf ByteArray.empty l0 x7_1)] rfl kq7 ?_; (with_reducible refine (glyph_Name.calls (rdOf ByteArray.empty l0 x7_1) false _ A5.out).mono ?_); rintro e w15 ⟨rfl, hb⟩; refine ⟨_, rfl, ?_⟩; replace HB := mk (below_step kq9 hb)))); go_ret; (exact ⟨kq14, kq9⟩)
          · (exact absurd H (by simp))
        · (exact absurd H (by simp))
      · (have c2b0 : decide (x7_1 < (l0.length : Int)) = false := decide_eq_false c2); clear c2; (obtain rfl := Option.some.inj H); go_wp2; go_ret; (exact ⟨kq14, kq9⟩)
end Go.Proofs.Ytjknpmibdkoklaa.Q
namespace Go.Proofs.Ytjknpmibdkoklaa.Q
open Go.RowKit Go.Proofs.YtjknpmibdkoklaaW.PrintWords Go.Proofs.YtjknpmibdkoklaaW.PrintLast Go.Proofs.YtjknpmibdkoklaaW.PrintMore
open Aside0 (mk)
open List (setIfInBounds_toArray set_cons_zero set_cons_succ)
attribute [local go_sem] max2_int min2_int max_two min_two max_three min_three max_four min_four
set_option linter.unusedVariables false
set_option linter.unusedSimpArgs false
attribute [local go_sem] fld99_2 fld103_2 fld160_0 fld160_1
mutual
def tabardref04_Read.j2 : Nat → ByteArray → Int → Int → Int → Int → Option (Int × Int × Bool)
  | 0, _, _, _, _, _ => none
  | k + 1, x0, x1, x7, x8, x9 => if (wrap64 ((x0.size : Int) - x1)) < x8 then (some (65533, 1, false)) else (tabardref04_Read.l0 k x0 x1 x7 x8 x9 1)
def tabardref04_Read.l0 : Nat → ByteArray → Int → Int → Int → Int → Int → Option (Int × Int × Bool)
  | 0, _, _, _, _, _, _ => none
  | k + 1, x0, x1, x7, x8, x9, x10 => if x10 < x8 then (if 0 ≤ (wrap64 (x1 + x10)) then (if (wrap64 (x1 + x10)) < (x0.size : Int) then (if (wrap64 (bt x0 (wrap64 (x1 + x10)))) < 128 then (some (65533, 1, false)) else (if (wrap64 (bt x0 (wrap64 (x1 + x10)))) > 191 then (some (65533, 1, false)) else (tabardref04_Read.l0 k x0 x1 (wrap64 ((wrap64 ((wrap64 (x7 * 64)) + (wrap64 (bt x0 (wrap64 (x1 + x10)))))) - 128)) x8 x9 (wrap64 (x10 + 1))))) else (none)) else (none)) else (if x7 < x9 then (some (65533, 1, false)) else (if x7 > 1114111 then (some (65533, 1, false)) else (if x7 ≥ 55296 then (if x7 ≤ 57343 then (some (65533, 1, false)) else (some (x7, x8, true))) else (some (x7, x8, true)))))
def tabardref04_Read.j0 : Nat → ByteArray → Int → Int → Bool → Option (Int × Int × Bool)
  | 0, _, _, _, _ => none
  | k + 1, x0, x1, x7, x20 => if x20 = true then (tabardref04_Read.j2 k x0 x1 (wrap64 (x7 - 192)) 2 128) else (if x7 ≥ 224 then (tabardref04_Read.j1 k x0 x1 x7 (decide (x7 < 240))) else (tabardref04_Read.j1 k x0 x1 x7 false))
def tabardref04_Read.j1 : Nat → ByteArray → Int → Int → Bool → Option (Int × Int × Bool)
  | 0, _, _, _, _ => none
  | k + 1, x0, x1, x7, x29 => if x29 = true then (tabardref04_Read.j2 k x0 x1 (wrap64 (x7 - 224)) 3 2048) else (if x7 ≥ 240 then (if x7 < 245 then (tabardref04_Read.j2 k x0 x1 (wrap64 (x7 - 240)) 4 65536) else (some (65533, 1, false))) else (some (65533, 1, false)))
end
def tabardref04_Read.f (k : Nat) (a0 : ByteArray) (a1 : Int) : Option (Int × Int × Bool) := if 0 ≤ a1 then (if a1 < (a0.size : Int) then (if (wrap64 (bt a0 a1)) < 128 then (some (wrap64 (bt a0 a1), 1, true)) else (if (wrap64 (bt a0 a1)) ≥ 194 then (tabardref04_Read.j0 k a0 a1 (wrap64 (bt a0 a1)) (decide ((wrap64 (bt a0 a1)) < 224))) else (tabardref04_Read.j0 k a0 a1 (wrap64 (bt a0 a1)) false))) else (none)) else (none)
theorem tabardref04_Read.mono_l : ∀ k, (∀ y0 y1 y2 y3 y4, LeO (tabardref04_Read.j2 k y0 y1 y2 y3 y4) (tabardref04_Read.j2 (k + 1) y0 y1 y2 y3 y4)) ∧ (∀ y0 y1 y2 y3 y4 y5, LeO (tabardref04_Read.l0 k y0 y1 y2 y3 y4 y5) (tabardref04_Read.l0 (k + 1) y0 y1 y2 y3 y4 y5)) ∧ (∀ y0 y1 y2 y3, LeO (tabardref04_Read.j0 k y0 y1 y2 y3) (tabardref04_Read.j0 (k + 1) y0 y1 y2 y3)) ∧ (∀ y0 y1 y2 y3, LeO (tabardref04_Read.j1 k y0 y1 y2 y3) (tabardref04_Read.j1 (k + 1) y0 y1 y2 y3))
  | 0 => ⟨fun _ _ _ _ _ r h => by simp [tabardref04_Read.j2] at h, fun _ _ _ _ _ _ r h => by simp [tabardref04_Read.l0] at h, fun _ _ _ _ r h => by simp [tabardref04_Read.j0] at h, fun _ _ _ _ r h => by simp [tabardref04_Read.j1] at h⟩
  | k + 1 => by
    obtain ⟨ih0, ih1, ih2, ih3⟩ := tabardref04_Read.mono_l k
    refine ⟨?_, ?_, ?_, ?_⟩ <;> intros <;> (first | unfold tabardref04_Read.j2 | unfold tabardref04_Read.l0 | unfold tabardref04_Read.j0 | unfold tabardref04_Read.j1) <;> repeat' first | (with_reducible first | exact ih0 _ _ _ _ _ | exact ih1 _ _ _ _ _ _ | exact ih2 _ _ _ _ | exact ih3 _ _ _ _ | exact LeO.refl _ | exact LeO.none _ | refine LeO.ite ?_ ?_ | refine LeO.bind ?_ (fun _ => ?_)) | exact ih0 _ _ _ _ _ | exact ih1 _ _ _ _ _ _ | exact ih2 _ _ _ _ | exact ih3 _ _ _ _ | exact LeO.none _ | refine LeO.ite ?_ ?_ | refine LeO.bind ?_ (fun _ => ?_)
theorem tabardref04_Read.mono : ∀ a0 a1 k, LeO (tabardref04_Read.f k a0 a1) (tabardref04_Read.f (k + 1) a0 a1) := by
  intro a0 a1 k
  obtain ⟨ih0, ih1, ih2, ih3⟩ := tabardref04_Read.mono_l k
  unfold tabardref04_Read.f
  repeat' first
      | (with_reducible exact ih0 _ _ _ _ _)
      | (with_reducible exact ih1 _ _ _ _ _ _)
      | (with_reducible exact ih2 _ _ _ _)
      | (with_reducible exact ih3 _ _ _ _)
      | (with_reducible exact LeO.refl _)
      | (with_reducible exact LeO.none _)
      | (with_reducible refine LeO.ite ?_ ?_)
      | (with_reducible refine LeO.bind ?_ (fun _ => ?_))
      | exact ih0 _ _ _ _ _
      | exact ih1 _ _ _ _ _ _
      | exact ih2 _ _ _ _
      | exact ih3 _ _ _ _
      | exact LeO.none _
      | refine LeO.ite ?_ ?_
      | refine LeO.bind ?_ (fun _ => ?_)
set_option maxHeartbeats 8000000 in
set_option maxRecDepth 100000 in
theorem tabardref04_Read.calls (k : Nat) (a0 : ByteArray) (a1 : Int) (r1 : Int) (r2 : Int) (r3 : Bool) (w : World) (h : tabardref04_Read.f k a0 a1 = some (r1, r2, r3)) :
    Calls Try.prog 105 #[.string a0, .int .i64 a1] w fun e w' => e = .returned (.tuple #[.int .i64 r1, .int .i64 r2, .bool r3]) ∧ Drawn0 w w' := by
  have H : (if 0 ≤ a1 then (if a1 < (a0.size : Int) then (if (wrap64 (bt a0 a1)) < 128 then (some (wrap64 (bt a0 a1), 1, true)) else (if (wrap64 (bt a0 a1)) ≥ 194 then (tabardref04_Read.j0 k a0 a1 (wrap64 (bt a0 a1)) (decide ((wrap64 (bt a0 a1)) < 224))) else (tabardref04_Read.j0 k a0 a1 (wrap64 (bt a0 a1)) false))) else (none)) else (none)) = some (r1, r2, r3) := h
  clear h
  by_cases c3 : 0 ≤ a1
  · rw [if_pos c3] at H
    have c3b0 : decide (0 ≤ a1) = true := decide_eq_true c3
    clear c3
    replace H := ic_ H; obtain ⟨c4, H⟩ | ⟨c4, H⟩ := H
    · (have c4b0 : decide (a1 < (a0.size : Int)) = true := decide_eq_true c4); clear c4; (have HC6 := mk H); clear H; (have p5 : 0 ≤ (a1 : Int) := of_decide_eq_true kq8); (have q5 : a1 < (a0.size : Int) := of_decide_eq_true kq8); (have hx5 := bt_at a0 a1); replace p5 := eq_true p5; replace q5 := eq_true q5; (go_enter Try.func105, Try.ntmps105); (go_upto_block 0 with (fail)); (go_cut [7, 8, 9] (fun v7 v8 v9 wc => ∃ (kq : Nat) (x7_5 : Int) (x8_5 : Int) (x9_5 : Int), v7 = .int .i64 x7_5 ∧ v8 = .int .i64 x8_5 ∧ v9 = .int .i64 x9_5 ∧ Aside0 (tabardref04_Read.j2 kq a0 a1 x7_5 x8_5 x9_5 = some (r1, r2, r3)) ∧ Aside0 (kq ≤ k) ∧ Drawn0 w wc))
      case first =>
        (have H := HC6.out); clear HC6; replace H := ic_ H; obtain ⟨c7, H⟩ | ⟨c7, H⟩ := H
        · (have c7b0 : decide ((wrap64 (bt a0 a1)) < 128) = true := decide_eq_true c7); clear c7; ((first | rw [c7b0] | (simp only [i64_w, i32_w]; rw [c7b0]) | skip)); (simp only [Option.some.injEq, Prod.mk.injEq] at H); (obtain ⟨rfl, rfl, rfl⟩ := H); go_wp2; (go_ret3); (exact ⟨kq3, kq5⟩)
        · (have c7b0 : decide ((wrap64 (bt a0 a1)) < 128) = false := decide_eq_false c7); clear c7; ((first | rw [c7b0] | (simp only [i64_w, i32_w]; rw [c7b0]) | skip)); (have HC8 := mk H); clear H; (go_upto_region 6 with (fail)); (go_cut [20] (fun v20 wc => ∃ (kq : Nat) (x20_7 : Bool), v20 = .bool x20_7 ∧ Aside0 (tabardref04_Read.j0 kq a0 a1 (wrap64 (bt a0 a1)) x20_7 = some (r1, r2, r3)) ∧ Aside0 (kq ≤ k) ∧ Drawn0 w wc))
          case first =>
            (have H := HC8.out); clear HC8; replace H := ic_ H; obtain ⟨c9, H⟩ | ⟨c9, H⟩ := H
            · (have c9b0 : decide (194 ≤ (wrap64 (bt a0 a1))) = true := decide_eq_true c9); clear c9; ((first | rw [c9b0] | (simp only [i64_w, i32_w]; rw [c9b0]) | skip)); (have H' := mk H); clear H; go_wp2; (go_meet)
              case rel => exact ⟨_, (decide ((wrap64 (bt a0 a1)) < 224)), kq3, H', ⟨kq4⟩, kq5⟩
            · (have c9b0 : decide (194 ≤ (wrap64 (bt a0 a1))) = false := decide_eq_false c9); clear c9; ((first | rw [c9b0] | (simp only [i64_w, i32_w]; rw [c9b0]) | skip)); (have H' := mk H); clear H; go_wp2; (go_meet)
              case rel => exact ⟨_, (false), kq3, H', ⟨kq4⟩, kq5⟩
          case rest =>
            clear HC8; (obtain ⟨kq, x20_7, rfl, HA, HJ7, ⟨mc7, rfl⟩⟩ := hcut)
            cases kq with
            | zero => exact absurd HA.out (by simp [tabardref04_Read.j0])
            | succ kj7 =>
              (have H := HA.out); clear HA; (simp only [tabardref04_Read.j0] at H); (by_cases c10 : x20_7 = true)
              · subst c10; (have H1 : (tabardref04_Read.j2 kj7 a0 a1 (wrap64 ((wrap64 (bt a0 a1)) - 192)) 2 128) = some (r1, r2, r3) := by rw [if_pos rfl] at H; exact H); clear H; (have H := H1); clear H1; (have H' := mk H); clear H; go_wp2; (go_meet)
                case rel => exact ⟨_, (wrap64 ((wrap64 (bt a0 a1)) - 192)), (2), (128), kq3, kq3, kq3, H', ⟨by have := HJ7.out; first | omega | exact Nat.le_refl _⟩, kq5⟩
              · (replace c10 := Bool.eq_false_iff.mpr c10); subst c10; (have H1 : (if (wrap64 (bt a0 a1)) ≥ 224 then (tabardref04_Read.j1 kj7 a0 a1 (wrap64 (bt a0 a1)) (decide ((wrap64 (bt a0 a1)) < 240))) else (tabardref04_Read.j1 kj7 a0 a1 (wrap64 (bt a0 a1)) false)) = some (r1, r2, r3) := by rw [if_neg (show ¬ (false = true) by decide)] at H; exact H); clear H; (have H := H1); clear H1; (have HC11 := mk H); clear H; (go_upto_region 8 with (fail)); (go_cut [29] (fun v29 wc => ∃ (kq : Nat) (x29_10 : Bool), v29 = .bool x29_10 ∧ Aside0 (tabardref04_Read.j1 kq a0 a1 (wrap64 (bt a0 a1)) x29_10 = some (r1, r2, r3)) ∧ Aside0 (kq ≤ kj7) ∧ Drawn0 w wc))
                case first =>
                  (have H := HC11.out); clear HC11; replace H := ic_ H; obtain ⟨c12, H⟩ | ⟨c12, H⟩ := H
                  · (have c12b0 : decide (224 ≤ (wrap64 (bt a0 a1))) = true := decide_eq_true c12); clear c12; ((first | rw [c12b0] | (simp only [i64_w, i32_w]; rw [c12b0]) | skip)); (have H' := mk H); clear H; go_wp2; (go_meet)
                    case rel => exact ⟨_, (decide ((wrap64 (bt a0 a1)) < 240)), kq3, H', ⟨by have := HJ7.out; first | omega | exact Nat.le_refl _⟩, kq5⟩
                  · (have c12b0 : decide (224 ≤ (wrap64 (bt a0 a1))) = false := decide_eq_false c12); clear c12; ((first | rw [c12b0] | (simp only [i64_w, i32_w]; rw [c12b0]) | skip)); (have H' := mk H); clear H; go_wp2; (go_meet)
                    case rel => exact ⟨_, (false), kq3, H', ⟨by have := HJ7.out; first | omega | exact Nat.le_refl _⟩, kq5⟩
                case rest =>
                  clear HC11; (obtain ⟨kq, x29_10, rfl, HA, HJ10, ⟨mc10, rfl⟩⟩ := hcut)
                  cases kq with
                  | zero => exact absurd HA.out (by simp [tabardref04_Read.j1])
                  | succ kj10 =>
                    (have H := HA.out); clear HA; (simp only [tabardref04_Read.j1] at H); (by_cases c13 : x29_10 = true)
                    · subst c13; (have H1 : (tabardref04_Read.j2 kj10 a0 a1 (wrap64 ((wrap64 (bt a0 a1)) - 224)) 3 2048) = some (r1, r2, r3) := by rw [if_pos rfl] at H; exact H); clear H; (have H := H1); clear H1; (have H' := mk H); clear H; go_wp2; (go_meet)
                      case rel => exact ⟨_, (wrap64 ((wrap64 (bt a0 a1)) - 224)), (3), (2048), kq3, kq3, kq3, H', ⟨by have := HJ7.out; have := HJ10.out; first | omega | exact Nat.le_refl _⟩, kq5⟩
                    · (replace c13 := Bool.eq_false_iff.mpr c13); subst c13; (have H1 : (if (wrap64 (bt a0 a1)) ≥ 240 then (if (wrap64 (bt a0 a1)) < 245 then (tabardref04_Read.j2 kj10 a0 a1 (wrap64 ((wrap64 (bt a0 a1)) - 240)) 4 65536) else (some (65533, 1, false))) else (some (65533, 1, false))) = some (r1, r2, r3) := by rw [if_neg (show ¬ (false = true) by decide)] at H; exact H); clear H; (have H := H1); clear H1; replace H := ic_ H; obtain ⟨c14, H⟩ | ⟨c14, H⟩ := H
                      · (have c14b0 : decide (240 ≤ (wrap64 (bt a0 a1))) = true := decide_eq_true c14); clear c14; replace H := ic_ H; obtain ⟨c15, H⟩ | ⟨c15, H⟩ := H
                        · (have c15b0 := decide_eq_true c15); clear c15; (have H' := mk H); clear H; go_wp2; (go_meet)
                          case rel => exact ⟨_, (wrap64 ((wrap64 (bt a0 a1)) - 240)), (4), (65536), kq3, kq3, kq3, H', ⟨by have := HJ7.out; have := HJ10.out; first | omega | exact Nat.le_refl _⟩, kq5⟩
                        · (have c15b0 := decide_eq_false c15); clear c15; (simp only [Option.some.injEq, Prod.mk.injEq] at H); (obtain ⟨rfl, rfl, rfl⟩ := H); go_wp2; (go_ret3); (exact ⟨kq3, kq5⟩)
                      · (have c14b0 : decide (240 ≤ (wrap64 (bt a0 a1))) = false := decide_eq_false c14); clear c14; (simp only [Option.some.injEq, Prod.mk.injEq] at H); (obtain ⟨rfl, rfl, rfl⟩ := H); go_wp2; (go_ret3); (exact ⟨kq3, kq5⟩)
      case rest =>
        clear HC6; (obtain ⟨kq, x7_5, x8_5, x9_5, rfl, rfl, rfl, HA, HJ5, ⟨mc5, rfl⟩⟩ := hcut)
        cases kq with
        | zero => exact absurd HA.out (by simp [tabardref04_Read.j2])
        | succ kj5 =>
          (have H := HA.out); clear HA; (simp only [tabardref04_Read.j2] at H); replace H := ic_ H; obtain ⟨c16, H⟩ | ⟨c16, H⟩ := H
          · (have c16b0 : decide ((wrap64 ((a0.size : Int) - a1)) < x8_5) = true := decide_eq_true c16); clear c16; (simp only [Option.some.injEq, Prod.mk.injEq] at H); (obtain ⟨rfl, rfl, rfl⟩ := H); go_wp2; (go_ret3); (exact ⟨kq3, kq5⟩)
          · (have c16b0 : decide ((wrap64 ((a0.size : Int) - a1)) < x8_5) = false := decide_eq_false c16); clear c16; (have H' := mk H); clear H; go_wp2; (go_loopg [7, 10] kj5 (fun kq v7 v10 w' => ∃ (x7_2 : Int) (x10_2 : Int), v7 = .int .i64 x7_2 ∧ v10 = .int .i64 x10_2 ∧ Aside0 (tabardref04_Read.l0 kq a0 a1 x7_2 x8_5 x9_5 x10_2 = some (r1, r2, r3)) ∧ Aside0 (kq ≤ kj5) ∧ Drawn0 w w'))
            case atStart => exact ⟨(x7_5), (1), kq3, kq3, H', ⟨Nat.le_refl _⟩, kq5⟩
            case round =>
              clear H'; (obtain ⟨x7_2, x10_2, rfl, rfl, HA, HK2, ⟨m2, rfl⟩⟩ := hrel)
              cases gk with
              | zero => exact absurd HA.out (by simp [tabardref04_Read.l0])
              | succ k2 =>
                (have H := HA.out); clear HA; (simp only [tabardref04_Read.l0] at H); replace H := ic_ H; obtain ⟨c17, H⟩ | ⟨c17, H⟩ := H
                · (have c17b0 := decide_eq_true c17); clear c17; (obtain ⟨ji18, hji18⟩ : ∃ j_ : Int, (wrap64 (a1 + x10_2)) = j_ := ⟨_, rfl⟩); (replace H : (if 0 ≤ (ji18) then (if (ji18) < (a0.size : Int) then (if (wrap64 (bt a0 (ji18))) < 128 then (some (65533, 1, false)) else (if (wrap64 (bt a0 (ji18))) > 191 then (some (65533, 1, false)) else (tabardref04_Read.l0 k2 a0 a1 (wrap64 ((wrap64 ((wrap64 (x7_2 * 64)) + (wrap64 (bt a0 (ji18))))) - 128)) x8_5 x9_5 (wrap64 (x10_2 + 1))))) else (none)) else (none)) = some (r1, r2, r3) := by first | (rw [hji18] at H; exact H) | (simp only [hji18] at H ⊢; exact H)); (have hji18w : (IntKind.i64.wrap (a1 + x10_2)) = ji18 := (i64_w _).trans hji18); replace H := ic_ H; obtain ⟨c19, H⟩ | ⟨c19, H⟩ := H
                  · (have c19b0 : decide (0 ≤ (ji18)) = true := decide_eq_true c19); clear c19; replace H := ic_ H; obtain ⟨c20, H⟩ | ⟨c20, H⟩ := H
                    · (have c20b0 : decide ((ji18) < (a0.size : Int)) = true := decide_eq_true c20); clear c20; replace H := ic_ H; obtain ⟨c22, H⟩ | ⟨c22, H⟩ := H
                      · (have c22b0 := decide_eq_true c22); clear c22; (simp only [Option.some.injEq, Prod.mk.injEq] at H); (obtain ⟨rfl, rfl, rfl⟩ := H); (have p21 : 0 ≤ ((ji18) : Int) := of_decide_eq_true kq8); (have q21 : (ji18) < (a0.size : Int) := of_decide_eq_true kq8); (have hx21 := bt_at a0 (ji18)); replace p21 := eq_true p21; replace q21 := eq_true q21; go_wp2; (go_ret3); (exact ⟨kq10, kq5⟩)
                      · (have c22b0 := decide_eq_false c22); clear c22; replace H := ic_ H; obtain ⟨c23, H⟩ | ⟨c23, H⟩ := H
                        · (have c23b0 : decide (191 < (wrap64 (bt a0 (ji18)))) = true := decide_eq_true c23); clear c23; (simp only [Option.some.injEq, Prod.mk.injEq] at H); (obtain ⟨rfl, rfl, rfl⟩ := H); (have p21 : 0 ≤ ((ji18) : Int) := of_decide_eq_true kq8); (have q21 : (ji18) < (a0.size : Int) := of_decide_eq_true kq8); (have hx21 := bt_at a0 (ji18)); replace p21 := eq_true p21; replace q21 := eq_true q21; go_wp2; (go_ret3); (exact ⟨kq10, kq5⟩)
                        · (have c23b0 : decide (191 < (wrap64 (bt a0 (ji18)))) = false := decide_eq_false c23); clear c23; (have H' := mk H); clear H; (have p21 : 0 ≤ ((ji18) : Int) := of_decide_eq_true kq8); (have q21 : (ji18) < (a0.size : Int) := of_decide_eq_true kq8); (have hx21 := bt_at a0 (ji18)); replace p21 := eq_true p21; replace q21 := eq_true q21; go_wp2; (go_roundg k2)
                          case measure => have := HJ5.out; have := HK2.out; omega
                          case rel => exact ⟨(wrap64 ((wrap64 ((wrap64 (x7_2 * 64)) + (wrap64 (bt a0 (ji18))))) - 128)), (wrap64 (x10_2 + 1)), kq10, kq3, H', ⟨by have := HJ5.out; have := HK2.out; omega⟩, kq5⟩
                    · (exact absurd H (by simp))
                  · (exact absurd H (by simp))
                · (have c17b0 := decide_eq_false c17); clear c17; replace H := ic_ H; obtain ⟨c24, H⟩ | ⟨c24, H⟩ := H
                  · (have c24b0 := decide_eq_true c24); clear c24; (simp only [Option.some.injEq, Prod.mk.injEq] at H); (obtain ⟨rfl, rfl, rfl⟩ := H); go_wp2; (go_ret3); (exact ⟨kq3, kq5⟩)
                  · (have c24b0 := decide_eq_false c24); clear c24; replace H := ic_ H; obtain ⟨c25, H⟩ | ⟨c25, H⟩ := H
                    · (have c25b0 : decide (1114111 < x7_2) = true := decide_eq_true c25); clear c25; (simp only [Option.some.injEq, Prod.mk.injEq] at H); (obtain ⟨rfl, rfl, rfl⟩ := H); go_wp2; (go_ret3); (exact ⟨kq3, kq5⟩)
                    · (have c25b0 : decide (1114111 < x7_2) = false := decide_eq_false c25); clear c25; replace H := ic_ H; obtain ⟨c26, H⟩ | ⟨c26, H⟩ := H
                      · (have c26b0 : decide (55296 ≤ x7_2) = true := decide_eq_true c26); clear c26; replace H := ic_ H; obtain ⟨c27, H⟩ | ⟨c27, H⟩ := H
                        · (have c27b0 := decide_eq_true c27); clear c27; (simp only [Option.some.injEq, Prod.mk.injEq] at H); (obtain ⟨rfl, rfl, rfl⟩ := H); go_wp2; (go_ret3); (exact ⟨kq3, kq5⟩)
                        · (have c27b0 := decide_eq_false c27); clear c27; (simp only [Option.some.injEq, Prod.mk.injEq] at H); (obtain ⟨rfl, rfl, rfl⟩ := H); go_wp2; (go_ret3); (exact ⟨kq3, kq5⟩)
                      · (have c26b0 : decide (55296 ≤ x7_2) = false := decide_eq_false c26); clear c26; (simp only [Option.some.injEq, Prod.mk.injEq] at H); (obtain ⟨rfl, rfl, rfl⟩ := H); go_wp2; (go_ret3); (exact ⟨kq3, kq5⟩)
    · (exact absurd H (by simp))
  · rw [if_neg c3] at H
    exact absurd H (by simp)
end Go.Proofs.Ytjknpmibdkoklaa.Q
namespace Go.Proofs.Ytjknpmibdkoklaa.Q
open Go.RowKit Go.Proofs.YtjknpmibdkoklaaW.PrintWords Go.Proofs.YtjknpmibdkoklaaW.PrintLast Go.Proofs.YtjknpmibdkoklaaW.PrintMore
theorem w64 {a : Int} (h0 : -9223372036854775808 ≤ a) (h1 : a ≤ 9223372036854775807) : wrap64 a = a := by unfold wrap64; omega
theorem bt_get (s : ByteArray) (p : Nat) (h : p < s.size) : bt s (p : Int) = ((s.get! p).toNat : Int) := by
  unfold bt
  rw [dif_pos (by simpa using h)]
  have e : s.get! p = s[p]'h := get_at s p h
  rw [e]
  rfl
theorem EvK {α : Type} {g : Nat → Option α} {r : α} (K : Nat) (h : ∀ k, g (k + K) = some r) : Ev g r := ⟨K, fun k hk => by
  obtain ⟨m, rfl⟩ : ∃ m, k = m + K := ⟨k - K, kq1⟩
  exact h m⟩
section
variable {s : ByteArray} {p : Nat} (hs : s.size ≤ 140737488351232) (hp : p < s.size)
include hs
theorem read_in (k : Nat) (x x8 : Nat) (x9 : Int) (i : Nat) (hi : i < x8) (h8 : x8 ≤ 4) (hpi : p + i < s.size) (hx : x ≤ 100000000) (h1 : 128 ≤ (s.get! (p + i)).toNat) (h2 : (s.get! (p + i)).toNat ≤ 191) :
    tabardref04_Read.l0 (k + 1) s (p : Int) (x : Int) (x8 : Int) x9 (i : Int) = tabardref04_Read.l0 k s (p : Int) ((x * 64 + (s.get! (p + i)).toNat - 128 : Nat) : Int) (x8 : Int) x9 ((i + 1 : Nat) : Int) := by
  have hb := bt_get s (p + i) hpi
  have hlt := (s.get! (p + i)).toNat_lt
  simp only [tabardref04_Read.l0]
  rw [show ((p : Int) + (i : Int)) = ((p + i : Nat) : Int) by omega, w64 (a := ((p + i : Nat) : Int)) kq1 kq1, hb, w64 (a := ((s.get! (p + i)).toNat : Int)) kq1 kq1]
  rw [if_pos kq1, if_pos kq1, if_pos kq1, if_neg kq1, if_neg kq1]
  rw [w64 (a := (x : Int) * 64) kq1 kq1, w64 (a := (x : Int) * 64 + _) kq1 kq1, w64 (a := (x : Int) * 64 + _ - 128) kq1 kq1, w64 (a := (i : Int) + 1) kq1 kq1]
  congr 1
  omega
theorem read_bad (k : Nat) (x x8 : Nat) (x9 : Int) (i : Nat) (hi : i < x8) (hpi : p + i < s.size) (h1 : (s.get! (p + i)).toNat < 128 ∨ 191 < (s.get! (p + i)).toNat) :
    tabardref04_Read.l0 (k + 1) s (p : Int) (x : Int) (x8 : Int) x9 (i : Int) = some (65533, 1, false) := by
  have hb := bt_get s (p + i) hpi
  have hlt := (s.get! (p + i)).toNat_lt
  simp only [tabardref04_Read.l0]
  rw [show ((p : Int) + (i : Int)) = ((p + i : Nat) : Int) by omega, w64 (a := ((p + i : Nat) : Int)) kq1 kq1, hb, w64 (a := ((s.get! (p + i)).toNat : Int)) kq1 kq1]
  rw [if_pos kq1, if_pos kq1, if_pos kq1]
  by_cases h : (s.get! (p + i)).toNat < 128
  · rw [if_pos kq1]
  · rw [if_neg kq1, if_pos kq1]
omit hs in
theorem read_end (k : Nat) (x x8 : Nat) (x9 : Nat) (i : Nat) (hi : ¬ i < x8) :
    tabardref04_Read.l0 (k + 1) s (p : Int) (x : Int) (x8 : Int) (x9 : Int) (i : Int) = if x9 ≤ x ∧ x ≤ 1114111 ∧ ¬ (55296 ≤ x ∧ x ≤ 57343) then some ((x : Int), (x8 : Int), true) else some (65533, 1, false) := by
  simp only [tabardref04_Read.l0]
  rw [if_neg kq1]
  by_cases h1 : x < x9
  · rw [if_pos kq1, if_neg kq1]
  · rw [if_neg kq1]
    by_cases h2 : x > 1114111
    · rw [if_pos kq1, if_neg kq1]
    · rw [if_neg kq1]
      by_cases h3 : 55296 ≤ x
      · rw [if_pos kq1]
        by_cases h4 : x ≤ 57343
        · rw [if_pos kq1, if_neg kq1]
        · rw [if_neg kq1, if_pos kq1]
      · rw [if_neg kq1, if_pos kq1]
def readN (n p b0 b1 b2 b3 : Nat) : Nat × Nat × Bool :=
  if b0 < 128 then (b0, 1, true)
  else if 194 ≤ b0 ∧ b0 < 224 then
    if p + 1 < n ∧ (128 ≤ b1 ∧ b1 ≤ 191) ∧ 128 ≤ (b0 - 192) * 64 + b1 - 128 ∧ (b0 - 192) * 64 + b1 - 128 ≤ 1114111 ∧ ¬ (55296 ≤ (b0 - 192) * 64 + b1 - 128 ∧ (b0 - 192) * 64 + b1 - 128 ≤ 57343) then ((b0 - 192) * 64 + b1 - 128, 2, true) else (65533, 1, false)
  else if 224 ≤ b0 ∧ b0 < 240 then
    if p + 2 < n ∧ (128 ≤ b1 ∧ b1 ≤ 191) ∧ (128 ≤ b2 ∧ b2 ≤ 191) ∧ 2048 ≤ ((b0 - 224) * 64 + b1 - 128) * 64 + b2 - 128 ∧ ((b0 - 224) * 64 + b1 - 128) * 64 + b2 - 128 ≤ 1114111 ∧ ¬ (55296 ≤ ((b0 - 224) * 64 + b1 - 128) * 64 + b2 - 128 ∧ ((b0 - 224) * 64 + b1 - 128) * 64 + b2 - 128 ≤ 57343) then (((b0 - 224) * 64 + b1 - 128) * 64 + b2 - 128, 3, true) else (65533, 1, false)
  else if 240 ≤ b0 ∧ b0 < 245 then
    if p + 3 < n ∧ (128 ≤ b1 ∧ b1 ≤ 191) ∧ (128 ≤ b2 ∧ b2 ≤ 191) ∧ (128 ≤ b3 ∧ b3 ≤ 191) ∧ 65536 ≤ (((b0 - 240) * 64 + b1 - 128) * 64 + b2 - 128) * 64 + b3 - 128 ∧ (((b0 - 240) * 64 + b1 - 128) * 64 + b2 - 128) * 64 + b3 - 128 ≤ 1114111 ∧ ¬ (55296 ≤ (((b0 - 240) * 64 + b1 - 128) * 64 + b2 - 128) * 64 + b3 - 128 ∧ (((b0 - 240) * 64 + b1 - 128) * 64 + b2 - 128) * 64 + b3 - 128 ≤ 57343) then ((((b0 - 240) * 64 + b1 - 128) * 64 + b2 - 128) * 64 + b3 - 128, 4, true) else (65533, 1, false)
  else (65533, 1, false)
def readB (s : ByteArray) (p : Nat) : Nat × Nat × Bool := readN s.size p (s.get! (p + 0)).toNat (s.get! (p + 1)).toNat (s.get! (p + 2)).toNat (s.get! (p + 3)).toNat
include hp
theorem read_j2 (k : Nat) (x x8 x9 : Nat) : tabardref04_Read.j2 (k + 1) s (p : Int) (x : Int) (x8 : Int) (x9 : Int) = if p + x8 ≤ s.size then tabardref04_Read.l0 k s (p : Int) (x : Int) (x8 : Int) (x9 : Int) ((1 : Nat) : Int) else some (65533, 1, false) := by
  simp only [tabardref04_Read.j2]
  rw [w64 kq1 kq1]
  by_cases h : p + x8 ≤ s.size
  · rw [if_neg kq1, if_pos h]
    rfl
  · rw [if_pos kq1, if_neg h]
omit hp in
theorem read_w2 (k : Nat) (x x9 : Nat) (hx : x ≤ 64) (h : p + 2 ≤ s.size) : tabardref04_Read.l0 (k + 2) s (p : Int) (x : Int) ((2 : Nat) : Int) (x9 : Int) ((1 : Nat) : Int) =
    if (128 ≤ (s.get! (p + 1)).toNat ∧ (s.get! (p + 1)).toNat ≤ 191) ∧ x9 ≤ x * 64 + (s.get! (p + 1)).toNat - 128 ∧ x * 64 + (s.get! (p + 1)).toNat - 128 ≤ 1114111 ∧ ¬ (55296 ≤ x * 64 + (s.get! (p + 1)).toNat - 128 ∧ x * 64 + (s.get! (p + 1)).toNat - 128 ≤ 57343) then some (((x * 64 + (s.get! (p + 1)).toNat - 128 : Nat) : Int), ((2 : Nat) : Int), true) else some (65533, 1, false) := by
  by_cases h1 : 128 ≤ (s.get! (p + 1)).toNat ∧ (s.get! (p + 1)).toNat ≤ 191
  · rw [read_in hs (k + 1) x 2 (x9 : Int) 1 kq1 kq1 kq1 kq1 h1.1 h1.2, read_end k _ 2 x9 2 kq1]
    simp only [h1, and_self, true_and]
  · rw [read_bad hs (k + 1) x 2 (x9 : Int) 1 kq1 kq1 kq1, if_neg (fun h => h1 h.1)]
omit hp in
theorem read_w3 (k : Nat) (x x9 : Nat) (hx : x ≤ 64) (h : p + 3 ≤ s.size) : tabardref04_Read.l0 (k + 3) s (p : Int) (x : Int) ((3 : Nat) : Int) (x9 : Int) ((1 : Nat) : Int) =
    if (128 ≤ (s.get! (p + 1)).toNat ∧ (s.get! (p + 1)).toNat ≤ 191) ∧ (128 ≤ (s.get! (p + 2)).toNat ∧ (s.get! (p + 2)).toNat ≤ 191) ∧ x9 ≤ (x * 64 + (s.get! (p + 1)).toNat - 128) * 64 + (s.get! (p + 2)).toNat - 128 ∧ (x * 64 + (s.get! (p + 1)).toNat - 128) * 64 + (s.get! (p + 2)).toNat - 128 ≤ 1114111 ∧ ¬ (55296 ≤ (x * 64 + (s.get! (p + 1)).toNat - 128) * 64 + (s.get! (p + 2)).toNat - 128 ∧ (x * 64 + (s.get! (p + 1)).toNat - 128) * 64 + (s.get! (p + 2)).toNat - 128 ≤ 57343) then some ((((x * 64 + (s.get! (p + 1)).toNat - 128) * 64 + (s.get! (p + 2)).toNat - 128 : Nat) : Int), ((3 : Nat) : Int), true) else some (65533, 1, false) := by
  have l1 := (s.get! (p + 1)).toNat_lt
  by_cases h1 : 128 ≤ (s.get! (p + 1)).toNat ∧ (s.get! (p + 1)).toNat ≤ 191
  · rw [read_in hs (k + 2) x 3 (x9 : Int) 1 kq1 kq1 kq1 kq1 h1.1 h1.2]
    by_cases h2 : 128 ≤ (s.get! (p + 2)).toNat ∧ (s.get! (p + 2)).toNat ≤ 191
    · rw [read_in hs (k + 1) _ 3 (x9 : Int) 2 kq1 kq1 kq1 kq1 h2.1 h2.2, read_end k _ 3 x9 3 kq1]
      simp only [h1, h2, and_self, true_and]
    · rw [read_bad hs (k + 1) _ 3 (x9 : Int) 2 kq1 kq1 kq1, if_neg (fun h => h2 h.2.1)]
  · rw [read_bad hs (k + 2) x 3 (x9 : Int) 1 kq1 kq1 kq1, if_neg (fun h => h1 h.1)]
omit hp in
theorem read_w4 (k : Nat) (x x9 : Nat) (hx : x ≤ 64) (h : p + 4 ≤ s.size) : tabardref04_Read.l0 (k + 4) s (p : Int) (x : Int) ((4 : Nat) : Int) (x9 : Int) ((1 : Nat) : Int) =
    if (128 ≤ (s.get! (p + 1)).toNat ∧ (s.get! (p + 1)).toNat ≤ 191) ∧ (128 ≤ (s.get! (p + 2)).toNat ∧ (s.get! (p + 2)).toNat ≤ 191) ∧ (128 ≤ (s.get! (p + 3)).toNat ∧ (s.get! (p + 3)).toNat ≤ 191) ∧ x9 ≤ ((x * 64 + (s.get! (p + 1)).toNat - 128) * 64 + (s.get! (p + 2)).toNat - 128) * 64 + (s.get! (p + 3)).toNat - 128 ∧ ((x * 64 + (s.get! (p + 1)).toNat - 128) * 64 + (s.get! (p + 2)).toNat - 128) * 64 + (s.get! (p + 3)).toNat - 128 ≤ 1114111 ∧ ¬ (55296 ≤ ((x * 64 + (s.get! (p + 1)).toNat - 128) * 64 + (s.get! (p + 2)).toNat - 128) * 64 + (s.get! (p + 3)).toNat - 128 ∧ ((x * 64 + (s.get! (p + 1)).toNat - 128) * 64 + (s.get! (p + 2)).toNat - 128) * 64 + (s.get! (p + 3)).toNat - 128 ≤ 57343) then some (((((x * 64 + (s.get! (p + 1)).toNat - 128) * 64 + (s.get! (p + 2)).toNat - 128) * 64 + (s.get! (p + 3)).toNat - 128 : Nat) : Int), ((4 : Nat) : Int), true) else some (65533, 1, false) := by
  have l1 := (s.get! (p + 1)).toNat_lt
  have l2 := (s.get! (p + 2)).toNat_lt
  by_cases h1 : 128 ≤ (s.get! (p + 1)).toNat ∧ (s.get! (p + 1)).toNat ≤ 191
  · rw [read_in hs (k + 3) x 4 (x9 : Int) 1 kq1 kq1 kq1 kq1 h1.1 h1.2]
    by_cases h2 : 128 ≤ (s.get! (p + 2)).toNat ∧ (s.get! (p + 2)).toNat ≤ 191
    · rw [read_in hs (k + 2) _ 4 (x9 : Int) 2 kq1 kq1 kq1 kq1 h2.1 h2.2]
      by_cases h3 : 128 ≤ (s.get! (p + 3)).toNat ∧ (s.get! (p + 3)).toNat ≤ 191
      · rw [read_in hs (k + 1) _ 4 (x9 : Int) 3 kq1 kq1 kq1 kq1 h3.1 h3.2, read_end k _ 4 x9 4 kq1]
        simp only [h1, h2, h3, and_self, true_and]
      · rw [read_bad hs (k + 1) _ 4 (x9 : Int) 3 kq1 kq1 kq1, if_neg (fun h => h3 h.2.2.1)]
    · rw [read_bad hs (k + 2) _ 4 (x9 : Int) 2 kq1 kq1 kq1, if_neg (fun h => h2 h.2.1)]
  · rw [read_bad hs (k + 3) x 4 (x9 : Int) 1 kq1 kq1 kq1, if_neg (fun h => h1 h.1)]
theorem read_at (k : Nat) : tabardref04_Read.f (k + 8) s (p : Int) = some (((readB s p).1 : Int), ((readB s p).2.1 : Int), (readB s p).2.2) := by
  have hb := bt_get s p hp
  have l0 := (s.get! p).toNat_lt
  unfold tabardref04_Read.f
  rw [if_pos kq1, if_pos kq1, hb, w64 (a := ((s.get! p).toNat : Int)) kq1 kq1]
  unfold readB readN
  simp only [Nat.add_zero]
  by_cases h0 : (s.get! p).toNat < 128
  · rw [if_pos kq1, if_pos h0]
    rfl
  rw [if_neg kq1, if_neg h0]
  by_cases h1 : 194 ≤ (s.get! p).toNat ∧ (s.get! p).toNat < 224
  · rw [if_pos kq1, if_pos h1, decide_eq_true kq1]
    simp only [tabardref04_Read.j0]
    rw [if_pos trivial, w64 kq1 kq1, show ((s.get! p).toNat : Int) - 192 = (((s.get! p).toNat - 192 : Nat) : Int) by omega]
    refine (read_j2 hs hp (k + 6) _ 2 128).trans ?_
    by_cases h2 : p + 1 < s.size
    · rw [if_pos kq1, read_w2 hs (k + 4) _ 128 kq1 kq1]
      simp only [h2, true_and]
      split <;> rfl
    · rw [if_neg kq1, if_neg (fun h => h2 h.1)]
      rfl
  rw [if_neg h1]
  have hj0 : tabardref04_Read.j0 (k + 8) s (p : Int) ((s.get! p).toNat : Int) false = (if 194 ≤ (s.get! p).toNat ∨ True then tabardref04_Read.j0 (k + 8) s (p : Int) ((s.get! p).toNat : Int) false else none) := by simp
  have e0 : (if ((s.get! p).toNat : Int) ≥ 194 then tabardref04_Read.j0 (k + 8) s (p : Int) ((s.get! p).toNat : Int) (decide (((s.get! p).toNat : Int) < 224)) else tabardref04_Read.j0 (k + 8) s (p : Int) ((s.get! p).toNat : Int) false) = tabardref04_Read.j0 (k + 8) s (p : Int) ((s.get! p).toNat : Int) false := by
    split
    · rw [decide_eq_false kq1]
    · rfl
  rw [e0]
  clear hj0 e0
  simp only [tabardref04_Read.j0]
  rw [if_neg kq2]
  by_cases h3 : 224 ≤ (s.get! p).toNat ∧ (s.get! p).toNat < 240
  · rw [if_pos h3, if_pos kq1, decide_eq_true kq1]
    simp only [tabardref04_Read.j1]
    rw [if_pos trivial, w64 kq1 kq1, show ((s.get! p).toNat : Int) - 224 = (((s.get! p).toNat - 224 : Nat) : Int) by omega]
    refine (read_j2 hs hp (k + 5) _ 3 2048).trans ?_
    by_cases h2 : p + 2 < s.size
    · rw [if_pos kq1, read_w3 hs (k + 2) _ 2048 kq1 kq1]
      simp only [h2, true_and]
      split <;> rfl
    · rw [if_neg kq1, if_neg (fun h => h2 h.1)]
      rfl
  rw [if_neg h3]
  have e1 : (if ((s.get! p).toNat : Int) ≥ 224 then tabardref04_Read.j1 (k + 7) s (p : Int) ((s.get! p).toNat : Int) (decide (((s.get! p).toNat : Int) < 240)) else tabardref04_Read.j1 (k + 7) s (p : Int) ((s.get! p).toNat : Int) false) = tabardref04_Read.j1 (k + 7) s (p : Int) ((s.get! p).toNat : Int) false := by
    split
    · rw [decide_eq_false kq1]
    · rfl
  rw [e1]
  clear e1
  simp only [tabardref04_Read.j1]
  rw [if_neg kq2]
  by_cases h4 : 240 ≤ (s.get! p).toNat ∧ (s.get! p).toNat < 245
  · rw [if_pos h4, if_pos kq1, if_pos kq1]
    rw [w64 kq1 kq1, show ((s.get! p).toNat : Int) - 240 = (((s.get! p).toNat - 240 : Nat) : Int) by omega]
    refine (read_j2 hs hp (k + 5) _ 4 65536).trans ?_
    by_cases h2 : p + 3 < s.size
    · rw [if_pos kq1, read_w4 hs (k + 1) _ 65536 kq1 kq1]
      simp only [h2, true_and]
      split <;> rfl
    · rw [if_neg kq1, if_neg (fun h => h2 h.1)]
      rfl
  · rw [if_neg h4]
    split
    · rw [if_neg kq1]
      rfl
    · rfl
end
def decN (n p b0 b1 b2 b3 : Nat) : Nat × Nat :=
  if b0 < 128 then (b0, 1)
  else if b0 / 32 = 6 ∧ p + 1 < n ∧ b1 / 64 = 2 then (if 128 ≤ b0 % 32 * 64 + b1 % 64 then (b0 % 32 * 64 + b1 % 64, 2) else (65533, 1))
  else if (b0 / 16 = 14 ∧ p + 1 < n ∧ b1 / 64 = 2) ∧ p + 2 < n ∧ b2 / 64 = 2 then
    (if 2048 ≤ b0 % 16 * 4096 + b1 % 64 * 64 + b2 % 64 ∧ Utf8.valid ((b0 % 16 * 4096 + b1 % 64 * 64 + b2 % 64 : Nat) : Int) = true then (b0 % 16 * 4096 + b1 % 64 * 64 + b2 % 64, 3) else (65533, 1))
  else if ((b0 / 8 = 30 ∧ p + 1 < n ∧ b1 / 64 = 2) ∧ p + 2 < n ∧ b2 / 64 = 2) ∧ p + 3 < n ∧ b3 / 64 = 2 then
    (if 65536 ≤ b0 % 8 * 262144 + b1 % 64 * 4096 + b2 % 64 * 64 + b3 % 64 ∧ Utf8.valid ((b0 % 8 * 262144 + b1 % 64 * 4096 + b2 % 64 * 64 + b3 % 64 : Nat) : Int) = true then (b0 % 8 * 262144 + b1 % 64 * 4096 + b2 % 64 * 64 + b3 % 64, 4) else (65533, 1))
  else (65533, 1)
theorem valid_iff (c : Nat) : Utf8.valid (c : Int) = true ↔ c < 55296 ∨ (57344 ≤ c ∧ c ≤ 1114111) := by
  simp only [Utf8.valid, Bool.or_eq_true, Bool.and_eq_true, decide_eq_true_eq]
  omega
theorem decode_decN (s : ByteArray) (p : Nat) : Utf8.decode s p = decN s.size p (s.get! (p + 0)).toNat (s.get! (p + 1)).toNat (s.get! (p + 2)).toNat (s.get! (p + 3)).toNat := by
  simp only [Utf8.decode, decN, Utf8.runeError, Bool.and_eq_true, decide_eq_true_eq, beq_iff_eq, ge_iff_le]
theorem decN_readN {n p b0 b1 b2 b3 : Nat} (l0 : b0 < 256) (l1 : b1 < 256) (l2 : b2 < 256) (l3 : b3 < 256) : decN n p b0 b1 b2 b3 = ((readN n p b0 b1 b2 b3).1, (readN n p b0 b1 b2 b3).2.1) ∧ ((readN n p b0 b1 b2 b3).2.2 = false → readN n p b0 b1 b2 b3 = (65533, 1, false)) ∧ ((readN n p b0 b1 b2 b3).2.2 = true → (readN n p b0 b1 b2 b3).2.1 = 1 → (readN n p b0 b1 b2 b3).1 < 128) := by
  unfold decN readN
  simp only [valid_iff]
  by_cases h0 : b0 < 128
  · rw [if_pos h0, if_pos h0]
    exact ⟨rfl, fun h => (by cases h), fun _ _ => h0⟩
  rw [if_neg h0, if_neg h0]
  by_cases h1 : 194 ≤ b0 ∧ b0 < 224
  · rw [if_pos h1]
    by_cases hA : b0 / 32 = 6 ∧ p + 1 < n ∧ b1 / 64 = 2
    · obtain ⟨a1, a2, a3⟩ := hA
      have e : b0 % 32 * 64 + b1 % 64 = (b0 - 192) * 64 + b1 - 128 := by omega
      rw [if_pos ⟨a1, a2, a3⟩, if_pos kq1, e, if_pos ⟨a2, kq1, kq1, kq1, kq1⟩]
      exact ⟨rfl, fun h => (by cases h), fun _ h => by simp at h⟩
    · rw [if_neg hA, if_neg kq1, if_neg kq1, if_neg (fun h => hA ⟨kq1, h.1, kq1⟩)]
      exact ⟨rfl, fun _ => rfl, fun h => (by cases h)⟩
  rw [if_neg h1]
  by_cases h2 : 224 ≤ b0 ∧ b0 < 240
  · rw [if_pos h2, if_neg kq1]
    by_cases hA : (b0 / 16 = 14 ∧ p + 1 < n ∧ b1 / 64 = 2) ∧ p + 2 < n ∧ b2 / 64 = 2
    · obtain ⟨⟨a1, a2, a3⟩, a4, a5⟩ := hA
      have e : b0 % 16 * 4096 + b1 % 64 * 64 + b2 % 64 = ((b0 - 224) * 64 + b1 - 128) * 64 + b2 - 128 := by omega
      have r1 : 128 ≤ b1 ∧ b1 ≤ 191 := by omega
      have r2 : 128 ≤ b2 ∧ b2 ≤ 191 := by omega
      rw [if_pos ⟨⟨a1, a2, a3⟩, a4, a5⟩, e]
      simp only [a4, r1, r2, true_and, and_self]
      generalize ((b0 - 224) * 64 + b1 - 128) * 64 + b2 - 128 = c
      by_cases hv : 2048 ≤ c ∧ c ≤ 1114111 ∧ ¬ (55296 ≤ c ∧ c ≤ 57343)
      · rw [if_pos hv, if_pos kq1]
        exact ⟨rfl, fun h => (by cases h), fun _ h => by simp at h⟩
      · rw [if_neg hv, if_neg kq1]
        exact ⟨rfl, fun _ => rfl, fun h => (by cases h)⟩
    · rw [if_neg hA, if_neg kq1, if_neg (fun h => hA ⟨⟨kq1, kq1, kq1⟩, h.1, kq1⟩)]
      exact ⟨rfl, fun _ => rfl, fun h => (by cases h)⟩
  rw [if_neg h2]
  by_cases h3 : 240 ≤ b0 ∧ b0 < 245
  · rw [if_pos h3, if_neg kq1, if_neg kq1]
    by_cases hA : ((b0 / 8 = 30 ∧ p + 1 < n ∧ b1 / 64 = 2) ∧ p + 2 < n ∧ b2 / 64 = 2) ∧ p + 3 < n ∧ b3 / 64 = 2
    · obtain ⟨⟨⟨a1, a2, a3⟩, a4, a5⟩, a6, a7⟩ := hA
      have e : b0 % 8 * 262144 + b1 % 64 * 4096 + b2 % 64 * 64 + b3 % 64 = (((b0 - 240) * 64 + b1 - 128) * 64 + b2 - 128) * 64 + b3 - 128 := by omega
      have r1 : 128 ≤ b1 ∧ b1 ≤ 191 := by omega
      have r2 : 128 ≤ b2 ∧ b2 ≤ 191 := by omega
      have r3 : 128 ≤ b3 ∧ b3 ≤ 191 := by omega
      rw [if_pos ⟨⟨⟨a1, a2, a3⟩, a4, a5⟩, a6, a7⟩, e]
      simp only [a6, r1, r2, r3, true_and, and_self]
      generalize (((b0 - 240) * 64 + b1 - 128) * 64 + b2 - 128) * 64 + b3 - 128 = c
      by_cases hv : 65536 ≤ c ∧ c ≤ 1114111 ∧ ¬ (55296 ≤ c ∧ c ≤ 57343)
      · rw [if_pos hv, if_pos kq1]
        exact ⟨rfl, fun h => (by cases h), fun _ h => by simp at h⟩
      · rw [if_neg hv, if_neg kq1]
        exact ⟨rfl, fun _ => rfl, fun h => (by cases h)⟩
    · rw [if_neg hA, if_neg (fun h => hA ⟨⟨⟨kq1, kq1, kq1⟩, kq1, kq1⟩, h.1, kq1⟩)]
      exact ⟨rfl, fun _ => rfl, fun h => (by cases h)⟩
  rw [if_neg h3]
  refine ⟨?_, fun _ => rfl, fun h => (by cases h)⟩
  by_cases hA : b0 / 32 = 6 ∧ p + 1 < n ∧ b1 / 64 = 2
  · rw [if_pos hA, if_neg kq1]
  rw [if_neg hA, if_neg kq1]
  by_cases hB : ((b0 / 8 = 30 ∧ p + 1 < n ∧ b1 / 64 = 2) ∧ p + 2 < n ∧ b2 / 64 = 2) ∧ p + 3 < n ∧ b3 / 64 = 2
  · rw [if_pos hB, if_neg kq1]
  · rw [if_neg hB]
theorem decode_read (s : ByteArray) (p : Nat) : Utf8.decode s p = ((readB s p).1, (readB s p).2.1) ∧ ((readB s p).2.2 = false → readB s p = (65533, 1, false)) ∧ ((readB s p).2.2 = true → (readB s p).2.1 = 1 → (readB s p).1 < 128) := by
  rw [decode_decN]
  exact decN_readN (s.get! (p + 0)).toNat_lt (s.get! (p + 1)).toNat_lt (s.get! (p + 2)).toNat_lt (s.get! (p + 3)).toNat_lt
end Go.Proofs.Ytjknpmibdkoklaa.Q
namespace Go.Proofs.Ytjknpmibdkoklaa.Q
open Go.RowKit Go.Proofs.YtjknpmibdkoklaaW.PrintWords Go.Proofs.YtjknpmibdkoklaaW.PrintLast Go.Proofs.YtjknpmibdkoklaaW.PrintMore
open Aside0 (mk)
open List (setIfInBounds_toArray set_cons_zero set_cons_succ)
attribute [local go_sem] max2_int min2_int max_two min_two max_three min_three max_four min_four
set_option linter.unusedVariables false
set_option linter.unusedSimpArgs false
attribute [local go_sem] fld99_2 fld103_2 fld160_0 fld160_1
def tabardref04_within.l0 : Nat → Int → List Int → Int → Option (Bool)
  | 0, _, _, _ => none
  | k + 1, x0, x1, x5 => if (wrap64 (x5 + 1)) < (x1.length : Int) then (if 0 ≤ x5 then (if x5 < (x1.length : Int) then (if x0 ≥ (rd x1 x5) then (if 0 ≤ (wrap64 (x5 + 1)) then (if x0 ≤ (rd x1 (wrap64 (x5 + 1))) then (some true) else (tabardref04_within.l0 k x0 x1 (wrap64 (x5 + 2)))) else (none)) else (tabardref04_within.l0 k x0 x1 (wrap64 (x5 + 2)))) else (none)) else (none)) else (some false)
def tabardref04_within.f (k : Nat) (a0 : Int) (l1 : List Int) : Option (Bool) := tabardref04_within.l0 k a0 l1 0
theorem tabardref04_within.mono_l : ∀ k, (∀ y0 y1 y2, LeO (tabardref04_within.l0 k y0 y1 y2) (tabardref04_within.l0 (k + 1) y0 y1 y2))
  | 0 => fun _ _ _ r h => by simp [tabardref04_within.l0] at h
  | k + 1 => by
    have ih0 := tabardref04_within.mono_l k
    · intro y0 y1 y2; (unfold tabardref04_within.l0)
      repeat' first
      | (with_reducible exact ih0 _ _ _)
      | (with_reducible exact LeO.refl _)
      | (with_reducible exact LeO.none _)
      | (with_reducible refine LeO.ite ?_ ?_)
      | (with_reducible refine LeO.bind ?_ (fun _ => ?_))
      | exact ih0 _ _ _
      | exact LeO.none _
      | refine LeO.ite ?_ ?_
      | refine LeO.bind ?_ (fun _ => ?_)
theorem tabardref04_within.mono : ∀ a0 a1 k, LeO (tabardref04_within.f k a0 a1) (tabardref04_within.f (k + 1) a0 a1) := by
  intro a0 a1 k
  have ih0 := tabardref04_within.mono_l k
  unfold tabardref04_within.f
  repeat' first
      | (with_reducible exact ih0 _ _ _)
      | (with_reducible exact LeO.refl _)
      | (with_reducible exact LeO.none _)
      | (with_reducible refine LeO.ite ?_ ?_)
      | (with_reducible refine LeO.bind ?_ (fun _ => ?_))
      | exact ih0 _ _ _
      | exact LeO.none _
      | refine LeO.ite ?_ ?_
      | refine LeO.bind ?_ (fun _ => ?_)
set_option maxHeartbeats 8000000 in
set_option maxRecDepth 100000 in
theorem tabardref04_within.calls (k : Nat) (a0 : Int) (A1 : Option Addr) (c1 : Nat) (l1 : List Int) (r : Bool) (w : World) (hr1 : Kd.C (Kd.int .i64) w A1 l1.length l1) (hc1 : l1.length ≤ c1) (h : tabardref04_within.f k a0 l1 = some r) :
    Calls Try.prog 158 #[.int .i64 a0, .slice A1 l1.length c1] w fun e w' => e = .returned (.bool r) ∧ Drawn0 w w' := by
  have HR1 := mk hr1
  have HC1 := mk hc1
  clear hr1 hc1
  have H : (tabardref04_within.l0 k a0 l1 0) = some r := h
  clear h
  have H' := mk H
  clear H
  go_enter Try.func158, Try.ntmps158
  go_wp2
  go_loopg [5] k (fun kq v5 w' => ∃ (x5_1 : Int), v5 = .int .i64 x5_1 ∧ Aside0 (tabardref04_within.l0 kq a0 l1 x5_1 = some r) ∧ Aside0 (kq ≤ k) ∧ Drawn0 w w')
  case atStart => exact ⟨(0), kq3, H', ⟨Nat.le_refl _⟩, kq5⟩
  case round =>
    clear H'
    obtain ⟨x5_1, rfl, HA, HK1, ⟨m1, rfl⟩⟩ := hrel
    cases gk with
    | zero => exact absurd HA.out (by simp [tabardref04_within.l0])
    | succ k1 =>
      (have H := HA.out); clear HA; (simp only [tabardref04_within.l0] at H); replace H := ic_ H; obtain ⟨c3, H⟩ | ⟨c3, H⟩ := H
      · (have c3b0 : decide ((wrap64 (x5_1 + 1)) < (l1.length : Int)) = true := decide_eq_true c3); clear c3; replace H := ic_ H; obtain ⟨c4, H⟩ | ⟨c4, H⟩ := H
        · (have c4b0 : decide (0 ≤ x5_1) = true := decide_eq_true c4); clear c4; replace H := ic_ H; obtain ⟨c5, H⟩ | ⟨c5, H⟩ := H
          · (have c5b0 : decide (x5_1 < (l1.length : Int)) = true := decide_eq_true c5); clear c5; replace H := ic_ H; obtain ⟨c6, H⟩ | ⟨c6, H⟩ := H
            · (have c6b0 : decide ((rd l1 x5_1) ≤ a0) = true := decide_eq_true c6); clear c6; (obtain ⟨ji7, hji7⟩ : ∃ j_ : Int, (wrap64 (x5_1 + 1)) = j_ := ⟨_, rfl⟩); (replace H : (if 0 ≤ (ji7) then (if a0 ≤ (rd l1 (ji7)) then (some true) else (tabardref04_within.l0 k1 a0 l1 (wrap64 (x5_1 + 2)))) else (none)) = some r := by first | (rw [hji7] at H; exact H) | (simp only [hji7] at H ⊢; exact H)); ((try rw [hji7] at c3b0)); (have hji7w : (IntKind.i64.wrap (x5_1 + 1)) = ji7 := (i64_w _).trans hji7); replace H := ic_ H; obtain ⟨c8, H⟩ | ⟨c8, H⟩ := H
              · (have c8b0 : decide (0 ≤ (ji7)) = true := decide_eq_true c8); clear c8; replace H := ic_ H; obtain ⟨c9, H⟩ | ⟨c9, H⟩ := H
                · (have c9b0 : decide (a0 ≤ (rd l1 (ji7))) = true := decide_eq_true c9); clear c9; (obtain rfl := Option.some.inj H); (have p322 : 0 ≤ (x5_1 : Int) := of_decide_eq_true kq8); (have q322 : x5_1 < (l1.length : Int) := of_decide_eq_true kq8); (obtain ⟨ad322, e322, hx322_0⟩ := Kd.at_int HR1.out x5_1 p322 q322); cases e322; replace p322 := eq_true p322; replace q322 := eq_true q322; (have p323 : 0 ≤ ((ji7) : Int) := of_decide_eq_true kq8); (have q323 : (ji7) < (l1.length : Int) := of_decide_eq_true kq8); (obtain ⟨ad323, e323, hx323_0⟩ := Kd.at_int HR1.out (ji7) p323 q323); (obtain rfl : ad322 = ad323 := (by injection e323)); replace p323 := eq_true p323; replace q323 := eq_true q323; go_wp2; go_ret; (exact ⟨by first | rfl | (simp; done) | (simp only [← hji7] <;> (first | rfl | simp)) | (simp [*]; done), kq5⟩)
                · (have c9b0 : decide (a0 ≤ (rd l1 (ji7))) = false := decide_eq_false c9); clear c9; (have H' := mk H); clear H; (have p322 : 0 ≤ (x5_1 : Int) := of_decide_eq_true kq8); (have q322 : x5_1 < (l1.length : Int) := of_decide_eq_true kq8); (obtain ⟨ad322, e322, hx322_0⟩ := Kd.at_int HR1.out x5_1 p322 q322); cases e322; replace p322 := eq_true p322; replace q322 := eq_true q322; (have p323 : 0 ≤ ((ji7) : Int) := of_decide_eq_true kq8); (have q323 : (ji7) < (l1.length : Int) := of_decide_eq_true kq8); (obtain ⟨ad323, e323, hx323_0⟩ := Kd.at_int HR1.out (ji7) p323 q323); (obtain rfl : ad322 = ad323 := (by injection e323)); replace p323 := eq_true p323; replace q323 := eq_true q323; go_wp2; (go_roundg k1)
                  case measure => have := HK1.out; omega
                  case rel => exact ⟨(wrap64 (x5_1 + 2)), kq3, H', ⟨kq13⟩, kq5⟩
              · (exact absurd H (by simp))
            · (have c6b0 : decide ((rd l1 x5_1) ≤ a0) = false := decide_eq_false c6); clear c6; (have H' := mk H); clear H; (have p322 : 0 ≤ (x5_1 : Int) := of_decide_eq_true kq8); (have q322 : x5_1 < (l1.length : Int) := of_decide_eq_true kq8); (obtain ⟨ad322, e322, hx322_0⟩ := Kd.at_int HR1.out x5_1 p322 q322); cases e322; replace p322 := eq_true p322; replace q322 := eq_true q322; go_wp2; (go_roundg k1)
              case measure => have := HK1.out; omega
              case rel => exact ⟨(wrap64 (x5_1 + 2)), kq3, H', ⟨kq13⟩, kq5⟩
          · (exact absurd H (by simp))
        · (exact absurd H (by simp))
      · (have c3b0 : decide ((wrap64 (x5_1 + 1)) < (l1.length : Int)) = false := decide_eq_false c3); clear c3; (obtain rfl := Option.some.inj H); go_wp2; go_ret; (exact ⟨kq3, kq5⟩)
def tabardref04_Start.f (k : Nat) (a0 : Int) : Option (Bool) := (tabardref04_within.f k a0 (([65, 90, 97, 122, 95, 95, 913, 929, 931, 937, 945, 969] : List Int))).bind fun t327 => (some t327)
theorem tabardref04_Start.mono : ∀ a0 k, LeO (tabardref04_Start.f k a0) (tabardref04_Start.f (k + 1) a0) := by
  intro a0 k
  unfold tabardref04_Start.f
  repeat' first
      | (with_reducible exact tabardref04_within.mono _ _ _)
      | (with_reducible exact LeO.refl _)
      | (with_reducible exact LeO.none _)
      | (with_reducible refine LeO.ite ?_ ?_)
      | (with_reducible refine LeO.bind ?_ (fun _ => ?_))
      | exact tabardref04_within.mono _ _ _
      | exact LeO.none _
      | refine LeO.ite ?_ ?_
      | refine LeO.bind ?_ (fun _ => ?_)
set_option maxHeartbeats 8000000 in
set_option maxRecDepth 100000 in
theorem tabardref04_Start.calls (k : Nat) (a0 : Int) (r : Bool) (w : World) (h : tabardref04_Start.f k a0 = some r) :
    Calls Try.prog 106 #[.int .i64 a0] w fun e w' => e = .returned (.bool r) ∧ Below w.heap.size w w' := by
  have HB := mk (Below.refl w.heap.size w)
  have H : ((tabardref04_within.f k a0 (([65, 90, 97, 122, 95, 95, 913, 929, 931, 937, 945, 969] : List Int))).bind fun t327 => (some t327)) = some r := h
  clear h
  obtain ⟨y324, hy324⟩ : ∃ y_ : List Int, y_ = (([65, 90, 97, 122, 95, 95, 913, 929, 931, 937, 945, 969] : List Int)) := ⟨_, rfl⟩
  replace H : ((tabardref04_within.f k a0 y324).bind fun t327 => (some t327)) = some r := by first | (rw [hy324]; with_reducible exact H) | (have H2_ := (Option.bind_some _ _).symm.trans H; rw [hy324]; with_reducible exact H2_) | (have H2_ := (Option.bind_some _ _).symm.trans H; with_reducible exact H2_) | with_reducible exact H | (rw [hy324]; exact H) | exact H
  have Ny324 := mk hy324
  clear hy324
  replace H := Option.bind_eq_some_iff.mp H
  obtain ⟨t327, A20, H⟩ := H
  replace H : (some t327) = some r := H
  have A2 := mk A20
  clear A20
  obtain rfl := Option.some.inj H
  go_enter Try.func106, Try.ntmps106
  go_wp2_with (first | ((with_reducible refine gate_dst (N := 4) rfl ?_); refine Kd.R_lit (Kd.int .i64) _ 3 ?hg (N := 4) ?hd (xs := ([65, 90, 97, 122, 95, 95, 913, 929, 931, 937, 945, 969] : List Int)) (inner := [.int .i64 65, .int .i64 90, .int .i64 97, .int .i64 122, .int .i64 95, .int .i64 95, .int .i64 913, .int .i64 929, .int .i64 931, .int .i64 937, .int .i64 945, .int .i64 969]) (ok := fun _ => True) (okp := fun _ => True) ?hr ?hp (fun _ hk => hk) trivial (Below.refl _ _) (Nat.le_refl _) (by simp) ?_; (case hd => rfl); (case hg => rfl); (case hr => exact kq11); (case hp => exact (Reps.one (show Kd.M (Kd.int .i64) _ _ _ 65 [.int .i64 65] from rfl) (Reps.one (show Kd.M (Kd.int .i64) _ _ _ 90 [.int .i64 90] from rfl) (Reps.one (show Kd.M (Kd.int .i64) _ _ _ 97 [.int .i64 97] from rfl) (Reps.one (show Kd.M (Kd.int .i64) _ _ _ 122 [.int .i64 122] from rfl) (Reps.one (show Kd.M (Kd.int .i64) _ _ _ 95 [.int .i64 95] from rfl) (Reps.one (show Kd.M (Kd.int .i64) _ _ _ 95 [.int .i64 95] from rfl) (Reps.one (show Kd.M (Kd.int .i64) _ _ _ 913 [.int .i64 913] from rfl) (Reps.one (show Kd.M (Kd.int .i64) _ _ _ 929 [.int .i64 929] from rfl) (Reps.one (show Kd.M (Kd.int .i64) _ _ _ 931 [.int .i64 931] from rfl) (Reps.one (show Kd.M (Kd.int .i64) _ _ _ 937 [.int .i64 937] from rfl) (Reps.one (show Kd.M (Kd.int .i64) _ _ _ 945 [.int .i64 945] from rfl) (Reps.one (show Kd.M (Kd.int .i64) _ _ _ 969 [.int .i64 969] from rfl) (Reps.none _ _)))))))))))))); intro v325 w3 ho4 hb hg_ hnew_; clear hg_ hnew_; (first | rw [← Ny324.out] at ho4 | (simp only [Int.reduceToNat] at ho4; rw [← Ny324.out] at ho4)); have HO326 := mk (Kd.R_lower ho4 (below_size kq9)); replace HB := mk (below_step kq9 hb); clear hb ho4; obtain ⟨Ao5, co5, eo5⟩ := Kd.R_slice HO326.out; subst eo5) | ((with_reducible refine gate_callee (f := 158) rfl ?_); refine goesL_ (some 5) rfl rfl Try.func158 kq0 rfl #[.int .i64 a0, .slice Ao5 y324.length co5] rfl kq7 ?_; (with_reducible refine (tabardref04_within.calls k a0 _ _ y324 t327 _ ?side1 ?side2 A2.out).mono ?_); (case side1 => exact kq12 HO326); (case side2 => exact (Kd.R_reads' HO326.out).2.1); rintro e w' ⟨rfl, ⟨nd, rfl⟩⟩; refine ⟨_, rfl, ?_⟩))
  go_ret
  exact ⟨kq14, kq9⟩
def tabardref04_Rest.f (k : Nat) (a0 : Int) : Option (Bool) := (tabardref04_Start.f k a0).bind fun t328 => (if t328 = true then (some true) else ((tabardref04_within.f k a0 (([48, 57, 8242, 8242, 8320, 8329] : List Int))).bind fun t332 => (some t332)))
theorem tabardref04_Rest.mono : ∀ a0 k, LeO (tabardref04_Rest.f k a0) (tabardref04_Rest.f (k + 1) a0) := by
  intro a0 k
  unfold tabardref04_Rest.f
  repeat' first
      | (with_reducible exact tabardref04_Start.mono _ _)
      | (with_reducible exact tabardref04_within.mono _ _ _)
      | (with_reducible exact LeO.refl _)
      | (with_reducible exact LeO.none _)
      | (with_reducible refine LeO.ite ?_ ?_)
      | (with_reducible refine LeO.bind ?_ (fun _ => ?_))
      | exact tabardref04_Start.mono _ _
      | exact tabardref04_within.mono _ _ _
      | exact LeO.none _
      | refine LeO.ite ?_ ?_
      | refine LeO.bind ?_ (fun _ => ?_)
set_option maxHeartbeats 8000000 in
set_option maxRecDepth 100000 in
theorem tabardref04_Rest.calls (k : Nat) (a0 : Int) (r : Bool) (w : World) (h : tabardref04_Rest.f k a0 = some r) :
    Calls Try.prog 107 #[.int .i64 a0] w fun e w' => e = .returned (.bool r) ∧ Below w.heap.size w w' := by
  have HB := mk (Below.refl w.heap.size w)
  have H : ((tabardref04_Start.f k a0).bind fun t328 => (if t328 = true then (some true) else ((tabardref04_within.f k a0 (([48, 57, 8242, 8242, 8320, 8329] : List Int))).bind fun t332 => (some t332)))) = some r := h
  clear h
  replace H := Option.bind_eq_some_iff.mp H
  obtain ⟨t328, A20, H⟩ := H
  replace H : (if t328 = true then (some true) else ((tabardref04_within.f k a0 (([48, 57, 8242, 8242, 8320, 8329] : List Int))).bind fun t332 => (some t332))) = some r := H
  have A2 := mk A20
  clear A20
  by_cases c3 : t328 = true
  · subst c3
    have H1 : (some true) = some r := by rw [if_pos rfl] at H; exact H
    clear H
    have H := H1
    clear H1
    obtain rfl := Option.some.inj H
    go_enter Try.func107, Try.ntmps107
    go_wp2_with (first | ((with_reducible refine gate_callee (f := 106) rfl ?_); refine goesL_ (some 4) rfl rfl Try.func106 kq0 rfl #[.int .i64 a0] rfl kq7 ?_; (with_reducible refine (tabardref04_Start.calls k a0 true _ A2.out).mono ?_); rintro e w4 ⟨rfl, hb⟩; refine ⟨_, rfl, ?_⟩; replace HB := mk (below_step kq9 hb)))
    go_ret
    exact ⟨kq14, kq9⟩
  · replace c3 := Bool.eq_false_iff.mpr c3
    subst c3
    have H1 : ((tabardref04_within.f k a0 (([48, 57, 8242, 8242, 8320, 8329] : List Int))).bind fun t332 => (some t332)) = some r := by rw [if_neg (show ¬ (false = true) by decide)] at H; exact H
    clear H
    have H := H1
    clear H1
    obtain ⟨y329, hy329⟩ : ∃ y_ : List Int, y_ = (([48, 57, 8242, 8242, 8320, 8329] : List Int)) := ⟨_, rfl⟩
    replace H : ((tabardref04_within.f k a0 y329).bind fun t332 => (some t332)) = some r := by first | (rw [hy329]; with_reducible exact H) | (have H2_ := (Option.bind_some _ _).symm.trans H; rw [hy329]; with_reducible exact H2_) | (have H2_ := (Option.bind_some _ _).symm.trans H; with_reducible exact H2_) | with_reducible exact H | (rw [hy329]; exact H) | exact H
    have Ny329 := mk hy329
    clear hy329
    replace H := Option.bind_eq_some_iff.mp H
    obtain ⟨t332, A50, H⟩ := H
    replace H : (some t332) = some r := H
    have A5 := mk A50
    clear A50
    obtain rfl := Option.some.inj H
    go_enter Try.func107, Try.ntmps107
    go_wp2_with (first | ((with_reducible refine gate_callee (f := 106) rfl ?_); refine goesL_ (some 4) rfl rfl Try.func106 kq0 rfl #[.int .i64 a0] rfl kq7 ?_; (with_reducible refine (tabardref04_Start.calls k a0 false _ A2.out).mono ?_); rintro e w6 ⟨rfl, hb⟩; refine ⟨_, rfl, ?_⟩; replace HB := mk (below_step kq9 hb)) | ((with_reducible refine gate_dst (N := 7) rfl ?_); (try (refine gate_guard (by rfl) ?_; dsimp only)); refine Kd.R_lit (Kd.int .i64) _ 3 ?hg (N := 7) ?hd (xs := ([48, 57, 8242, 8242, 8320, 8329] : List Int)) (inner := [.int .i64 48, .int .i64 57, .int .i64 8242, .int .i64 8242, .int .i64 8320, .int .i64 8329]) (ok := fun _ => True) (okp := fun _ => True) ?hr ?hp (fun _ hk => hk) trivial (Below.refl _ _) (Nat.le_refl _) (by simp) ?_; (case hd => rfl); (case hg => rfl); (case hr => exact kq11); (case hp => exact (Reps.one (show Kd.M (Kd.int .i64) _ _ _ 48 [.int .i64 48] from rfl) (Reps.one (show Kd.M (Kd.int .i64) _ _ _ 57 [.int .i64 57] from rfl) (Reps.one (show Kd.M (Kd.int .i64) _ _ _ 8242 [.int .i64 8242] from rfl) (Reps.one (show Kd.M (Kd.int .i64) _ _ _ 8242 [.int .i64 8242] from rfl) (Reps.one (show Kd.M (Kd.int .i64) _ _ _ 8320 [.int .i64 8320] from rfl) (Reps.one (show Kd.M (Kd.int .i64) _ _ _ 8329 [.int .i64 8329] from rfl) (Reps.none _ _)))))))); intro v330 w7 ho8 hb hg_ hnew_; clear hg_ hnew_; (first | rw [← Ny329.out] at ho8 | (simp only [Int.reduceToNat] at ho8; rw [← Ny329.out] at ho8)); have HO331 := mk (Kd.R_lower ho8 (below_size kq9)); replace HB := mk (below_step kq9 hb); clear hb ho8; obtain ⟨Ao9, co9, eo9⟩ := Kd.R_slice HO331.out; subst eo9) | (go_at_call 158; (with_reducible refine (tabardref04_within.calls k a0 _ _ y329 t332 _ ?side1 ?side2 A5.out).mono ?_); (case side1 => exact kq12 HO331); (case side2 => exact (Kd.R_reads' HO331.out).2.1); rintro e w' ⟨rfl, ⟨nd, rfl⟩⟩))
    go_ret
    exact ⟨kq14, kq9⟩
end Go.Proofs.Ytjknpmibdkoklaa.Q
namespace Go.Proofs.Ytjknpmibdkoklaa.Q
open Go.RowKit Go.Proofs.YtjknpmibdkoklaaW.PrintWords Go.Proofs.YtjknpmibdkoklaaW.PrintLast Go.Proofs.YtjknpmibdkoklaaW.PrintMore
open Aside0 (mk)
open List (setIfInBounds_toArray set_cons_zero set_cons_succ)
attribute [local go_sem] max2_int min2_int max_two min_two max_three min_three max_four min_four
set_option linter.unusedVariables false
set_option linter.unusedSimpArgs false
attribute [local go_sem] fld99_2 fld103_2 fld160_0 fld160_1
def tabardref04_Reserved.l0 : Nat → ByteArray → List ByteArray → Int → Option (Bool)
  | 0, _, _, _ => none
  | k + 1, x0, x3, x4 => if x4 < (x3.length : Int) then (if 0 ≤ x4 then (if (rdOf ByteArray.empty x3 x4).toList = x0.toList then (some true) else (tabardref04_Reserved.l0 k x0 x3 (wrap64 (x4 + 1)))) else (none)) else (some false)
def tabardref04_Reserved.f (k : Nat) (a0 : ByteArray) : Option (Bool) := tabardref04_Reserved.l0 k a0 (([(⟨#[97, 110, 100]⟩ : ByteArray), (⟨#[111, 114]⟩ : ByteArray), (⟨#[110, 111, 116]⟩ : ByteArray), (⟨#[101, 120]⟩ : ByteArray), (⟨#[97, 108, 108]⟩ : ByteArray), (⟨#[109, 111, 100]⟩ : ByteArray), (⟨#[116, 114, 117, 101]⟩ : ByteArray), (⟨#[102, 97, 108, 115, 101]⟩ : ByteArray)] : List ByteArray)) 0
theorem tabardref04_Reserved.mono_l : ∀ k, (∀ y0 y1 y2, LeO (tabardref04_Reserved.l0 k y0 y1 y2) (tabardref04_Reserved.l0 (k + 1) y0 y1 y2))
  | 0 => fun _ _ _ r h => by simp [tabardref04_Reserved.l0] at h
  | k + 1 => by
    have ih0 := tabardref04_Reserved.mono_l k
    · intro y0 y1 y2; (unfold tabardref04_Reserved.l0)
      repeat' first
      | (with_reducible exact ih0 _ _ _)
      | (with_reducible exact LeO.refl _)
      | (with_reducible exact LeO.none _)
      | (with_reducible refine LeO.ite ?_ ?_)
      | (with_reducible refine LeO.bind ?_ (fun _ => ?_))
      | exact ih0 _ _ _
      | exact LeO.none _
      | refine LeO.ite ?_ ?_
      | refine LeO.bind ?_ (fun _ => ?_)
theorem tabardref04_Reserved.mono : ∀ a0 k, LeO (tabardref04_Reserved.f k a0) (tabardref04_Reserved.f (k + 1) a0) := by
  intro a0 k
  have ih0 := tabardref04_Reserved.mono_l k
  unfold tabardref04_Reserved.f
  repeat' first
      | (with_reducible exact ih0 _ _ _)
      | (with_reducible exact LeO.refl _)
      | (with_reducible exact LeO.none _)
      | (with_reducible refine LeO.ite ?_ ?_)
      | (with_reducible refine LeO.bind ?_ (fun _ => ?_))
      | exact ih0 _ _ _
      | exact LeO.none _
      | refine LeO.ite ?_ ?_
      | refine LeO.bind ?_ (fun _ => ?_)
set_option maxHeartbeats 8000000 in
set_option maxRecDepth 100000 in
theorem tabardref04_Reserved.calls (k : Nat) (a0 : ByteArray) (r : Bool) (w : World) (h : tabardref04_Reserved.f k a0 = some r) :
    Calls Try.prog 108 #[.string a0] w fun e w' => e = .returned (.bool r) ∧ Below w.heap.size w w' := by
  have HB := mk (Below.refl w.heap.size w)
  have H : (tabardref04_Reserved.l0 k a0 (([(⟨#[97, 110, 100]⟩ : ByteArray), (⟨#[111, 114]⟩ : ByteArray), (⟨#[110, 111, 116]⟩ : ByteArray), (⟨#[101, 120]⟩ : ByteArray), (⟨#[97, 108, 108]⟩ : ByteArray), (⟨#[109, 111, 100]⟩ : ByteArray), (⟨#[116, 114, 117, 101]⟩ : ByteArray), (⟨#[102, 97, 108, 115, 101]⟩ : ByteArray)] : List ByteArray)) 0) = some r := h
  clear h
  obtain ⟨y333, hy333⟩ : ∃ y_ : List ByteArray, y_ = (([(⟨#[97, 110, 100]⟩ : ByteArray), (⟨#[111, 114]⟩ : ByteArray), (⟨#[110, 111, 116]⟩ : ByteArray), (⟨#[101, 120]⟩ : ByteArray), (⟨#[97, 108, 108]⟩ : ByteArray), (⟨#[109, 111, 100]⟩ : ByteArray), (⟨#[116, 114, 117, 101]⟩ : ByteArray), (⟨#[102, 97, 108, 115, 101]⟩ : ByteArray)] : List ByteArray)) := ⟨_, rfl⟩
  replace H : (tabardref04_Reserved.l0 k a0 y333 0) = some r := by first | (rw [hy333]; with_reducible exact H) | (have H2_ := (Option.bind_some _ _).symm.trans H; rw [hy333]; with_reducible exact H2_) | (have H2_ := (Option.bind_some _ _).symm.trans H; with_reducible exact H2_) | with_reducible exact H | (rw [hy333]; exact H) | exact H
  have Ny333 := mk hy333
  clear hy333
  have H' := mk H
  clear H
  go_enter Try.func108, Try.ntmps108
  go_wp2_with (first | ((with_reducible refine gate_dst (N := 5) rfl ?_); refine Kd.R_lit Kd.string _ 9 ?hg (N := 5) ?hd (xs := ([(⟨#[97, 110, 100]⟩ : ByteArray), (⟨#[111, 114]⟩ : ByteArray), (⟨#[110, 111, 116]⟩ : ByteArray), (⟨#[101, 120]⟩ : ByteArray), (⟨#[97, 108, 108]⟩ : ByteArray), (⟨#[109, 111, 100]⟩ : ByteArray), (⟨#[116, 114, 117, 101]⟩ : ByteArray), (⟨#[102, 97, 108, 115, 101]⟩ : ByteArray)] : List ByteArray)) (inner := [.string (⟨#[97, 110, 100]⟩ : ByteArray), .string (⟨#[111, 114]⟩ : ByteArray), .string (⟨#[110, 111, 116]⟩ : ByteArray), .string (⟨#[101, 120]⟩ : ByteArray), .string (⟨#[97, 108, 108]⟩ : ByteArray), .string (⟨#[109, 111, 100]⟩ : ByteArray), .string (⟨#[116, 114, 117, 101]⟩ : ByteArray), .string (⟨#[102, 97, 108, 115, 101]⟩ : ByteArray)]) (ok := fun _ => True) (okp := fun _ => True) ?hr ?hp (fun _ hk => hk) trivial (Below.refl _ _) (Nat.le_refl _) (by simp) ?_; (case hd => rfl); (case hg => rfl); (case hr => exact kq11); (case hp => exact (Reps.one (show Kd.M Kd.string _ _ _ (⟨#[97, 110, 100]⟩ : ByteArray) [.string (⟨#[97, 110, 100]⟩ : ByteArray)] from rfl) (Reps.one (show Kd.M Kd.string _ _ _ (⟨#[111, 114]⟩ : ByteArray) [.string (⟨#[111, 114]⟩ : ByteArray)] from rfl) (Reps.one (show Kd.M Kd.string _ _ _ (⟨#[110, 111, 116]⟩ : ByteArray) [.string (⟨#[110, 111, 116]⟩ : ByteArray)] from rfl) (Reps.one (show Kd.M Kd.string _ _ _ (⟨#[101, 120]⟩ : ByteArray) [.string (⟨#[101, 120]⟩ : ByteArray)] from rfl) (Reps.one (show Kd.M Kd.string _ _ _ (⟨#[97, 108, 108]⟩ : ByteArray) [.string (⟨#[97, 108, 108]⟩ : ByteArray)] from rfl) (Reps.one (show Kd.M Kd.string _ _ _ (⟨#[109, 111, 100]⟩ : ByteArray) [.string (⟨#[109, 111, 100]⟩ : ByteArray)] from rfl) (Reps.one (show Kd.M Kd.string _ _ _ (⟨#[116, 114, 117, 101]⟩ : ByteArray) [.string (⟨#[116, 114, 117, 101]⟩ : ByteArray)] from rfl) (Reps.one (show Kd.M Kd.string _ _ _ (⟨#[102, 97, 108, 115, 101]⟩ : ByteArray) [.string (⟨#[102, 97, 108, 115, 101]⟩ : ByteArray)] from rfl) (Reps.none _ _)))))))))); intro v334 w2 ho3 hb hg_ hnew_; clear hg_ hnew_; (first | rw [← Ny333.out] at ho3 | (simp only [Int.reduceToNat] at ho3; rw [← Ny333.out] at ho3)); have HO335 := mk (Kd.R_lower ho3 (below_size kq9)); replace HB := mk (below_step kq9 hb); clear hb ho3))
  go_loopg [4] k (fun kq v4 w' => ∃ (x4_1 : Int), v4 = .int .i64 x4_1 ∧ Aside0 (tabardref04_Reserved.l0 kq a0 y333 x4_1 = some r) ∧ Aside0 (kq ≤ k) ∧ Aside0 (Kd.R Kd.string 9 w' w.heap.size (fun _ => True) v334 y333) ∧ Aside0 (Below w.heap.size w w'))
  case atStart => exact ⟨(0), kq3, H', ⟨Nat.le_refl _⟩, ⟨(kq15 HO335)⟩, ⟨kq9⟩⟩
  case round =>
    clear H'
    obtain ⟨x4_1, rfl, HA, HK1, HO_3, HB⟩ := hrel
    cases gk with
    | zero => exact absurd HA.out (by simp [tabardref04_Reserved.l0])
    | succ k1 =>
      (have H := HA.out); clear HA; (simp only [tabardref04_Reserved.l0] at H); replace H := ic_ H; obtain ⟨c4, H⟩ | ⟨c4, H⟩ := H
      · (have c4b0 : decide (x4_1 < (y333.length : Int)) = true := decide_eq_true c4); clear c4; replace H := ic_ H; obtain ⟨c5, H⟩ | ⟨c5, H⟩ := H
        · (have c5b0 : decide (0 ≤ x4_1) = true := decide_eq_true c5); clear c5; replace H := ic_ H; obtain ⟨c6, H⟩ | ⟨c6, H⟩ := H
          · (obtain ⟨c6b0, c6b1⟩ := eTn_ c6); clear c6; (obtain rfl := Option.some.inj H); (obtain ⟨Ao7, co7, eo7⟩ := Kd.R_slice HO_3.out); subst eo7; (have p336 : 0 ≤ (x4_1 : Int) := of_decide_eq_true kq8); (have q336 : x4_1 < (y333.length : Int) := of_decide_eq_true kq8); (obtain ⟨ad336, e336, hx336_0⟩ := Kd.at_string (Kd.R_reads' HO_3.out).2.2 x4_1 p336 q336); cases e336; replace p336 := eq_true p336; replace q336 := eq_true q336; go_wp2; go_ret; (exact ⟨kq14, kq9⟩)
          · (obtain ⟨c6b0, c6b1⟩ := eFn_ c6); (have H' := mk H); clear H; (obtain ⟨Ao8, co8, eo8⟩ := Kd.R_slice HO_3.out); subst eo8; (have p336 : 0 ≤ (x4_1 : Int) := of_decide_eq_true kq8); (have q336 : x4_1 < (y333.length : Int) := of_decide_eq_true kq8); (obtain ⟨ad336, e336, hx336_0⟩ := Kd.at_string (Kd.R_reads' HO_3.out).2.2 x4_1 p336 q336); cases e336; replace p336 := eq_true p336; replace q336 := eq_true q336; go_wp2; (go_roundg k1)
            case measure => have := HK1.out; omega
            case rel => exact ⟨(wrap64 (x4_1 + 1)), kq3, H', ⟨kq13⟩, ⟨(kq15 HO_3)⟩, ⟨kq9⟩⟩
        · (exact absurd H (by simp))
      · (have c4b0 : decide (x4_1 < (y333.length : Int)) = false := decide_eq_false c4); clear c4; (obtain rfl := Option.some.inj H); (obtain ⟨Ao9, co9, eo9⟩ := Kd.R_slice HO_3.out); subst eo9; go_wp2; go_ret; (exact ⟨kq14, kq9⟩)
end Go.Proofs.Ytjknpmibdkoklaa.Q
namespace Go.Proofs.Ytjknpmibdkoklaa.Q
open Go.RowKit Go.Proofs.YtjknpmibdkoklaaW.PrintWords Go.Proofs.YtjknpmibdkoklaaW.PrintLast Go.Proofs.YtjknpmibdkoklaaW.PrintMore
open Aside0 (mk)
open List (setIfInBounds_toArray set_cons_zero set_cons_succ)
attribute [local go_sem] max2_int min2_int max_two min_two max_three min_three max_four min_four
set_option linter.unusedVariables false
set_option linter.unusedSimpArgs false
attribute [local go_sem] fld99_2 fld103_2 fld160_0 fld160_1
def tabardref04_Name.l0 : Nat → ByteArray → Int → Int → Option (Bool)
  | 0, _, _, _ => none
  | k + 1, x0, x3, x4 => if x4 < (x0.size : Int) then ((tabardref04_Read.f k x0 x4).bind fun bt338 => (if bt338.2.2 = true then (if x3 = 0 then ((tabardref04_Start.f k bt338.1).bind fun t341 => (if t341 = true then ((tabardref04_Rest.f k bt338.1).bind fun t342 => (if t342 = true then (tabardref04_Name.l0 k x0 (wrap64 (x3 + 1)) (wrap64 (x4 + bt338.2.1))) else (some false))) else (some false))) else ((tabardref04_Rest.f k bt338.1).bind fun t343 => (if t343 = true then (tabardref04_Name.l0 k x0 (wrap64 (x3 + 1)) (wrap64 (x4 + bt338.2.1))) else (some false)))) else (some false))) else (if x3 ≥ 1 then (if x3 ≤ 16 then ((tabardref04_Reserved.f k x0).bind fun t337 => (some (!t337))) else (some false)) else (some false))
def tabardref04_Name.f (k : Nat) (a0 : ByteArray) : Option (Bool) := tabardref04_Name.l0 k a0 0 0
theorem tabardref04_Name.mono_l : ∀ k, (∀ y0 y1 y2, LeO (tabardref04_Name.l0 k y0 y1 y2) (tabardref04_Name.l0 (k + 1) y0 y1 y2))
  | 0 => fun _ _ _ r h => by simp [tabardref04_Name.l0] at h
  | k + 1 => by
    have ih0 := tabardref04_Name.mono_l k
    · intro y0 y1 y2; (unfold tabardref04_Name.l0)
      repeat' first
      | (with_reducible exact ih0 _ _ _)
      | (with_reducible exact tabardref04_Read.mono _ _ _)
      | (with_reducible exact tabardref04_Reserved.mono _ _)
      | (with_reducible exact tabardref04_Rest.mono _ _)
      | (with_reducible exact tabardref04_Start.mono _ _)
      | (with_reducible exact LeO.refl _)
      | (with_reducible exact LeO.none _)
      | (with_reducible refine LeO.ite ?_ ?_)
      | (with_reducible refine LeO.bind ?_ (fun _ => ?_))
      | exact ih0 _ _ _
      | exact tabardref04_Read.mono _ _ _
      | exact tabardref04_Reserved.mono _ _
      | exact tabardref04_Rest.mono _ _
      | exact tabardref04_Start.mono _ _
      | exact LeO.none _
      | refine LeO.ite ?_ ?_
      | refine LeO.bind ?_ (fun _ => ?_)
theorem tabardref04_Name.mono : ∀ a0 k, LeO (tabardref04_Name.f k a0) (tabardref04_Name.f (k + 1) a0) := by
  intro a0 k
  have ih0 := tabardref04_Name.mono_l k
  unfold tabardref04_Name.f
  repeat' first
      | (with_reducible exact ih0 _ _ _)
      | (with_reducible exact tabardref04_Read.mono _ _ _)
      | (with_reducible exact tabardref04_Reserved.mono _ _)
      | (with_reducible exact tabardref04_Rest.mono _ _)
      | (with_reducible exact tabardref04_Start.mono _ _)
      | (with_reducible exact LeO.refl _)
      | (with_reducible exact LeO.none _)
      | (with_reducible refine LeO.ite ?_ ?_)
      | (with_reducible refine LeO.bind ?_ (fun _ => ?_))
      | exact ih0 _ _ _
      | exact tabardref04_Read.mono _ _ _
      | exact tabardref04_Reserved.mono _ _
      | exact tabardref04_Rest.mono _ _
      | exact tabardref04_Start.mono _ _
      | exact LeO.none _
      | refine LeO.ite ?_ ?_
      | refine LeO.bind ?_ (fun _ => ?_)
set_option maxHeartbeats 8000000 in
set_option maxRecDepth 100000 in
theorem tabardref04_Name.calls (k : Nat) (a0 : ByteArray) (r : Bool) (w : World) (h : tabardref04_Name.f k a0 = some r) :
    Calls Try.prog 64 #[.string a0] w fun e w' => e = .returned (.bool r) ∧ Below w.heap.size w w' := by
  have HB := mk (Below.refl w.heap.size w)
  have H : (tabardref04_Name.l0 k a0 0 0) = some r := h
  clear h
  have H' := mk H
  clear H
  go_enter Try.func64, Try.ntmps64
  go_wp2
  go_loopg [3, 4] k (fun kq v3 v4 w' => ∃ (x3_1 : Int) (x4_1 : Int), v3 = .int .i64 x3_1 ∧ v4 = .int .i64 x4_1 ∧ Aside0 (tabardref04_Name.l0 kq a0 x3_1 x4_1 = some r) ∧ Aside0 (kq ≤ k) ∧ Aside0 (Below w.heap.size w w'))
  case atStart => exact ⟨(0), (0), kq3, kq3, H', ⟨Nat.le_refl _⟩, ⟨kq9⟩⟩
  case round =>
    clear H'
    obtain ⟨x3_1, x4_1, rfl, rfl, HA, HK1, HB⟩ := hrel
    cases gk with
    | zero => exact absurd HA.out (by simp [tabardref04_Name.l0])
    | succ k1 =>
      (have H := HA.out); clear HA; (simp only [tabardref04_Name.l0] at H); replace H := ic_ H; obtain ⟨c2, H⟩ | ⟨c2, H⟩ := H
      · (have c2b0 : decide (x4_1 < (a0.size : Int)) = true := decide_eq_true c2); clear c2; (replace H := Option.bind_eq_some_iff.mp H); (obtain ⟨⟨t338, t339, t340⟩, A30, H⟩ := H); (replace H : (if t340 = true then (if x3_1 = 0 then ((tabardref04_Start.f k1 t338).bind fun t341 => (if t341 = true then ((tabardref04_Rest.f k1 t338).bind fun t342 => (if t342 = true then (tabardref04_Name.l0 k1 a0 (wrap64 (x3_1 + 1)) (wrap64 (x4_1 + t339))) else (some false))) else (some false))) else ((tabardref04_Rest.f k1 t338).bind fun t343 => (if t343 = true then (tabardref04_Name.l0 k1 a0 (wrap64 (x3_1 + 1)) (wrap64 (x4_1 + t339))) else (some false)))) else (some false)) = some r := H); (have A3 := mk A30); clear A30; (by_cases c4 : t340 = true)
        · subst c4; (have H1 : (if x3_1 = 0 then ((tabardref04_Start.f k1 t338).bind fun t341 => (if t341 = true then ((tabardref04_Rest.f k1 t338).bind fun t342 => (if t342 = true then (tabardref04_Name.l0 k1 a0 (wrap64 (x3_1 + 1)) (wrap64 (x4_1 + t339))) else (some false))) else (some false))) else ((tabardref04_Rest.f k1 t338).bind fun t343 => (if t343 = true then (tabardref04_Name.l0 k1 a0 (wrap64 (x3_1 + 1)) (wrap64 (x4_1 + t339))) else (some false)))) = some r := by rw [if_pos rfl] at H; exact H); clear H; (have H := H1); clear H1; replace H := ic_ H; obtain ⟨c5, H⟩ | ⟨c5, H⟩ := H
          · (obtain ⟨c5b0, c5b1⟩ := eTn_ c5); clear c5; (replace H := Option.bind_eq_some_iff.mp H); (obtain ⟨t341, A60, H⟩ := H); (replace H : (if t341 = true then ((tabardref04_Rest.f k1 t338).bind fun t342 => (if t342 = true then (tabardref04_Name.l0 k1 a0 (wrap64 (x3_1 + 1)) (wrap64 (x4_1 + t339))) else (some false))) else (some false)) = some r := H); (have A6 := mk A60); clear A60; (by_cases c7 : t341 = true)
            · subst c7; (have H1 : ((tabardref04_Rest.f k1 t338).bind fun t342 => (if t342 = true then (tabardref04_Name.l0 k1 a0 (wrap64 (x3_1 + 1)) (wrap64 (x4_1 + t339))) else (some false))) = some r := by rw [if_pos rfl] at H; exact H); clear H; (have H := H1); clear H1; (replace H := Option.bind_eq_some_iff.mp H); (obtain ⟨t342, A80, H⟩ := H); (replace H : (if t342 = true then (tabardref04_Name.l0 k1 a0 (wrap64 (x3_1 + 1)) (wrap64 (x4_1 + t339))) else (some false)) = some r := H); (have A8 := mk A80); clear A80; (by_cases c9 : t342 = true)
              · subst c9; (have H1 : (tabardref04_Name.l0 k1 a0 (wrap64 (x3_1 + 1)) (wrap64 (x4_1 + t339))) = some r := by rw [if_pos rfl] at H; exact H); clear H; (have H := H1); clear H1; (have H' := mk H); clear H; (go_wp2_with (first | ((with_reducible refine gate_callee (f := 105) rfl ?_); refine goesL_ (some 15) rfl rfl Try.func105 kq0 rfl #[.string a0, .int .i64 x4_1] rfl kq7 ?_; (with_reducible refine (tabardref04_Read.calls k1 a0 x4_1 t338 t339 true _ A3.out).mono ?_); rintro e w' ⟨rfl, ⟨nd, rfl⟩⟩; refine ⟨_, rfl, ?_⟩) | (go_at_call 106; (with_reducible refine (tabardref04_Start.calls k1 t338 true _ A6.out).mono ?_); rintro e w10 ⟨rfl, hb⟩; replace HB := mk (below_step kq9 hb)) | (go_at_call 107; (with_reducible refine (tabardref04_Rest.calls k1 t338 true _ A8.out).mono ?_); rintro e w11 ⟨rfl, hb⟩; replace HB := mk (below_step kq9 hb)))); (go_roundg k1)
                case measure => have := HK1.out; omega
                case rel => exact ⟨(wrap64 (x3_1 + 1)), (wrap64 (x4_1 + t339)), kq3, kq3, H', ⟨kq13⟩, ⟨kq9⟩⟩
              · (replace c9 := Bool.eq_false_iff.mpr c9); subst c9; (have H1 : (some false) = some r := by rw [if_neg (show ¬ (false = true) by decide)] at H; exact H); clear H; (have H := H1); clear H1; (obtain rfl := Option.some.inj H); (go_wp2_with (first | ((with_reducible refine gate_callee (f := 105) rfl ?_); refine goesL_ (some 15) rfl rfl Try.func105 kq0 rfl #[.string a0, .int .i64 x4_1] rfl kq7 ?_; (with_reducible refine (tabardref04_Read.calls k1 a0 x4_1 t338 t339 true _ A3.out).mono ?_); rintro e w' ⟨rfl, ⟨nd, rfl⟩⟩; refine ⟨_, rfl, ?_⟩) | (go_at_call 106; (with_reducible refine (tabardref04_Start.calls k1 t338 true _ A6.out).mono ?_); rintro e w12 ⟨rfl, hb⟩; replace HB := mk (below_step kq9 hb)) | (go_at_call 107; (with_reducible refine (tabardref04_Rest.calls k1 t338 false _ A8.out).mono ?_); rintro e w13 ⟨rfl, hb⟩; replace HB := mk (below_step kq9 hb)))); go_ret; (exact ⟨kq14, kq9⟩)
            · (replace c7 := Bool.eq_false_iff.mpr c7); subst c7; (have H1 : (some false) = some r := by rw [if_neg (show ¬ (false = true) by decide)] at H; exact H); clear H; (have H := H1); clear H1; (obtain rfl := Option.some.inj H); (go_wp2_with (first | ((with_reducible refine gate_callee (f := 105) rfl ?_); refine goesL_ (some 15) rfl rfl Try.func105 kq0 rfl #[.string a0, .int .i64 x4_1] rfl kq7 ?_; (with_reducible refine (tabardref04_Read.calls k1 a0 x4_1 t338 t339 true _ A3.out).mono ?_); rintro e w' ⟨rfl, ⟨nd, rfl⟩⟩; refine ⟨_, rfl, ?_⟩) | (go_at_call 106; (with_reducible refine (tabardref04_Start.calls k1 t338 false _ A6.out).mono ?_); rintro e w14 ⟨rfl, hb⟩; replace HB := mk (below_step kq9 hb)))); go_ret; (exact ⟨kq14, kq9⟩)
          · (obtain ⟨c5b0, c5b1⟩ := eFn_ c5); (replace H := Option.bind_eq_some_iff.mp H); (obtain ⟨t343, A150, H⟩ := H); (replace H : (if t343 = true then (tabardref04_Name.l0 k1 a0 (wrap64 (x3_1 + 1)) (wrap64 (x4_1 + t339))) else (some false)) = some r := H); (have A15 := mk A150); clear A150; (by_cases c16 : t343 = true)
            · subst c16; (have H1 : (tabardref04_Name.l0 k1 a0 (wrap64 (x3_1 + 1)) (wrap64 (x4_1 + t339))) = some r := by rw [if_pos rfl] at H; exact H); clear H; (have H := H1); clear H1; (have H' := mk H); clear H; (go_wp2_with (first | ((with_reducible refine gate_callee (f := 105) rfl ?_); refine goesL_ (some 15) rfl rfl Try.func105 kq0 rfl #[.string a0, .int .i64 x4_1] rfl kq7 ?_; (with_reducible refine (tabardref04_Read.calls k1 a0 x4_1 t338 t339 true _ A3.out).mono ?_); rintro e w' ⟨rfl, ⟨nd, rfl⟩⟩; refine ⟨_, rfl, ?_⟩) | (go_at_call 107; (with_reducible refine (tabardref04_Rest.calls k1 t338 true _ A15.out).mono ?_); rintro e w17 ⟨rfl, hb⟩; replace HB := mk (below_step kq9 hb)))); (go_roundg k1)
              case measure => have := HK1.out; omega
              case rel => exact ⟨(wrap64 (x3_1 + 1)), (wrap64 (x4_1 + t339)), kq3, kq3, H', ⟨kq13⟩, ⟨kq9⟩⟩
            · (replace c16 := Bool.eq_false_iff.mpr c16); subst c16; (have H1 : (some false) = some r := by rw [if_neg (show ¬ (false = true) by decide)] at H; exact H); clear H; (have H := H1); clear H1; (obtain rfl := Option.some.inj H); (go_wp2_with (first | ((with_reducible refine gate_callee (f := 105) rfl ?_); refine goesL_ (some 15) rfl rfl Try.func105 kq0 rfl #[.string a0, .int .i64 x4_1] rfl kq7 ?_; (with_reducible refine (tabardref04_Read.calls k1 a0 x4_1 t338 t339 true _ A3.out).mono ?_); rintro e w' ⟨rfl, ⟨nd, rfl⟩⟩; refine ⟨_, rfl, ?_⟩) | (go_at_call 107; (with_reducible refine (tabardref04_Rest.calls k1 t338 false _ A15.out).mono ?_); rintro e w18 ⟨rfl, hb⟩; replace HB := mk (below_step kq9 hb)))); go_ret; (exact ⟨kq14, kq9⟩)
        · (replace c4 := Bool.eq_false_iff.mpr c4); subst c4; (have H1 : (some false) = some r := by rw [if_neg (show ¬ (false = true) by decide)] at H; exact H); clear H; (have H := H1); clear H1; (obtain rfl := Option.some.inj H); (go_wp2_with (first | ((with_reducible refine gate_callee (f := 105) rfl ?_); refine goesL_ (some 15) rfl rfl Try.func105 kq0 rfl #[.string a0, .int .i64 x4_1] rfl kq7 ?_; (with_reducible refine (tabardref04_Read.calls k1 a0 x4_1 t338 t339 false _ A3.out).mono ?_); rintro e w' ⟨rfl, ⟨nd, rfl⟩⟩; refine ⟨_, rfl, ?_⟩))); go_ret; (exact ⟨kq14, kq9⟩)
      · (have c2b0 : decide (x4_1 < (a0.size : Int)) = false := decide_eq_false c2); clear c2; replace H := ic_ H; obtain ⟨c19, H⟩ | ⟨c19, H⟩ := H
        · (have c19b0 : decide (1 ≤ x3_1) = true := decide_eq_true c19); clear c19; replace H := ic_ H; obtain ⟨c20, H⟩ | ⟨c20, H⟩ := H
          · (have c20b0 : decide (x3_1 ≤ 16) = true := decide_eq_true c20); clear c20; (replace H := Option.bind_eq_some_iff.mp H); (obtain ⟨t337, A210, H⟩ := H); (replace H : (some (!t337)) = some r := H); (have A21 := mk A210); clear A210; (obtain rfl := Option.some.inj H); (go_wp2_with (first | (go_at_call 108; (with_reducible refine (tabardref04_Reserved.calls k1 a0 t337 _ A21.out).mono ?_); rintro e w22 ⟨rfl, hb⟩; replace HB := mk (below_step kq9 hb)))); go_ret; (exact ⟨kq14, kq9⟩)
          · (have c20b0 : decide (x3_1 ≤ 16) = false := decide_eq_false c20); clear c20; (obtain rfl := Option.some.inj H); go_wp2; go_ret; (exact ⟨kq14, kq9⟩)
        · (have c19b0 : decide (1 ≤ x3_1) = false := decide_eq_false c19); clear c19; (obtain rfl := Option.some.inj H); go_wp2; go_ret; (exact ⟨kq14, kq9⟩)
end Go.Proofs.Ytjknpmibdkoklaa.Q
namespace Go.Proofs.Ytjknpmibdkoklaa.Q
open Go.RowKit Go.Proofs.YtjknpmibdkoklaaW.PrintWords Go.Proofs.YtjknpmibdkoklaaW.PrintLast Go.Proofs.YtjknpmibdkoklaaW.PrintMore
def inPairs (x : Int) : List Int → Bool
  | a :: b :: t => decide (a ≤ x ∧ x ≤ b) || inPairs x t
  | _ => false
theorem rdl {l : List Int} {i : Nat} (h : i < l.length) : rd l (i : Int) = l[i] := by
  unfold rd
  simp [List.getD_eq_getElem?_getD, h]
theorem within_loop (x : Int) (l : List Int) (hl : l.length < 1000) : ∀ (d i : Nat), l.length - i ≤ d → i ≤ l.length + 1 → ∀ k, d < k → tabardref04_within.l0 k x l (i : Int) = some (inPairs x (l.drop i)) := by
  intro d
  induction d with
  | zero =>
    intro i hi hi2 k hk
    obtain ⟨k, rfl⟩ : ∃ m, k = m + 1 := ⟨k - 1, kq1⟩
    simp only [tabardref04_within.l0]
    rw [w64 (a := (i : Int) + 1) kq1 kq1, if_neg kq1, List.drop_eq_nil_of_le kq1]
    rfl
  | succ d ih =>
    intro i hi hi2 k hk
    obtain ⟨k, rfl⟩ : ∃ m, k = m + 1 := ⟨k - 1, kq1⟩
    simp only [tabardref04_within.l0]
    by_cases h : i + 1 < l.length
    · rw [w64 (a := (i : Int) + 1) kq1 kq1, if_pos kq1, if_pos kq1, if_pos kq1, rdl kq1, show ((i : Int) + 1) = ((i + 1 : Nat) : Int) by omega, rdl h]
      rw [List.drop_eq_getElem_cons (show i < l.length by omega), List.drop_eq_getElem_cons h]
      have next := ih (i + 2) kq1 kq1 k kq1
      rw [w64 (a := (i : Int) + 2) kq1 kq1, show ((i : Int) + 2) = ((i + 2 : Nat) : Int) by omega, next]
      simp only [inPairs]
      by_cases h1 : x ≥ l[i]
      · rw [if_pos h1, if_pos kq1]
        by_cases h2 : x ≤ l[i + 1]
        · rw [if_pos h2, decide_eq_true (show l[i] ≤ x ∧ x ≤ l[i + 1] from ⟨h1, h2⟩)]
          rfl
        · rw [if_neg h2, decide_eq_false (fun h => h2 h.2)]
          rfl
      · rw [if_neg h1, decide_eq_false (fun h => h1 h.1)]
        rfl
    · rw [w64 (a := (i : Int) + 1) kq1 kq1, if_neg kq1]
      by_cases h1 : i < l.length
      · have : l.drop i = [l[i]] := by rw [List.drop_eq_getElem_cons h1, List.drop_eq_nil_of_le kq1]
        rw [this]
        rfl
      · rw [List.drop_eq_nil_of_le kq1]
        rfl
theorem within_spec (x : Int) (l : List Int) (hl : l.length < 1000) (k : Nat) (hk : l.length < k) : tabardref04_within.f k x l = some (inPairs x l) := within_loop x l hl l.length 0 kq1 kq1 k hk
theorem rstart_at (k : Nat) (x : Int) : tabardref04_Start.f (k + 13) x = some (startB x) := by
  unfold tabardref04_Start.f
  rw [within_spec _ _ kq2 _ (by simp)]
  simp only [Option.bind_some, inPairs, startB, Bool.or_false]
  congr 1
  rw [Bool.eq_iff_iff]
  simp only [Bool.or_eq_true, decide_eq_true_eq]
  omega
theorem rrest_at (k : Nat) (x : Int) : tabardref04_Rest.f (k + 13) x = some (restB x) := by
  unfold tabardref04_Rest.f
  rw [rstart_at]
  unfold restB
  cases startB x
  · simp only [Option.bind_some]
    rw [if_neg kq2, within_spec _ _ kq2 _ (by simp)]
    simp only [Option.bind_some, inPairs, Bool.or_false, Bool.false_or]
    congr 1
    rw [Bool.eq_iff_iff]
    simp only [Bool.or_eq_true, decide_eq_true_eq]
    omega
  · rfl
theorem reserved_loop (s : ByteArray) (l : List ByteArray) (hl : l.length < 1000) : ∀ (d i : Nat), i + d = l.length → ∀ k, d < k → tabardref04_Reserved.l0 k s l (i : Int) = some ((l.drop i).any fun w => w.toList == s.toList) := by
  intro d
  induction d with
  | zero =>
    intro i hi k hk
    obtain ⟨k, rfl⟩ : ∃ m, k = m + 1 := ⟨k - 1, kq1⟩
    simp only [tabardref04_Reserved.l0]
    rw [if_neg kq1, List.drop_of_length_le kq1]
    rfl
  | succ d ih =>
    intro i hi k hk
    obtain ⟨k, rfl⟩ : ∃ m, k = m + 1 := ⟨k - 1, kq1⟩
    simp only [tabardref04_Reserved.l0]
    have hx : rdOf ByteArray.empty l (i : Int) = l[i]'kq1 := by simp [rdOf, show i < l.length by omega]
    rw [if_pos kq1, if_pos kq1, hx, w64 kq1 kq1, show ((i : Int) + 1) = ((i + 1 : Nat) : Int) by omega, ih (i + 1) kq1 k kq1, List.drop_eq_getElem_cons (i := i) (show i < l.length by omega), List.any_cons]
    by_cases h : (l[i]'kq1).toList = s.toList
    · rw [if_pos h, beq_iff_eq.2 h]; rfl
    · rw [if_neg h, beq_eq_false_iff_ne.2 h]; rfl
theorem rreserved_at (k : Nat) (s : ByteArray) : tabardref04_Reserved.f (k + 9) s = some (reservedB s) := by
  unfold tabardref04_Reserved.f
  rw [show (0 : Int) = ((0 : Nat) : Int) from rfl, reserved_loop s _ kq2 8 0 rfl _ kq1, List.drop_zero]
  refine congrArg some ?_
  unfold reservedB glyph_Reserved.f
  have e : ∀ a : List UInt8, (a == s.toList) = decide (s.toList = a) := fun a => by
    by_cases h : s.toList = a
    · subst h; simp
    · rw [decide_eq_false h, beq_eq_false_iff_ne.2 (fun e => h e.symm)]
  simp only [List.any_cons, List.any_nil, e]
  rw [show (⟨#[97, 110, 100]⟩ : ByteArray).toList = [97, 110, 100] from by decide +kernel, show (⟨#[111, 114]⟩ : ByteArray).toList = [111, 114] from by decide +kernel, show (⟨#[110, 111, 116]⟩ : ByteArray).toList = [110, 111, 116] from by decide +kernel, show (⟨#[101, 120]⟩ : ByteArray).toList = [101, 120] from by decide +kernel, show (⟨#[97, 108, 108]⟩ : ByteArray).toList = [97, 108, 108] from by decide +kernel, show (⟨#[109, 111, 100]⟩ : ByteArray).toList = [109, 111, 100] from by decide +kernel, show (⟨#[116, 114, 117, 101]⟩ : ByteArray).toList = [116, 114, 117, 101] from by decide +kernel, show (⟨#[102, 97, 108, 115, 101]⟩ : ByteArray).toList = [102, 97, 108, 115, 101] from by decide +kernel]
  generalize s.toList = l
  (repeat' split) <;> simp_all
theorem name_loop (s : ByteArray) (hs : s.size ≤ 140737488351232) : ∀ (d pos n : Nat), s.size - pos ≤ d → n ≤ pos → (n = 0 ↔ pos = 0) → pos ≤ s.size + 4 → Ev (fun k => tabardref04_Name.l0 k s (n : Int) (pos : Int)) ((nameGo s pos (n : Int)).1 && decide ((nameGo s pos (n : Int)).2 > 0) && decide ((nameGo s pos (n : Int)).2 ≤ 16) && !reservedB s) := by
  intro d
  induction d with
  | zero =>
    intro pos n hd hn h0 hp
    refine EvK 10 (fun k => ?_)
    simp only [tabardref04_Name.l0]
    rw [if_neg kq1, nameGo, dif_neg kq1, rreserved_at]
    by_cases h1 : (n : Int) ≥ 1 <;> by_cases h2 : (n : Int) ≤ 16 <;> simp [h1, h2] <;> omega
  | succ d ih =>
    intro pos n hd hn h0 hp
    by_cases h : pos < s.size
    · have h1 := decode_pos s pos h
      obtain ⟨h2, hbad, _⟩ := decode_read s pos
      have hw : (readB s pos).2.1 = (Utf8.decode s pos).2 := by rw [h2]
      have hr : (readB s pos).1 = (Utf8.decode s pos).1 := by rw [h2]
      have hw4 : (readB s pos).2.1 ≤ 4 := by
        unfold readB readN
        repeat' split
        all_goals simp
      have next := ih (pos + (Utf8.decode s pos).2) (n + 1) kq1 kq1 kq1 kq1
      rw [nameGo, dif_pos h]
      have hz : (pos == 0) = decide ((n : Int) = 0) := by
        by_cases hn0 : n = 0
        · rw [h0.1 hn0, decide_eq_true (show (n : Int) = 0 by omega)]; rfl
        · rw [decide_eq_false (show ¬ (n : Int) = 0 by omega), beq_eq_false_iff_ne.2 (fun e => hn0 (h0.2 e))]
      rw [hz, ← hr]
      have rd0 : Ev (fun k => tabardref04_Read.f k s (pos : Int)) (((readB s pos).1 : Int), ((readB s pos).2.1 : Int), (readB s pos).2.2) := EvK 8 (fun k => read_at hs h k)
      have st0 : Ev (fun k => tabardref04_Start.f k ((readB s pos).1 : Int)) (startB ((readB s pos).1 : Int)) := EvK 13 (fun k => rstart_at k _)
      have rt0 : Ev (fun k => tabardref04_Rest.f k ((readB s pos).1 : Int)) (restB ((readB s pos).1 : Int)) := EvK 13 (fun k => rrest_at k _)
      have hstep : ∀ k, tabardref04_Name.l0 (k + 1) s (n : Int) (pos : Int) = (tabardref04_Read.f k s (pos : Int)).bind fun b => (if b.2.2 = true then (if (n : Int) = 0 then ((tabardref04_Start.f k b.1).bind fun t => (if t = true then ((tabardref04_Rest.f k b.1).bind fun u => (if u = true then tabardref04_Name.l0 k s (wrap64 ((n : Int) + 1)) (wrap64 ((pos : Int) + b.2.1)) else some false)) else some false)) else ((tabardref04_Rest.f k b.1).bind fun u => (if u = true then tabardref04_Name.l0 k s (wrap64 ((n : Int) + 1)) (wrap64 ((pos : Int) + b.2.1)) else some false))) else some false) := fun k => by
        simp only [tabardref04_Name.l0]
        rw [if_pos kq1]
      have hnx : Ev (fun k => tabardref04_Name.l0 k s (wrap64 ((n : Int) + 1)) (wrap64 ((pos : Int) + ((readB s pos).2.1 : Int)))) ((nameGo s (pos + (Utf8.decode s pos).2) (wrap64 ((n : Int) + 1))).1 && decide ((nameGo s (pos + (Utf8.decode s pos).2) (wrap64 ((n : Int) + 1))).2 > 0) && decide ((nameGo s (pos + (Utf8.decode s pos).2) (wrap64 ((n : Int) + 1))).2 ≤ 16) && !reservedB s) := by
        rw [w64 (a := (n : Int) + 1) kq1 kq1, hw, w64 kq1 kq1, show ((n : Int) + 1) = ((n + 1 : Nat) : Int) by omega, show ((pos : Int) + (((Utf8.decode s pos).2 : Nat) : Int)) = ((pos + (Utf8.decode s pos).2 : Nat) : Int) by omega]
        exact next
      refine Ev.step hstep (Ev.bind rd0 ?_)
      cases hok : (readB s pos).2.2 with
      | false =>
        have hr2 : (readB s pos).1 = 65533 := by rw [hbad hok]
        rw [hr2, show restB ((65533 : Nat) : Int) = false from by decide]
        simp only [Bool.not_false, Bool.or_true, if_true, Bool.false_and]
        exact Ev.congr (fun k => if_neg kq2) (Ev.now false)
      | true =>
        refine Ev.congr (fun k => if_pos rfl) ?_
        by_cases hn0 : (n : Int) = 0
        · refine Ev.congr (fun k => if_pos hn0) (Ev.bind st0 ?_)
          rw [decide_eq_true hn0]
          cases startB ((readB s pos).1 : Int) with
          | false => exact Ev.congr (fun k => if_neg kq2) (Ev.now false)
          | true =>
            refine Ev.congr (fun k => if_pos rfl) (Ev.bind rt0 ?_)
            cases restB ((readB s pos).1 : Int) with
            | false => exact Ev.congr (fun k => if_neg kq2) (Ev.now false)
            | true => exact Ev.congr (fun k => if_pos rfl) hnx
        · refine Ev.congr (fun k => if_neg hn0) (Ev.bind rt0 ?_)
          rw [decide_eq_false hn0]
          cases restB ((readB s pos).1 : Int) with
          | false => exact Ev.congr (fun k => if_neg kq2) (Ev.now false)
          | true => exact Ev.congr (fun k => if_pos rfl) hnx
    · refine EvK 10 (fun k => ?_)
      simp only [tabardref04_Name.l0]
      rw [if_neg kq1, nameGo, dif_neg kq1, rreserved_at]
      by_cases h1 : (n : Int) ≥ 1 <;> by_cases h2 : (n : Int) ≤ 16 <;> simp [h1, h2] <;> omega
theorem name_spec (s : ByteArray) (hs : s.size ≤ 140737488351232) : Ev (fun k => tabardref04_Name.f k s) (nameB s) := name_loop s hs s.size 0 0 kq1 kq1 kq1 kq1
end Go.Proofs.Ytjknpmibdkoklaa.Q
