/- Functions of the given program as Lean functions, each with its contract, and what they answer; words for it. No condition but those of each. -/
import Derived.Test.YtjknpmibdkoklaaPCS
import Derived.Test.YtjknpmibdkoklaaPC3
import Derived.Test.YtjknpmibdkoklaaPC5
import Derived.LoopTactic
import Derived.Shelf.Abstract
import Derived.Test.YtjknpmibdkoklaaPC2
set_option linter.unusedVariables false
set_option linter.unusedSimpArgs false
namespace Go.Proofs.Ytjknpmibdkoklaa.U
open Go.RowKit Go.Proofs.YtjknpmibdkoklaaW.PrintWords Go.Proofs.YtjknpmibdkoklaaW.PrintLast Go.Proofs.YtjknpmibdkoklaaW.PrintMore
open Aside0 (mk)
open List (setIfInBounds_toArray set_cons_zero set_cons_succ)
attribute [local go_sem] max2_int min2_int max_two min_two max_three min_three max_four min_four
set_option linter.unusedVariables false
set_option linter.unusedSimpArgs false
attribute [local go_sem] fld99_2 fld103_2 fld172_1
mutual
def tree_formula.j0 : Nat → Bool → Int → ByteArray → Int → List (S66) → List (S39) → Option (Bool)
  | 0, _, _, _, _, _, _ => none
  | k + 1, x3, x105000, x105001, x105002, x105003, x105004 => if x105000 = 0 then (tree_formula.j1 k x3 (x105003.length : Int) (x105004.length : Int) true x105000 x105001 x105002 x105003 x105004) else (tree_formula.j1 k x3 (x105003.length : Int) (x105004.length : Int) (x105000 == 1) x105000 x105001 x105002 x105003 x105004)
def tree_formula.j1 : Nat → Bool → Int → Int → Bool → Int → ByteArray → Int → List (S66) → List (S39) → Option (Bool)
  | 0, _, _, _, _, _, _, _, _, _ => none
  | k + 1, x3, x4, x5, x20, x105000, x105001, x105002, x105003, x105004 => if x20 = true then (if x3 = true then (if x4 = 0 then (some (x5 == 0)) else (some false)) else (some false)) else (if x105000 = 2 then (if x3 = true then (if x4 = 0 then (some (x5 == 1)) else (some false)) else (some false)) else (if x105000 ≥ 3 then (tree_formula.j2 k x3 x4 x5 (decide (x105000 ≤ 6)) x105000 x105001 x105002 x105003 x105004) else (tree_formula.j2 k x3 x4 x5 false x105000 x105001 x105002 x105003 x105004)))
def tree_formula.j2 : Nat → Bool → Int → Int → Bool → Int → ByteArray → Int → List (S66) → List (S39) → Option (Bool)
  | 0, _, _, _, _, _, _, _, _, _ => none
  | k + 1, x3, x4, x5, x51, x105000, x105001, x105002, x105003, x105004 => if x51 = true then (if x3 = true then (if x4 = 0 then (some (x5 == 2)) else (some false)) else (some false)) else (if x105000 = 7 then (tree_formula.j3 k x3 x4 x5 true x105000 x105001 x105002 x105003 x105004) else (tree_formula.j3 k x3 x4 x5 (x105000 == 8) x105000 x105001 x105002 x105003 x105004))
def tree_formula.j3 : Nat → Bool → Int → Int → Bool → Int → ByteArray → Int → List (S66) → List (S39) → Option (Bool)
  | 0, _, _, _, _, _, _, _, _, _ => none
  | k + 1, x3, x4, x5, x69, x105000, x105001, x105002, x105003, x105004 => if x69 = true then ((glyph_Name.f x105001).bind fun t105 => (if t105 = true then (if x105002 = 0 then (if x4 = 0 then (some (x5 == 1)) else (some false)) else (some false)) else (some false))) else (if x105000 ≥ 9 then (tree_formula.j4 k x3 x4 x5 (decide (x105000 ≤ 14)) x105000 x105001 x105002 x105003 x105004) else (tree_formula.j4 k x3 x4 x5 false x105000 x105001 x105002 x105003 x105004))
def tree_formula.j4 : Nat → Bool → Int → Int → Bool → Int → ByteArray → Int → List (S66) → List (S39) → Option (Bool)
  | 0, _, _, _, _, _, _, _, _, _ => none
  | k + 1, x3, x4, x5, x94, x105000, x105001, x105002, x105003, x105004 => if x94 = true then (if x3 = true then (if x4 = 2 then (some (x5 == 0)) else (some false)) else (some false)) else (if x105000 = 15 then (if x105001.toList = ([] : List UInt8) then (if x105002 ≥ 1 then (if x4 = 2 then (some (x5 == 0)) else (some false)) else (some false)) else (some false)) else (some false))
end
def tree_formula.f (k : Nat) (a0_0 : Int) (a0_1 : ByteArray) (a0_2 : Int) (l0_3 : List (S66)) (l0_4 : List (S39)) : Option (Bool) := if a0_1.toList = ([] : List UInt8) then (tree_formula.j0 k (a0_2 == 0) a0_0 a0_1 a0_2 l0_3 l0_4) else (tree_formula.j0 k false a0_0 a0_1 a0_2 l0_3 l0_4)
theorem tree_formula.mono_l : ∀ k, (∀ y0 y1 y2 y3 y4 y5, LeO (tree_formula.j0 k y0 y1 y2 y3 y4 y5) (tree_formula.j0 (k + 1) y0 y1 y2 y3 y4 y5)) ∧ (∀ y0 y1 y2 y3 y4 y5 y6 y7 y8, LeO (tree_formula.j1 k y0 y1 y2 y3 y4 y5 y6 y7 y8) (tree_formula.j1 (k + 1) y0 y1 y2 y3 y4 y5 y6 y7 y8)) ∧ (∀ y0 y1 y2 y3 y4 y5 y6 y7 y8, LeO (tree_formula.j2 k y0 y1 y2 y3 y4 y5 y6 y7 y8) (tree_formula.j2 (k + 1) y0 y1 y2 y3 y4 y5 y6 y7 y8)) ∧ (∀ y0 y1 y2 y3 y4 y5 y6 y7 y8, LeO (tree_formula.j3 k y0 y1 y2 y3 y4 y5 y6 y7 y8) (tree_formula.j3 (k + 1) y0 y1 y2 y3 y4 y5 y6 y7 y8)) ∧ (∀ y0 y1 y2 y3 y4 y5 y6 y7 y8, LeO (tree_formula.j4 k y0 y1 y2 y3 y4 y5 y6 y7 y8) (tree_formula.j4 (k + 1) y0 y1 y2 y3 y4 y5 y6 y7 y8))
  | 0 => ⟨fun _ _ _ _ _ _ r h => by simp [tree_formula.j0] at h, fun _ _ _ _ _ _ _ _ _ r h => by simp [tree_formula.j1] at h, fun _ _ _ _ _ _ _ _ _ r h => by simp [tree_formula.j2] at h, fun _ _ _ _ _ _ _ _ _ r h => by simp [tree_formula.j3] at h, fun _ _ _ _ _ _ _ _ _ r h => by simp [tree_formula.j4] at h⟩
  | k + 1 => by
    obtain ⟨ih0, ih1, ih2, ih3, ih4⟩ := tree_formula.mono_l k
    refine ⟨?_, ?_, ?_, ?_, ?_⟩ <;> intros <;> (first | unfold tree_formula.j0 | unfold tree_formula.j1 | unfold tree_formula.j2 | unfold tree_formula.j3 | unfold tree_formula.j4) <;> repeat' first | (with_reducible first | exact ih0 _ _ _ _ _ _ | exact ih1 _ _ _ _ _ _ _ _ _ | exact ih2 _ _ _ _ _ _ _ _ _ | exact ih3 _ _ _ _ _ _ _ _ _ | exact ih4 _ _ _ _ _ _ _ _ _ | exact LeO.refl _ | exact LeO.none _ | refine LeO.ite ?_ ?_ | refine LeO.bind ?_ (fun _ => ?_)) | exact ih0 _ _ _ _ _ _ | exact ih1 _ _ _ _ _ _ _ _ _ | exact ih2 _ _ _ _ _ _ _ _ _ | exact ih3 _ _ _ _ _ _ _ _ _ | exact ih4 _ _ _ _ _ _ _ _ _ | exact LeO.none _ | refine LeO.ite ?_ ?_ | refine LeO.bind ?_ (fun _ => ?_)
theorem tree_formula.mono : ∀ a0 a1 a2 a3 a4 k, LeO (tree_formula.f k a0 a1 a2 a3 a4) (tree_formula.f (k + 1) a0 a1 a2 a3 a4) := by
  intro a0 a1 a2 a3 a4 k
  obtain ⟨ih0, ih1, ih2, ih3, ih4⟩ := tree_formula.mono_l k
  unfold tree_formula.f
  repeat' first
      | (with_reducible exact ih0 _ _ _ _ _ _)
      | (with_reducible exact ih1 _ _ _ _ _ _ _ _ _)
      | (with_reducible exact ih2 _ _ _ _ _ _ _ _ _)
      | (with_reducible exact ih3 _ _ _ _ _ _ _ _ _)
      | (with_reducible exact ih4 _ _ _ _ _ _ _ _ _)
      | (with_reducible exact LeO.refl _)
      | (with_reducible exact LeO.none _)
      | (with_reducible refine LeO.ite ?_ ?_)
      | (with_reducible refine LeO.bind ?_ (fun _ => ?_))
      | exact ih0 _ _ _ _ _ _
      | exact ih1 _ _ _ _ _ _ _ _ _
      | exact ih2 _ _ _ _ _ _ _ _ _
      | exact ih3 _ _ _ _ _ _ _ _ _
      | exact ih4 _ _ _ _ _ _ _ _ _
      | exact LeO.none _
      | refine LeO.ite ?_ ?_
      | refine LeO.bind ?_ (fun _ => ?_)
set_option maxHeartbeats 8000000 in
set_option maxRecDepth 100000 in
theorem tree_formula.calls (k : Nat) (a0_0 : Int) (a0_1 : ByteArray) (a0_2 : Int) (A0_3 : Option Addr) (c0_3 : Nat) (l0_3 : List (S66)) (A0_4 : Option Addr) (c0_4 : Nat) (l0_4 : List (S39)) (r : Bool) (w : World) (hr0_3 : Kd.C k66 w A0_3 l0_3.length l0_3) (hc0_3 : l0_3.length ≤ c0_3) (hr0_4 : Kd.C k39 w A0_4 l0_4.length l0_4) (hc0_4 : l0_4.length ≤ c0_4) (h : tree_formula.f k a0_0 a0_1 a0_2 l0_3 l0_4 = some r) :
    Calls Try.prog 162 #[.agg #[.int .i64 a0_0, .string a0_1, .int .i64 a0_2, .slice A0_3 l0_3.length c0_3, .slice A0_4 l0_4.length c0_4]] w fun e w' => e = .returned (.bool r) ∧ Below w.heap.size w w' := by
  have hu39 := Try.underlying39
  have HR0_3 := mk hr0_3
  have HC0_3 := mk hc0_3
  clear hr0_3 hc0_3
  have HR0_4 := mk hr0_4
  have HC0_4 := mk hc0_4
  clear hr0_4 hc0_4
  have HB := mk (Below.refl w.heap.size w)
  have H : (if a0_1.toList = ([] : List UInt8) then (tree_formula.j0 k (a0_2 == 0) a0_0 a0_1 a0_2 l0_3 l0_4) else (tree_formula.j0 k false a0_0 a0_1 a0_2 l0_3 l0_4)) = some r := h
  clear h
  have HC2 := mk H
  clear H
  go_enter Try.func162, Try.ntmps162
  go_upto_region 1 with (first | ((with_reducible refine gate_dst (N := 1) rfl ?_); refine box_event ?hg (N := 1) ?hd (cs := #[.int .i64 a0_0, .string a0_1, .int .i64 a0_2, .slice A0_3 l0_3.length c0_3, .slice A0_4 l0_4.length c0_4]) (t := 39) ?hr ?_; (case hd => rfl); (case hg => rfl); (case hr => exact kq6); intro gb104 hg w3 hbox hb; have BK104 := mk (hbox); have GW104 := (gs_ hg kq15); have GE104 := GW104; replace HB := mk (below_step kq15 hb); clear hb hbox hg))
  repeat (go_quiet (first | ((with_reducible refine gate_dst (N := 1) rfl ?_); refine box_event ?hg (N := 1) ?hd (cs := #[.int .i64 a0_0, .string a0_1, .int .i64 a0_2, .slice A0_3 l0_3.length c0_3, .slice A0_4 l0_4.length c0_4]) (t := 39) ?hr ?_; (case hd => rfl); (case hg => rfl); (case hr => exact kq6); intro gb104 hg w3 hbox hb; have BK104 := mk (hbox); have GW104 := (gs_ hg kq15); have GE104 := GW104; replace HB := mk (below_step kq15 hb); clear hb hbox hg)); go_upto_region 1 with (first | ((with_reducible refine gate_dst (N := 1) rfl ?_); refine box_event ?hg (N := 1) ?hd (cs := #[.int .i64 a0_0, .string a0_1, .int .i64 a0_2, .slice A0_3 l0_3.length c0_3, .slice A0_4 l0_4.length c0_4]) (t := 39) ?hr ?_; (case hd => rfl); (case hg => rfl); (case hr => exact kq6); intro gb104 hg w3 hbox hb; have BK104 := mk (hbox); have GW104 := (gs_ hg kq15); have GE104 := GW104; replace HB := mk (below_step kq15 hb); clear hb hbox hg)))
  (try simp only [Act.put, setIfInBounds_toArray, set_cons_zero, set_cons_succ])
  go_cut [3] (fun v3 wc => ∃ (kq : Nat) (x3_1 : Bool), v3 = .bool x3_1 ∧ Aside0 (tree_formula.j0 kq x3_1 a0_0 a0_1 a0_2 l0_3 l0_4 = some r) ∧ Aside0 (kq ≤ k) ∧ Aside0 (wc.heap[gb104]? = some (.cells #[.int .i64 a0_0, .string a0_1, .int .i64 a0_2, (.slice A0_3 l0_3.length c0_3), (.slice A0_4 l0_4.length c0_4)] 39 (0, 0))) ∧ Aside0 (Below w.heap.size w wc))
  case first =>
    have H := HC2.out
    clear HC2
    replace H := ic_ H; obtain ⟨c4, H⟩ | ⟨c4, H⟩ := H
    · (obtain ⟨c4b0, c4b1⟩ := eTn_ c4); clear c4; ((first | rw [c4b0] | (simp only [i64_w, i32_w]; rw [c4b0]) | skip)); (have H' := mk H); clear H; (obtain ⟨_, _, _, _, _, _, _, _, _, _⟩ := cz5_ BK104.out); go_wp2; (repeat (go_quiet (fail); try go_wp2)); (go_meet)
      case rel => exact ⟨_, ((a0_2 == 0)), kq10, H', ⟨kq11⟩, ⟨(kq7 BK104)⟩, ⟨(kq16 GE104)⟩⟩
    · (obtain ⟨c4b0, c4b1⟩ := eFn_ c4); ((first | rw [c4b0] | (simp only [i64_w, i32_w]; rw [c4b0]) | skip)); (have H' := mk H); clear H; (obtain ⟨_, _, _, _, _, _, _, _, _, _⟩ := cz5_ BK104.out); go_wp2; (repeat (go_quiet (fail); try go_wp2)); (go_meet)
      case rel => exact ⟨_, (false), kq10, H', ⟨kq11⟩, ⟨(kq7 BK104)⟩, ⟨(kq16 GE104)⟩⟩
  case rest =>
    clear HC2
    obtain ⟨kq, x3_1, rfl, HA, HJ1, BK104, HB⟩ := hcut
    cases kq with
    | zero => exact absurd HA.out (by simp [tree_formula.j0])
    | succ kj1 =>
      (have H := HA.out); clear HA; (simp only [tree_formula.j0] at H); (have HC7 := mk H); clear H; (obtain ⟨_, _, _, _, _, _, _, _, _, _⟩ := cz5_ BK104.out); (go_upto_region 3 with (fail)); (repeat (go_quiet (fail); go_upto_region 3 with (fail))); (go_cut [20] (fun v20 wc => ∃ (kq : Nat) (x20_6 : Bool), v20 = .bool x20_6 ∧ Aside0 (tree_formula.j1 kq x3_1 (l0_3.length : Int) (l0_4.length : Int) x20_6 a0_0 a0_1 a0_2 l0_3 l0_4 = some r) ∧ Aside0 (kq ≤ kj1) ∧ Aside0 (wc.heap[gb104]? = some (.cells #[.int .i64 a0_0, .string a0_1, .int .i64 a0_2, (.slice A0_3 l0_3.length c0_3), (.slice A0_4 l0_4.length c0_4)] 39 (0, 0))) ∧ Aside0 (Below w.heap.size w wc)))
      case first =>
        (have H := HC7.out); clear HC7; replace H := ic_ H; obtain ⟨c9, H⟩ | ⟨c9, H⟩ := H
        · (obtain ⟨c9b0, c9b1⟩ := eTn_ c9); clear c9; ((first | rw [c9b0] | (simp only [i64_w, i32_w]; rw [c9b0]) | skip)); (have H' := mk H); clear H; (obtain ⟨_, _, _, _, _, _, _, _, _, _⟩ := cz5_ BK104.out); go_wp2; (repeat (go_quiet (fail); try go_wp2)); (go_meet)
          case rel => exact ⟨_, (true), kq10, H', ⟨kq13⟩, ⟨(kq7 BK104)⟩, ⟨(kq16 GE104)⟩⟩
        · (obtain ⟨c9b0, c9b1⟩ := eFn_ c9); ((first | rw [c9b0] | (simp only [i64_w, i32_w]; rw [c9b0]) | skip)); (have H' := mk H); clear H; (obtain ⟨_, _, _, _, _, _, _, _, _, _⟩ := cz5_ BK104.out); go_wp2; (repeat (go_quiet (fail); try go_wp2)); (go_meet)
          case rel => exact ⟨_, ((a0_0 == 1)), kq10, H', ⟨kq13⟩, ⟨(kq7 BK104)⟩, ⟨(kq16 GE104)⟩⟩
      case rest =>
        clear HC7; (obtain ⟨kq, x20_6, rfl, HA, HJ6, BK104, HB⟩ := hcut)
        cases kq with
        | zero => exact absurd HA.out (by simp [tree_formula.j1])
        | succ kj6 =>
          (have H := HA.out); clear HA; (simp only [tree_formula.j1] at H); (by_cases c12 : x20_6 = true)
          · subst c12; (have H1 : (if x3_1 = true then (if (l0_3.length : Int) = 0 then (some ((l0_4.length : Int) == 0)) else (some false)) else (some false)) = some r := by rw [if_pos rfl] at H; exact H); clear H; (have H := H1); clear H1; (by_cases c13 : x3_1 = true)
            · subst c13; (have H1 : (if (l0_3.length : Int) = 0 then (some ((l0_4.length : Int) == 0)) else (some false)) = some r := by rw [if_pos rfl] at H; exact H); clear H; (have H := H1); clear H1; replace H := ic_ H; obtain ⟨c14, H⟩ | ⟨c14, H⟩ := H
              · (obtain ⟨c14b0, c14b1⟩ := eTn_ c14); clear c14; (obtain rfl := Option.some.inj H); go_wp2; (repeat (go_quiet (fail); try go_wp2)); go_ret; (exact ⟨kq21, (kq16 GE104)⟩)
              · (obtain ⟨c14b0, c14b1⟩ := eFn_ c14); (have c14b2 : ¬ (l0_3 = []) := fun h_ => c14 (by rw [h_]; rfl)); (obtain rfl := Option.some.inj H); go_wp2; (repeat (go_quiet (fail); try go_wp2)); go_ret; (exact ⟨kq21, (kq16 GE104)⟩)
            · (replace c13 := Bool.eq_false_iff.mpr c13); subst c13; (have H1 : (some false) = some r := by rw [if_neg (show ¬ (false = true) by decide)] at H; exact H); clear H; (have H := H1); clear H1; (obtain rfl := Option.some.inj H); go_wp2; (repeat (go_quiet (fail); try go_wp2)); go_ret; (exact ⟨kq21, (kq16 GE104)⟩)
          · (replace c12 := Bool.eq_false_iff.mpr c12); subst c12; (have H1 : (if a0_0 = 2 then (if x3_1 = true then (if (l0_3.length : Int) = 0 then (some ((l0_4.length : Int) == 1)) else (some false)) else (some false)) else (if a0_0 ≥ 3 then (tree_formula.j2 kj6 x3_1 (l0_3.length : Int) (l0_4.length : Int) (decide (a0_0 ≤ 6)) a0_0 a0_1 a0_2 l0_3 l0_4) else (tree_formula.j2 kj6 x3_1 (l0_3.length : Int) (l0_4.length : Int) false a0_0 a0_1 a0_2 l0_3 l0_4))) = some r := by rw [if_neg (show ¬ (false = true) by decide)] at H; exact H); clear H; (have H := H1); clear H1; replace H := ic_ H; obtain ⟨c15, H⟩ | ⟨c15, H⟩ := H
            · (obtain ⟨c15b0, c15b1⟩ := eTn_ c15); clear c15; (by_cases c16 : x3_1 = true)
              · subst c16; (have H1 : (if (l0_3.length : Int) = 0 then (some ((l0_4.length : Int) == 1)) else (some false)) = some r := by rw [if_pos rfl] at H; exact H); clear H; (have H := H1); clear H1; replace H := ic_ H; obtain ⟨c17, H⟩ | ⟨c17, H⟩ := H
                · (obtain ⟨c17b0, c17b1⟩ := eTn_ c17); clear c17; (obtain rfl := Option.some.inj H); (obtain ⟨_, _, _, _, _, _, _, _, _, _⟩ := cz5_ BK104.out); go_wp2; (repeat (go_quiet (fail); try go_wp2)); go_ret; (exact ⟨kq21, (kq16 GE104)⟩)
                · (obtain ⟨c17b0, c17b1⟩ := eFn_ c17); (have c17b2 : ¬ (l0_3 = []) := fun h_ => c17 (by rw [h_]; rfl)); (obtain rfl := Option.some.inj H); (obtain ⟨_, _, _, _, _, _, _, _, _, _⟩ := cz5_ BK104.out); go_wp2; (repeat (go_quiet (fail); try go_wp2)); go_ret; (exact ⟨kq21, (kq16 GE104)⟩)
              · (replace c16 := Bool.eq_false_iff.mpr c16); subst c16; (have H1 : (some false) = some r := by rw [if_neg (show ¬ (false = true) by decide)] at H; exact H); clear H; (have H := H1); clear H1; (obtain rfl := Option.some.inj H); (obtain ⟨_, _, _, _, _, _, _, _, _, _⟩ := cz5_ BK104.out); go_wp2; (repeat (go_quiet (fail); try go_wp2)); go_ret; (exact ⟨kq21, (kq16 GE104)⟩)
            · (obtain ⟨c15b0, c15b1⟩ := eFn_ c15); (have HC21 := mk H); clear H; (obtain ⟨_, _, _, _, _, _, _, _, _, _⟩ := cz5_ BK104.out); (go_upto_region 7 with (fail)); (repeat (go_quiet (fail); go_upto_region 7 with (fail))); (go_cut [51] (fun v51 wc => ∃ (kq : Nat) (x51_20 : Bool), v51 = .bool x51_20 ∧ Aside0 (tree_formula.j2 kq x3_1 (l0_3.length : Int) (l0_4.length : Int) x51_20 a0_0 a0_1 a0_2 l0_3 l0_4 = some r) ∧ Aside0 (kq ≤ kj6) ∧ Aside0 (wc.heap[gb104]? = some (.cells #[.int .i64 a0_0, .string a0_1, .int .i64 a0_2, (.slice A0_3 l0_3.length c0_3), (.slice A0_4 l0_4.length c0_4)] 39 (0, 0))) ∧ Aside0 (Below w.heap.size w wc)))
              case first =>
                (have H := HC21.out); clear HC21; replace H := ic_ H; obtain ⟨c23, H⟩ | ⟨c23, H⟩ := H
                · (have c23b0 : decide (3 ≤ a0_0) = true := decide_eq_true c23); clear c23; ((first | rw [c23b0] | (simp only [i64_w, i32_w]; rw [c23b0]) | skip)); (have H' := mk H); clear H; (obtain ⟨_, _, _, _, _, _, _, _, _, _⟩ := cz5_ BK104.out); go_wp2; (repeat (go_quiet (fail); try go_wp2)); (go_meet)
                  case rel => exact ⟨_, (decide (a0_0 ≤ 6)), kq10, H', ⟨by have := HJ1.out; have := HJ6.out; first | omega | exact Nat.le_refl _⟩, ⟨(kq7 BK104)⟩, ⟨(kq16 GE104)⟩⟩
                · (have c23b0 : decide (3 ≤ a0_0) = false := decide_eq_false c23); clear c23; ((first | rw [c23b0] | (simp only [i64_w, i32_w]; rw [c23b0]) | skip)); (have H' := mk H); clear H; (obtain ⟨_, _, _, _, _, _, _, _, _, _⟩ := cz5_ BK104.out); go_wp2; (repeat (go_quiet (fail); try go_wp2)); (go_meet)
                  case rel => exact ⟨_, (false), kq10, H', ⟨by have := HJ1.out; have := HJ6.out; first | omega | exact Nat.le_refl _⟩, ⟨(kq7 BK104)⟩, ⟨(kq16 GE104)⟩⟩
              case rest =>
                clear HC21; (obtain ⟨kq, x51_20, rfl, HA, HJ20, BK104, HB⟩ := hcut)
                cases kq with
                | zero => exact absurd HA.out (by simp [tree_formula.j2])
                | succ kj20 =>
                  (have H := HA.out); clear HA; (simp only [tree_formula.j2] at H); (by_cases c26 : x51_20 = true)
                  · subst c26; (have H1 : (if x3_1 = true then (if (l0_3.length : Int) = 0 then (some ((l0_4.length : Int) == 2)) else (some false)) else (some false)) = some r := by rw [if_pos rfl] at H; exact H); clear H; (have H := H1); clear H1; (by_cases c27 : x3_1 = true)
                    · subst c27; (have H1 : (if (l0_3.length : Int) = 0 then (some ((l0_4.length : Int) == 2)) else (some false)) = some r := by rw [if_pos rfl] at H; exact H); clear H; (have H := H1); clear H1; replace H := ic_ H; obtain ⟨c28, H⟩ | ⟨c28, H⟩ := H
                      · (obtain ⟨c28b0, c28b1⟩ := eTn_ c28); clear c28; (obtain rfl := Option.some.inj H); go_wp2; (repeat (go_quiet (fail); try go_wp2)); go_ret; (exact ⟨kq21, (kq16 GE104)⟩)
                      · (obtain ⟨c28b0, c28b1⟩ := eFn_ c28); (have c28b2 : ¬ (l0_3 = []) := fun h_ => c28 (by rw [h_]; rfl)); (obtain rfl := Option.some.inj H); go_wp2; (repeat (go_quiet (fail); try go_wp2)); go_ret; (exact ⟨kq21, (kq16 GE104)⟩)
                    · (replace c27 := Bool.eq_false_iff.mpr c27); subst c27; (have H1 : (some false) = some r := by rw [if_neg (show ¬ (false = true) by decide)] at H; exact H); clear H; (have H := H1); clear H1; (obtain rfl := Option.some.inj H); go_wp2; (repeat (go_quiet (fail); try go_wp2)); go_ret; (exact ⟨kq21, (kq16 GE104)⟩)
                  · (replace c26 := Bool.eq_false_iff.mpr c26); subst c26; (have H1 : (if a0_0 = 7 then (tree_formula.j3 kj20 x3_1 (l0_3.length : Int) (l0_4.length : Int) true a0_0 a0_1 a0_2 l0_3 l0_4) else (tree_formula.j3 kj20 x3_1 (l0_3.length : Int) (l0_4.length : Int) (a0_0 == 8) a0_0 a0_1 a0_2 l0_3 l0_4)) = some r := by rw [if_neg (show ¬ (false = true) by decide)] at H; exact H); clear H; (have H := H1); clear H1; (have HC29 := mk H); clear H; (go_upto_region 9 with (fail)); (repeat (go_quiet (fail); go_upto_region 9 with (fail))); (go_cut [69] (fun v69 wc => ∃ (kq : Nat) (x69_28 : Bool), v69 = .bool x69_28 ∧ Aside0 (tree_formula.j3 kq x3_1 (l0_3.length : Int) (l0_4.length : Int) x69_28 a0_0 a0_1 a0_2 l0_3 l0_4 = some r) ∧ Aside0 (kq ≤ kj20) ∧ Aside0 (wc.heap[gb104]? = some (.cells #[.int .i64 a0_0, .string a0_1, .int .i64 a0_2, (.slice A0_3 l0_3.length c0_3), (.slice A0_4 l0_4.length c0_4)] 39 (0, 0))) ∧ Aside0 (Below w.heap.size w wc)))
                    case first =>
                      (have H := HC29.out); clear HC29; replace H := ic_ H; obtain ⟨c30, H⟩ | ⟨c30, H⟩ := H
                      · (obtain ⟨c30b0, c30b1⟩ := eTn_ c30); clear c30; ((first | rw [c30b0] | (simp only [i64_w, i32_w]; rw [c30b0]) | skip)); (have H' := mk H); clear H; (obtain ⟨_, _, _, _, _, _, _, _, _, _⟩ := cz5_ BK104.out); go_wp2; (repeat (go_quiet (fail); try go_wp2)); (go_meet)
                        case rel => exact ⟨_, (true), kq10, H', ⟨by have := HJ1.out; have := HJ6.out; have := HJ20.out; first | omega | exact Nat.le_refl _⟩, ⟨(kq7 BK104)⟩, ⟨(kq16 GE104)⟩⟩
                      · (obtain ⟨c30b0, c30b1⟩ := eFn_ c30); ((first | rw [c30b0] | (simp only [i64_w, i32_w]; rw [c30b0]) | skip)); (have H' := mk H); clear H; (obtain ⟨_, _, _, _, _, _, _, _, _, _⟩ := cz5_ BK104.out); go_wp2; (repeat (go_quiet (fail); try go_wp2)); (go_meet)
                        case rel => exact ⟨_, ((a0_0 == 8)), kq10, H', ⟨by have := HJ1.out; have := HJ6.out; have := HJ20.out; first | omega | exact Nat.le_refl _⟩, ⟨(kq7 BK104)⟩, ⟨(kq16 GE104)⟩⟩
                    case rest =>
                      clear HC29; (obtain ⟨kq, x69_28, rfl, HA, HJ28, BK104, HB⟩ := hcut)
                      cases kq with
                      | zero => exact absurd HA.out (by simp [tree_formula.j3])
                      | succ kj28 =>
                        (have H := HA.out); clear HA; (simp only [tree_formula.j3] at H); (by_cases c33 : x69_28 = true)
                        · subst c33; (have H1 : ((glyph_Name.f a0_1).bind fun t105 => (if t105 = true then (if a0_2 = 0 then (if (l0_3.length : Int) = 0 then (some ((l0_4.length : Int) == 1)) else (some false)) else (some false)) else (some false))) = some r := by rw [if_pos rfl] at H; exact H); clear H; (have H := H1); clear H1; (replace H := Option.bind_eq_some_iff.mp H); (obtain ⟨t105, A340, H⟩ := H); (replace H : (if t105 = true then (if a0_2 = 0 then (if (l0_3.length : Int) = 0 then (some ((l0_4.length : Int) == 1)) else (some false)) else (some false)) else (some false)) = some r := H); (have A34 := mk A340); clear A340; (by_cases c35 : t105 = true)
                          · subst c35; (have H1 : (if a0_2 = 0 then (if (l0_3.length : Int) = 0 then (some ((l0_4.length : Int) == 1)) else (some false)) else (some false)) = some r := by rw [if_pos rfl] at H; exact H); clear H; (have H := H1); clear H1; replace H := ic_ H; obtain ⟨c36, H⟩ | ⟨c36, H⟩ := H
                            · (obtain ⟨c36b0, c36b1⟩ := eTn_ c36); clear c36; replace H := ic_ H; obtain ⟨c37, H⟩ | ⟨c37, H⟩ := H
                              · (obtain ⟨c37b0, c37b1⟩ := eTn_ c37); clear c37; (obtain rfl := Option.some.inj H); (obtain ⟨_, _, _, _, _, _, _, _, _, _⟩ := cz5_ BK104.out); (go_wp2_with (first | (go_at_call 41; (with_reducible refine (glyph_Name.calls a0_1 true _ A34.out).mono ?_); rintro e w39 ⟨rfl, hb⟩; replace BK104 := (bb_ BK104 hb); replace HB := mk (below_step (kq16 GE104) hb); obtain ⟨_, _, _, _, _, _, _, _, _, _⟩ := cz5_ BK104.out))); (repeat (go_quiet (first | (go_at_call 41; (with_reducible refine (glyph_Name.calls a0_1 true _ A34.out).mono ?_); rintro e w39 ⟨rfl, hb⟩; replace BK104 := (bb_ BK104 hb); replace HB := mk (below_step (kq16 GE104) hb); obtain ⟨_, _, _, _, _, _, _, _, _, _⟩ := cz5_ BK104.out)); try go_wp2_with (first | (go_at_call 41; (with_reducible refine (glyph_Name.calls a0_1 true _ A34.out).mono ?_); rintro e w39 ⟨rfl, hb⟩; replace BK104 := (bb_ BK104 hb); replace HB := mk (below_step (kq16 GE104) hb); obtain ⟨_, _, _, _, _, _, _, _, _, _⟩ := cz5_ BK104.out)))); go_ret; (exact ⟨kq21, (kq16 GE104)⟩)
                              · (obtain ⟨c37b0, c37b1⟩ := eFn_ c37); (have c37b2 : ¬ (l0_3 = []) := fun h_ => c37 (by rw [h_]; rfl)); (obtain rfl := Option.some.inj H); (obtain ⟨_, _, _, _, _, _, _, _, _, _⟩ := cz5_ BK104.out); (go_wp2_with (first | (go_at_call 41; (with_reducible refine (glyph_Name.calls a0_1 true _ A34.out).mono ?_); rintro e w42 ⟨rfl, hb⟩; replace BK104 := (bb_ BK104 hb); replace HB := mk (below_step (kq16 GE104) hb); obtain ⟨_, _, _, _, _, _, _, _, _, _⟩ := cz5_ BK104.out))); (repeat (go_quiet (first | (go_at_call 41; (with_reducible refine (glyph_Name.calls a0_1 true _ A34.out).mono ?_); rintro e w42 ⟨rfl, hb⟩; replace BK104 := (bb_ BK104 hb); replace HB := mk (below_step (kq16 GE104) hb); obtain ⟨_, _, _, _, _, _, _, _, _, _⟩ := cz5_ BK104.out)); try go_wp2_with (first | (go_at_call 41; (with_reducible refine (glyph_Name.calls a0_1 true _ A34.out).mono ?_); rintro e w42 ⟨rfl, hb⟩; replace BK104 := (bb_ BK104 hb); replace HB := mk (below_step (kq16 GE104) hb); obtain ⟨_, _, _, _, _, _, _, _, _, _⟩ := cz5_ BK104.out)))); go_ret; (exact ⟨kq21, (kq16 GE104)⟩)
                            · (obtain ⟨c36b0, c36b1⟩ := eFn_ c36); (obtain rfl := Option.some.inj H); (obtain ⟨_, _, _, _, _, _, _, _, _, _⟩ := cz5_ BK104.out); (go_wp2_with (first | (go_at_call 41; (with_reducible refine (glyph_Name.calls a0_1 true _ A34.out).mono ?_); rintro e w45 ⟨rfl, hb⟩; replace BK104 := (bb_ BK104 hb); replace HB := mk (below_step (kq16 GE104) hb); obtain ⟨_, _, _, _, _, _, _, _, _, _⟩ := cz5_ BK104.out))); (repeat (go_quiet (first | (go_at_call 41; (with_reducible refine (glyph_Name.calls a0_1 true _ A34.out).mono ?_); rintro e w45 ⟨rfl, hb⟩; replace BK104 := (bb_ BK104 hb); replace HB := mk (below_step (kq16 GE104) hb); obtain ⟨_, _, _, _, _, _, _, _, _, _⟩ := cz5_ BK104.out)); try go_wp2_with (first | (go_at_call 41; (with_reducible refine (glyph_Name.calls a0_1 true _ A34.out).mono ?_); rintro e w45 ⟨rfl, hb⟩; replace BK104 := (bb_ BK104 hb); replace HB := mk (below_step (kq16 GE104) hb); obtain ⟨_, _, _, _, _, _, _, _, _, _⟩ := cz5_ BK104.out)))); go_ret; (exact ⟨kq21, (kq16 GE104)⟩)
                          · (replace c35 := Bool.eq_false_iff.mpr c35); subst c35; (have H1 : (some false) = some r := by rw [if_neg (show ¬ (false = true) by decide)] at H; exact H); clear H; (have H := H1); clear H1; (obtain rfl := Option.some.inj H); (obtain ⟨_, _, _, _, _, _, _, _, _, _⟩ := cz5_ BK104.out); (go_wp2_with (first | (go_at_call 41; (with_reducible refine (glyph_Name.calls a0_1 false _ A34.out).mono ?_); rintro e w48 ⟨rfl, hb⟩; replace BK104 := (bb_ BK104 hb); replace HB := mk (below_step (kq16 GE104) hb)))); (repeat (go_quiet (first | (go_at_call 41; (with_reducible refine (glyph_Name.calls a0_1 false _ A34.out).mono ?_); rintro e w48 ⟨rfl, hb⟩; replace BK104 := (bb_ BK104 hb); replace HB := mk (below_step (kq16 GE104) hb))); try go_wp2_with (first | (go_at_call 41; (with_reducible refine (glyph_Name.calls a0_1 false _ A34.out).mono ?_); rintro e w48 ⟨rfl, hb⟩; replace BK104 := (bb_ BK104 hb); replace HB := mk (below_step (kq16 GE104) hb))))); go_ret; (exact ⟨kq21, (kq16 GE104)⟩)
                        · (replace c33 := Bool.eq_false_iff.mpr c33); subst c33; (have H1 : (if a0_0 ≥ 9 then (tree_formula.j4 kj28 x3_1 (l0_3.length : Int) (l0_4.length : Int) (decide (a0_0 ≤ 14)) a0_0 a0_1 a0_2 l0_3 l0_4) else (tree_formula.j4 kj28 x3_1 (l0_3.length : Int) (l0_4.length : Int) false a0_0 a0_1 a0_2 l0_3 l0_4)) = some r := by rw [if_neg (show ¬ (false = true) by decide)] at H; exact H); clear H; (have H := H1); clear H1; (have HC49 := mk H); clear H; (go_upto_region 11 with (fail)); (repeat (go_quiet (fail); go_upto_region 11 with (fail))); (go_cut [94] (fun v94 wc => ∃ (kq : Nat) (x94_48 : Bool), v94 = .bool x94_48 ∧ Aside0 (tree_formula.j4 kq x3_1 (l0_3.length : Int) (l0_4.length : Int) x94_48 a0_0 a0_1 a0_2 l0_3 l0_4 = some r) ∧ Aside0 (kq ≤ kj28) ∧ Aside0 (wc.heap[gb104]? = some (.cells #[.int .i64 a0_0, .string a0_1, .int .i64 a0_2, (.slice A0_3 l0_3.length c0_3), (.slice A0_4 l0_4.length c0_4)] 39 (0, 0))) ∧ Aside0 (Below w.heap.size w wc)))
                          case first =>
                            (have H := HC49.out); clear HC49; replace H := ic_ H; obtain ⟨c50, H⟩ | ⟨c50, H⟩ := H
                            · (have c50b0 : decide (9 ≤ a0_0) = true := decide_eq_true c50); clear c50; ((first | rw [c50b0] | (simp only [i64_w, i32_w]; rw [c50b0]) | skip)); (have H' := mk H); clear H; (obtain ⟨_, _, _, _, _, _, _, _, _, _⟩ := cz5_ BK104.out); go_wp2; (repeat (go_quiet (fail); try go_wp2)); (go_meet)
                              case rel => exact ⟨_, (decide (a0_0 ≤ 14)), kq10, H', ⟨by have := HJ1.out; have := HJ6.out; have := HJ20.out; have := HJ28.out; first | omega | exact Nat.le_refl _⟩, ⟨(kq7 BK104)⟩, ⟨(kq16 GE104)⟩⟩
                            · (have c50b0 : decide (9 ≤ a0_0) = false := decide_eq_false c50); clear c50; ((first | rw [c50b0] | (simp only [i64_w, i32_w]; rw [c50b0]) | skip)); (have H' := mk H); clear H; (obtain ⟨_, _, _, _, _, _, _, _, _, _⟩ := cz5_ BK104.out); go_wp2; (repeat (go_quiet (fail); try go_wp2)); (go_meet)
                              case rel => exact ⟨_, (false), kq10, H', ⟨by have := HJ1.out; have := HJ6.out; have := HJ20.out; have := HJ28.out; first | omega | exact Nat.le_refl _⟩, ⟨(kq7 BK104)⟩, ⟨(kq16 GE104)⟩⟩
                          case rest =>
                            clear HC49; (obtain ⟨kq, x94_48, rfl, HA, HJ48, BK104, HB⟩ := hcut)
                            cases kq with
                            | zero => exact absurd HA.out (by simp [tree_formula.j4])
                            | succ kj48 =>
                              (have H := HA.out); clear HA; (simp only [tree_formula.j4] at H); (by_cases c53 : x94_48 = true)
                              · subst c53; (have H1 : (if x3_1 = true then (if (l0_3.length : Int) = 2 then (some ((l0_4.length : Int) == 0)) else (some false)) else (some false)) = some r := by rw [if_pos rfl] at H; exact H); clear H; (have H := H1); clear H1; (by_cases c54 : x3_1 = true)
                                · subst c54; (have H1 : (if (l0_3.length : Int) = 2 then (some ((l0_4.length : Int) == 0)) else (some false)) = some r := by rw [if_pos rfl] at H; exact H); clear H; (have H := H1); clear H1; replace H := ic_ H; obtain ⟨c55, H⟩ | ⟨c55, H⟩ := H
                                  · (obtain ⟨c55b0, c55b1⟩ := eTn_ c55); clear c55; (obtain rfl := Option.some.inj H); go_wp2; (repeat (go_quiet (fail); try go_wp2)); go_ret; (exact ⟨kq21, (kq16 GE104)⟩)
                                  · (obtain ⟨c55b0, c55b1⟩ := eFn_ c55); (obtain rfl := Option.some.inj H); go_wp2; (repeat (go_quiet (fail); try go_wp2)); go_ret; (exact ⟨kq21, (kq16 GE104)⟩)
                                · (replace c54 := Bool.eq_false_iff.mpr c54); subst c54; (have H1 : (some false) = some r := by rw [if_neg (show ¬ (false = true) by decide)] at H; exact H); clear H; (have H := H1); clear H1; (obtain rfl := Option.some.inj H); go_wp2; (repeat (go_quiet (fail); try go_wp2)); go_ret; (exact ⟨kq21, (kq16 GE104)⟩)
                              · (replace c53 := Bool.eq_false_iff.mpr c53); subst c53; (have H1 : (if a0_0 = 15 then (if a0_1.toList = ([] : List UInt8) then (if a0_2 ≥ 1 then (if (l0_3.length : Int) = 2 then (some ((l0_4.length : Int) == 0)) else (some false)) else (some false)) else (some false)) else (some false)) = some r := by rw [if_neg (show ¬ (false = true) by decide)] at H; exact H); clear H; (have H := H1); clear H1; replace H := ic_ H; obtain ⟨c56, H⟩ | ⟨c56, H⟩ := H
                                · (obtain ⟨c56b0, c56b1⟩ := eTn_ c56); clear c56; replace H := ic_ H; obtain ⟨c57, H⟩ | ⟨c57, H⟩ := H
                                  · (obtain ⟨c57b0, c57b1⟩ := eTn_ c57); clear c57; replace H := ic_ H; obtain ⟨c58, H⟩ | ⟨c58, H⟩ := H
                                    · (have c58b0 : decide (1 ≤ a0_2) = true := decide_eq_true c58); clear c58; replace H := ic_ H; obtain ⟨c59, H⟩ | ⟨c59, H⟩ := H
                                      · (obtain ⟨c59b0, c59b1⟩ := eTn_ c59); clear c59; (obtain rfl := Option.some.inj H); (obtain ⟨_, _, _, _, _, _, _, _, _, _⟩ := cz5_ BK104.out); go_wp2; (repeat (go_quiet (fail); try go_wp2)); go_ret; (exact ⟨kq21, (kq16 GE104)⟩)
                                      · (obtain ⟨c59b0, c59b1⟩ := eFn_ c59); (obtain rfl := Option.some.inj H); (obtain ⟨_, _, _, _, _, _, _, _, _, _⟩ := cz5_ BK104.out); go_wp2; (repeat (go_quiet (fail); try go_wp2)); go_ret; (exact ⟨kq21, (kq16 GE104)⟩)
                                    · (have c58b0 : decide (1 ≤ a0_2) = false := decide_eq_false c58); clear c58; (obtain rfl := Option.some.inj H); (obtain ⟨_, _, _, _, _, _, _, _, _, _⟩ := cz5_ BK104.out); go_wp2; (repeat (go_quiet (fail); try go_wp2)); go_ret; (exact ⟨kq21, (kq16 GE104)⟩)
                                  · (obtain ⟨c57b0, c57b1⟩ := eFn_ c57); (obtain rfl := Option.some.inj H); (obtain ⟨_, _, _, _, _, _, _, _, _, _⟩ := cz5_ BK104.out); go_wp2; (repeat (go_quiet (fail); try go_wp2)); go_ret; (exact ⟨kq21, (kq16 GE104)⟩)
                                · (obtain ⟨c56b0, c56b1⟩ := eFn_ c56); (obtain rfl := Option.some.inj H); (obtain ⟨_, _, _, _, _, _, _, _, _, _⟩ := cz5_ BK104.out); go_wp2; (repeat (go_quiet (fail); try go_wp2)); go_ret; (exact ⟨kq21, (kq16 GE104)⟩)
end Go.Proofs.Ytjknpmibdkoklaa.U
set_option maxRecDepth 100000
namespace Go.Proofs.Ytjknpmibdkoklaa.U
open Go.RowKit Go.Proofs.YtjknpmibdkoklaaW.PrintWords Go.Proofs.YtjknpmibdkoklaaW.PrintLast Go.Proofs.YtjknpmibdkoklaaW.PrintMore
open Aside0 (mk)
def okF (t : S39) : Bool := (tree_formula.f 6 t.f0 t.f1 t.f2 t.f3 t.f4).getD false
theorem some_getD {o : Option Bool} (h : o.isSome = true) : o = some (o.getD false) := by cases o <;> simp_all
theorem j4_some (a0 : Bool) (a1 : Int) (a2 : Int) (a3 : Bool) (a4 : Int) (a5 : ByteArray) (a6 : Int) (a7 : List S66) (a8 : List S39) : (tree_formula.j4 2 a0 a1 a2 a3 a4 a5 a6 a7 a8).isSome = true := by
  simp only [tree_formula.j4, glyph_Name.f, Option.bind_some]
  repeat' split
  all_goals first | rfl
theorem j3_some (a0 : Bool) (a1 : Int) (a2 : Int) (a3 : Bool) (a4 : Int) (a5 : ByteArray) (a6 : Int) (a7 : List S66) (a8 : List S39) : (tree_formula.j3 3 a0 a1 a2 a3 a4 a5 a6 a7 a8).isSome = true := by
  simp only [tree_formula.j3, glyph_Name.f, Option.bind_some]
  repeat' split
  all_goals first | rfl | exact j4_some ..
theorem j2_some (a0 : Bool) (a1 : Int) (a2 : Int) (a3 : Bool) (a4 : Int) (a5 : ByteArray) (a6 : Int) (a7 : List S66) (a8 : List S39) : (tree_formula.j2 4 a0 a1 a2 a3 a4 a5 a6 a7 a8).isSome = true := by
  simp only [tree_formula.j2, glyph_Name.f, Option.bind_some]
  repeat' split
  all_goals first | rfl | exact j3_some ..
theorem j1_some (a0 : Bool) (a1 : Int) (a2 : Int) (a3 : Bool) (a4 : Int) (a5 : ByteArray) (a6 : Int) (a7 : List S66) (a8 : List S39) : (tree_formula.j1 5 a0 a1 a2 a3 a4 a5 a6 a7 a8).isSome = true := by
  simp only [tree_formula.j1, glyph_Name.f, Option.bind_some]
  repeat' split
  all_goals first | rfl | exact j2_some ..
theorem j0_some (a0 : Bool) (a1 : Int) (a2 : ByteArray) (a3 : Int) (a4 : List S66) (a5 : List S39) : (tree_formula.j0 6 a0 a1 a2 a3 a4 a5).isSome = true := by
  simp only [tree_formula.j0, glyph_Name.f, Option.bind_some]
  repeat' split
  all_goals first | rfl | exact j1_some ..
theorem okF_at (t : S39) : tree_formula.f 6 t.f0 t.f1 t.f2 t.f3 t.f4 = some (okF t) := by
  refine some_getD ?_
  unfold tree_formula.f
  split
  all_goals exact j0_some ..
mutual
def measF : S39 → Int → Int × Int × Int → Int × Int × Int
  | ⟨a, s, b, l, q⟩, dep, m => if (nodeM dep (okF ⟨a, s, b, l, q⟩) m).2.2 = 0 then (if (measTs l (wrap64 (dep + 1)) (nodeM dep (okF ⟨a, s, b, l, q⟩) m)).2.2 = 0 then measFs q (wrap64 (dep + 1)) (measTs l (wrap64 (dep + 1)) (nodeM dep (okF ⟨a, s, b, l, q⟩) m)) else measTs l (wrap64 (dep + 1)) (nodeM dep (okF ⟨a, s, b, l, q⟩) m)) else nodeM dep (okF ⟨a, s, b, l, q⟩) m
def measFs : List S39 → Int → Int × Int × Int → Int × Int × Int
  | [], _, m => m
  | t :: l, dep, m => if (measF t dep m).2.2 = 0 then measFs l dep (measF t dep m) else measF t dep m
end
theorem measF_eq (t : S39) (dep : Int) (m : Int × Int × Int) : measF t dep m = if (nodeM dep (okF t) m).2.2 = 0 then (if (measTs t.f3 (wrap64 (dep + 1)) (nodeM dep (okF t) m)).2.2 = 0 then measFs t.f4 (wrap64 (dep + 1)) (measTs t.f3 (wrap64 (dep + 1)) (nodeM dep (okF t) m)) else measTs t.f3 (wrap64 (dep + 1)) (nodeM dep (okF t) m)) else nodeM dep (okF t) m := by
  cases t; rw [measF]
theorem measFs_drop {l : List S39} {i : Nat} (h : i < l.length) (dep : Int) (m : Int × Int × Int) : measFs (l.drop i) dep m = if (measF l[i] dep m).2.2 = 0 then measFs (l.drop (i + 1)) dep (measF l[i] dep m) else measF l[i] dep m := by
  rw [List.drop_eq_getElem_cons h, measFs]
set_option maxHeartbeats 8000000 in
theorem walkF_calls : ∀ (n : Nat) (t : S39), SizeOf.sizeOf t < n → ∀ (A : Option Addr) (c0 : Nat) (B : Option Addr) (c1 : Nat) (dep : Int) (m : Int × Int × Int) (w0 w : World) (c g : Nat), w0.heap.size ≤ g → Going w0 w w c g m → Kd.C k66 w0 A t.f3.length t.f3 → t.f3.length ≤ c0 → Kd.C k39 w0 B t.f4.length t.f4 → t.f4.length ≤ c1 →
    Calls Try.prog 118 #[.func (.func 161) #[] #[.pointer (some ⟨c, 0, none⟩)], .agg #[.int .i64 t.f0, .string t.f1, .int .i64 t.f2, .slice A t.f3.length c0, .slice B t.f4.length c1], .int .i64 dep] w fun en w' => en = .returned (.bool ((measF t dep m).2.2 == 0)) ∧ Going w0 w w' c g (measF t dep m) := by
  intro n
  induction n with
  | zero => exact fun t h => absurd h (Nat.not_lt_zero _)
  | succ n ih =>
  intro t ht A c0 B c1 dep m w0 w c g hwg hG hr hc0 hr4 hc1
  have hu66 := Try.underlying66
  have hu39 := Try.underlying39
  have HR := mk hr
  have HC := mk hc0
  have HR4 := mk hr4
  have HC4 := mk hc1
  have HG := mk hG
  have HT := mk ht
  clear hr hc0 hr4 hc1 hG ht
  have hok := mk (okF_at t)
  rw [measF_eq]
  have hlen := HR.out.2.1
  have hlen4 := HR4.out.2.1
  generalize hN : nodeM dep (okF t) m = nm
  have HN := mk hN
  clear hN
  obtain ⟨s1, d1, e1⟩ := nm
  by_cases he : e1 = 0
  · subst he
    rw [if_pos rfl]
    generalize hRR : (if (measTs t.f3 (wrap64 (dep + 1)) (s1, d1, 0)).2.2 = 0 then measFs t.f4 (wrap64 (dep + 1)) (measTs t.f3 (wrap64 (dep + 1)) (s1, d1, 0)) else measTs t.f3 (wrap64 (dep + 1)) (s1, d1, 0)) = R
    have HRR := mk hRR
    clear hRR
    go_enter Try.func118, Try.ntmps118
    go_wp2_with (first | ((with_reducible refine gate_dst (N := 4) rfl ?_); refine box_event ?hg (N := 4) ?hd (cs := #[.int .i64 t.f0, .string t.f1, .int .i64 t.f2, .slice A t.f3.length c0, .slice B t.f4.length c1]) (t := 39) ?hr ?_; (case hd => rfl); (case hg => rfl); (case hr => exact kq6); intro gb hgb w1 hbox hb; have HG1 := mk (HG.out.then_ hb); have BK := mk hbox; clear HG hb hbox hgb; obtain ⟨_, _, _, _, _⟩ := cy5_ BK.out) | (go_at_call 162; (with_reducible refine (tree_formula.calls 6 t.f0 t.f1 t.f2 A c0 t.f3 B c1 t.f4 (okF t) _ ?side1 ?side2 ?side3 ?side4 hok.out).mono ?_); (case side1 => exact Kd.C_below HR.out HG1.out.below); (case side2 => exact HC.out); (case side3 => exact Kd.C_below HR4.out HG1.out.below); (case side4 => exact HC4.out); rintro e w2 ⟨rfl, hb⟩; have HG2 := mk (HG1.out.then_ hb); have BK2 := mk (blk_below BK.out hb); clear HG1 BK hb) | (go_at_call 161; refine (met_calls c g m.1 m.2.1 m.2.2 dep (okF t) w0 _ hwg HG2.out.below HG2.out.st HG2.out.cl).mono ?_; rw [show ((m.1, m.2.1, m.2.2) : Int × Int × Int) = m from rfl, HN.out]; rintro e w3 ⟨rfl, hs, hk, hb⟩; have BK3 := mk (hk.blk BK2.out (blk_ne BK2.out HG2.out.st kq2) (by simp)); have HG3 := mk (HG2.out.step hs hk hb); clear HG2 BK2 hs hk hb; have r3 : w3.cell? ⟨gb, 3, none⟩ = some (.slice A t.f3.length c0) := bk_ BK3 3))
    go_loopg [20] t.f3.length (fun gq v wr => ∃ (i : Nat) (mm : Int × Int × Int), v = .int .i64 i ∧ Aside0 (i ≤ t.f3.length) ∧ Aside0 (t.f3.length - i ≤ gq) ∧ Aside0 (measTs (t.f3.drop i) (wrap64 (dep + 1)) mm = measTs t.f3 (wrap64 (dep + 1)) (s1, d1, 0)) ∧ Aside0 (mm.2.2 = 0) ∧ Aside0 (wr.heap[gb]? = some (.cells #[.int .i64 t.f0, .string t.f1, .int .i64 t.f2, .slice A t.f3.length c0, .slice B t.f4.length c1] 39 (0, 0))) ∧ Aside0 (Going w0 w wr c g mm))
    case atStart => exact ⟨0, (s1, d1, 0), rfl, ⟨Nat.zero_le _⟩, ⟨kq1⟩, ⟨by rw [List.drop_zero]⟩, ⟨rfl⟩, ⟨BK3.out⟩, ⟨HG3.out⟩⟩
    case round =>
      obtain ⟨i, mm, rfl, HI, HQ, HM, HZ, BK, HG⟩ := hrel
      by_cases hi : i < t.f3.length
      · have hiz : (i : Int) < (t.f3.length : Int) := by omega
        have hi0 : (0 : Int) ≤ (i : Int) := by omega
        obtain ⟨ad, A2, c2, ead, hx0, hx1, hx2, hx3, hl3, hi3⟩ := at_T66 HR.out (i : Int) hi0 hiz
        cases ead
        have hx : rd_T66 t.f3 (i : Int) = t.f3[i] := by simp [rd_T66, hi]
        rw [hx] at hx0 hx1 hx2 hx3 hl3 hi3
        rw [Int.toNat_natCast] at hx0 hx1 hx2 hx3
        have hB := HG.out.below
        replace hx0 := (hB.cell (World.block_lt_of_cell? _ _ hx0)).trans hx0
        replace hx1 := (hB.cell (World.block_lt_of_cell? _ _ hx1)).trans hx1
        replace hx2 := (hB.cell (World.block_lt_of_cell? _ _ hx2)).trans hx2
        replace hx3 := (hB.cell (World.block_lt_of_cell? _ _ hx3)).trans hx3
        have Hhl3 := mk hl3
        have Hhi3 := mk hi3
        have HMD := mk ((measTs_drop hi (wrap64 (dep + 1)) mm).symm.trans HM.out)
        clear hl3 hi3 hB hx HM
        generalize t.f3[i] = y at hx0 hx1 hx2 hx3 Hhl3 Hhi3 HMD
        by_cases hy : (measT y (wrap64 (dep + 1)) mm).2.2 = 0
        · have hyb : ((measT y (wrap64 (dep + 1)) mm).2.2 == 0) = true := beq_iff_eq.2 hy
          have HY := mk hy
          rw [if_pos hy] at HMD
          clear hy
          go_wp2_with (first | ((with_reducible refine gate_dst (N := 8) rfl ?_); refine box_event ?hg (N := 8) ?hd (cs := #[.int .i64 0, .int .i64 0, .string (⟨#[]⟩ : ByteArray), .slice none 0 0]) (t := 66) ?hr ?_; (case hd => rfl); (case hg => rfl); (case hr => exact kq6); intro gb2 hgb2 w4 hbox hb; have BK4 := mk hbox; have HB4 := mk hb; have GE4 := mk (Nat.le_of_eq hgb2.symm); clear hb hbox hgb2; obtain ⟨_, _, _, _, y0, y1, y2, y3⟩ := cz4_ BK4.out) | (go_at_call 126; refine (walkT_calls _ y (Nat.lt_succ_self _) A2 c2 (wrap64 (dep + 1)) mm w0 _ c g hwg ?s1 Hhi3.out Hhl3.out).mono ?_; (case s1 => exact kq20 GE4); rw [hyb]; rintro e w5 ⟨rfl, hg5⟩; have HG5 := mk ((HG.out.then_ (kq17 GE4)).step hg5.st hg5.keep hg5.below); have BK5 := mk (hg5.keep.blk (blk_below BK.out (kq17 GE4)) (blk_ne BK.out HG.out.st kq2) (by simp)); clear hg5))
          go_roundg (t.f3.length - (i + 1))
          case measure => have := HQ.out; omega
          case rel => exact ⟨i + 1, _, kq22, ⟨kq1⟩, ⟨kq1⟩, HMD, HY, BK5, HG5⟩
        · have hyb : ((measT y (wrap64 (dep + 1)) mm).2.2 == 0) = false := beq_eq_false_iff_ne.2 hy
          rw [if_neg hy] at HMD
          have HRS := mk (show measT y (wrap64 (dep + 1)) mm = R by rw [← HRR.out, if_neg (by rw [← HMD.out]; exact hy), HMD.out])
          clear hy
          go_wp2_with (first | ((with_reducible refine gate_dst (N := 8) rfl ?_); refine box_event ?hg (N := 8) ?hd (cs := #[.int .i64 0, .int .i64 0, .string (⟨#[]⟩ : ByteArray), .slice none 0 0]) (t := 66) ?hr ?_; (case hd => rfl); (case hg => rfl); (case hr => exact kq6); intro gb2 hgb2 w4 hbox hb; have BK4 := mk hbox; have HB4 := mk hb; have GE4 := mk (Nat.le_of_eq hgb2.symm); clear hb hbox hgb2; obtain ⟨_, _, _, _, y0, y1, y2, y3⟩ := cz4_ BK4.out) | (go_at_call 126; refine (walkT_calls _ y (Nat.lt_succ_self _) A2 c2 (wrap64 (dep + 1)) mm w0 _ c g hwg ?s1 Hhi3.out Hhl3.out).mono ?_; (case s1 => exact kq20 GE4); rw [hyb]; rintro e w5 ⟨rfl, hg5⟩; have HG5 := mk ((HG.out.then_ (kq17 GE4)).step hg5.st hg5.keep hg5.below); have BK5 := mk (hg5.keep.blk (blk_below BK.out (kq17 GE4)) (blk_ne BK.out HG.out.st kq2) (by simp)); clear hg5))
          go_ret
          exact ⟨by rw [← HRS.out, hyb]; rfl, by rw [← HRS.out]; exact HG5.out⟩
      · have hiz : ¬ (i : Int) < (t.f3.length : Int) := by omega
        have hil : i = t.f3.length := by have := HI.out; omega
        have HE := mk (show mm = measTs t.f3 (wrap64 (dep + 1)) (s1, d1, 0) by rw [← HM.out, hil, List.drop_length]; rfl)
        clear hil HM hi
        have r4 : wr.cell? ⟨gb, 4, none⟩ = some (.slice B t.f4.length c1) := bk_ BK 4
        have hz1 : (measTs t.f3 (wrap64 (dep + 1)) (s1, d1, 0)).2.2 = 0 := by rw [← HE.out]; exact HZ.out
        have HRF := mk (show R = measFs t.f4 (wrap64 (dep + 1)) mm by rw [← HRR.out, if_pos hz1, HE.out])
        clear hz1 HE HRR
        rename Int × Int × Int => m0
        go_wp2
        go_loopg [34] t.f4.length (fun gq v wr => ∃ (i : Nat) (mm : Int × Int × Int), v = .int .i64 i ∧ Aside0 (i ≤ t.f4.length) ∧ Aside0 (t.f4.length - i ≤ gq) ∧ Aside0 (measFs (t.f4.drop i) (wrap64 (dep + 1)) mm = measFs t.f4 (wrap64 (dep + 1)) m0) ∧ Aside0 (mm.2.2 = 0) ∧ Aside0 (wr.heap[gb]? = some (.cells #[.int .i64 t.f0, .string t.f1, .int .i64 t.f2, .slice A t.f3.length c0, .slice B t.f4.length c1] 39 (0, 0))) ∧ Aside0 (Going w0 w wr c g mm))
        case atStart => exact ⟨0, m0, rfl, ⟨Nat.zero_le _⟩, ⟨kq1⟩, ⟨by rw [List.drop_zero]⟩, HZ, ⟨BK.out⟩, ⟨HG.out⟩⟩
        case round =>
          clear BK HG HZ HQ HI
          obtain ⟨i, mm, rfl, HI, HQ, HM, HZ, BK, HG⟩ := hrel
          by_cases hi : i < t.f4.length
          · have hiz : (i : Int) < (t.f4.length : Int) := by omega
            have hi0 : (0 : Int) ≤ (i : Int) := by omega
            obtain ⟨ad, A2, c2, A3, c3, ead, hx0, hx1, hx2, hx3, hx4, hl3, hi3, hl4, hi4⟩ := at_T39 HR4.out (i : Int) hi0 hiz
            cases ead
            have hx : rd_T39 t.f4 (i : Int) = t.f4[i] := by simp [rd_T39, hi]
            rw [hx] at hx0 hx1 hx2 hx3 hx4 hl3 hi3 hl4 hi4
            rw [Int.toNat_natCast] at hx0 hx1 hx2 hx3 hx4
            have hB := HG.out.below
            replace hx0 := (hB.cell (World.block_lt_of_cell? _ _ hx0)).trans hx0
            replace hx1 := (hB.cell (World.block_lt_of_cell? _ _ hx1)).trans hx1
            replace hx2 := (hB.cell (World.block_lt_of_cell? _ _ hx2)).trans hx2
            replace hx3 := (hB.cell (World.block_lt_of_cell? _ _ hx3)).trans hx3
            replace hx4 := (hB.cell (World.block_lt_of_cell? _ _ hx4)).trans hx4
            have Hhl3 := mk hl3
            have Hhi3 := mk hi3
            have Hhl4 := mk hl4
            have Hhi4 := mk hi4
            have HMD := mk ((measFs_drop hi (wrap64 (dep + 1)) mm).symm.trans HM.out)
            have HSZ := mk (show SizeOf.sizeOf t.f4[i] < n by
              have h1 := List.sizeOf_lt_of_mem (List.getElem_mem hi)
              have h2 : SizeOf.sizeOf t.f4 < SizeOf.sizeOf t := by cases t; simp; omega
              have := HT.out
              omega)
            clear hl3 hi3 hl4 hi4 hB hx HM
            generalize t.f4[i] = y at hx0 hx1 hx2 hx3 hx4 Hhl3 Hhi3 Hhl4 Hhi4 HMD HSZ
            by_cases hy : (measF y (wrap64 (dep + 1)) mm).2.2 = 0
            · have hyb : ((measF y (wrap64 (dep + 1)) mm).2.2 == 0) = true := beq_iff_eq.2 hy
              have HY := mk hy
              rw [if_pos hy] at HMD
              clear hy
              go_wp2_with (first | ((with_reducible refine gate_dst (N := 10) rfl ?_); refine box_event ?hg (N := 10) ?hd (cs := #[.int .i64 0, .string (⟨#[]⟩ : ByteArray), .int .i64 0, .slice none 0 0, .slice none 0 0]) (t := 39) ?hr ?_; (case hd => rfl); (case hg => rfl); (case hr => exact kq6); intro gb2 hgb2 w4 hbox hb; have BK4 := mk hbox; have HB4 := mk hb; have GE4 := mk (Nat.le_of_eq hgb2.symm); clear hb hbox hgb2; obtain ⟨_, _, _, _, _, y0, y1, y2, y3, y4⟩ := cz5_ BK4.out) | (go_at_call 118; refine (ih y HSZ.out A2 c2 A3 c3 (wrap64 (dep + 1)) mm w0 _ c g hwg ?s1 Hhi3.out Hhl3.out Hhi4.out Hhl4.out).mono ?_; (case s1 => exact kq20 GE4); rw [hyb]; rintro e w5 ⟨rfl, hg5⟩; have HG5 := mk ((HG.out.then_ (kq17 GE4)).step hg5.st hg5.keep hg5.below); have BK5 := mk (hg5.keep.blk (blk_below BK.out (kq17 GE4)) (blk_ne BK.out HG.out.st kq2) (by simp)); clear hg5))
              go_roundg (t.f4.length - (i + 1))
              case measure => have := HQ.out; omega
              case rel => exact ⟨i + 1, _, kq22, ⟨kq1⟩, ⟨kq1⟩, HMD, HY, BK5, HG5⟩
            · have hyb : ((measF y (wrap64 (dep + 1)) mm).2.2 == 0) = false := beq_eq_false_iff_ne.2 hy
              rw [if_neg hy] at HMD
              have HRS := mk (HMD.out.trans HRF.out.symm)
              clear hy
              go_wp2_with (first | ((with_reducible refine gate_dst (N := 10) rfl ?_); refine box_event ?hg (N := 10) ?hd (cs := #[.int .i64 0, .string (⟨#[]⟩ : ByteArray), .int .i64 0, .slice none 0 0, .slice none 0 0]) (t := 39) ?hr ?_; (case hd => rfl); (case hg => rfl); (case hr => exact kq6); intro gb2 hgb2 w4 hbox hb; have BK4 := mk hbox; have HB4 := mk hb; have GE4 := mk (Nat.le_of_eq hgb2.symm); clear hb hbox hgb2; obtain ⟨_, _, _, _, _, y0, y1, y2, y3, y4⟩ := cz5_ BK4.out) | (go_at_call 118; refine (ih y HSZ.out A2 c2 A3 c3 (wrap64 (dep + 1)) mm w0 _ c g hwg ?s1 Hhi3.out Hhl3.out Hhi4.out Hhl4.out).mono ?_; (case s1 => exact kq20 GE4); rw [hyb]; rintro e w5 ⟨rfl, hg5⟩; have HG5 := mk ((HG.out.then_ (kq17 GE4)).step hg5.st hg5.keep hg5.below); have BK5 := mk (hg5.keep.blk (blk_below BK.out (kq17 GE4)) (blk_ne BK.out HG.out.st kq2) (by simp)); clear hg5))
              go_ret
              exact ⟨by rw [← HRS.out, hyb]; rfl, by rw [← HRS.out]; exact HG5.out⟩
          · have hiz : ¬ (i : Int) < (t.f4.length : Int) := by omega
            have hil : i = t.f4.length := by have := HI.out; omega
            have HE := mk (show mm = measFs t.f4 (wrap64 (dep + 1)) m0 by rw [← HM.out, hil, List.drop_length]; rfl)
            clear hil HM hi
            have HRS := mk (HE.out.trans HRF.out.symm)
            go_wp2
            go_ret
            exact ⟨by rw [← HRS.out, beq_iff_eq.2 HZ.out]; rfl, by rw [← HRS.out]; exact HG.out⟩
  · have he1 : (e1 == 0) = false := beq_eq_false_iff_ne.2 he
    rw [if_neg he]
    go_enter Try.func118, Try.ntmps118
    go_wp2_with (first | ((with_reducible refine gate_dst (N := 4) rfl ?_); refine box_event ?hg (N := 4) ?hd (cs := #[.int .i64 t.f0, .string t.f1, .int .i64 t.f2, .slice A t.f3.length c0, .slice B t.f4.length c1]) (t := 39) ?hr ?_; (case hd => rfl); (case hg => rfl); (case hr => exact kq6); intro gb hgb w1 hbox hb; have HG1 := mk (HG.out.then_ hb); have BK := mk hbox; clear HG hb hbox hgb; obtain ⟨_, _, _, _, _⟩ := cy5_ BK.out) | (go_at_call 162; (with_reducible refine (tree_formula.calls 6 t.f0 t.f1 t.f2 A c0 t.f3 B c1 t.f4 (okF t) _ ?side1 ?side2 ?side3 ?side4 hok.out).mono ?_); (case side1 => exact Kd.C_below HR.out HG1.out.below); (case side2 => exact HC.out); (case side3 => exact Kd.C_below HR4.out HG1.out.below); (case side4 => exact HC4.out); rintro e w2 ⟨rfl, hb⟩; have HG2 := mk (HG1.out.then_ hb); have BK2 := mk (blk_below BK.out hb); clear HG1 BK hb) | (go_at_call 161; refine (met_calls c g m.1 m.2.1 m.2.2 dep (okF t) w0 _ hwg HG2.out.below HG2.out.st HG2.out.cl).mono ?_; rw [show ((m.1, m.2.1, m.2.2) : Int × Int × Int) = m from rfl, HN.out]; rintro e w3 ⟨rfl, hs, hk, hb⟩; have BK3 := mk (hk.blk BK2.out (blk_ne BK2.out HG2.out.st kq2) (by simp)); have HG3 := mk (HG2.out.step hs hk hb); clear HG2 BK2 hs hk hb; have r3 : w3.cell? ⟨gb, 3, none⟩ = some (.slice A t.f3.length c0) := bk_ BK3 3))
    go_ret
    exact ⟨by rw [he1]; rfl, HG3.out⟩
end Go.Proofs.Ytjknpmibdkoklaa.U
set_option maxRecDepth 100000
namespace Go.Proofs.Ytjknpmibdkoklaa.U
open Go.RowKit Go.Proofs.YtjknpmibdkoklaaW.PrintWords Go.Proofs.YtjknpmibdkoklaaW.PrintLast Go.Proofs.YtjknpmibdkoklaaW.PrintMore
open Aside0 (mk)
theorem met0_calls (g : Nat) (w : World) : Calls Try.prog 117 #[.pointer (some ⟨g, 0, none⟩)] w fun e w' => ∃ c, e = .returned (.func (.func 161) #[] #[.pointer (some ⟨c, 0, none⟩)]) ∧ w.heap.size ≤ c ∧ ClM w' c g ∧ Below w.heap.size w w' := by
  go_enter Try.func117, Try.ntmps117
  go_wp2_with ((with_reducible refine gate_dst (N := 1) rfl ?_); refine box_event ?hg (N := 1) ?hd (cs := #[.pointer (some ⟨g, 0, none⟩)]) (t := 191) ?hr ?_; (case hd => rfl); (case hg => rfl); (case hr => exact kq6); intro gb hgb w1 hbox hb; have BK := mk hbox; have HB := mk hb; have GE := mk (Nat.le_of_eq hgb.symm); clear hbox hb hgb)
  go_ret
  exact ⟨gb, rfl, GE.out, BK.out, HB.out⟩
set_option maxHeartbeats 8000000 in
theorem measured_calls (t : S39) (A : Option Addr) (c0 : Nat) (B : Option Addr) (c1 : Nat) (w : World) (hr : Kd.C k66 w A t.f3.length t.f3) (hc : t.f3.length ≤ c0) (hr4 : Kd.C k39 w B t.f4.length t.f4) (hc4 : t.f4.length ≤ c1) :
    Calls Try.prog 76 #[.agg #[.int .i64 t.f0, .string t.f1, .int .i64 t.f2, .slice A t.f3.length c0, .slice B t.f4.length c1]] w fun e w' => e = .returned (.agg #[.int .i64 (measF t 1 (0, 0, 0)).1, .int .i64 (measF t 1 (0, 0, 0)).2.1, .int .i64 (measF t 1 (0, 0, 0)).2.2]) ∧ Below w.heap.size w w' := by
  have hu66 := Try.underlying66
  have hu39 := Try.underlying39
  have HR := mk hr
  have HC := mk hc
  have HR4 := mk hr4
  have HC4 := mk hc4
  clear hr hc hr4 hc4
  go_enter Try.func76, Try.ntmps76
  go_wp2_with (first | ((with_reducible refine gate_dst (N := 1) rfl ?_); refine box_event ?hg (N := 1) ?hd (cs := #[.int .i64 t.f0, .string t.f1, .int .i64 t.f2, .slice A t.f3.length c0, .slice B t.f4.length c1]) (t := 39) ?hr ?_; (case hd => rfl); (case hg => rfl); (case hr => exact kq6); intro g1 hg1 w1 hbox hb; have BKf := mk hbox; have HWf := mk hb; have GEf := mk (Nat.le_of_eq hg1.symm); skip; clear hb hbox hg1; have fz0 := blk_frozen BKf.out 0; have fz1 := blk_frozen BKf.out 1; have fz2 := blk_frozen BKf.out 2; have fz3 := blk_frozen BKf.out 3; have fz4 := blk_frozen BKf.out 4; obtain ⟨fc0, fc1, fc2, fc3, fc4⟩ := cy5_ BKf.out) | ((with_reducible refine gate_dst (N := 2) rfl ?_); refine box_event ?hg (N := 2) ?hd (cs := #[.int .i64 0, .int .i64 0, .int .i64 0]) (t := 103) ?hr ?_; (case hd => rfl); (case hg => rfl); (case hr => exact kq6); intro g2 hg2 w2 hbox hb; have BKr := mk hbox; have HWr := mk hb; have GEr := mk (Nat.le_of_eq hg2.symm); have BKf2 := mk (blk_below BKf.out hb); clear hb hbox hg2; have rz0 := blk_frozen BKr.out 0; have rz1 := blk_frozen BKr.out 1; have rz2 := blk_frozen BKr.out 2; obtain ⟨rc0, rc1, rc2⟩ := cy3_ BKr.out) | ((with_reducible refine gate_dst (N := 3) rfl ?_); refine box_event ?hg (N := 3) ?hd (cs := #[.int .i64 0, .int .i64 0, .int .i64 0]) (t := 103) ?hr ?_; (case hd => rfl); (case hg => rfl); (case hr => exact kq6); intro g3 hg3 w3 hbox hb; have BKm := mk hbox; have HWm := mk hb; have GEm := mk (Nat.le_of_eq hg3.symm); skip; clear hb hbox hg3; have mz0 := blk_frozen BKm.out 0; have mz1 := blk_frozen BKm.out 1; have mz2 := blk_frozen BKm.out 2; obtain ⟨mc0, mc1, mc2⟩ := cy3_ BKm.out))
  generalize hW : ((w3.setCell ⟨g3, 0, none⟩ (.int .i64 0)).setCell ⟨g3, 1, none⟩ (.int .i64 0)).setCell ⟨g3, 2, none⟩ (.int .i64 0) = W
  have B1 := mk (show Below w.heap.size w W by rw [← hW]; exact below_set (below_set (below_set (below_step (below_step HWf.out HWr.out) HWm.out) (by have := GEm.out; have := HWr.out.size; have := HWf.out.size; omega)) (by have := GEm.out; have := HWr.out.size; have := HWf.out.size; omega)) (by have := GEm.out; have := HWr.out.size; have := HWf.out.size; omega))
  have N13 := mk (show g1 ≠ g3 from blk_ne (blk_below BKf2.out HWm.out) BKm.out kq2)
  have N23 := mk (show g2 ≠ g3 from fun e => by have := GEm.out; have := blk_lt BKr.out; omega)
  have K3 := mk (show StM 103 W g3 (0, 0, 0) from by rw [← hW]; exact StM.set2 (StM.set1 (StM.set0 (a := 0) (b := 0) (c := 0) BKm.out 0) 0) 0)
  have K1 := mk (show W.heap[g1]? = some (.cells #[.int .i64 t.f0, .string t.f1, .int .i64 t.f2, .slice A t.f3.length c0, .slice B t.f4.length c1] 39 (0, 0)) by rw [← hW]; exact blk_far (blk_far (blk_far (blk_below BKf2.out HWm.out) N13.out _) N13.out _) N13.out _)
  have K2 := mk (show StM 103 W g2 (0, 0, 0) from by rw [← hW]; exact blk_far (blk_far (blk_far (blk_below BKr.out HWm.out) N23.out _) N23.out _) N23.out _)
  have HG3 := mk (show w.heap.size ≤ g3 by have := GEm.out; have := HWr.out.size; have := HWf.out.size; omega)
  have HG2 := mk (show w.heap.size ≤ g2 by have := GEr.out; have := HWf.out.size; omega)
  clear hW BKf BKf2 BKr BKm HWf HWr HWm GEf GEr GEm fz0 fz1 fz2 fz3 fz4 rz0 rz1 rz2 mz0 mz1 mz2 fc0 fc1 fc2 fc3 fc4 rc0 rc1 rc2 mc0 mc1 mc2
  obtain ⟨x0, x1, _, x3, x4⟩ := cy5_ K1.out
  go_region_with (first | (go_at_call 117; refine (met0_calls g3 _).mono ?_; rintro e w5 ⟨cc, rfl, hcc, hcl, hb⟩; have CC := mk hcl; have HGC := mk (Nat.le_trans B1.out.size hcc); have B5 := mk (below_step (by repeat (first | exact B1.out | (with_reducible first | apply pw_below_drewN | apply below_drew1))) hb); have K35 := mk (StM.below (StM.drew K3.out) hb); have K15 := mk (blk_below (blk_drew K1.out) hb); have K25 := mk (StM.below (StM.drew K2.out) hb); clear hcl hb hcc; obtain ⟨_, _, _, v3, _⟩ := cy5_ K15.out) | (go_at_call 118; refine (walkF_calls _ t (Nat.lt_succ_self _) A c0 B c1 1 (0, 0, 0) w _ cc g3 HG3.out ⟨K35.out, CC.out, KeepBut.refl _ _ _, B5.out⟩ HR.out HC.out HR4.out HC4.out).mono ?_; rintro e w6 ⟨rfl, hg⟩; have KG := mk hg; have K26 := mk (hg.keep.blk K25.out N23.out (by simp)); clear hg))
  all_goals
    generalize hRR0 : measF t 1 (0, 0, 0) = R at KG ⊢
    have hRR := mk hRR0
    clear hRR0
    obtain ⟨r1, r2, r3⟩ := R
    obtain ⟨⟨s0, s1, s2⟩, _, _, _⟩ := KG.out.st.cells
    have K27 : StM 103 w6 g2 (0, 0, 0) := K26.out
    obtain ⟨⟨p0, p1, p2⟩, e0, e1, e2⟩ := StM.cells K27
    go_wp2
    refine bodyPost_ret (results_cell_row rfl _ _ g2 103 #[.int .i64 r1, .int .i64 r2, .int .i64 r3] (0, 0) _ rfl (StM.set2 (StM.set1 (StM.set0 K27 r1) r2) r3) Try.underlying103 rfl kq0) rfl ?_
    exact ⟨by rw [hRR.out], below_set (below_set (below_set KG.out.below HG2.out) HG2.out) HG2.out⟩
set_option maxHeartbeats 8000000 in
theorem checkTerm_calls (t : S66) (A : Option Addr) (c0 : Nat) (w : World) (hr : Kd.C k66 w A t.f3.length t.f3) (hc : t.f3.length ≤ c0) :
    Calls Try.prog 88 #[.agg #[.int .i64 t.f0, .int .i64 t.f1, .string t.f2, .slice A t.f3.length c0]] w fun e w' => e = .returned (.int .i64 (measT t 1 (0, 0, 0)).2.2) ∧ Below w.heap.size w w' := by
  have hu66 := Try.underlying66
  have hu39 := Try.underlying39
  have HR := mk hr
  have HC := mk hc
  clear hr hc
  go_enter Try.func88, Try.ntmps88
  go_wp2_with (first | ((with_reducible refine gate_dst (N := 1) rfl ?_); refine box_event ?hg (N := 1) ?hd (cs := #[.int .i64 t.f0, .int .i64 t.f1, .string t.f2, .slice A t.f3.length c0]) (t := 66) ?hr ?_; (case hd => rfl); (case hg => rfl); (case hr => exact kq6); intro g1 hg1 w1 hbox hb; have BKf := mk hbox; have HWf := mk hb; have GEf := mk (Nat.le_of_eq hg1.symm); skip; clear hb hbox hg1; have fz0 := blk_frozen BKf.out 0; have fz1 := blk_frozen BKf.out 1; have fz2 := blk_frozen BKf.out 2; have fz3 := blk_frozen BKf.out 3; obtain ⟨fc0, fc1, fc2, fc3⟩ := cy4_ BKf.out) | ((with_reducible refine gate_dst (N := 3) rfl ?_); refine box_event ?hg (N := 3) ?hd (cs := #[.int .i64 0, .int .i64 0, .int .i64 0]) (t := 103) ?hr ?_; (case hd => rfl); (case hg => rfl); (case hr => exact kq6); intro g3 hg3 w3 hbox hb; have BKm := mk hbox; have HWm := mk hb; have GEm := mk (Nat.le_of_eq hg3.symm); skip; clear hb hbox hg3; have mz0 := blk_frozen BKm.out 0; have mz1 := blk_frozen BKm.out 1; have mz2 := blk_frozen BKm.out 2; obtain ⟨mc0, mc1, mc2⟩ := cy3_ BKm.out))
  generalize hW : ((w3.setCell ⟨g3, 0, none⟩ (.int .i64 0)).setCell ⟨g3, 1, none⟩ (.int .i64 0)).setCell ⟨g3, 2, none⟩ (.int .i64 0) = W
  have B1 := mk (show Below w.heap.size w W by rw [← hW]; exact below_set (below_set (below_set (below_step HWf.out HWm.out) (by have := GEm.out; have := HWf.out.size; omega)) (by have := GEm.out; have := HWf.out.size; omega)) (by have := GEm.out; have := HWf.out.size; omega))
  have N13 := mk (show g1 ≠ g3 from blk_ne (blk_below BKf.out HWm.out) BKm.out kq2)
  have K3 := mk (show StM 103 W g3 (0, 0, 0) from by rw [← hW]; exact StM.set2 (StM.set1 (StM.set0 (a := 0) (b := 0) (c := 0) BKm.out 0) 0) 0)
  have K1 := mk (show W.heap[g1]? = some (.cells #[.int .i64 t.f0, .int .i64 t.f1, .string t.f2, .slice A t.f3.length c0] 66 (0, 0)) by rw [← hW]; exact blk_far (blk_far (blk_far (blk_below BKf.out HWm.out) N13.out _) N13.out _) N13.out _)
  have HG3 := mk (show w.heap.size ≤ g3 by have := GEm.out; have := HWf.out.size; omega)
  clear hW BKf BKm HWf HWm GEf GEm fz0 fz1 fz2 fz3 mz0 mz1 mz2 fc0 fc1 fc2 fc3 mc0 mc1 mc2
  obtain ⟨x0, x1, _, x3⟩ := cy4_ K1.out
  go_region_with (first | (go_at_call 117; refine (met0_calls g3 _).mono ?_; rintro e w5 ⟨cc, rfl, hcc, hcl, hb⟩; have CC := mk hcl; have HGC := mk (Nat.le_trans B1.out.size hcc); have B5 := mk (below_step (by repeat (first | exact B1.out | (with_reducible first | apply pw_below_drewN | apply below_drew1))) hb); have K35 := mk (StM.below (StM.drew K3.out) hb); have K15 := mk (blk_below (blk_drew K1.out) hb); clear hcl hb hcc; obtain ⟨_, _, _, v3⟩ := cy4_ K15.out) | (go_at_call 126; refine (walkT_calls _ t (Nat.lt_succ_self _) A c0 1 (0, 0, 0) w _ cc g3 HG3.out ⟨K35.out, CC.out, KeepBut.refl _ _ _, B5.out⟩ HR.out HC.out).mono ?_; rintro e w6 ⟨rfl, hg⟩; have KG := mk hg; clear hg))
  all_goals
    generalize hRR0 : measT t 1 (0, 0, 0) = R at KG ⊢
    have hRR := mk hRR0
    clear hRR0
    obtain ⟨r1, r2, r3⟩ := R
    obtain ⟨⟨s0, s1, s2⟩, _, _, _⟩ := KG.out.st.cells
    go_wp2
    go_ret
    exact ⟨by rw [hRR.out]; rfl, KG.out.below⟩
end Go.Proofs.Ytjknpmibdkoklaa.U
namespace Go.Proofs.Ytjknpmibdkoklaa.U
open Go.RowKit Go.Proofs.YtjknpmibdkoklaaW.PrintWords Go.Proofs.YtjknpmibdkoklaaW.PrintLast Go.Proofs.YtjknpmibdkoklaaW.PrintMore
open Aside0 (mk)
def tree_measured.f (a0_0 : Int) (a0_1 : ByteArray) (a0_2 : Int) (l0_3 : List (S66)) (l0_4 : List (S39)) : Option (Int × Int × Int) := some (measF ⟨a0_0, a0_1, a0_2, l0_3, l0_4⟩ 1 (0, 0, 0))
theorem tree_measured.calls (a0_0 : Int) (a0_1 : ByteArray) (a0_2 : Int) (A0_3 : Option Addr) (c0_3 : Nat) (l0_3 : List (S66)) (A0_4 : Option Addr) (c0_4 : Nat) (l0_4 : List (S39)) (r1 r2 r3 : Int) (w : World) (hr0_3 : Kd.C k66 w A0_3 l0_3.length l0_3) (hc0_3 : l0_3.length ≤ c0_3) (hr0_4 : Kd.C k39 w A0_4 l0_4.length l0_4) (hc0_4 : l0_4.length ≤ c0_4) (h : tree_measured.f a0_0 a0_1 a0_2 l0_3 l0_4 = some (r1, r2, r3)) :
    Calls Try.prog 76 #[.agg #[.int .i64 a0_0, .string a0_1, .int .i64 a0_2, .slice A0_3 l0_3.length c0_3, .slice A0_4 l0_4.length c0_4]] w fun e w' => e = .returned (.agg #[.int .i64 r1, .int .i64 r2, .int .i64 r3]) ∧ Below w.heap.size w w' := by
  have h1 := Option.some.inj h
  have := measured_calls ⟨a0_0, a0_1, a0_2, l0_3, l0_4⟩ A0_3 c0_3 A0_4 c0_4 w hr0_3 hc0_3 hr0_4 hc0_4
  rw [h1] at this
  exact this
def tree_CheckTerm.f (a0_0 : Int) (a0_1 : Int) (a0_2 : ByteArray) (l0_3 : List (S66)) : Option (Int) := some (measT ⟨a0_0, a0_1, a0_2, l0_3⟩ 1 (0, 0, 0)).2.2
theorem tree_CheckTerm.calls (a0_0 : Int) (a0_1 : Int) (a0_2 : ByteArray) (A0_3 : Option Addr) (c0_3 : Nat) (l0_3 : List (S66)) (r : Int) (w : World) (hr0_3 : Kd.C k66 w A0_3 l0_3.length l0_3) (hc0_3 : l0_3.length ≤ c0_3) (h : tree_CheckTerm.f a0_0 a0_1 a0_2 l0_3 = some r) :
    Calls Try.prog 88 #[.agg #[.int .i64 a0_0, .int .i64 a0_1, .string a0_2, .slice A0_3 l0_3.length c0_3]] w fun e w' => e = .returned (.int .i64 r) ∧ Below w.heap.size w w' := by
  have h1 := Option.some.inj h
  have := checkTerm_calls ⟨a0_0, a0_1, a0_2, l0_3⟩ A0_3 c0_3 w hr0_3 hc0_3
  rw [h1] at this
  exact this
end Go.Proofs.Ytjknpmibdkoklaa.U
namespace Go.Proofs.Ytjknpmibdkoklaa.U
open Go.RowKit Go.Proofs.YtjknpmibdkoklaaW.PrintWords Go.Proofs.YtjknpmibdkoklaaW.PrintLast Go.Proofs.YtjknpmibdkoklaaW.PrintMore
open Aside0 (mk)
open List (setIfInBounds_toArray set_cons_zero set_cons_succ)
attribute [local go_sem] max2_int min2_int max_two min_two max_three min_three max_four min_four
set_option linter.unusedVariables false
set_option linter.unusedSimpArgs false
attribute [local go_sem] fld99_2 fld103_2 fld172_1
def glyph_Union.j0 : Nat → List ByteArray → List ByteArray → Bool → Option (List ByteArray × Int)
  | 0, _, _, _ => none
  | k + 1, x0, x1, x14 => if x14 = true then (some (([] : List ByteArray), 3)) else ((slices_Clone_string_string.f x0).bind fun t541 => (if t541.length + x1.length < 8796093022208 then ((slices_Sort_string_string.f (t541 ++ x1)).bind fun t547 => ((slices_Compact_string_string.f t547).bind fun t548 => (some (t548, 0)))) else (none)))
def glyph_Union.f (k : Nat) (l0 : List ByteArray) (l1 : List ByteArray) : Option (List ByteArray × Int) := (glyph_Rises.f k l0).bind fun t539 => (if t539 = true then ((glyph_Rises.f k l1).bind fun t540 => (glyph_Union.j0 k l0 l1 (!t540))) else (glyph_Union.j0 k l0 l1 true))
theorem glyph_Union.mono_l : ∀ k, (∀ y0 y1 y2, LeO (glyph_Union.j0 k y0 y1 y2) (glyph_Union.j0 (k + 1) y0 y1 y2))
  | 0 => fun _ _ _ r h => by simp [glyph_Union.j0] at h
  | k + 1 => by
    have ih0 := glyph_Union.mono_l k
    · intro y0 y1 y2; (unfold glyph_Union.j0)
      repeat' first
      | (with_reducible exact ih0 _ _ _)
      | (with_reducible exact glyph_Rises.mono _ _)
      | (with_reducible exact LeO.refl _)
      | (with_reducible exact LeO.none _)
      | (with_reducible refine LeO.ite ?_ ?_)
      | (with_reducible refine LeO.bind ?_ (fun _ => ?_))
      | exact ih0 _ _ _
      | exact glyph_Rises.mono _ _
      | exact LeO.none _
      | refine LeO.ite ?_ ?_
      | refine LeO.bind ?_ (fun _ => ?_)
theorem glyph_Union.mono : ∀ a0 a1 k, LeO (glyph_Union.f k a0 a1) (glyph_Union.f (k + 1) a0 a1) := by
  intro a0 a1 k
  have ih0 := glyph_Union.mono_l k
  unfold glyph_Union.f
  repeat' first
      | (with_reducible exact ih0 _ _ _)
      | (with_reducible exact glyph_Rises.mono _ _)
      | (with_reducible exact LeO.refl _)
      | (with_reducible exact LeO.none _)
      | (with_reducible refine LeO.ite ?_ ?_)
      | (with_reducible refine LeO.bind ?_ (fun _ => ?_))
      | exact ih0 _ _ _
      | exact glyph_Rises.mono _ _
      | exact LeO.none _
      | refine LeO.ite ?_ ?_
      | refine LeO.bind ?_ (fun _ => ?_)
set_option maxHeartbeats 8000000 in
set_option maxRecDepth 100000 in
theorem glyph_Union.calls (k : Nat) (A0 : Option Addr) (c0 : Nat) (l0 : List ByteArray) (A1 : Option Addr) (c1 : Nat) (l1 : List ByteArray) (r1 : List ByteArray) (r2 : Int) (w : World) (hr0 : Kd.C Kd.string w A0 l0.length l0) (hc0 : l0.length ≤ c0) (hr1 : Kd.C Kd.string w A1 l1.length l1) (hc1 : l1.length ≤ c1) (h : glyph_Union.f k l0 l1 = some (r1, r2)) :
    Calls Try.prog 21 #[.slice A0 l0.length c0, .slice A1 l1.length c1] w fun e w' => ∃ v0_ : Value, e = .returned (.tuple #[v0_, .int .i64 r2]) ∧ Kd.R Kd.string 9 w' w.heap.size (fun _ => True) v0_ r1 ∧ Below w.heap.size w w' := by
  have HR0 := mk hr0
  have HC0 := mk hc0
  clear hr0 hc0
  have HR1 := mk hr1
  have HC1 := mk hc1
  clear hr1 hc1
  have HB := mk (Below.refl w.heap.size w)
  have H : ((glyph_Rises.f k l0).bind fun t539 => (if t539 = true then ((glyph_Rises.f k l1).bind fun t540 => (glyph_Union.j0 k l0 l1 (!t540))) else (glyph_Union.j0 k l0 l1 true))) = some (r1, r2) := h
  clear h
  have HC3 := mk H
  clear H
  go_enter Try.func21, Try.ntmps21
  go_upto_region 1 with (fail)
  go_cut [14] (fun v14 wc => ∃ (kq : Nat) (x14_2 : Bool), v14 = .bool x14_2 ∧ Aside0 (glyph_Union.j0 kq l0 l1 x14_2 = some (r1, r2)) ∧ Aside0 (kq ≤ k) ∧ Aside0 (Below w.heap.size w wc))
  case first =>
    have H := HC3.out
    clear HC3
    replace H := Option.bind_eq_some_iff.mp H
    obtain ⟨t539, A40, H⟩ := H
    replace H : (if t539 = true then ((glyph_Rises.f k l1).bind fun t540 => (glyph_Union.j0 k l0 l1 (!t540))) else (glyph_Union.j0 k l0 l1 true)) = some (r1, r2) := H
    have A4 := mk A40
    clear A40
    by_cases c5 : t539 = true
    · subst c5; (have H1 : ((glyph_Rises.f k l1).bind fun t540 => (glyph_Union.j0 k l0 l1 (!t540))) = some (r1, r2) := by rw [if_pos rfl] at H; exact H); clear H; (have H := H1); clear H1; (replace H := Option.bind_eq_some_iff.mp H); (obtain ⟨t540, A60, H⟩ := H); (replace H : (glyph_Union.j0 k l0 l1 (!t540)) = some (r1, r2) := H); (have A6 := mk A60); clear A60; (have H' := mk H); clear H; (go_wp2_with (first | ((with_reducible refine gate_callee (f := 25) rfl ?_); refine goesL_ (some 8) rfl rfl Try.func25 kq0 rfl #[.slice A0 l0.length c0] rfl kq14 ?_; (with_reducible refine (glyph_Rises.calls k _ _ l0 true _ ?side1 ?side2 A4.out).mono ?_); (case side1 => exact kq25 HR0); (case side2 => exact HC0.out); rintro e w7 ⟨rfl, hb⟩; refine ⟨_, rfl, ?_⟩; replace HB := mk (below_step kq15 hb)) | (go_at_call 25; (with_reducible refine (glyph_Rises.calls k _ _ l1 t540 _ ?side1 ?side2 A6.out).mono ?_); (case side1 => exact kq25 HR1); (case side2 => exact HC1.out); rintro e w8 ⟨rfl, hb⟩; replace HB := mk (below_step kq15 hb)))); (go_meet)
      case rel => exact ⟨_, (!t540), kq10, H', ⟨kq11⟩, ⟨kq15⟩⟩
    · (replace c5 := Bool.eq_false_iff.mpr c5); subst c5; (have H1 : (glyph_Union.j0 k l0 l1 true) = some (r1, r2) := by rw [if_neg (show ¬ (false = true) by decide)] at H; exact H); clear H; (have H := H1); clear H1; (have H' := mk H); clear H; (go_wp2_with (first | ((with_reducible refine gate_callee (f := 25) rfl ?_); refine goesL_ (some 8) rfl rfl Try.func25 kq0 rfl #[.slice A0 l0.length c0] rfl kq14 ?_; (with_reducible refine (glyph_Rises.calls k _ _ l0 false _ ?side1 ?side2 A4.out).mono ?_); (case side1 => exact kq25 HR0); (case side2 => exact HC0.out); rintro e w9 ⟨rfl, hb⟩; refine ⟨_, rfl, ?_⟩; replace HB := mk (below_step kq15 hb)))); (go_meet)
      case rel => exact ⟨_, (true), kq10, H', ⟨kq11⟩, ⟨kq15⟩⟩
  case rest =>
    clear HC3
    obtain ⟨kq, x14_2, rfl, HA, HJ2, HB⟩ := hcut
    cases kq with
    | zero => exact absurd HA.out (by simp [glyph_Union.j0])
    | succ kj2 =>
      (have H := HA.out); clear HA; (simp only [glyph_Union.j0] at H); (by_cases c10 : x14_2 = true)
      · subst c10; (have H1 : (some (([] : List ByteArray), 3)) = some (r1, r2) := by rw [if_pos rfl] at H; exact H); clear H; (have H := H1); clear H1; (simp only [Option.some.injEq, Prod.mk.injEq] at H); (obtain ⟨rfl, rfl⟩ := H); go_wp2; go_ret2; (exact ⟨_, kq21, kq28, kq15⟩)
      · (replace c10 := Bool.eq_false_iff.mpr c10); subst c10; (have H1 : ((slices_Clone_string_string.f l0).bind fun t541 => (if t541.length + l1.length < 8796093022208 then ((slices_Sort_string_string.f (t541 ++ l1)).bind fun t547 => ((slices_Compact_string_string.f t547).bind fun t548 => (some (t548, 0)))) else (none))) = some (r1, r2) := by rw [if_neg (show ¬ (false = true) by decide)] at H; exact H); clear H; (have H := H1); clear H1; (replace H := Option.bind_eq_some_iff.mp H); (obtain ⟨t541, A110, H⟩ := H); (replace H : (if t541.length + l1.length < 8796093022208 then ((slices_Sort_string_string.f (t541 ++ l1)).bind fun t547 => ((slices_Compact_string_string.f t547).bind fun t548 => (some (t548, 0)))) else (none)) = some (r1, r2) := H); (have A11 := mk A110); clear A110; replace H := ic_ H; obtain ⟨c12, H⟩ | ⟨c12, H⟩ := H
        · (have LMc12 := mk c12); clear c12; (obtain ⟨y544, hy544⟩ : ∃ y_ : List ByteArray, y_ = (t541 ++ l1) := ⟨_, rfl⟩); (replace H : ((slices_Sort_string_string.f y544).bind fun t547 => ((slices_Compact_string_string.f t547).bind fun t548 => (some (t548, 0)))) = some (r1, r2) := by first | (rw [hy544]; with_reducible exact H) | (have H2_ := (Option.bind_some _ _).symm.trans H; rw [hy544]; with_reducible exact H2_) | (have H2_ := (Option.bind_some _ _).symm.trans H; with_reducible exact H2_) | with_reducible exact H | (rw [hy544]; exact H) | exact H); (have Ny544 := mk hy544); clear hy544; (replace H := Option.bind_eq_some_iff.mp H); (obtain ⟨t547, A130, H⟩ := H); (replace H : ((slices_Compact_string_string.f t547).bind fun t548 => (some (t548, 0))) = some (r1, r2) := H); (have A13 := mk A130); clear A130; (replace H := Option.bind_eq_some_iff.mp H); (obtain ⟨t548, A140, H⟩ := H); (replace H : (some (t548, 0)) = some (r1, r2) := H); (have A14 := mk A140); clear A140; (simp only [Option.some.injEq, Prod.mk.injEq] at H); (obtain ⟨rfl, rfl⟩ := H); (go_wp2_with (first | ((with_reducible refine gate_callee (f := 62) rfl ?_); refine goesL_ (some 16) rfl rfl Try.func62 kq0 rfl #[.slice A0 l0.length c0] rfl kq14 ?_; (with_reducible refine (slices_Clone_string_string.calls _ _ l0 t541 _ ?side1 ?side2 A11.out).mono ?_); (case side1 => exact kq25 HR0); (case side2 => exact HC0.out); rintro e w15 ⟨v542, rfl, ho0, hb⟩; refine ⟨_, rfl, ?_⟩; have HO543 := mk (Kd.R_lower ho0 (below_size kq15)); replace HB := mk (below_step kq15 hb)) | ((with_reducible refine gate_builtin (b := .append) (xs := #[.tmp 16, .tmp 17]) rfl ?_); at_builtin; refine Kd.R_append_rows Kd.string (w0 := w) w.heap.size rfl (.tmp 16) (.tmp 17) 22 9 (.string ⟨#[]⟩) 16 rfl Try.underlying22 info9 rfl kq2 kq1 v542 t541 l1 _ _ _ (fun _ => True) (fun _ => False) rfl rfl ?aO ?aR (fun _ _ h => h) (fun _ h => h.elim) ?aF ?aB ?aS ?aL ?_; (case aR => exact kq25 HR1); (case aB => exact kq15); (case aF => exact (fun _ _ => trivial)); (case aO => exact kq26 HO543); (case aS => exact kq27); (case aL => have := LMc12.out; omega); intro v545 w16 ho hb hg hat; rw [← Ny544.out] at ho; have HO546 := mk (ho); replace HB := mk (hb); clear HO543; clear ho hb hg hat; obtain ⟨Ao17, co17, eo17⟩ := Kd.R_slice HO546.out; subst eo17) | ((with_reducible refine gate_callee (f := 63) rfl ?_); refine goesL_ (some 20) rfl rfl Try.func63 kq0 rfl #[.slice Ao17 y544.length co17] rfl kq14 ?_; (with_reducible refine (slices_Sort_string_string.calls (fun k_ => some k_ = (.slice Ao17 y544.length co17 : Value).ownBlock) (.slice Ao17 y544.length co17) y544 t547 w _ ?side1 ?side2 A13.out).mono ?_); (case side1 => exact kq15); (case side2 => exact Kd.R_tight rfl HO546.out); rintro e w18 ⟨rfl, hy0, hb, hkp⟩; refine ⟨_, rfl, ?_⟩; replace HO546 := mk (Kd.R_reok rfl hy0 (fun k_ e_ => HO546.out.1 k_ e_)); replace HB := mk (hb)) | ((with_reducible refine gate_callee (f := 66) rfl ?_); refine goesL_ (some 22) rfl rfl Try.func66 kq0 rfl #[.slice Ao17 y544.length co17] rfl kq14 ?_; (with_reducible refine (slices_Compact_string_string.calls (fun k_ => some k_ = (.slice Ao17 y544.length co17 : Value).ownBlock) (.slice Ao17 y544.length co17) t547 t548 w _ ?side1 ?side2 A14.out).mono ?_); (case side1 => exact kq15); (case side2 => exact Kd.R_tight rfl HO546.out); rintro e w19 ⟨v549, rfl, ho0, hb, hkp⟩; refine ⟨_, rfl, ?_⟩; have HO550 := mk (Kd.R_mono (ok' := fun k_ => True) ho0 (fun k_ hk_ => trivial)); replace HB := mk (hb); clear HO546))); go_ret2; (exact ⟨_, kq21, (kq23 HO550), kq15⟩)
        · (exact absurd H (by simp))
end Go.Proofs.Ytjknpmibdkoklaa.U
