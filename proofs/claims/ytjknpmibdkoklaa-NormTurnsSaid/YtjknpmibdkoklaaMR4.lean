/- Functions of the given program as Lean functions, each with its contract, and what they answer; words for it. No condition but those of each. -/
import Derived.Test.YtjknpmibdkoklaaMRS
import Derived.Test.YtjknpmibdkoklaaMR2
import Derived.Test.YtjknpmibdkoklaaMR3
set_option linter.unusedVariables false
set_option linter.unusedSimpArgs false
namespace Go.Proofs.Ytjknpmibdkoklaa.Q
open Go.RowKit Go.Proofs.YtjknpmibdkoklaaW.PrintWords Go.Proofs.YtjknpmibdkoklaaW.PrintLast Go.Proofs.YtjknpmibdkoklaaW.PrintMore
open Aside0 (mk)
open List (setIfInBounds_toArray set_cons_zero set_cons_succ)
attribute [local go_sem] max2_int min2_int max_two min_two max_three min_three max_four min_four
set_option linter.unusedVariables false
set_option linter.unusedSimpArgs false
attribute [local go_sem] fld99_2 fld103_2 fld160_0 fld160_1
mutual
def tree_formula.j0 : Nat → Bool → Int → ByteArray → Int → List (S66) → List (S39) → Option (Bool)
  | 0, _, _, _, _, _, _ => none
  | k + 1, x3, x105000, x105001, x105002, x105003, x105004 => if x105000 = 0 then (tree_formula.j1 k x3 (x105003.length : Int) (x105004.length : Int) true x105000 x105001 x105002 x105003 x105004) else (tree_formula.j1 k x3 (x105003.length : Int) (x105004.length : Int) (x105000 == 1) x105000 x105001 x105002 x105003 x105004)
def tree_formula.j1 : Nat → Bool → Int → Int → Bool → Int → ByteArray → Int → List (S66) → List (S39) → Option (Bool)
  | 0, _, _, _, _, _, _, _, _, _ => none
  | k + 1, x3, x4, x5, x20, x105000, x105001, x105002, x105003, x105004 => if x20 = true then (if x3 = true then (if x4 = 0 then (some (x5 == 0)) else (some false)) else (some false)) else (if x105000 = 2 then (if x3 = true then (if x4 = 0 then (some (x5 == 1)) else (some false)) else (some false)) else (if x105000 ≥ 3 then (tree_formula.j2 k x3 x4 x5 (decide (x105000 ≤ 6)) x105000 x105001 x105002 x105003 x105004) else (tree_formula.j2 k x3 x4 x5 false x105000 x105001 x105002 x105003 x105004)))
def tree_formula.j2 : Nat → Bool → Int → Int → Bool → Int → ByteArray → Int → List (S66) → List (S39) → Option (Bool)
  | 0, _, _, _, _, _, _, _, _, _ => none
  | k + 1, x3, x4, x5, x51, x105000, x105001, x105002, x105003, x105004 => if x51 = true then (if x3 = true then (if x4 = 0 then (some (x5 == 2)) else (some false)) else (some false)) else (if x105000 = 7 then (tree_formula.j3 k x3 x4 x5 true x105000 x105001 x105002 x105003 x105004) else (tree_formula.j3 k x3 x4 x5 (x105000 == 8) x105000 x105001 x105002 x105003 x105004))
def tree_formula.j3 : Nat → Bool → Int → Int → Bool → Int → ByteArray → Int → List (S66) → List (S39) → Option (Bool)
  | 0, _, _, _, _, _, _, _, _, _ => none
  | k + 1, x3, x4, x5, x69, x105000, x105001, x105002, x105003, x105004 => if x69 = true then ((glyph_Name.f x105001).bind fun t105 => (if t105 = true then (if x105002 = 0 then (if x4 = 0 then (some (x5 == 1)) else (some false)) else (some false)) else (some false))) else (if x105000 ≥ 9 then (tree_formula.j4 k x3 x4 x5 (decide (x105000 ≤ 14)) x105000 x105001 x105002 x105003 x105004) else (tree_formula.j4 k x3 x4 x5 false x105000 x105001 x105002 x105003 x105004))
def tree_formula.j4 : Nat → Bool → Int → Int → Bool → Int → ByteArray → Int → List (S66) → List (S39) → Option (Bool)
  | 0, _, _, _, _, _, _, _, _, _ => none
  | k + 1, x3, x4, x5, x94, x105000, x105001, x105002, x105003, x105004 => if x94 = true then (if x3 = true then (if x4 = 2 then (some (x5 == 0)) else (some false)) else (some false)) else (if x105000 = 15 then (if x105001.toList = ([] : List UInt8) then (if x105002 ≥ 1 then (if x4 = 2 then (some (x5 == 0)) else (some false)) else (some false)) else (some false)) else (some false))
end
def tree_formula.f (k : Nat) (a0_0 : Int) (a0_1 : ByteArray) (a0_2 : Int) (l0_3 : List (S66)) (l0_4 : List (S39)) : Option (Bool) := if a0_1.toList = ([] : List UInt8) then (tree_formula.j0 k (a0_2 == 0) a0_0 a0_1 a0_2 l0_3 l0_4) else (tree_formula.j0 k false a0_0 a0_1 a0_2 l0_3 l0_4)
theorem tree_formula.mono_l : ∀ k, (∀ y0 y1 y2 y3 y4 y5, LeO (tree_formula.j0 k y0 y1 y2 y3 y4 y5) (tree_formula.j0 (k + 1) y0 y1 y2 y3 y4 y5)) ∧ (∀ y0 y1 y2 y3 y4 y5 y6 y7 y8, LeO (tree_formula.j1 k y0 y1 y2 y3 y4 y5 y6 y7 y8) (tree_formula.j1 (k + 1) y0 y1 y2 y3 y4 y5 y6 y7 y8)) ∧ (∀ y0 y1 y2 y3 y4 y5 y6 y7 y8, LeO (tree_formula.j2 k y0 y1 y2 y3 y4 y5 y6 y7 y8) (tree_formula.j2 (k + 1) y0 y1 y2 y3 y4 y5 y6 y7 y8)) ∧ (∀ y0 y1 y2 y3 y4 y5 y6 y7 y8, LeO (tree_formula.j3 k y0 y1 y2 y3 y4 y5 y6 y7 y8) (tree_formula.j3 (k + 1) y0 y1 y2 y3 y4 y5 y6 y7 y8)) ∧ (∀ y0 y1 y2 y3 y4 y5 y6 y7 y8, LeO (tree_formula.j4 k y0 y1 y2 y3 y4 y5 y6 y7 y8) (tree_formula.j4 (k + 1) y0 y1 y2 y3 y4 y5 y6 y7 y8))
  | 0 => ⟨fun _ _ _ _ _ _ r h => by simp [tree_formula.j0] at h, fun _ _ _ _ _ _ _ _ _ r h => by simp [tree_formula.j1] at h, fun _ _ _ _ _ _ _ _ _ r h => by simp [tree_formula.j2] at h, fun _ _ _ _ _ _ _ _ _ r h => by simp [tree_formula.j3] at h, fun _ _ _ _ _ _ _ _ _ r h => by simp [tree_formula.j4] at h⟩
  | k + 1 => by
    obtain ⟨ih0, ih1, ih2, ih3, ih4⟩ := tree_formula.mono_l k
    refine ⟨?_, ?_, ?_, ?_, ?_⟩ <;> intros <;> (first | unfold tree_formula.j0 | unfold tree_formula.j1 | unfold tree_formula.j2 | unfold tree_formula.j3 | unfold tree_formula.j4) <;> repeat' first | (with_reducible first | exact ih0 _ _ _ _ _ _ | exact ih1 _ _ _ _ _ _ _ _ _ | exact ih2 _ _ _ _ _ _ _ _ _ | exact ih3 _ _ _ _ _ _ _ _ _ | exact ih4 _ _ _ _ _ _ _ _ _ | exact LeO.refl _ | exact LeO.none _ | refine LeO.ite ?_ ?_ | refine LeO.bind ?_ (fun _ => ?_)) | exact ih0 _ _ _ _ _ _ | exact ih1 _ _ _ _ _ _ _ _ _ | exact ih2 _ _ _ _ _ _ _ _ _ | exact ih3 _ _ _ _ _ _ _ _ _ | exact ih4 _ _ _ _ _ _ _ _ _ | exact LeO.none _ | refine LeO.ite ?_ ?_ | refine LeO.bind ?_ (fun _ => ?_)
theorem tree_formula.mono : ∀ a0 a1 a2 a3 a4 k, LeO (tree_formula.f k a0 a1 a2 a3 a4) (tree_formula.f (k + 1) a0 a1 a2 a3 a4) := by
  intro a0 a1 a2 a3 a4 k
  obtain ⟨ih0, ih1, ih2, ih3, ih4⟩ := tree_formula.mono_l k
  unfold tree_formula.f
  repeat' first
      | (with_reducible exact ih0 _ _ _ _ _ _)
      | (with_reducible exact ih1 _ _ _ _ _ _ _ _ _)
      | (with_reducible exact ih2 _ _ _ _ _ _ _ _ _)
      | (with_reducible exact ih3 _ _ _ _ _ _ _ _ _)
      | (with_reducible exact ih4 _ _ _ _ _ _ _ _ _)
      | (with_reducible exact LeO.refl _)
      | (with_reducible exact LeO.none _)
      | (with_reducible refine LeO.ite ?_ ?_)
      | (with_reducible refine LeO.bind ?_ (fun _ => ?_))
      | exact ih0 _ _ _ _ _ _
      | exact ih1 _ _ _ _ _ _ _ _ _
      | exact ih2 _ _ _ _ _ _ _ _ _
      | exact ih3 _ _ _ _ _ _ _ _ _
      | exact ih4 _ _ _ _ _ _ _ _ _
      | exact LeO.none _
      | refine LeO.ite ?_ ?_
      | refine LeO.bind ?_ (fun _ => ?_)
set_option maxHeartbeats 8000000 in
set_option maxRecDepth 100000 in
theorem tree_formula.calls (k : Nat) (a0_0 : Int) (a0_1 : ByteArray) (a0_2 : Int) (A0_3 : Option Addr) (c0_3 : Nat) (l0_3 : List (S66)) (A0_4 : Option Addr) (c0_4 : Nat) (l0_4 : List (S39)) (r : Bool) (w : World) (hr0_3 : Kd.C k66 w A0_3 l0_3.length l0_3) (hc0_3 : l0_3.length ≤ c0_3) (hr0_4 : Kd.C k39 w A0_4 l0_4.length l0_4) (hc0_4 : l0_4.length ≤ c0_4) (h : tree_formula.f k a0_0 a0_1 a0_2 l0_3 l0_4 = some r) :
    Calls Try.prog 162 #[.agg #[.int .i64 a0_0, .string a0_1, .int .i64 a0_2, .slice A0_3 l0_3.length c0_3, .slice A0_4 l0_4.length c0_4]] w fun e w' => e = .returned (.bool r) ∧ Below w.heap.size w w' := by
  have hu39 := Try.underlying39
  have HR0_3 := mk hr0_3
  have HC0_3 := mk hc0_3
  clear hr0_3 hc0_3
  have HR0_4 := mk hr0_4
  have HC0_4 := mk hc0_4
  clear hr0_4 hc0_4
  have HB := mk (Below.refl w.heap.size w)
  have H : (if a0_1.toList = ([] : List UInt8) then (tree_formula.j0 k (a0_2 == 0) a0_0 a0_1 a0_2 l0_3 l0_4) else (tree_formula.j0 k false a0_0 a0_1 a0_2 l0_3 l0_4)) = some r := h
  clear h
  have HC2 := mk H
  clear H
  go_enter Try.func162, Try.ntmps162
  go_upto_region 1 with (first | ((with_reducible refine gate_dst (N := 1) rfl ?_); refine box_event ?hg (N := 1) ?hd (cs := #[.int .i64 a0_0, .string a0_1, .int .i64 a0_2, .slice A0_3 l0_3.length c0_3, .slice A0_4 l0_4.length c0_4]) (t := 39) ?hr ?_; (case hd => rfl); (case hg => rfl); (case hr => exact kq11); intro gb104 hg w3 hbox hb; have BK104 := mk (hbox); have GW104 := (gs_ hg kq9); have GE104 := GW104; replace HB := mk (below_step kq9 hb); clear hb hbox hg))
  repeat (go_quiet (first | ((with_reducible refine gate_dst (N := 1) rfl ?_); refine box_event ?hg (N := 1) ?hd (cs := #[.int .i64 a0_0, .string a0_1, .int .i64 a0_2, .slice A0_3 l0_3.length c0_3, .slice A0_4 l0_4.length c0_4]) (t := 39) ?hr ?_; (case hd => rfl); (case hg => rfl); (case hr => exact kq11); intro gb104 hg w3 hbox hb; have BK104 := mk (hbox); have GW104 := (gs_ hg kq9); have GE104 := GW104; replace HB := mk (below_step kq9 hb); clear hb hbox hg)); go_upto_region 1 with (first | ((with_reducible refine gate_dst (N := 1) rfl ?_); refine box_event ?hg (N := 1) ?hd (cs := #[.int .i64 a0_0, .string a0_1, .int .i64 a0_2, .slice A0_3 l0_3.length c0_3, .slice A0_4 l0_4.length c0_4]) (t := 39) ?hr ?_; (case hd => rfl); (case hg => rfl); (case hr => exact kq11); intro gb104 hg w3 hbox hb; have BK104 := mk (hbox); have GW104 := (gs_ hg kq9); have GE104 := GW104; replace HB := mk (below_step kq9 hb); clear hb hbox hg)))
  (try simp only [Act.put, setIfInBounds_toArray, set_cons_zero, set_cons_succ])
  go_cut [3] (fun v3 wc => ∃ (kq : Nat) (x3_1 : Bool), v3 = .bool x3_1 ∧ Aside0 (tree_formula.j0 kq x3_1 a0_0 a0_1 a0_2 l0_3 l0_4 = some r) ∧ Aside0 (kq ≤ k) ∧ Aside0 (wc.heap[gb104]? = some (.cells #[.int .i64 a0_0, .string a0_1, .int .i64 a0_2, (.slice A0_3 l0_3.length c0_3), (.slice A0_4 l0_4.length c0_4)] 39 (0, 0))) ∧ Aside0 (Below w.heap.size w wc))
  case first =>
    have H := HC2.out
    clear HC2
    replace H := ic_ H; obtain ⟨c4, H⟩ | ⟨c4, H⟩ := H
    · (obtain ⟨c4b0, c4b1⟩ := eTn_ c4); clear c4; ((first | rw [c4b0] | (simp only [i64_w, i32_w]; rw [c4b0]) | skip)); (have H' := mk H); clear H; (obtain ⟨_, _, _, _, _, _, _, _, _, _⟩ := cz5_ BK104.out); go_wp2; (repeat (go_quiet (fail); try go_wp2)); (go_meet)
      case rel => exact ⟨_, ((a0_2 == 0)), kq3, H', ⟨kq4⟩, ⟨(kq14 BK104)⟩, ⟨(kq10 GE104)⟩⟩
    · (obtain ⟨c4b0, c4b1⟩ := eFn_ c4); ((first | rw [c4b0] | (simp only [i64_w, i32_w]; rw [c4b0]) | skip)); (have H' := mk H); clear H; (obtain ⟨_, _, _, _, _, _, _, _, _, _⟩ := cz5_ BK104.out); go_wp2; (repeat (go_quiet (fail); try go_wp2)); (go_meet)
      case rel => exact ⟨_, (false), kq3, H', ⟨kq4⟩, ⟨(kq14 BK104)⟩, ⟨(kq10 GE104)⟩⟩
  case rest =>
    clear HC2
    obtain ⟨kq, x3_1, rfl, HA, HJ1, BK104, HB⟩ := hcut
    cases kq with
    | zero => exact absurd HA.out (by simp [tree_formula.j0])
    | succ kj1 =>
      (have H := HA.out); clear HA; (simp only [tree_formula.j0] at H); (have HC7 := mk H); clear H; (obtain ⟨_, _, _, _, _, _, _, _, _, _⟩ := cz5_ BK104.out); (go_upto_region 3 with (fail)); (repeat (go_quiet (fail); go_upto_region 3 with (fail))); (go_cut [20] (fun v20 wc => ∃ (kq : Nat) (x20_6 : Bool), v20 = .bool x20_6 ∧ Aside0 (tree_formula.j1 kq x3_1 (l0_3.length : Int) (l0_4.length : Int) x20_6 a0_0 a0_1 a0_2 l0_3 l0_4 = some r) ∧ Aside0 (kq ≤ kj1) ∧ Aside0 (wc.heap[gb104]? = some (.cells #[.int .i64 a0_0, .string a0_1, .int .i64 a0_2, (.slice A0_3 l0_3.length c0_3), (.slice A0_4 l0_4.length c0_4)] 39 (0, 0))) ∧ Aside0 (Below w.heap.size w wc)))
      case first =>
        (have H := HC7.out); clear HC7; replace H := ic_ H; obtain ⟨c9, H⟩ | ⟨c9, H⟩ := H
        · (obtain ⟨c9b0, c9b1⟩ := eTn_ c9); clear c9; ((first | rw [c9b0] | (simp only [i64_w, i32_w]; rw [c9b0]) | skip)); (have H' := mk H); clear H; (obtain ⟨_, _, _, _, _, _, _, _, _, _⟩ := cz5_ BK104.out); go_wp2; (repeat (go_quiet (fail); try go_wp2)); (go_meet)
          case rel => exact ⟨_, (true), kq3, H', ⟨kq6⟩, ⟨(kq14 BK104)⟩, ⟨(kq10 GE104)⟩⟩
        · (obtain ⟨c9b0, c9b1⟩ := eFn_ c9); ((first | rw [c9b0] | (simp only [i64_w, i32_w]; rw [c9b0]) | skip)); (have H' := mk H); clear H; (obtain ⟨_, _, _, _, _, _, _, _, _, _⟩ := cz5_ BK104.out); go_wp2; (repeat (go_quiet (fail); try go_wp2)); (go_meet)
          case rel => exact ⟨_, ((a0_0 == 1)), kq3, H', ⟨kq6⟩, ⟨(kq14 BK104)⟩, ⟨(kq10 GE104)⟩⟩
      case rest =>
        clear HC7; (obtain ⟨kq, x20_6, rfl, HA, HJ6, BK104, HB⟩ := hcut)
        cases kq with
        | zero => exact absurd HA.out (by simp [tree_formula.j1])
        | succ kj6 =>
          (have H := HA.out); clear HA; (simp only [tree_formula.j1] at H); (by_cases c12 : x20_6 = true)
          · subst c12; (have H1 : (if x3_1 = true then (if (l0_3.length : Int) = 0 then (some ((l0_4.length : Int) == 0)) else (some false)) else (some false)) = some r := by rw [if_pos rfl] at H; exact H); clear H; (have H := H1); clear H1; (by_cases c13 : x3_1 = true)
            · subst c13; (have H1 : (if (l0_3.length : Int) = 0 then (some ((l0_4.length : Int) == 0)) else (some false)) = some r := by rw [if_pos rfl] at H; exact H); clear H; (have H := H1); clear H1; replace H := ic_ H; obtain ⟨c14, H⟩ | ⟨c14, H⟩ := H
              · (obtain ⟨c14b0, c14b1⟩ := eTn_ c14); clear c14; (obtain rfl := Option.some.inj H); go_wp2; (repeat (go_quiet (fail); try go_wp2)); go_ret; (exact ⟨kq12, (kq10 GE104)⟩)
              · (obtain ⟨c14b0, c14b1⟩ := eFn_ c14); (have c14b2 : ¬ (l0_3 = []) := fun h_ => c14 (by rw [h_]; rfl)); (obtain rfl := Option.some.inj H); go_wp2; (repeat (go_quiet (fail); try go_wp2)); go_ret; (exact ⟨kq12, (kq10 GE104)⟩)
            · (replace c13 := Bool.eq_false_iff.mpr c13); subst c13; (have H1 : (some false) = some r := by rw [if_neg (show ¬ (false = true) by decide)] at H; exact H); clear H; (have H := H1); clear H1; (obtain rfl := Option.some.inj H); go_wp2; (repeat (go_quiet (fail); try go_wp2)); go_ret; (exact ⟨kq12, (kq10 GE104)⟩)
          · (replace c12 := Bool.eq_false_iff.mpr c12); subst c12; (have H1 : (if a0_0 = 2 then (if x3_1 = true then (if (l0_3.length : Int) = 0 then (some ((l0_4.length : Int) == 1)) else (some false)) else (some false)) else (if a0_0 ≥ 3 then (tree_formula.j2 kj6 x3_1 (l0_3.length : Int) (l0_4.length : Int) (decide (a0_0 ≤ 6)) a0_0 a0_1 a0_2 l0_3 l0_4) else (tree_formula.j2 kj6 x3_1 (l0_3.length : Int) (l0_4.length : Int) false a0_0 a0_1 a0_2 l0_3 l0_4))) = some r := by rw [if_neg (show ¬ (false = true) by decide)] at H; exact H); clear H; (have H := H1); clear H1; replace H := ic_ H; obtain ⟨c15, H⟩ | ⟨c15, H⟩ := H
            · (obtain ⟨c15b0, c15b1⟩ := eTn_ c15); clear c15; (by_cases c16 : x3_1 = true)
              · subst c16; (have H1 : (if (l0_3.length : Int) = 0 then (some ((l0_4.length : Int) == 1)) else (some false)) = some r := by rw [if_pos rfl] at H; exact H); clear H; (have H := H1); clear H1; replace H := ic_ H; obtain ⟨c17, H⟩ | ⟨c17, H⟩ := H
                · (obtain ⟨c17b0, c17b1⟩ := eTn_ c17); clear c17; (obtain rfl := Option.some.inj H); (obtain ⟨_, _, _, _, _, _, _, _, _, _⟩ := cz5_ BK104.out); go_wp2; (repeat (go_quiet (fail); try go_wp2)); go_ret; (exact ⟨kq12, (kq10 GE104)⟩)
                · (obtain ⟨c17b0, c17b1⟩ := eFn_ c17); (have c17b2 : ¬ (l0_3 = []) := fun h_ => c17 (by rw [h_]; rfl)); (obtain rfl := Option.some.inj H); (obtain ⟨_, _, _, _, _, _, _, _, _, _⟩ := cz5_ BK104.out); go_wp2; (repeat (go_quiet (fail); try go_wp2)); go_ret; (exact ⟨kq12, (kq10 GE104)⟩)
              · (replace c16 := Bool.eq_false_iff.mpr c16); subst c16; (have H1 : (some false) = some r := by rw [if_neg (show ¬ (false = true) by decide)] at H; exact H); clear H; (have H := H1); clear H1; (obtain rfl := Option.some.inj H); (obtain ⟨_, _, _, _, _, _, _, _, _, _⟩ := cz5_ BK104.out); go_wp2; (repeat (go_quiet (fail); try go_wp2)); go_ret; (exact ⟨kq12, (kq10 GE104)⟩)
            · (obtain ⟨c15b0, c15b1⟩ := eFn_ c15); (have HC21 := mk H); clear H; (obtain ⟨_, _, _, _, _, _, _, _, _, _⟩ := cz5_ BK104.out); (go_upto_region 7 with (fail)); (repeat (go_quiet (fail); go_upto_region 7 with (fail))); (go_cut [51] (fun v51 wc => ∃ (kq : Nat) (x51_20 : Bool), v51 = .bool x51_20 ∧ Aside0 (tree_formula.j2 kq x3_1 (l0_3.length : Int) (l0_4.length : Int) x51_20 a0_0 a0_1 a0_2 l0_3 l0_4 = some r) ∧ Aside0 (kq ≤ kj6) ∧ Aside0 (wc.heap[gb104]? = some (.cells #[.int .i64 a0_0, .string a0_1, .int .i64 a0_2, (.slice A0_3 l0_3.length c0_3), (.slice A0_4 l0_4.length c0_4)] 39 (0, 0))) ∧ Aside0 (Below w.heap.size w wc)))
              case first =>
                (have H := HC21.out); clear HC21; replace H := ic_ H; obtain ⟨c23, H⟩ | ⟨c23, H⟩ := H
                · (have c23b0 : decide (3 ≤ a0_0) = true := decide_eq_true c23); clear c23; ((first | rw [c23b0] | (simp only [i64_w, i32_w]; rw [c23b0]) | skip)); (have H' := mk H); clear H; (obtain ⟨_, _, _, _, _, _, _, _, _, _⟩ := cz5_ BK104.out); go_wp2; (repeat (go_quiet (fail); try go_wp2)); (go_meet)
                  case rel => exact ⟨_, (decide (a0_0 ≤ 6)), kq3, H', ⟨by have := HJ1.out; have := HJ6.out; first | omega | exact Nat.le_refl _⟩, ⟨(kq14 BK104)⟩, ⟨(kq10 GE104)⟩⟩
                · (have c23b0 : decide (3 ≤ a0_0) = false := decide_eq_false c23); clear c23; ((first | rw [c23b0] | (simp only [i64_w, i32_w]; rw [c23b0]) | skip)); (have H' := mk H); clear H; (obtain ⟨_, _, _, _, _, _, _, _, _, _⟩ := cz5_ BK104.out); go_wp2; (repeat (go_quiet (fail); try go_wp2)); (go_meet)
                  case rel => exact ⟨_, (false), kq3, H', ⟨by have := HJ1.out; have := HJ6.out; first | omega | exact Nat.le_refl _⟩, ⟨(kq14 BK104)⟩, ⟨(kq10 GE104)⟩⟩
              case rest =>
                clear HC21; (obtain ⟨kq, x51_20, rfl, HA, HJ20, BK104, HB⟩ := hcut)
                cases kq with
                | zero => exact absurd HA.out (by simp [tree_formula.j2])
                | succ kj20 =>
                  (have H := HA.out); clear HA; (simp only [tree_formula.j2] at H); (by_cases c26 : x51_20 = true)
                  · subst c26; (have H1 : (if x3_1 = true then (if (l0_3.length : Int) = 0 then (some ((l0_4.length : Int) == 2)) else (some false)) else (some false)) = some r := by rw [if_pos rfl] at H; exact H); clear H; (have H := H1); clear H1; (by_cases c27 : x3_1 = true)
                    · subst c27; (have H1 : (if (l0_3.length : Int) = 0 then (some ((l0_4.length : Int) == 2)) else (some false)) = some r := by rw [if_pos rfl] at H; exact H); clear H; (have H := H1); clear H1; replace H := ic_ H; obtain ⟨c28, H⟩ | ⟨c28, H⟩ := H
                      · (obtain ⟨c28b0, c28b1⟩ := eTn_ c28); clear c28; (obtain rfl := Option.some.inj H); go_wp2; (repeat (go_quiet (fail); try go_wp2)); go_ret; (exact ⟨kq12, (kq10 GE104)⟩)
                      · (obtain ⟨c28b0, c28b1⟩ := eFn_ c28); (have c28b2 : ¬ (l0_3 = []) := fun h_ => c28 (by rw [h_]; rfl)); (obtain rfl := Option.some.inj H); go_wp2; (repeat (go_quiet (fail); try go_wp2)); go_ret; (exact ⟨kq12, (kq10 GE104)⟩)
                    · (replace c27 := Bool.eq_false_iff.mpr c27); subst c27; (have H1 : (some false) = some r := by rw [if_neg (show ¬ (false = true) by decide)] at H; exact H); clear H; (have H := H1); clear H1; (obtain rfl := Option.some.inj H); go_wp2; (repeat (go_quiet (fail); try go_wp2)); go_ret; (exact ⟨kq12, (kq10 GE104)⟩)
                  · (replace c26 := Bool.eq_false_iff.mpr c26); subst c26; (have H1 : (if a0_0 = 7 then (tree_formula.j3 kj20 x3_1 (l0_3.length : Int) (l0_4.length : Int) true a0_0 a0_1 a0_2 l0_3 l0_4) else (tree_formula.j3 kj20 x3_1 (l0_3.length : Int) (l0_4.length : Int) (a0_0 == 8) a0_0 a0_1 a0_2 l0_3 l0_4)) = some r := by rw [if_neg (show ¬ (false = true) by decide)] at H; exact H); clear H; (have H := H1); clear H1; (have HC29 := mk H); clear H; (go_upto_region 9 with (fail)); (repeat (go_quiet (fail); go_upto_region 9 with (fail))); (go_cut [69] (fun v69 wc => ∃ (kq : Nat) (x69_28 : Bool), v69 = .bool x69_28 ∧ Aside0 (tree_formula.j3 kq x3_1 (l0_3.length : Int) (l0_4.length : Int) x69_28 a0_0 a0_1 a0_2 l0_3 l0_4 = some r) ∧ Aside0 (kq ≤ kj20) ∧ Aside0 (wc.heap[gb104]? = some (.cells #[.int .i64 a0_0, .string a0_1, .int .i64 a0_2, (.slice A0_3 l0_3.length c0_3), (.slice A0_4 l0_4.length c0_4)] 39 (0, 0))) ∧ Aside0 (Below w.heap.size w wc)))
                    case first =>
                      (have H := HC29.out); clear HC29; replace H := ic_ H; obtain ⟨c30, H⟩ | ⟨c30, H⟩ := H
                      · (obtain ⟨c30b0, c30b1⟩ := eTn_ c30); clear c30; ((first | rw [c30b0] | (simp only [i64_w, i32_w]; rw [c30b0]) | skip)); (have H' := mk H); clear H; (obtain ⟨_, _, _, _, _, _, _, _, _, _⟩ := cz5_ BK104.out); go_wp2; (repeat (go_quiet (fail); try go_wp2)); (go_meet)
                        case rel => exact ⟨_, (true), kq3, H', ⟨by have := HJ1.out; have := HJ6.out; have := HJ20.out; first | omega | exact Nat.le_refl _⟩, ⟨(kq14 BK104)⟩, ⟨(kq10 GE104)⟩⟩
                      · (obtain ⟨c30b0, c30b1⟩ := eFn_ c30); ((first | rw [c30b0] | (simp only [i64_w, i32_w]; rw [c30b0]) | skip)); (have H' := mk H); clear H; (obtain ⟨_, _, _, _, _, _, _, _, _, _⟩ := cz5_ BK104.out); go_wp2; (repeat (go_quiet (fail); try go_wp2)); (go_meet)
                        case rel => exact ⟨_, ((a0_0 == 8)), kq3, H', ⟨by have := HJ1.out; have := HJ6.out; have := HJ20.out; first | omega | exact Nat.le_refl _⟩, ⟨(kq14 BK104)⟩, ⟨(kq10 GE104)⟩⟩
                    case rest =>
                      clear HC29; (obtain ⟨kq, x69_28, rfl, HA, HJ28, BK104, HB⟩ := hcut)
                      cases kq with
                      | zero => exact absurd HA.out (by simp [tree_formula.j3])
                      | succ kj28 =>
                        (have H := HA.out); clear HA; (simp only [tree_formula.j3] at H); (by_cases c33 : x69_28 = true)
                        · subst c33; (have H1 : ((glyph_Name.f a0_1).bind fun t105 => (if t105 = true then (if a0_2 = 0 then (if (l0_3.length : Int) = 0 then (some ((l0_4.length : Int) == 1)) else (some false)) else (some false)) else (some false))) = some r := by rw [if_pos rfl] at H; exact H); clear H; (have H := H1); clear H1; (replace H := Option.bind_eq_some_iff.mp H); (obtain ⟨t105, A340, H⟩ := H); (replace H : (if t105 = true then (if a0_2 = 0 then (if (l0_3.length : Int) = 0 then (some ((l0_4.length : Int) == 1)) else (some false)) else (some false)) else (some false)) = some r := H); (have A34 := mk A340); clear A340; (by_cases c35 : t105 = true)
                          · subst c35; (have H1 : (if a0_2 = 0 then (if (l0_3.length : Int) = 0 then (some ((l0_4.length : Int) == 1)) else (some false)) else (some false)) = some r := by rw [if_pos rfl] at H; exact H); clear H; (have H := H1); clear H1; replace H := ic_ H; obtain ⟨c36, H⟩ | ⟨c36, H⟩ := H
                            · (obtain ⟨c36b0, c36b1⟩ := eTn_ c36); clear c36; replace H := ic_ H; obtain ⟨c37, H⟩ | ⟨c37, H⟩ := H
                              · (obtain ⟨c37b0, c37b1⟩ := eTn_ c37); clear c37; (obtain rfl := Option.some.inj H); (obtain ⟨_, _, _, _, _, _, _, _, _, _⟩ := cz5_ BK104.out); (go_wp2_with (first | (go_at_call 41; (with_reducible refine (glyph_Name.calls a0_1 true _ A34.out).mono ?_); rintro e w39 ⟨rfl, hb⟩; replace BK104 := (bb_ BK104 hb); replace HB := mk (below_step (kq10 GE104) hb); obtain ⟨_, _, _, _, _, _, _, _, _, _⟩ := cz5_ BK104.out))); (repeat (go_quiet (first | (go_at_call 41; (with_reducible refine (glyph_Name.calls a0_1 true _ A34.out).mono ?_); rintro e w39 ⟨rfl, hb⟩; replace BK104 := (bb_ BK104 hb); replace HB := mk (below_step (kq10 GE104) hb); obtain ⟨_, _, _, _, _, _, _, _, _, _⟩ := cz5_ BK104.out)); try go_wp2_with (first | (go_at_call 41; (with_reducible refine (glyph_Name.calls a0_1 true _ A34.out).mono ?_); rintro e w39 ⟨rfl, hb⟩; replace BK104 := (bb_ BK104 hb); replace HB := mk (below_step (kq10 GE104) hb); obtain ⟨_, _, _, _, _, _, _, _, _, _⟩ := cz5_ BK104.out)))); go_ret; (exact ⟨kq12, (kq10 GE104)⟩)
                              · (obtain ⟨c37b0, c37b1⟩ := eFn_ c37); (have c37b2 : ¬ (l0_3 = []) := fun h_ => c37 (by rw [h_]; rfl)); (obtain rfl := Option.some.inj H); (obtain ⟨_, _, _, _, _, _, _, _, _, _⟩ := cz5_ BK104.out); (go_wp2_with (first | (go_at_call 41; (with_reducible refine (glyph_Name.calls a0_1 true _ A34.out).mono ?_); rintro e w42 ⟨rfl, hb⟩; replace BK104 := (bb_ BK104 hb); replace HB := mk (below_step (kq10 GE104) hb); obtain ⟨_, _, _, _, _, _, _, _, _, _⟩ := cz5_ BK104.out))); (repeat (go_quiet (first | (go_at_call 41; (with_reducible refine (glyph_Name.calls a0_1 true _ A34.out).mono ?_); rintro e w42 ⟨rfl, hb⟩; replace BK104 := (bb_ BK104 hb); replace HB := mk (below_step (kq10 GE104) hb); obtain ⟨_, _, _, _, _, _, _, _, _, _⟩ := cz5_ BK104.out)); try go_wp2_with (first | (go_at_call 41; (with_reducible refine (glyph_Name.calls a0_1 true _ A34.out).mono ?_); rintro e w42 ⟨rfl, hb⟩; replace BK104 := (bb_ BK104 hb); replace HB := mk (below_step (kq10 GE104) hb); obtain ⟨_, _, _, _, _, _, _, _, _, _⟩ := cz5_ BK104.out)))); go_ret; (exact ⟨kq12, (kq10 GE104)⟩)
                            · (obtain ⟨c36b0, c36b1⟩ := eFn_ c36); (obtain rfl := Option.some.inj H); (obtain ⟨_, _, _, _, _, _, _, _, _, _⟩ := cz5_ BK104.out); (go_wp2_with (first | (go_at_call 41; (with_reducible refine (glyph_Name.calls a0_1 true _ A34.out).mono ?_); rintro e w45 ⟨rfl, hb⟩; replace BK104 := (bb_ BK104 hb); replace HB := mk (below_step (kq10 GE104) hb); obtain ⟨_, _, _, _, _, _, _, _, _, _⟩ := cz5_ BK104.out))); (repeat (go_quiet (first | (go_at_call 41; (with_reducible refine (glyph_Name.calls a0_1 true _ A34.out).mono ?_); rintro e w45 ⟨rfl, hb⟩; replace BK104 := (bb_ BK104 hb); replace HB := mk (below_step (kq10 GE104) hb); obtain ⟨_, _, _, _, _, _, _, _, _, _⟩ := cz5_ BK104.out)); try go_wp2_with (first | (go_at_call 41; (with_reducible refine (glyph_Name.calls a0_1 true _ A34.out).mono ?_); rintro e w45 ⟨rfl, hb⟩; replace BK104 := (bb_ BK104 hb); replace HB := mk (below_step (kq10 GE104) hb); obtain ⟨_, _, _, _, _, _, _, _, _, _⟩ := cz5_ BK104.out)))); go_ret; (exact ⟨kq12, (kq10 GE104)⟩)
                          · (replace c35 := Bool.eq_false_iff.mpr c35); subst c35; (have H1 : (some false) = some r := by rw [if_neg (show ¬ (false = true) by decide)] at H; exact H); clear H; (have H := H1); clear H1; (obtain rfl := Option.some.inj H); (obtain ⟨_, _, _, _, _, _, _, _, _, _⟩ := cz5_ BK104.out); (go_wp2_with (first | (go_at_call 41; (with_reducible refine (glyph_Name.calls a0_1 false _ A34.out).mono ?_); rintro e w48 ⟨rfl, hb⟩; replace BK104 := (bb_ BK104 hb); replace HB := mk (below_step (kq10 GE104) hb)))); (repeat (go_quiet (first | (go_at_call 41; (with_reducible refine (glyph_Name.calls a0_1 false _ A34.out).mono ?_); rintro e w48 ⟨rfl, hb⟩; replace BK104 := (bb_ BK104 hb); replace HB := mk (below_step (kq10 GE104) hb))); try go_wp2_with (first | (go_at_call 41; (with_reducible refine (glyph_Name.calls a0_1 false _ A34.out).mono ?_); rintro e w48 ⟨rfl, hb⟩; replace BK104 := (bb_ BK104 hb); replace HB := mk (below_step (kq10 GE104) hb))))); go_ret; (exact ⟨kq12, (kq10 GE104)⟩)
                        · (replace c33 := Bool.eq_false_iff.mpr c33); subst c33; (have H1 : (if a0_0 ≥ 9 then (tree_formula.j4 kj28 x3_1 (l0_3.length : Int) (l0_4.length : Int) (decide (a0_0 ≤ 14)) a0_0 a0_1 a0_2 l0_3 l0_4) else (tree_formula.j4 kj28 x3_1 (l0_3.length : Int) (l0_4.length : Int) false a0_0 a0_1 a0_2 l0_3 l0_4)) = some r := by rw [if_neg (show ¬ (false = true) by decide)] at H; exact H); clear H; (have H := H1); clear H1; (have HC49 := mk H); clear H; (go_upto_region 11 with (fail)); (repeat (go_quiet (fail); go_upto_region 11 with (fail))); (go_cut [94] (fun v94 wc => ∃ (kq : Nat) (x94_48 : Bool), v94 = .bool x94_48 ∧ Aside0 (tree_formula.j4 kq x3_1 (l0_3.length : Int) (l0_4.length : Int) x94_48 a0_0 a0_1 a0_2 l0_3 l0_4 = some r) ∧ Aside0 (kq ≤ kj28) ∧ Aside0 (wc.heap[gb104]? = some (.cells #[.int .i64 a0_0, .string a0_1, .int .i64 a0_2, (.slice A0_3 l0_3.length c0_3), (.slice A0_4 l0_4.length c0_4)] 39 (0, 0))) ∧ Aside0 (Below w.heap.size w wc)))
                          case first =>
                            (have H := HC49.out); clear HC49; replace H := ic_ H; obtain ⟨c50, H⟩ | ⟨c50, H⟩ := H
                            · (have c50b0 : decide (9 ≤ a0_0) = true := decide_eq_true c50); clear c50; ((first | rw [c50b0] | (simp only [i64_w, i32_w]; rw [c50b0]) | skip)); (have H' := mk H); clear H; (obtain ⟨_, _, _, _, _, _, _, _, _, _⟩ := cz5_ BK104.out); go_wp2; (repeat (go_quiet (fail); try go_wp2)); (go_meet)
                              case rel => exact ⟨_, (decide (a0_0 ≤ 14)), kq3, H', ⟨by have := HJ1.out; have := HJ6.out; have := HJ20.out; have := HJ28.out; first | omega | exact Nat.le_refl _⟩, ⟨(kq14 BK104)⟩, ⟨(kq10 GE104)⟩⟩
                            · (have c50b0 : decide (9 ≤ a0_0) = false := decide_eq_false c50); clear c50; ((first | rw [c50b0] | (simp only [i64_w, i32_w]; rw [c50b0]) | skip)); (have H' := mk H); clear H; (obtain ⟨_, _, _, _, _, _, _, _, _, _⟩ := cz5_ BK104.out); go_wp2; (repeat (go_quiet (fail); try go_wp2)); (go_meet)
                              case rel => exact ⟨_, (false), kq3, H', ⟨by have := HJ1.out; have := HJ6.out; have := HJ20.out; have := HJ28.out; first | omega | exact Nat.le_refl _⟩, ⟨(kq14 BK104)⟩, ⟨(kq10 GE104)⟩⟩
                          case rest =>
                            clear HC49; (obtain ⟨kq, x94_48, rfl, HA, HJ48, BK104, HB⟩ := hcut)
                            cases kq with
                            | zero => exact absurd HA.out (by simp [tree_formula.j4])
                            | succ kj48 =>
                              (have H := HA.out); clear HA; (simp only [tree_formula.j4] at H); (by_cases c53 : x94_48 = true)
                              · subst c53; (have H1 : (if x3_1 = true then (if (l0_3.length : Int) = 2 then (some ((l0_4.length : Int) == 0)) else (some false)) else (some false)) = some r := by rw [if_pos rfl] at H; exact H); clear H; (have H := H1); clear H1; (by_cases c54 : x3_1 = true)
                                · subst c54; (have H1 : (if (l0_3.length : Int) = 2 then (some ((l0_4.length : Int) == 0)) else (some false)) = some r := by rw [if_pos rfl] at H; exact H); clear H; (have H := H1); clear H1; replace H := ic_ H; obtain ⟨c55, H⟩ | ⟨c55, H⟩ := H
                                  · (obtain ⟨c55b0, c55b1⟩ := eTn_ c55); clear c55; (obtain rfl := Option.some.inj H); go_wp2; (repeat (go_quiet (fail); try go_wp2)); go_ret; (exact ⟨kq12, (kq10 GE104)⟩)
                                  · (obtain ⟨c55b0, c55b1⟩ := eFn_ c55); (obtain rfl := Option.some.inj H); go_wp2; (repeat (go_quiet (fail); try go_wp2)); go_ret; (exact ⟨kq12, (kq10 GE104)⟩)
                                · (replace c54 := Bool.eq_false_iff.mpr c54); subst c54; (have H1 : (some false) = some r := by rw [if_neg (show ¬ (false = true) by decide)] at H; exact H); clear H; (have H := H1); clear H1; (obtain rfl := Option.some.inj H); go_wp2; (repeat (go_quiet (fail); try go_wp2)); go_ret; (exact ⟨kq12, (kq10 GE104)⟩)
                              · (replace c53 := Bool.eq_false_iff.mpr c53); subst c53; (have H1 : (if a0_0 = 15 then (if a0_1.toList = ([] : List UInt8) then (if a0_2 ≥ 1 then (if (l0_3.length : Int) = 2 then (some ((l0_4.length : Int) == 0)) else (some false)) else (some false)) else (some false)) else (some false)) = some r := by rw [if_neg (show ¬ (false = true) by decide)] at H; exact H); clear H; (have H := H1); clear H1; replace H := ic_ H; obtain ⟨c56, H⟩ | ⟨c56, H⟩ := H
                                · (obtain ⟨c56b0, c56b1⟩ := eTn_ c56); clear c56; replace H := ic_ H; obtain ⟨c57, H⟩ | ⟨c57, H⟩ := H
                                  · (obtain ⟨c57b0, c57b1⟩ := eTn_ c57); clear c57; replace H := ic_ H; obtain ⟨c58, H⟩ | ⟨c58, H⟩ := H
                                    · (have c58b0 : decide (1 ≤ a0_2) = true := decide_eq_true c58); clear c58; replace H := ic_ H; obtain ⟨c59, H⟩ | ⟨c59, H⟩ := H
                                      · (obtain ⟨c59b0, c59b1⟩ := eTn_ c59); clear c59; (obtain rfl := Option.some.inj H); (obtain ⟨_, _, _, _, _, _, _, _, _, _⟩ := cz5_ BK104.out); go_wp2; (repeat (go_quiet (fail); try go_wp2)); go_ret; (exact ⟨kq12, (kq10 GE104)⟩)
                                      · (obtain ⟨c59b0, c59b1⟩ := eFn_ c59); (obtain rfl := Option.some.inj H); (obtain ⟨_, _, _, _, _, _, _, _, _, _⟩ := cz5_ BK104.out); go_wp2; (repeat (go_quiet (fail); try go_wp2)); go_ret; (exact ⟨kq12, (kq10 GE104)⟩)
                                    · (have c58b0 : decide (1 ≤ a0_2) = false := decide_eq_false c58); clear c58; (obtain rfl := Option.some.inj H); (obtain ⟨_, _, _, _, _, _, _, _, _, _⟩ := cz5_ BK104.out); go_wp2; (repeat (go_quiet (fail); try go_wp2)); go_ret; (exact ⟨kq12, (kq10 GE104)⟩)
                                  · (obtain ⟨c57b0, c57b1⟩ := eFn_ c57); (obtain rfl := Option.some.inj H); (obtain ⟨_, _, _, _, _, _, _, _, _, _⟩ := cz5_ BK104.out); go_wp2; (repeat (go_quiet (fail); try go_wp2)); go_ret; (exact ⟨kq12, (kq10 GE104)⟩)
                                · (obtain ⟨c56b0, c56b1⟩ := eFn_ c56); (obtain rfl := Option.some.inj H); (obtain ⟨_, _, _, _, _, _, _, _, _, _⟩ := cz5_ BK104.out); go_wp2; (repeat (go_quiet (fail); try go_wp2)); go_ret; (exact ⟨kq12, (kq10 GE104)⟩)
end Go.Proofs.Ytjknpmibdkoklaa.Q
namespace Go.Proofs.Ytjknpmibdkoklaa.Q
open Go.RowKit Go.Proofs.YtjknpmibdkoklaaW.PrintWords Go.Proofs.YtjknpmibdkoklaaW.PrintLast Go.Proofs.YtjknpmibdkoklaaW.PrintMore
open Aside0 (mk)
open List (setIfInBounds_toArray set_cons_zero set_cons_succ)
attribute [local go_sem] max2_int min2_int max_two min_two max_three min_three max_four min_four
set_option linter.unusedVariables false
set_option linter.unusedSimpArgs false
attribute [local go_sem] fld99_2 fld103_2 fld160_0 fld160_1
def slices_Index_string_string.l0 : Nat → List ByteArray → ByteArray → Int → Int → Option (Int)
  | 0, _, _, _, _ => none
  | k + 1, x0, x1, x7, x8 => if x8 < x7 then (if 0 ≤ x8 then (if x8 < (x0.length : Int) then (if x1.toList = (rdOf ByteArray.empty x0 x8).toList then (some x8) else (slices_Index_string_string.l0 k x0 x1 x7 (wrap64 (x8 + 1)))) else (none)) else (none)) else (some (-1))
def slices_Index_string_string.f (k : Nat) (l0 : List ByteArray) (a1 : ByteArray) : Option (Int) := slices_Index_string_string.l0 k l0 a1 (l0.length : Int) 0
theorem slices_Index_string_string.mono_l : ∀ k, (∀ y0 y1 y2 y3, LeO (slices_Index_string_string.l0 k y0 y1 y2 y3) (slices_Index_string_string.l0 (k + 1) y0 y1 y2 y3))
  | 0 => fun _ _ _ _ r h => by simp [slices_Index_string_string.l0] at h
  | k + 1 => by
    have ih0 := slices_Index_string_string.mono_l k
    · intro y0 y1 y2 y3; (unfold slices_Index_string_string.l0)
      repeat' first
      | (with_reducible exact ih0 _ _ _ _)
      | (with_reducible exact LeO.refl _)
      | (with_reducible exact LeO.none _)
      | (with_reducible refine LeO.ite ?_ ?_)
      | (with_reducible refine LeO.bind ?_ (fun _ => ?_))
      | exact ih0 _ _ _ _
      | exact LeO.none _
      | refine LeO.ite ?_ ?_
      | refine LeO.bind ?_ (fun _ => ?_)
theorem slices_Index_string_string.mono : ∀ a0 a1 k, LeO (slices_Index_string_string.f k a0 a1) (slices_Index_string_string.f (k + 1) a0 a1) := by
  intro a0 a1 k
  have ih0 := slices_Index_string_string.mono_l k
  unfold slices_Index_string_string.f
  repeat' first
      | (with_reducible exact ih0 _ _ _ _)
      | (with_reducible exact LeO.refl _)
      | (with_reducible exact LeO.none _)
      | (with_reducible refine LeO.ite ?_ ?_)
      | (with_reducible refine LeO.bind ?_ (fun _ => ?_))
      | exact ih0 _ _ _ _
      | exact LeO.none _
      | refine LeO.ite ?_ ?_
      | refine LeO.bind ?_ (fun _ => ?_)
set_option maxHeartbeats 8000000 in
set_option maxRecDepth 100000 in
theorem slices_Index_string_string.calls (k : Nat) (A0 : Option Addr) (c0 : Nat) (l0 : List ByteArray) (a1 : ByteArray) (r : Int) (w : World) (hr0 : Kd.C Kd.string w A0 l0.length l0) (hc0 : l0.length ≤ c0) (h : slices_Index_string_string.f k l0 a1 = some r) :
    Calls Try.prog 69 #[.slice A0 l0.length c0, .string a1] w fun e w' => e = .returned (.int .i64 r) ∧ Drawn0 w w' := by
  have HR0 := mk hr0
  have HC0 := mk hc0
  clear hr0 hc0
  have H : (slices_Index_string_string.l0 k l0 a1 (l0.length : Int) 0) = some r := h
  clear h
  have H' := mk H
  clear H
  go_enter Try.func69, Try.ntmps69
  go_wp2
  go_loopg [8] k (fun kq v8 w' => ∃ (x8_1 : Int), v8 = .int .i64 x8_1 ∧ Aside0 (slices_Index_string_string.l0 kq l0 a1 (l0.length : Int) x8_1 = some r) ∧ Aside0 (kq ≤ k) ∧ Drawn0 w w')
  case atStart => exact ⟨(0), kq3, H', ⟨Nat.le_refl _⟩, kq5⟩
  case round =>
    clear H'
    obtain ⟨x8_1, rfl, HA, HK1, ⟨m1, rfl⟩⟩ := hrel
    cases gk with
    | zero => exact absurd HA.out (by simp [slices_Index_string_string.l0])
    | succ k1 =>
      (have H := HA.out); clear HA; (simp only [slices_Index_string_string.l0] at H); replace H := ic_ H; obtain ⟨c3, H⟩ | ⟨c3, H⟩ := H
      · (have c3b0 : decide (x8_1 < (l0.length : Int)) = true := decide_eq_true c3); clear c3; replace H := ic_ H; obtain ⟨c4, H⟩ | ⟨c4, H⟩ := H
        · (have c4b0 : decide (0 ≤ x8_1) = true := decide_eq_true c4); clear c4; replace H := ic_ H; obtain ⟨c5, H⟩ | ⟨c5, H⟩ := H
          · (have c5b0 : decide (x8_1 < (l0.length : Int)) = true := decide_eq_true c5); clear c5; replace H := ic_ H; obtain ⟨c6, H⟩ | ⟨c6, H⟩ := H
            · (obtain ⟨c6b0, c6b1⟩ := eTn_ c6); clear c6; (obtain rfl := Option.some.inj H); (have p667 : 0 ≤ (x8_1 : Int) := of_decide_eq_true kq8); (have q667 : x8_1 < (l0.length : Int) := of_decide_eq_true kq8); (obtain ⟨ad667, e667, hx667_0⟩ := Kd.at_string HR0.out x8_1 p667 q667); cases e667; replace p667 := eq_true p667; replace q667 := eq_true q667; go_wp2; go_ret; (exact ⟨kq3, kq5⟩)
            · (obtain ⟨c6b0, c6b1⟩ := eFn_ c6); (have H' := mk H); clear H; (have p667 : 0 ≤ (x8_1 : Int) := of_decide_eq_true kq8); (have q667 : x8_1 < (l0.length : Int) := of_decide_eq_true kq8); (obtain ⟨ad667, e667, hx667_0⟩ := Kd.at_string HR0.out x8_1 p667 q667); cases e667; replace p667 := eq_true p667; replace q667 := eq_true q667; go_wp2; (go_roundg k1)
              case measure => have := HK1.out; omega
              case rel => exact ⟨(wrap64 (x8_1 + 1)), kq3, H', ⟨by have := HK1.out; omega⟩, kq5⟩
          · (exact absurd H (by simp))
        · (exact absurd H (by simp))
      · (have c3b0 : decide (x8_1 < (l0.length : Int)) = false := decide_eq_false c3); clear c3; (obtain rfl := Option.some.inj H); go_wp2; go_ret; (exact ⟨kq3, kq5⟩)
end Go.Proofs.Ytjknpmibdkoklaa.Q
namespace Go.Proofs.Ytjknpmibdkoklaa.Q
open Go.RowKit Go.Proofs.YtjknpmibdkoklaaW.PrintWords Go.Proofs.YtjknpmibdkoklaaW.PrintLast Go.Proofs.YtjknpmibdkoklaaW.PrintMore
open Aside0 (mk)
open List (setIfInBounds_toArray set_cons_zero set_cons_succ)
attribute [local go_sem] max2_int min2_int max_two min_two max_three min_three max_four min_four
set_option linter.unusedVariables false
set_option linter.unusedSimpArgs false
attribute [local go_sem] fld99_2 fld103_2 fld160_0 fld160_1
def glyph_Index.f (k : Nat) (l0 : List ByteArray) (a1 : ByteArray) : Option (Int) := (slices_Index_string_string.f k l0 a1).bind fun t668 => (some t668)
theorem glyph_Index.mono : ∀ a0 a1 k, LeO (glyph_Index.f k a0 a1) (glyph_Index.f (k + 1) a0 a1) := by
  intro a0 a1 k
  unfold glyph_Index.f
  repeat' first
      | (with_reducible exact slices_Index_string_string.mono _ _ _)
      | (with_reducible exact LeO.refl _)
      | (with_reducible exact LeO.none _)
      | (with_reducible refine LeO.ite ?_ ?_)
      | (with_reducible refine LeO.bind ?_ (fun _ => ?_))
      | exact slices_Index_string_string.mono _ _ _
      | exact LeO.none _
      | refine LeO.ite ?_ ?_
      | refine LeO.bind ?_ (fun _ => ?_)
set_option maxHeartbeats 8000000 in
set_option maxRecDepth 100000 in
theorem glyph_Index.calls (k : Nat) (A0 : Option Addr) (c0 : Nat) (l0 : List ByteArray) (a1 : ByteArray) (r : Int) (w : World) (hr0 : Kd.C Kd.string w A0 l0.length l0) (hc0 : l0.length ≤ c0) (h : glyph_Index.f k l0 a1 = some r) :
    Calls Try.prog 27 #[.slice A0 l0.length c0, .string a1] w fun e w' => e = .returned (.int .i64 r) ∧ Drawn0 w w' := by
  have HR0 := mk hr0
  have HC0 := mk hc0
  clear hr0 hc0
  have H : ((slices_Index_string_string.f k l0 a1).bind fun t668 => (some t668)) = some r := h
  clear h
  replace H := Option.bind_eq_some_iff.mp H
  obtain ⟨t668, A30, H⟩ := H
  replace H : (some t668) = some r := H
  have A3 := mk A30
  clear A30
  obtain rfl := Option.some.inj H
  go_enter Try.func27, Try.ntmps27
  go_wp2_with (first | ((with_reducible refine gate_callee (f := 69) rfl ?_); refine goesL_ (some 7) rfl rfl Try.func69 kq0 rfl #[.slice A0 l0.length c0, .string a1] rfl kq7 ?_; (with_reducible refine (slices_Index_string_string.calls k _ _ l0 a1 t668 _ ?side1 ?side2 A3.out).mono ?_); (case side1 => repeat (first | exact HR0.out | (with_reducible refine Kd.C_alloc ?_ _) | (with_reducible refine Kd.C_drewN ?_ _) | (with_reducible refine Kd.C_drew ?_))); (case side2 => exact HC0.out); rintro e w' ⟨rfl, ⟨nd, rfl⟩⟩; refine ⟨_, rfl, ?_⟩))
  go_ret
  exact ⟨kq3, kq5⟩
def norm_sum_of.f (k : Nat) (l0_0 : List ByteArray) (l0_1 : List Int) (a0_2 : Int) (a0_3 : Int) (a1 : ByteArray) : Option (Int) := (glyph_Index.f k l0_0 a1).bind fun t670 => (if t670 ≥ 0 then (if 0 ≤ t670 then (if t670 < (l0_1.length : Int) then (some (rd l0_1 t670)) else (none)) else (none)) else (some 0))
theorem norm_sum_of.mono : ∀ a0 a1 a2 a3 a4 k, LeO (norm_sum_of.f k a0 a1 a2 a3 a4) (norm_sum_of.f (k + 1) a0 a1 a2 a3 a4) := by
  intro a0 a1 a2 a3 a4 k
  unfold norm_sum_of.f
  repeat' first
      | (with_reducible exact glyph_Index.mono _ _ _)
      | (with_reducible exact LeO.refl _)
      | (with_reducible exact LeO.none _)
      | (with_reducible refine LeO.ite ?_ ?_)
      | (with_reducible refine LeO.bind ?_ (fun _ => ?_))
      | exact glyph_Index.mono _ _ _
      | exact LeO.none _
      | refine LeO.ite ?_ ?_
      | refine LeO.bind ?_ (fun _ => ?_)
set_option maxHeartbeats 8000000 in
set_option maxRecDepth 100000 in
theorem norm_sum_of.calls (k : Nat) (A0_0 : Option Addr) (c0_0 : Nat) (l0_0 : List ByteArray) (A0_1 : Option Addr) (c0_1 : Nat) (l0_1 : List Int) (a0_2 : Int) (a0_3 : Int) (a1 : ByteArray) (r : Int) (w : World) (hr0_0 : Kd.C Kd.string w A0_0 l0_0.length l0_0) (hc0_0 : l0_0.length ≤ c0_0) (hr0_1 : Kd.C (Kd.int .i64) w A0_1 l0_1.length l0_1) (hc0_1 : l0_1.length ≤ c0_1) (h : norm_sum_of.f k l0_0 l0_1 a0_2 a0_3 a1 = some r) :
    Calls Try.prog 123 #[.agg #[.slice A0_0 l0_0.length c0_0, .slice A0_1 l0_1.length c0_1, .int .i64 a0_2, .int .i64 a0_3], .string a1] w fun e w' => e = .returned (.int .i64 r) ∧ Below w.heap.size w w' := by
  have hu107 := Try.underlying107
  have HR0_0 := mk hr0_0
  have HC0_0 := mk hc0_0
  clear hr0_0 hc0_0
  have HR0_1 := mk hr0_1
  have HC0_1 := mk hc0_1
  clear hr0_1 hc0_1
  have HB := mk (Below.refl w.heap.size w)
  have H : ((glyph_Index.f k l0_0 a1).bind fun t670 => (if t670 ≥ 0 then (if 0 ≤ t670 then (if t670 < (l0_1.length : Int) then (some (rd l0_1 t670)) else (none)) else (none)) else (some 0))) = some r := h
  clear h
  replace H := Option.bind_eq_some_iff.mp H
  obtain ⟨t670, A30, H⟩ := H
  replace H : (if t670 ≥ 0 then (if 0 ≤ t670 then (if t670 < (l0_1.length : Int) then (some (rd l0_1 t670)) else (none)) else (none)) else (some 0)) = some r := H
  have A3 := mk A30
  clear A30
  by_cases c4 : t670 ≥ 0
  · rw [if_pos c4] at H
    have c4b0 : decide (0 ≤ t670) = true := decide_eq_true c4
    clear c4
    replace H := ic_ H; obtain ⟨c5, H⟩ | ⟨c5, H⟩ := H
    · (have c5b0 : decide (0 ≤ t670) = true := decide_eq_true c5); clear c5; replace H := ic_ H; obtain ⟨c6, H⟩ | ⟨c6, H⟩ := H
      · (have c6b0 : decide (t670 < (l0_1.length : Int)) = true := decide_eq_true c6); clear c6; (obtain rfl := Option.some.inj H); (go_enter Try.func123, Try.ntmps123); (go_wp2_with (first | ((with_reducible refine gate_dst (N := 2) rfl ?_); refine box_event ?hg (N := 2) ?hd (cs := #[.slice A0_0 l0_0.length c0_0, .slice A0_1 l0_1.length c0_1, .int .i64 a0_2, .int .i64 a0_3]) (t := 107) ?hr ?_; (case hd => rfl); (case hg => rfl); (case hr => exact kq11); intro gb669 hg w7 hbox hb; have BK669 := mk (hbox); have GW669 := (gs_ hg kq9); have GE669 := GW669; replace HB := mk (below_step kq9 hb); clear hb hbox hg; obtain ⟨_, _, _, _, _, _, _, _⟩ := cz4_ BK669.out) | ((with_reducible refine gate_callee (f := 27) rfl ?_); refine goesL_ (some 9) rfl rfl Try.func27 kq0 rfl #[.slice A0_0 l0_0.length c0_0, .string a1] rfl kq7 ?_; (with_reducible refine (glyph_Index.calls k _ _ l0_0 a1 t670 _ ?side1 ?side2 A3.out).mono ?_); (case side1 => exact kq13 HR0_0); (case side2 => exact HC0_0.out); rintro e w' ⟨rfl, ⟨nd, rfl⟩⟩; refine ⟨_, rfl, ?_⟩; have p671 : 0 ≤ (t670 : Int) := of_decide_eq_true kq8; have q671 : t670 < (l0_1.length : Int) := of_decide_eq_true kq8; obtain ⟨ad671, e671, hx671_0⟩ := Kd.at_int HR0_1.out t670 p671 q671; cases e671; replace hx671_0 := hc_ HB hx671_0; replace p671 := eq_true p671; replace q671 := eq_true q671))); go_ret; (exact ⟨kq12, (kq10 GE669)⟩)
      · (exact absurd H (by simp))
    · (exact absurd H (by simp))
  · rw [if_neg c4] at H
    have c4b0 : decide (0 ≤ t670) = false := decide_eq_false c4
    clear c4
    obtain rfl := Option.some.inj H
    go_enter Try.func123, Try.ntmps123
    go_wp2_with (first | ((with_reducible refine gate_dst (N := 2) rfl ?_); refine box_event ?hg (N := 2) ?hd (cs := #[.slice A0_0 l0_0.length c0_0, .slice A0_1 l0_1.length c0_1, .int .i64 a0_2, .int .i64 a0_3]) (t := 107) ?hr ?_; (case hd => rfl); (case hg => rfl); (case hr => exact kq11); intro gb669 hg w9 hbox hb; have BK669 := mk (hbox); have GW669 := (gs_ hg kq9); have GE669 := GW669; replace HB := mk (below_step kq9 hb); clear hb hbox hg; obtain ⟨_, _, _, _, _, _, _, _⟩ := cz4_ BK669.out) | ((with_reducible refine gate_callee (f := 27) rfl ?_); refine goesL_ (some 9) rfl rfl Try.func27 kq0 rfl #[.slice A0_0 l0_0.length c0_0, .string a1] rfl kq7 ?_; (with_reducible refine (glyph_Index.calls k _ _ l0_0 a1 t670 _ ?side1 ?side2 A3.out).mono ?_); (case side1 => exact kq13 HR0_0); (case side2 => exact HC0_0.out); rintro e w' ⟨rfl, ⟨nd, rfl⟩⟩; refine ⟨_, rfl, ?_⟩))
    go_ret
    exact ⟨kq12, (kq10 GE669)⟩
def chk_Sub.f (a0 : Int) (a1 : Int) : Option (Int × Int) := if ((decide (a0 ≥ 0)) != (decide (a1 ≥ 0))) = true then (if ((decide ((wrap64 (a0 - a1)) ≥ 0)) != (decide (a0 ≥ 0))) = true then (some (0, 10)) else (some (wrap64 (a0 - a1), 0))) else (some (wrap64 (a0 - a1), 0))
set_option maxHeartbeats 8000000 in
set_option maxRecDepth 100000 in
theorem chk_Sub.calls (a0 : Int) (a1 : Int) (r1 : Int) (r2 : Int) (w : World) (h : chk_Sub.f a0 a1 = some (r1, r2)) :
    Calls Try.prog 83 #[.int .i64 a0, .int .i64 a1] w fun e w' => e = .returned (.tuple #[.int .i64 r1, .int .i64 r2]) ∧ Drawn0 w w' := by
  have H : (if ((decide (a0 ≥ 0)) != (decide (a1 ≥ 0))) = true then (if ((decide ((wrap64 (a0 - a1)) ≥ 0)) != (decide (a0 ≥ 0))) = true then (some (0, 10)) else (some (wrap64 (a0 - a1), 0))) else (some (wrap64 (a0 - a1), 0))) = some (r1, r2) := h
  clear h
  by_cases c3 : ((decide (a0 ≥ 0)) != (decide (a1 ≥ 0))) = true
  · rw [if_pos c3] at H
    have c3b0 : ((decide (a0 ≥ 0)) != (decide (a1 ≥ 0))) = true := c3
    (try (have c3b1 : decide ((decide (a0 ≥ 0)) = (decide (a1 ≥ 0))) = false := by simpa using c3))
    (try (have c3b2 : ((decide (a0 ≥ 0)) == (decide (a1 ≥ 0))) = false := by simpa using c3))
    (try (have c3b3 : ¬ ((decide (a0 ≥ 0)) = (decide (a1 ≥ 0))) := by simpa using c3))
    clear c3
    replace H := ic_ H; obtain ⟨c4, H⟩ | ⟨c4, H⟩ := H
    · (have c4b0 : ((decide ((wrap64 (a0 - a1)) ≥ 0)) != (decide (a0 ≥ 0))) = true := c4); ((try (have c4b1 : decide ((decide ((wrap64 (a0 - a1)) ≥ 0)) = (decide (a0 ≥ 0))) = false := by simpa using c4))); ((try (have c4b2 : ((decide ((wrap64 (a0 - a1)) ≥ 0)) == (decide (a0 ≥ 0))) = false := by simpa using c4))); ((try (have c4b3 : ¬ ((decide ((wrap64 (a0 - a1)) ≥ 0)) = (decide (a0 ≥ 0))) := by simpa using c4))); clear c4; (simp only [Option.some.injEq, Prod.mk.injEq] at H); (obtain ⟨rfl, rfl⟩ := H); (go_enter Try.func83, Try.ntmps83); go_wp2; go_ret2; (exact ⟨kq3, kq5⟩)
    · (have c4b0 : ((decide ((wrap64 (a0 - a1)) ≥ 0)) != (decide (a0 ≥ 0))) = false := by simpa using c4); ((try (have c4b1 : decide ((decide ((wrap64 (a0 - a1)) ≥ 0)) = (decide (a0 ≥ 0))) = true := by simpa using c4))); ((try (have c4b2 : ((decide ((wrap64 (a0 - a1)) ≥ 0)) == (decide (a0 ≥ 0))) = true := by simpa using c4))); clear c4; (simp only [Option.some.injEq, Prod.mk.injEq] at H); (obtain ⟨rfl, rfl⟩ := H); (go_enter Try.func83, Try.ntmps83); go_wp2; go_ret2; (exact ⟨kq3, kq5⟩)
  · rw [if_neg c3] at H
    have c3b0 : ((decide (a0 ≥ 0)) != (decide (a1 ≥ 0))) = false := by simpa using c3
    (try (have c3b1 : decide ((decide (a0 ≥ 0)) = (decide (a1 ≥ 0))) = true := by simpa using c3))
    (try (have c3b2 : ((decide (a0 ≥ 0)) == (decide (a1 ≥ 0))) = true := by simpa using c3))
    clear c3
    simp only [Option.some.injEq, Prod.mk.injEq] at H
    obtain ⟨rfl, rfl⟩ := H
    go_enter Try.func83, Try.ntmps83
    go_wp2
    go_ret2
    exact ⟨kq3, kq5⟩
def chk_Add.f (a0 : Int) (a1 : Int) : Option (Int × Int) := if ((decide (a0 ≥ 0)) == (decide (a1 ≥ 0))) = true then (if ((decide ((wrap64 (a0 + a1)) ≥ 0)) != (decide (a0 ≥ 0))) = true then (some (0, 10)) else (some (wrap64 (a0 + a1), 0))) else (some (wrap64 (a0 + a1), 0))
set_option maxHeartbeats 8000000 in
set_option maxRecDepth 100000 in
theorem chk_Add.calls (a0 : Int) (a1 : Int) (r1 : Int) (r2 : Int) (w : World) (h : chk_Add.f a0 a1 = some (r1, r2)) :
    Calls Try.prog 121 #[.int .i64 a0, .int .i64 a1] w fun e w' => e = .returned (.tuple #[.int .i64 r1, .int .i64 r2]) ∧ Drawn0 w w' := by
  have H : (if ((decide (a0 ≥ 0)) == (decide (a1 ≥ 0))) = true then (if ((decide ((wrap64 (a0 + a1)) ≥ 0)) != (decide (a0 ≥ 0))) = true then (some (0, 10)) else (some (wrap64 (a0 + a1), 0))) else (some (wrap64 (a0 + a1), 0))) = some (r1, r2) := h
  clear h
  by_cases c3 : ((decide (a0 ≥ 0)) == (decide (a1 ≥ 0))) = true
  · rw [if_pos c3] at H
    have c3b0 : ((decide (a0 ≥ 0)) == (decide (a1 ≥ 0))) = true := c3
    (try (have c3b1 : decide ((decide (a0 ≥ 0)) = (decide (a1 ≥ 0))) = true := by simpa using c3))
    (try (have c3b2 : ((decide (a0 ≥ 0)) == (decide (a1 ≥ 0))) = true := by simpa using c3))
    clear c3
    replace H := ic_ H; obtain ⟨c4, H⟩ | ⟨c4, H⟩ := H
    · (have c4b0 : ((decide ((wrap64 (a0 + a1)) ≥ 0)) != (decide (a0 ≥ 0))) = true := c4); ((try (have c4b1 : decide ((decide ((wrap64 (a0 + a1)) ≥ 0)) = (decide (a0 ≥ 0))) = false := by simpa using c4))); ((try (have c4b2 : ((decide ((wrap64 (a0 + a1)) ≥ 0)) == (decide (a0 ≥ 0))) = false := by simpa using c4))); ((try (have c4b3 : ¬ ((decide ((wrap64 (a0 + a1)) ≥ 0)) = (decide (a0 ≥ 0))) := by simpa using c4))); clear c4; (simp only [Option.some.injEq, Prod.mk.injEq] at H); (obtain ⟨rfl, rfl⟩ := H); (go_enter Try.func121, Try.ntmps121); go_wp2; go_ret2; (exact ⟨kq3, kq5⟩)
    · (have c4b0 : ((decide ((wrap64 (a0 + a1)) ≥ 0)) != (decide (a0 ≥ 0))) = false := by simpa using c4); ((try (have c4b1 : decide ((decide ((wrap64 (a0 + a1)) ≥ 0)) = (decide (a0 ≥ 0))) = true := by simpa using c4))); ((try (have c4b2 : ((decide ((wrap64 (a0 + a1)) ≥ 0)) == (decide (a0 ≥ 0))) = true := by simpa using c4))); clear c4; (simp only [Option.some.injEq, Prod.mk.injEq] at H); (obtain ⟨rfl, rfl⟩ := H); (go_enter Try.func121, Try.ntmps121); go_wp2; go_ret2; (exact ⟨kq3, kq5⟩)
  · rw [if_neg c3] at H
    have c3b0 : ((decide (a0 ≥ 0)) == (decide (a1 ≥ 0))) = false := by simpa using c3
    (try (have c3b1 : decide ((decide (a0 ≥ 0)) = (decide (a1 ≥ 0))) = false := by simpa using c3))
    (try (have c3b2 : ((decide (a0 ≥ 0)) == (decide (a1 ≥ 0))) = false := by simpa using c3))
    (try (have c3b3 : ¬ ((decide (a0 ≥ 0)) = (decide (a1 ≥ 0))) := by simpa using c3))
    clear c3
    simp only [Option.some.injEq, Prod.mk.injEq] at H
    obtain ⟨rfl, rfl⟩ := H
    go_enter Try.func121, Try.ntmps121
    go_wp2
    go_ret2
    exact ⟨kq3, kq5⟩
end Go.Proofs.Ytjknpmibdkoklaa.Q
namespace Go.Proofs.Ytjknpmibdkoklaa.Q
open Go.RowKit Go.Proofs.YtjknpmibdkoklaaW.PrintWords Go.Proofs.YtjknpmibdkoklaaW.PrintLast Go.Proofs.YtjknpmibdkoklaaW.PrintMore
open Aside0 (mk)
open List (setIfInBounds_toArray set_cons_zero set_cons_succ)
attribute [local go_sem] max2_int min2_int max_two min_two max_three min_three max_four min_four
set_option linter.unusedVariables false
set_option linter.unusedSimpArgs false
attribute [local go_sem] fld99_2 fld103_2 fld160_0 fld160_1
mutual
def chk_Mul.j0 : Nat → Int → Int → Bool → Option (Int × Int)
  | 0, _, _, _ => none
  | k + 1, x0, x1, x12 => if x12 = true then (some (0, 0)) else (if x0 = (-1) then (if x1 = (-9223372036854775808) then (chk_Mul.j1 k x0 x1 true) else (if x1 = (-1) then (chk_Mul.j1 k x0 x1 (x0 == (-9223372036854775808))) else (chk_Mul.j1 k x0 x1 false))) else (if x1 = (-1) then (chk_Mul.j1 k x0 x1 (x0 == (-9223372036854775808))) else (chk_Mul.j1 k x0 x1 false)))
def chk_Mul.j1 : Nat → Int → Int → Bool → Option (Int × Int)
  | 0, _, _, _ => none
  | k + 1, x0, x1, x26 => if x26 = true then (some (0, 10)) else (if x1 = 0 then (none) else (if (wrap64 (Int.tdiv (wrap64 (x0 * x1)) x1)) = x0 then (some (wrap64 (x0 * x1), 0)) else (some (0, 10))))
end
def chk_Mul.f (k : Nat) (a0 : Int) (a1 : Int) : Option (Int × Int) := if a0 = 0 then (chk_Mul.j0 k a0 a1 true) else (chk_Mul.j0 k a0 a1 (a1 == 0))
theorem chk_Mul.mono_l : ∀ k, (∀ y0 y1 y2, LeO (chk_Mul.j0 k y0 y1 y2) (chk_Mul.j0 (k + 1) y0 y1 y2)) ∧ (∀ y0 y1 y2, LeO (chk_Mul.j1 k y0 y1 y2) (chk_Mul.j1 (k + 1) y0 y1 y2))
  | 0 => ⟨fun _ _ _ r h => by simp [chk_Mul.j0] at h, fun _ _ _ r h => by simp [chk_Mul.j1] at h⟩
  | k + 1 => by
    obtain ⟨ih0, ih1⟩ := chk_Mul.mono_l k
    refine ⟨?_, ?_⟩ <;> intros <;> (first | unfold chk_Mul.j0 | unfold chk_Mul.j1) <;> repeat' first | (with_reducible first | exact ih0 _ _ _ | exact ih1 _ _ _ | exact LeO.refl _ | exact LeO.none _ | refine LeO.ite ?_ ?_ | refine LeO.bind ?_ (fun _ => ?_)) | exact ih0 _ _ _ | exact ih1 _ _ _ | exact LeO.none _ | refine LeO.ite ?_ ?_ | refine LeO.bind ?_ (fun _ => ?_)
theorem chk_Mul.mono : ∀ a0 a1 k, LeO (chk_Mul.f k a0 a1) (chk_Mul.f (k + 1) a0 a1) := by
  intro a0 a1 k
  obtain ⟨ih0, ih1⟩ := chk_Mul.mono_l k
  unfold chk_Mul.f
  repeat' first
      | (with_reducible exact ih0 _ _ _)
      | (with_reducible exact ih1 _ _ _)
      | (with_reducible exact LeO.refl _)
      | (with_reducible exact LeO.none _)
      | (with_reducible refine LeO.ite ?_ ?_)
      | (with_reducible refine LeO.bind ?_ (fun _ => ?_))
      | exact ih0 _ _ _
      | exact ih1 _ _ _
      | exact LeO.none _
      | refine LeO.ite ?_ ?_
      | refine LeO.bind ?_ (fun _ => ?_)
set_option maxHeartbeats 8000000 in
set_option maxRecDepth 100000 in
theorem chk_Mul.calls (k : Nat) (a0 : Int) (a1 : Int) (r1 : Int) (r2 : Int) (w : World) (h : chk_Mul.f k a0 a1 = some (r1, r2)) :
    Calls Try.prog 187 #[.int .i64 a0, .int .i64 a1] w fun e w' => e = .returned (.tuple #[.int .i64 r1, .int .i64 r2]) ∧ Drawn0 w w' := by
  have H : (if a0 = 0 then (chk_Mul.j0 k a0 a1 true) else (chk_Mul.j0 k a0 a1 (a1 == 0))) = some (r1, r2) := h
  clear h
  have HC3 := mk H
  clear H
  go_enter Try.func187, Try.ntmps187
  go_upto_region 1 with (fail)
  go_cut [12] (fun v12 wc => ∃ (kq : Nat) (x12_2 : Bool), v12 = .bool x12_2 ∧ Aside0 (chk_Mul.j0 kq a0 a1 x12_2 = some (r1, r2)) ∧ Aside0 (kq ≤ k) ∧ Drawn0 w wc)
  case first =>
    have H := HC3.out
    clear HC3
    replace H := ic_ H; obtain ⟨c4, H⟩ | ⟨c4, H⟩ := H
    · (obtain ⟨c4b0, c4b1⟩ := eTn_ c4); clear c4; ((first | rw [c4b0] | (simp only [i64_w, i32_w]; rw [c4b0]) | skip)); (have H' := mk H); clear H; go_wp2; (go_meet)
      case rel => exact ⟨_, (true), kq3, H', ⟨kq4⟩, kq5⟩
    · (obtain ⟨c4b0, c4b1⟩ := eFn_ c4); ((first | rw [c4b0] | (simp only [i64_w, i32_w]; rw [c4b0]) | skip)); (have H' := mk H); clear H; go_wp2; (go_meet)
      case rel => exact ⟨_, ((a1 == 0)), kq3, H', ⟨kq4⟩, kq5⟩
  case rest =>
    clear HC3
    obtain ⟨kq, x12_2, rfl, HA, HJ2, ⟨mc2, rfl⟩⟩ := hcut
    cases kq with
    | zero => exact absurd HA.out (by simp [chk_Mul.j0])
    | succ kj2 =>
      (have H := HA.out); clear HA; (simp only [chk_Mul.j0] at H); (by_cases c5 : x12_2 = true)
      · subst c5; (have H1 : (some (0, 0)) = some (r1, r2) := by rw [if_pos rfl] at H; exact H); clear H; (have H := H1); clear H1; (simp only [Option.some.injEq, Prod.mk.injEq] at H); (obtain ⟨rfl, rfl⟩ := H); go_wp2; go_ret2; (exact ⟨kq3, kq5⟩)
      · (replace c5 := Bool.eq_false_iff.mpr c5); subst c5; (have H1 : (if a0 = (-1) then (if a1 = (-9223372036854775808) then (chk_Mul.j1 kj2 a0 a1 true) else (if a1 = (-1) then (chk_Mul.j1 kj2 a0 a1 (a0 == (-9223372036854775808))) else (chk_Mul.j1 kj2 a0 a1 false))) else (if a1 = (-1) then (chk_Mul.j1 kj2 a0 a1 (a0 == (-9223372036854775808))) else (chk_Mul.j1 kj2 a0 a1 false))) = some (r1, r2) := by rw [if_neg (show ¬ (false = true) by decide)] at H; exact H); clear H; (have H := H1); clear H1; (have HC6 := mk H); clear H; (go_upto_region 3 with (fail)); (go_cut [26] (fun v26 wc => ∃ (kq : Nat) (x26_5 : Bool), v26 = .bool x26_5 ∧ Aside0 (chk_Mul.j1 kq a0 a1 x26_5 = some (r1, r2)) ∧ Aside0 (kq ≤ kj2) ∧ Drawn0 w wc))
        case first =>
          (have H := HC6.out); clear HC6; replace H := ic_ H; obtain ⟨c7, H⟩ | ⟨c7, H⟩ := H
          · (obtain ⟨c7b0, c7b1⟩ := eTn_ c7); clear c7; ((first | rw [c7b0] | (simp only [i64_w, i32_w]; rw [c7b0]) | skip)); replace H := ic_ H; obtain ⟨c8, H⟩ | ⟨c8, H⟩ := H
            · (obtain ⟨c8b0, c8b1⟩ := eTn_ c8); clear c8; (have H' := mk H); clear H; go_wp2; (go_meet)
              case rel => exact ⟨_, (true), kq3, H', ⟨kq15⟩, kq5⟩
            · (obtain ⟨c8b0, c8b1⟩ := eFn_ c8); replace H := ic_ H; obtain ⟨c9, H⟩ | ⟨c9, H⟩ := H
              · (obtain ⟨c9b0, c9b1⟩ := eTn_ c9); clear c9; (have H' := mk H); clear H; go_wp2; (go_meet)
                case rel => exact ⟨_, ((a0 == (-9223372036854775808))), kq3, H', ⟨kq15⟩, kq5⟩
              · (obtain ⟨c9b0, c9b1⟩ := eFn_ c9); (have H' := mk H); clear H; go_wp2; (go_meet)
                case rel => exact ⟨_, (false), kq3, H', ⟨kq15⟩, kq5⟩
          · (obtain ⟨c7b0, c7b1⟩ := eFn_ c7); ((first | rw [c7b0] | (simp only [i64_w, i32_w]; rw [c7b0]) | skip)); replace H := ic_ H; obtain ⟨c10, H⟩ | ⟨c10, H⟩ := H
            · (obtain ⟨c10b0, c10b1⟩ := eTn_ c10); clear c10; (have H' := mk H); clear H; go_wp2; (go_meet)
              case rel => exact ⟨_, ((a0 == (-9223372036854775808))), kq3, H', ⟨kq15⟩, kq5⟩
            · (obtain ⟨c10b0, c10b1⟩ := eFn_ c10); (have H' := mk H); clear H; go_wp2; (go_meet)
              case rel => exact ⟨_, (false), kq3, H', ⟨kq15⟩, kq5⟩
        case rest =>
          clear HC6; (obtain ⟨kq, x26_5, rfl, HA, HJ5, ⟨mc5, rfl⟩⟩ := hcut)
          cases kq with
          | zero => exact absurd HA.out (by simp [chk_Mul.j1])
          | succ kj5 =>
            (have H := HA.out); clear HA; (simp only [chk_Mul.j1] at H); (by_cases c11 : x26_5 = true)
            · subst c11; (have H1 : (some (0, 10)) = some (r1, r2) := by rw [if_pos rfl] at H; exact H); clear H; (have H := H1); clear H1; (simp only [Option.some.injEq, Prod.mk.injEq] at H); (obtain ⟨rfl, rfl⟩ := H); go_wp2; go_ret2; (exact ⟨kq3, kq5⟩)
            · (replace c11 := Bool.eq_false_iff.mpr c11); subst c11; (have H1 : (if a1 = 0 then (none) else (if (wrap64 (Int.tdiv (wrap64 (a0 * a1)) a1)) = a0 then (some (wrap64 (a0 * a1), 0)) else (some (0, 10)))) = some (r1, r2) := by rw [if_neg (show ¬ (false = true) by decide)] at H; exact H); clear H; (have H := H1); clear H1; replace H := ic_ H; obtain ⟨c12, H⟩ | ⟨c12, H⟩ := H
              · (exact absurd H (by simp))
              · (obtain ⟨c12b0, c12b1⟩ := eFn_ c12); replace H := ic_ H; obtain ⟨c13, H⟩ | ⟨c13, H⟩ := H
                · (obtain ⟨c13b0, c13b1⟩ := eTn_ c13); clear c13; (simp only [Option.some.injEq, Prod.mk.injEq] at H); (obtain ⟨rfl, rfl⟩ := H); go_wp2; go_ret2; (exact ⟨kq3, kq5⟩)
                · (obtain ⟨c13b0, c13b1⟩ := eFn_ c13); (simp only [Option.some.injEq, Prod.mk.injEq] at H); (obtain ⟨rfl, rfl⟩ := H); go_wp2; go_ret2; (exact ⟨kq3, kq5⟩)
end Go.Proofs.Ytjknpmibdkoklaa.Q
namespace Go.Proofs.Ytjknpmibdkoklaa.Q
open Go.RowKit Go.Proofs.YtjknpmibdkoklaaW.PrintWords Go.Proofs.YtjknpmibdkoklaaW.PrintLast Go.Proofs.YtjknpmibdkoklaaW.PrintMore
open Aside0 (mk)
open List (setIfInBounds_toArray set_cons_zero set_cons_succ)
attribute [local go_sem] max2_int min2_int max_two min_two max_three min_three max_four min_four
set_option linter.unusedVariables false
set_option linter.unusedSimpArgs false
attribute [local go_sem] fld99_2 fld103_2 fld160_0 fld160_1
def chk_Neg.f (a0 : Int) : Option (Int × Int) := (chk_Sub.f 0 a0).bind fun bt760 => (some (bt760.1, bt760.2))
set_option maxHeartbeats 8000000 in
set_option maxRecDepth 100000 in
theorem chk_Neg.calls (a0 : Int) (r1 : Int) (r2 : Int) (w : World) (h : chk_Neg.f a0 = some (r1, r2)) :
    Calls Try.prog 85 #[.int .i64 a0] w fun e w' => e = .returned (.tuple #[.int .i64 r1, .int .i64 r2]) ∧ Drawn0 w w' := by
  have H : ((chk_Sub.f 0 a0).bind fun bt760 => (some (bt760.1, bt760.2))) = some (r1, r2) := h
  clear h
  replace H := Option.bind_eq_some_iff.mp H
  obtain ⟨⟨t760, t761⟩, A20, H⟩ := H
  replace H : (some (t760, t761)) = some (r1, r2) := H
  have A2 := mk A20
  clear A20
  simp only [Option.some.injEq, Prod.mk.injEq] at H
  obtain ⟨rfl, rfl⟩ := H
  go_enter Try.func85, Try.ntmps85
  go_wp2_with (first | ((with_reducible refine gate_callee (f := 83) rfl ?_); refine goesL_ (some 5) rfl rfl Try.func83 kq0 rfl #[.int .i64 0, .int .i64 a0] rfl kq7 ?_; (with_reducible refine (chk_Sub.calls 0 a0 t760 t761 _ A2.out).mono ?_); rintro e w' ⟨rfl, ⟨nd, rfl⟩⟩; refine ⟨_, rfl, ?_⟩))
  go_ret2
  exact ⟨kq3, kq5⟩
def chk_Rest.f (a0 : Int) (a1 : Int) : Option (Int × Int) := if a1 < 1 then (some (0, 2)) else (if a1 = 0 then (none) else (if (Int.tmod a0 a1) < 0 then (some (wrap64 ((Int.tmod a0 a1) + a1), 0)) else (some (Int.tmod a0 a1, 0))))
set_option maxHeartbeats 8000000 in
set_option maxRecDepth 100000 in
theorem chk_Rest.calls (a0 : Int) (a1 : Int) (r1 : Int) (r2 : Int) (w : World) (h : chk_Rest.f a0 a1 = some (r1, r2)) :
    Calls Try.prog 124 #[.int .i64 a0, .int .i64 a1] w fun e w' => e = .returned (.tuple #[.int .i64 r1, .int .i64 r2]) ∧ Drawn0 w w' := by
  have H : (if a1 < 1 then (some (0, 2)) else (if a1 = 0 then (none) else (if (Int.tmod a0 a1) < 0 then (some (wrap64 ((Int.tmod a0 a1) + a1), 0)) else (some (Int.tmod a0 a1, 0))))) = some (r1, r2) := h
  clear h
  by_cases c3 : a1 < 1
  · rw [if_pos c3] at H
    have c3b0 : decide (a1 < 1) = true := decide_eq_true c3
    clear c3
    simp only [Option.some.injEq, Prod.mk.injEq] at H
    obtain ⟨rfl, rfl⟩ := H
    go_enter Try.func124, Try.ntmps124
    go_wp2
    go_ret2
    exact ⟨kq3, kq5⟩
  · rw [if_neg c3] at H
    have c3b0 : decide (a1 < 1) = false := decide_eq_false c3
    clear c3
    replace H := ic_ H; obtain ⟨c4, H⟩ | ⟨c4, H⟩ := H
    · (exact absurd H (by simp))
    · (obtain ⟨c4b0, c4b1⟩ := eFn_ c4); replace H := ic_ H; obtain ⟨c5, H⟩ | ⟨c5, H⟩ := H
      · (have c5b0 : decide ((Int.tmod a0 a1) < 0) = true := decide_eq_true c5); clear c5; (simp only [Option.some.injEq, Prod.mk.injEq] at H); (obtain ⟨rfl, rfl⟩ := H); (go_enter Try.func124, Try.ntmps124); go_wp2; go_ret2; (exact ⟨kq3, kq5⟩)
      · (have c5b0 : decide ((Int.tmod a0 a1) < 0) = false := decide_eq_false c5); clear c5; (simp only [Option.some.injEq, Prod.mk.injEq] at H); (obtain ⟨rfl, rfl⟩ := H); (go_enter Try.func124, Try.ntmps124); go_wp2; go_ret2; (exact ⟨kq3, kq5⟩)
def chk_Abs.f (a0 : Int) : Option (Int × Int) := if a0 < 0 then ((chk_Neg.f a0).bind fun bt765 => (some (bt765.1, bt765.2))) else (some (a0, 0))
set_option maxHeartbeats 8000000 in
set_option maxRecDepth 100000 in
theorem chk_Abs.calls (a0 : Int) (r1 : Int) (r2 : Int) (w : World) (h : chk_Abs.f a0 = some (r1, r2)) :
    Calls Try.prog 125 #[.int .i64 a0] w fun e w' => e = .returned (.tuple #[.int .i64 r1, .int .i64 r2]) ∧ Drawn0 w w' := by
  have H : (if a0 < 0 then ((chk_Neg.f a0).bind fun bt765 => (some (bt765.1, bt765.2))) else (some (a0, 0))) = some (r1, r2) := h
  clear h
  by_cases c2 : a0 < 0
  · rw [if_pos c2] at H
    have c2b0 : decide (a0 < 0) = true := decide_eq_true c2
    clear c2
    replace H := Option.bind_eq_some_iff.mp H
    obtain ⟨⟨t765, t766⟩, A30, H⟩ := H
    replace H : (some (t765, t766)) = some (r1, r2) := H
    have A3 := mk A30
    clear A30
    simp only [Option.some.injEq, Prod.mk.injEq] at H
    obtain ⟨rfl, rfl⟩ := H
    go_enter Try.func125, Try.ntmps125
    go_wp2_with (first | ((with_reducible refine gate_callee (f := 85) rfl ?_); refine goesL_ (some 7) rfl rfl Try.func85 kq0 rfl #[.int .i64 a0] rfl kq7 ?_; (with_reducible refine (chk_Neg.calls a0 t765 t766 _ A3.out).mono ?_); rintro e w' ⟨rfl, ⟨nd, rfl⟩⟩; refine ⟨_, rfl, ?_⟩))
    go_ret2
    exact ⟨kq3, kq5⟩
  · rw [if_neg c2] at H
    have c2b0 : decide (a0 < 0) = false := decide_eq_false c2
    clear c2
    simp only [Option.some.injEq, Prod.mk.injEq] at H
    obtain ⟨rfl, rfl⟩ := H
    go_enter Try.func125, Try.ntmps125
    go_wp2
    go_ret2
    exact ⟨kq3, kq5⟩
def chk_Total.l0 : Nat → Int → List Int → Int → Int → Option (Int × Int)
  | 0, _, _, _, _ => none
  | k + 1, x4, x9, x10, x11 => if x11 < x10 then (if 0 ≤ x11 then (if x11 < (x9.length : Int) then ((chk_Abs.f (rd x9 x11)).bind fun bt768 => (if bt768.2 = 0 then ((chk_Add.f x4 bt768.1).bind fun bt770 => (if bt770.2 = 0 then (chk_Total.l0 k bt770.1 x9 x10 (wrap64 (x11 + 1))) else (some (0, bt770.2)))) else (some (0, bt768.2)))) else (none)) else (none)) else (some (x4, 0))
def chk_Total.f (k : Nat) (l0 : List Int) : Option (Int × Int) := chk_Total.l0 k 0 l0 (l0.length : Int) 0
theorem chk_Total.mono_l : ∀ k, (∀ y0 y1 y2 y3, LeO (chk_Total.l0 k y0 y1 y2 y3) (chk_Total.l0 (k + 1) y0 y1 y2 y3))
  | 0 => fun _ _ _ _ r h => by simp [chk_Total.l0] at h
  | k + 1 => by
    have ih0 := chk_Total.mono_l k
    · intro y0 y1 y2 y3; (unfold chk_Total.l0)
      repeat' first
      | (with_reducible exact ih0 _ _ _ _)
      | (with_reducible exact LeO.refl _)
      | (with_reducible exact LeO.none _)
      | (with_reducible refine LeO.ite ?_ ?_)
      | (with_reducible refine LeO.bind ?_ (fun _ => ?_))
      | exact ih0 _ _ _ _
      | exact LeO.none _
      | refine LeO.ite ?_ ?_
      | refine LeO.bind ?_ (fun _ => ?_)
theorem chk_Total.mono : ∀ a0 k, LeO (chk_Total.f k a0) (chk_Total.f (k + 1) a0) := by
  intro a0 k
  have ih0 := chk_Total.mono_l k
  unfold chk_Total.f
  repeat' first
      | (with_reducible exact ih0 _ _ _ _)
      | (with_reducible exact LeO.refl _)
      | (with_reducible exact LeO.none _)
      | (with_reducible refine LeO.ite ?_ ?_)
      | (with_reducible refine LeO.bind ?_ (fun _ => ?_))
      | exact ih0 _ _ _ _
      | exact LeO.none _
      | refine LeO.ite ?_ ?_
      | refine LeO.bind ?_ (fun _ => ?_)
set_option maxHeartbeats 8000000 in
set_option maxRecDepth 100000 in
theorem chk_Total.calls (k : Nat) (A0 : Option Addr) (c0 : Nat) (l0 : List Int) (r1 : Int) (r2 : Int) (w : World) (hr0 : Kd.C (Kd.int .i64) w A0 l0.length l0) (hc0 : l0.length ≤ c0) (h : chk_Total.f k l0 = some (r1, r2)) :
    Calls Try.prog 87 #[.slice A0 l0.length c0] w fun e w' => e = .returned (.tuple #[.int .i64 r1, .int .i64 r2]) ∧ Drawn0 w w' := by
  have HR0 := mk hr0
  have HC0 := mk hc0
  clear hr0 hc0
  have H : (chk_Total.l0 k 0 l0 (l0.length : Int) 0) = some (r1, r2) := h
  clear h
  have H' := mk H
  clear H
  go_enter Try.func87, Try.ntmps87
  go_wp2
  go_loopg [4, 11] k (fun kq v4 v11 w' => ∃ (x4_1 : Int) (x11_1 : Int), v4 = .int .i64 x4_1 ∧ v11 = .int .i64 x11_1 ∧ Aside0 (chk_Total.l0 kq x4_1 l0 (l0.length : Int) x11_1 = some (r1, r2)) ∧ Aside0 (kq ≤ k) ∧ Drawn0 w w')
  case atStart => exact ⟨(0), (0), kq3, kq3, H', ⟨Nat.le_refl _⟩, kq5⟩
  case round =>
    clear H'
    obtain ⟨x4_1, x11_1, rfl, rfl, HA, HK1, ⟨m1, rfl⟩⟩ := hrel
    cases gk with
    | zero => exact absurd HA.out (by simp [chk_Total.l0])
    | succ k1 =>
      (have H := HA.out); clear HA; (simp only [chk_Total.l0] at H); replace H := ic_ H; obtain ⟨c2, H⟩ | ⟨c2, H⟩ := H
      · (have c2b0 := decide_eq_true c2); clear c2; replace H := ic_ H; obtain ⟨c3, H⟩ | ⟨c3, H⟩ := H
        · (have c3b0 : decide (0 ≤ x11_1) = true := decide_eq_true c3); clear c3; replace H := ic_ H; obtain ⟨c4, H⟩ | ⟨c4, H⟩ := H
          · (have c4b0 : decide (x11_1 < (l0.length : Int)) = true := decide_eq_true c4); clear c4; (replace H := Option.bind_eq_some_iff.mp H); (obtain ⟨⟨t768, t769⟩, A50, H⟩ := H); (replace H : (if t769 = 0 then ((chk_Add.f x4_1 t768).bind fun bt770 => (if bt770.2 = 0 then (chk_Total.l0 k1 bt770.1 l0 (l0.length : Int) (wrap64 (x11_1 + 1))) else (some (0, bt770.2)))) else (some (0, t769))) = some (r1, r2) := H); (have A5 := mk A50); clear A50; replace H := ic_ H; obtain ⟨c6, H⟩ | ⟨c6, H⟩ := H
            · (obtain ⟨c6b0, c6b1⟩ := eTn_ c6); clear c6; (replace H := Option.bind_eq_some_iff.mp H); (obtain ⟨⟨t770, t771⟩, A70, H⟩ := H); (replace H : (if t771 = 0 then (chk_Total.l0 k1 t770 l0 (l0.length : Int) (wrap64 (x11_1 + 1))) else (some (0, t771))) = some (r1, r2) := H); (have A7 := mk A70); clear A70; replace H := ic_ H; obtain ⟨c8, H⟩ | ⟨c8, H⟩ := H
              · (obtain ⟨c8b0, c8b1⟩ := eTn_ c8); clear c8; (have H' := mk H); clear H; (have p767 : 0 ≤ (x11_1 : Int) := of_decide_eq_true kq8); (have q767 : x11_1 < (l0.length : Int) := of_decide_eq_true kq8); (obtain ⟨ad767, e767, hx767_0⟩ := Kd.at_int HR0.out x11_1 p767 q767); cases e767; replace p767 := eq_true p767; replace q767 := eq_true q767; (go_wp2_with (first | ((with_reducible refine gate_callee (f := 125) rfl ?_); refine goesL_ (some 17) rfl rfl Try.func125 kq0 rfl #[.int .i64 (rd l0 x11_1)] rfl kq7 ?_; (with_reducible refine (chk_Abs.calls (rd l0 x11_1) t768 t769 _ A5.out).mono ?_); rintro e w' ⟨rfl, ⟨nd, rfl⟩⟩; refine ⟨_, rfl, ?_⟩) | ((with_reducible refine gate_callee (f := 121) rfl ?_); refine goesL_ (some 26) rfl rfl Try.func121 kq0 rfl #[.int .i64 x4_1, .int .i64 t768] rfl kq7 ?_; (with_reducible refine (chk_Add.calls x4_1 t768 t770 t771 _ A7.out).mono ?_); rintro e w' ⟨rfl, ⟨nd, rfl⟩⟩; refine ⟨_, rfl, ?_⟩))); (go_roundg k1)
                case measure => have := HK1.out; omega
                case rel => exact ⟨(t770), (wrap64 (x11_1 + 1)), kq3, kq3, H', ⟨by have := HK1.out; omega⟩, kq5⟩
              · (obtain ⟨c8b0, c8b1⟩ := eFn_ c8); (simp only [Option.some.injEq, Prod.mk.injEq] at H); (obtain ⟨rfl, rfl⟩ := H); (have p767 : 0 ≤ (x11_1 : Int) := of_decide_eq_true kq8); (have q767 : x11_1 < (l0.length : Int) := of_decide_eq_true kq8); (obtain ⟨ad767, e767, hx767_0⟩ := Kd.at_int HR0.out x11_1 p767 q767); cases e767; replace p767 := eq_true p767; replace q767 := eq_true q767; (go_wp2_with (first | ((with_reducible refine gate_callee (f := 125) rfl ?_); refine goesL_ (some 17) rfl rfl Try.func125 kq0 rfl #[.int .i64 (rd l0 x11_1)] rfl kq7 ?_; (with_reducible refine (chk_Abs.calls (rd l0 x11_1) t768 t769 _ A5.out).mono ?_); rintro e w' ⟨rfl, ⟨nd, rfl⟩⟩; refine ⟨_, rfl, ?_⟩) | ((with_reducible refine gate_callee (f := 121) rfl ?_); refine goesL_ (some 26) rfl rfl Try.func121 kq0 rfl #[.int .i64 x4_1, .int .i64 t768] rfl kq7 ?_; (with_reducible refine (chk_Add.calls x4_1 t768 t770 t771 _ A7.out).mono ?_); rintro e w' ⟨rfl, ⟨nd, rfl⟩⟩; refine ⟨_, rfl, ?_⟩))); go_ret2; (exact ⟨kq3, kq5⟩)
            · (obtain ⟨c6b0, c6b1⟩ := eFn_ c6); (simp only [Option.some.injEq, Prod.mk.injEq] at H); (obtain ⟨rfl, rfl⟩ := H); (have p767 : 0 ≤ (x11_1 : Int) := of_decide_eq_true kq8); (have q767 : x11_1 < (l0.length : Int) := of_decide_eq_true kq8); (obtain ⟨ad767, e767, hx767_0⟩ := Kd.at_int HR0.out x11_1 p767 q767); cases e767; replace p767 := eq_true p767; replace q767 := eq_true q767; (go_wp2_with (first | ((with_reducible refine gate_callee (f := 125) rfl ?_); refine goesL_ (some 17) rfl rfl Try.func125 kq0 rfl #[.int .i64 (rd l0 x11_1)] rfl kq7 ?_; (with_reducible refine (chk_Abs.calls (rd l0 x11_1) t768 t769 _ A5.out).mono ?_); rintro e w' ⟨rfl, ⟨nd, rfl⟩⟩; refine ⟨_, rfl, ?_⟩))); go_ret2; (exact ⟨kq3, kq5⟩)
          · (exact absurd H (by simp))
        · (exact absurd H (by simp))
      · (have c2b0 := decide_eq_false c2); clear c2; (simp only [Option.some.injEq, Prod.mk.injEq] at H); (obtain ⟨rfl, rfl⟩ := H); go_wp2; go_ret2; (exact ⟨kq3, kq5⟩)
end Go.Proofs.Ytjknpmibdkoklaa.Q
