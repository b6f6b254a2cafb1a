/- Functions of the given program as Lean functions, each with its contract, and what they answer; words for it. No condition but those of each. -/
import Derived.Test.YtoopddhkjhpbnaaDoorMA2
import Derived.Test.YtoopddhkjhpbnaaDoorMA9
import Derived.Test.YtoopddhkjhpbnaaDoorMA6
import Derived.Test.YtoopddhkjhpbnaaDoorMA10
namespace Go.Proofs.YtoopddhkjhpbnaaDoor.Q
open Go.RowKit Go.Proofs.YtoopddhkjhpbnaaDoorW.PrintWords Go.Proofs.YtoopddhkjhpbnaaDoorW.PrintLast Go.Proofs.YtoopddhkjhpbnaaDoorW.PrintMore
open Aside0 (mk)
open List (setIfInBounds_toArray set_cons_zero set_cons_succ)
attribute [local go_sem] max2_int min2_int max_two min_two max_three min_three max_four min_four
set_option linter.unusedVariables false
set_option linter.unusedSimpArgs false
def tabardref04_Name.l0 : Nat → ByteArray → Int → Int → Option (Bool)
  | 0, _, _, _ => none
  | k + 1, x0, x3, x4 => if x4 < (x0.size : Int) then ((tabardref04_Read.f k x0 x4).bind fun bt125 => (if bt125.2.2 = true then (if x3 = 0 then ((tabardref04_Start.f k bt125.1).bind fun t128 => (if t128 = true then ((tabardref04_Rest.f k bt125.1).bind fun t129 => (if t129 = true then (tabardref04_Name.l0 k x0 (wrap64 (x3 + 1)) (wrap64 (x4 + bt125.2.1))) else (some false))) else (some false))) else ((tabardref04_Rest.f k bt125.1).bind fun t130 => (if t130 = true then (tabardref04_Name.l0 k x0 (wrap64 (x3 + 1)) (wrap64 (x4 + bt125.2.1))) else (some false)))) else (some false))) else (if x3 ≥ 1 then (if x3 ≤ 16 then ((tabardref04_Reserved.f k x0).bind fun t124 => (some (!t124))) else (some false)) else (some false))
def tabardref04_Name.f (k : Nat) (a0 : ByteArray) : Option (Bool) := tabardref04_Name.l0 k a0 0 0
theorem tabardref04_Name.mono_l : ∀ k, (∀ y0 y1 y2, LeO (tabardref04_Name.l0 k y0 y1 y2) (tabardref04_Name.l0 (k + 1) y0 y1 y2))
  | 0 => fun _ _ _ r h => by simp [tabardref04_Name.l0] at h
  | k + 1 => by
    have ih0 := tabardref04_Name.mono_l k
    · intro y0 y1 y2; (unfold tabardref04_Name.l0)
      repeat' first
      | (with_reducible exact ih0 _ _ _)
      | (with_reducible exact tabardref04_Read.mono _ _ _)
      | (with_reducible exact tabardref04_Reserved.mono _ _)
      | (with_reducible exact tabardref04_Rest.mono _ _)
      | (with_reducible exact tabardref04_Start.mono _ _)
      | (with_reducible exact LeO.refl _)
      | (with_reducible exact LeO.none _)
      | (with_reducible refine LeO.ite ?_ ?_)
      | (with_reducible refine LeO.bind ?_ (fun _ => ?_))
      | exact ih0 _ _ _
      | exact tabardref04_Read.mono _ _ _
      | exact tabardref04_Reserved.mono _ _
      | exact tabardref04_Rest.mono _ _
      | exact tabardref04_Start.mono _ _
      | exact LeO.none _
      | refine LeO.ite ?_ ?_
      | refine LeO.bind ?_ (fun _ => ?_)
theorem tabardref04_Name.mono : ∀ a0 k, LeO (tabardref04_Name.f k a0) (tabardref04_Name.f (k + 1) a0) := by
  intro a0 k
  have ih0 := tabardref04_Name.mono_l k
  unfold tabardref04_Name.f
  repeat' first
      | (with_reducible exact ih0 _ _ _)
      | (with_reducible exact tabardref04_Read.mono _ _ _)
      | (with_reducible exact tabardref04_Reserved.mono _ _)
      | (with_reducible exact tabardref04_Rest.mono _ _)
      | (with_reducible exact tabardref04_Start.mono _ _)
      | (with_reducible exact LeO.refl _)
      | (with_reducible exact LeO.none _)
      | (with_reducible refine LeO.ite ?_ ?_)
      | (with_reducible refine LeO.bind ?_ (fun _ => ?_))
      | exact ih0 _ _ _
      | exact tabardref04_Read.mono _ _ _
      | exact tabardref04_Reserved.mono _ _
      | exact tabardref04_Rest.mono _ _
      | exact tabardref04_Start.mono _ _
      | exact LeO.none _
      | refine LeO.ite ?_ ?_
      | refine LeO.bind ?_ (fun _ => ?_)
set_option maxHeartbeats 8000000 in
set_option maxRecDepth 100000 in
theorem tabardref04_Name.calls (k : Nat) (a0 : ByteArray) (r : Bool) (w : World) (h : tabardref04_Name.f k a0 = some r) :
    Calls Tryd.prog 7 #[.string a0] w fun e w' => e = .returned (.bool r) ∧ Below w.heap.size w w' := by
  have HB := mk (Below.refl w.heap.size w)
  have H : (tabardref04_Name.l0 k a0 0 0) = some r := h
  clear h
  have H' := mk H
  clear H
  go_enter Tryd.func7, Tryd.ntmps7
  go_wp2
  go_loopg [3, 4] k (fun kq v3 v4 w' => ∃ (x3_1 : Int) (x4_1 : Int), v3 = .int .i64 x3_1 ∧ v4 = .int .i64 x4_1 ∧ Aside0 (tabardref04_Name.l0 kq a0 x3_1 x4_1 = some r) ∧ Aside0 (kq ≤ k) ∧ Aside0 (Below w.heap.size w w'))
  case atStart => exact ⟨(0), (0), (by first | rfl | (simp; done) | (simp [*]; done)), (by first | rfl | (simp; done) | (simp [*]; done)), H', ⟨Nat.le_refl _⟩, ⟨by repeat (first | (with_reducible first | exact HB.out | apply bA_ | apply bN_ | apply b1_) | exact HB.out)⟩⟩
  case round =>
    clear H'
    obtain ⟨x3_1, x4_1, rfl, rfl, HA, HK1, HB⟩ := hrel
    cases gk with
    | zero => exact absurd HA.out (by simp [tabardref04_Name.l0])
    | succ k1 =>
      (have H := HA.out); clear HA; (simp only [tabardref04_Name.l0] at H); (by_cases c2 : x4_1 < (a0.size : Int))
      · (rw [if_pos c2] at H); (have c2b0 : decide (x4_1 < (a0.size : Int)) = true := decide_eq_true c2); clear c2; (replace H := Option.bind_eq_some_iff.mp H); (obtain ⟨⟨t125, t126, t127⟩, A30, H⟩ := H); (replace H : (if t127 = true then (if x3_1 = 0 then ((tabardref04_Start.f k1 t125).bind fun t128 => (if t128 = true then ((tabardref04_Rest.f k1 t125).bind fun t129 => (if t129 = true then (tabardref04_Name.l0 k1 a0 (wrap64 (x3_1 + 1)) (wrap64 (x4_1 + t126))) else (some false))) else (some false))) else ((tabardref04_Rest.f k1 t125).bind fun t130 => (if t130 = true then (tabardref04_Name.l0 k1 a0 (wrap64 (x3_1 + 1)) (wrap64 (x4_1 + t126))) else (some false)))) else (some false)) = some r := H); (have A3 := mk A30); clear A30; (by_cases c4 : t127 = true)
        · subst c4; (have H1 : (if x3_1 = 0 then ((tabardref04_Start.f k1 t125).bind fun t128 => (if t128 = true then ((tabardref04_Rest.f k1 t125).bind fun t129 => (if t129 = true then (tabardref04_Name.l0 k1 a0 (wrap64 (x3_1 + 1)) (wrap64 (x4_1 + t126))) else (some false))) else (some false))) else ((tabardref04_Rest.f k1 t125).bind fun t130 => (if t130 = true then (tabardref04_Name.l0 k1 a0 (wrap64 (x3_1 + 1)) (wrap64 (x4_1 + t126))) else (some false)))) = some r := by rw [if_pos rfl] at H; exact H); clear H; (have H := H1); clear H1; (by_cases c5 : x3_1 = 0)
          · (rw [if_pos c5] at H); (have c5b0 : (x3_1 == 0) = true := beq_iff_eq.mpr c5); (have c5b1 : (x3_1 != 0) = false := bne_eq_false_iff_eq.mpr c5); clear c5; (replace H := Option.bind_eq_some_iff.mp H); (obtain ⟨t128, A60, H⟩ := H); (replace H : (if t128 = true then ((tabardref04_Rest.f k1 t125).bind fun t129 => (if t129 = true then (tabardref04_Name.l0 k1 a0 (wrap64 (x3_1 + 1)) (wrap64 (x4_1 + t126))) else (some false))) else (some false)) = some r := H); (have A6 := mk A60); clear A60; (by_cases c7 : t128 = true)
            · subst c7; (have H1 : ((tabardref04_Rest.f k1 t125).bind fun t129 => (if t129 = true then (tabardref04_Name.l0 k1 a0 (wrap64 (x3_1 + 1)) (wrap64 (x4_1 + t126))) else (some false))) = some r := by rw [if_pos rfl] at H; exact H); clear H; (have H := H1); clear H1; (replace H := Option.bind_eq_some_iff.mp H); (obtain ⟨t129, A80, H⟩ := H); (replace H : (if t129 = true then (tabardref04_Name.l0 k1 a0 (wrap64 (x3_1 + 1)) (wrap64 (x4_1 + t126))) else (some false)) = some r := H); (have A8 := mk A80); clear A80; (by_cases c9 : t129 = true)
              · subst c9; (have H1 : (tabardref04_Name.l0 k1 a0 (wrap64 (x3_1 + 1)) (wrap64 (x4_1 + t126))) = some r := by rw [if_pos rfl] at H; exact H); clear H; (have H := H1); clear H1; (have H' := mk H); clear H; (go_wp2_with (first | ((with_reducible refine gate_callee (f := 16) rfl ?_); refine goesL_ (some 15) rfl rfl Tryd.func16 (by kernel_rfl) rfl #[.string a0, .int .i64 x4_1] rfl (by (try simp only [List.map_toArray, List.map_cons, List.map_nil]); first | done | rfl | (simp only [List.length_drop, List.length_take]; rfl)) ?_; (with_reducible refine (tabardref04_Read.calls k1 a0 x4_1 t125 t126 true _ A3.out).mono ?_); rintro e w' ⟨rfl, ⟨nd, rfl⟩⟩; refine ⟨_, rfl, ?_⟩) | (go_at_call 17; (with_reducible refine (tabardref04_Start.calls k1 t125 true _ A6.out).mono ?_); rintro e w10 ⟨rfl, hb⟩; have n0_ := mk (below_step (by repeat (first | (with_reducible first | exact HB.out | apply bA_ | apply bN_ | apply b1_) | exact HB.out)) hb); clear HB; have HB := n0_; clear n0_; (try clear hb); (try clear hb2); (try clear hk); (try clear hi)) | (go_at_call 18; (with_reducible refine (tabardref04_Rest.calls k1 t125 true _ A8.out).mono ?_); rintro e w11 ⟨rfl, hb⟩; have n0_ := mk (below_step (by repeat (first | (with_reducible first | exact HB.out | apply bA_ | apply bN_ | apply b1_) | exact HB.out)) hb); clear HB; have HB := n0_; clear n0_; (try clear hb); (try clear hb2); (try clear hk); (try clear hi)))); (go_roundg k1)
                case measure => have := HK1.out; omega
                case rel => exact ⟨(wrap64 (x3_1 + 1)), (wrap64 (x4_1 + t126)), (by first | rfl | (simp; done) | (simp [*]; done)), (by first | rfl | (simp; done) | (simp [*]; done)), H', ⟨by have := HK1.out; omega⟩, ⟨by repeat (first | (with_reducible first | exact HB.out | apply bA_ | apply bN_ | apply b1_) | exact HB.out)⟩⟩
              · (replace c9 := Bool.eq_false_iff.mpr c9); subst c9; (have H1 : (some false) = some r := by rw [if_neg (show ¬ (false = true) by decide)] at H; exact H); clear H; (have H := H1); clear H1; (obtain rfl := Option.some.inj H); (go_wp2_with (first | ((with_reducible refine gate_callee (f := 16) rfl ?_); refine goesL_ (some 15) rfl rfl Tryd.func16 (by kernel_rfl) rfl #[.string a0, .int .i64 x4_1] rfl (by (try simp only [List.map_toArray, List.map_cons, List.map_nil]); first | done | rfl | (simp only [List.length_drop, List.length_take]; rfl)) ?_; (with_reducible refine (tabardref04_Read.calls k1 a0 x4_1 t125 t126 true _ A3.out).mono ?_); rintro e w' ⟨rfl, ⟨nd, rfl⟩⟩; refine ⟨_, rfl, ?_⟩) | (go_at_call 17; (with_reducible refine (tabardref04_Start.calls k1 t125 true _ A6.out).mono ?_); rintro e w12 ⟨rfl, hb⟩; have n0_ := mk (below_step (by repeat (first | (with_reducible first | exact HB.out | apply bA_ | apply bN_ | apply b1_) | exact HB.out)) hb); clear HB; have HB := n0_; clear n0_; (try clear hb); (try clear hb2); (try clear hk); (try clear hi)) | (go_at_call 18; (with_reducible refine (tabardref04_Rest.calls k1 t125 false _ A8.out).mono ?_); rintro e w13 ⟨rfl, hb⟩; have n0_ := mk (below_step (by repeat (first | (with_reducible first | exact HB.out | apply bA_ | apply bN_ | apply b1_) | exact HB.out)) hb); clear HB; have HB := n0_; clear n0_; (try clear hb); (try clear hb2); (try clear hk); (try clear hi)))); go_ret; (exact ⟨by first | rfl | (simp [*, errW_none, errW_some] <;> rfl), by repeat (first | (with_reducible first | exact HB.out | apply bA_ | apply bN_ | apply b1_) | exact HB.out)⟩)
            · (replace c7 := Bool.eq_false_iff.mpr c7); subst c7; (have H1 : (some false) = some r := by rw [if_neg (show ¬ (false = true) by decide)] at H; exact H); clear H; (have H := H1); clear H1; (obtain rfl := Option.some.inj H); (go_wp2_with (first | ((with_reducible refine gate_callee (f := 16) rfl ?_); refine goesL_ (some 15) rfl rfl Tryd.func16 (by kernel_rfl) rfl #[.string a0, .int .i64 x4_1] rfl (by (try simp only [List.map_toArray, List.map_cons, List.map_nil]); first | done | rfl | (simp only [List.length_drop, List.length_take]; rfl)) ?_; (with_reducible refine (tabardref04_Read.calls k1 a0 x4_1 t125 t126 true _ A3.out).mono ?_); rintro e w' ⟨rfl, ⟨nd, rfl⟩⟩; refine ⟨_, rfl, ?_⟩) | (go_at_call 17; (with_reducible refine (tabardref04_Start.calls k1 t125 false _ A6.out).mono ?_); rintro e w14 ⟨rfl, hb⟩; have n0_ := mk (below_step (by repeat (first | (with_reducible first | exact HB.out | apply bA_ | apply bN_ | apply b1_) | exact HB.out)) hb); clear HB; have HB := n0_; clear n0_; (try clear hb); (try clear hb2); (try clear hk); (try clear hi)))); go_ret; (exact ⟨by first | rfl | (simp [*, errW_none, errW_some] <;> rfl), by repeat (first | (with_reducible first | exact HB.out | apply bA_ | apply bN_ | apply b1_) | exact HB.out)⟩)
          · (rw [if_neg c5] at H); (have c5b0 : (x3_1 == 0) = false := beq_eq_false_iff_ne.mpr c5); (have c5b1 : (x3_1 != 0) = true := bne_iff_ne.mpr c5); (replace H := Option.bind_eq_some_iff.mp H); (obtain ⟨t130, A150, H⟩ := H); (replace H : (if t130 = true then (tabardref04_Name.l0 k1 a0 (wrap64 (x3_1 + 1)) (wrap64 (x4_1 + t126))) else (some false)) = some r := H); (have A15 := mk A150); clear A150; (by_cases c16 : t130 = true)
            · subst c16; (have H1 : (tabardref04_Name.l0 k1 a0 (wrap64 (x3_1 + 1)) (wrap64 (x4_1 + t126))) = some r := by rw [if_pos rfl] at H; exact H); clear H; (have H := H1); clear H1; (have H' := mk H); clear H; (go_wp2_with (first | ((with_reducible refine gate_callee (f := 16) rfl ?_); refine goesL_ (some 15) rfl rfl Tryd.func16 (by kernel_rfl) rfl #[.string a0, .int .i64 x4_1] rfl (by (try simp only [List.map_toArray, List.map_cons, List.map_nil]); first | done | rfl | (simp only [List.length_drop, List.length_take]; rfl)) ?_; (with_reducible refine (tabardref04_Read.calls k1 a0 x4_1 t125 t126 true _ A3.out).mono ?_); rintro e w' ⟨rfl, ⟨nd, rfl⟩⟩; refine ⟨_, rfl, ?_⟩) | (go_at_call 18; (with_reducible refine (tabardref04_Rest.calls k1 t125 true _ A15.out).mono ?_); rintro e w17 ⟨rfl, hb⟩; have n0_ := mk (below_step (by repeat (first | (with_reducible first | exact HB.out | apply bA_ | apply bN_ | apply b1_) | exact HB.out)) hb); clear HB; have HB := n0_; clear n0_; (try clear hb); (try clear hb2); (try clear hk); (try clear hi)))); (go_roundg k1)
              case measure => have := HK1.out; omega
              case rel => exact ⟨(wrap64 (x3_1 + 1)), (wrap64 (x4_1 + t126)), (by first | rfl | (simp; done) | (simp [*]; done)), (by first | rfl | (simp; done) | (simp [*]; done)), H', ⟨by have := HK1.out; omega⟩, ⟨by repeat (first | (with_reducible first | exact HB.out | apply bA_ | apply bN_ | apply b1_) | exact HB.out)⟩⟩
            · (replace c16 := Bool.eq_false_iff.mpr c16); subst c16; (have H1 : (some false) = some r := by rw [if_neg (show ¬ (false = true) by decide)] at H; exact H); clear H; (have H := H1); clear H1; (obtain rfl := Option.some.inj H); (go_wp2_with (first | ((with_reducible refine gate_callee (f := 16) rfl ?_); refine goesL_ (some 15) rfl rfl Tryd.func16 (by kernel_rfl) rfl #[.string a0, .int .i64 x4_1] rfl (by (try simp only [List.map_toArray, List.map_cons, List.map_nil]); first | done | rfl | (simp only [List.length_drop, List.length_take]; rfl)) ?_; (with_reducible refine (tabardref04_Read.calls k1 a0 x4_1 t125 t126 true _ A3.out).mono ?_); rintro e w' ⟨rfl, ⟨nd, rfl⟩⟩; refine ⟨_, rfl, ?_⟩) | (go_at_call 18; (with_reducible refine (tabardref04_Rest.calls k1 t125 false _ A15.out).mono ?_); rintro e w18 ⟨rfl, hb⟩; have n0_ := mk (below_step (by repeat (first | (with_reducible first | exact HB.out | apply bA_ | apply bN_ | apply b1_) | exact HB.out)) hb); clear HB; have HB := n0_; clear n0_; (try clear hb); (try clear hb2); (try clear hk); (try clear hi)))); go_ret; (exact ⟨by first | rfl | (simp [*, errW_none, errW_some] <;> rfl), by repeat (first | (with_reducible first | exact HB.out | apply bA_ | apply bN_ | apply b1_) | exact HB.out)⟩)
        · (replace c4 := Bool.eq_false_iff.mpr c4); subst c4; (have H1 : (some false) = some r := by rw [if_neg (show ¬ (false = true) by decide)] at H; exact H); clear H; (have H := H1); clear H1; (obtain rfl := Option.some.inj H); (go_wp2_with (first | ((with_reducible refine gate_callee (f := 16) rfl ?_); refine goesL_ (some 15) rfl rfl Tryd.func16 (by kernel_rfl) rfl #[.string a0, .int .i64 x4_1] rfl (by (try simp only [List.map_toArray, List.map_cons, List.map_nil]); first | done | rfl | (simp only [List.length_drop, List.length_take]; rfl)) ?_; (with_reducible refine (tabardref04_Read.calls k1 a0 x4_1 t125 t126 false _ A3.out).mono ?_); rintro e w' ⟨rfl, ⟨nd, rfl⟩⟩; refine ⟨_, rfl, ?_⟩))); go_ret; (exact ⟨by first | rfl | (simp [*, errW_none, errW_some] <;> rfl), by repeat (first | (with_reducible first | exact HB.out | apply bA_ | apply bN_ | apply b1_) | exact HB.out)⟩)
      · (rw [if_neg c2] at H); (have c2b0 : decide (x4_1 < (a0.size : Int)) = false := decide_eq_false c2); clear c2; (by_cases c19 : x3_1 ≥ 1)
        · (rw [if_pos c19] at H); (have c19b0 : decide (1 ≤ x3_1) = true := decide_eq_true c19); clear c19; (by_cases c20 : x3_1 ≤ 16)
          · (rw [if_pos c20] at H); (have c20b0 : decide (x3_1 ≤ 16) = true := decide_eq_true c20); clear c20; (replace H := Option.bind_eq_some_iff.mp H); (obtain ⟨t124, A210, H⟩ := H); (replace H : (some (!t124)) = some r := H); (have A21 := mk A210); clear A210; (obtain rfl := Option.some.inj H); (go_wp2_with (first | (go_at_call 9; (with_reducible refine (tabardref04_Reserved.calls k1 a0 t124 _ A21.out).mono ?_); rintro e w22 ⟨rfl, hb⟩; have n0_ := mk (below_step (by repeat (first | (with_reducible first | exact HB.out | apply bA_ | apply bN_ | apply b1_) | exact HB.out)) hb); clear HB; have HB := n0_; clear n0_; (try clear hb); (try clear hb2); (try clear hk); (try clear hi)))); go_ret; (exact ⟨by first | rfl | (simp [*, errW_none, errW_some] <;> rfl), by repeat (first | (with_reducible first | exact HB.out | apply bA_ | apply bN_ | apply b1_) | exact HB.out)⟩)
          · (rw [if_neg c20] at H); (have c20b0 : decide (x3_1 ≤ 16) = false := decide_eq_false c20); clear c20; (obtain rfl := Option.some.inj H); go_wp2; go_ret; (exact ⟨by first | rfl | (simp [*, errW_none, errW_some] <;> rfl), by repeat (first | (with_reducible first | exact HB.out | apply bA_ | apply bN_ | apply b1_) | exact HB.out)⟩)
        · (rw [if_neg c19] at H); (have c19b0 : decide (1 ≤ x3_1) = false := decide_eq_false c19); clear c19; (obtain rfl := Option.some.inj H); go_wp2; go_ret; (exact ⟨by first | rfl | (simp [*, errW_none, errW_some] <;> rfl), by repeat (first | (with_reducible first | exact HB.out | apply bA_ | apply bN_ | apply b1_) | exact HB.out)⟩)
end Go.Proofs.YtoopddhkjhpbnaaDoor.Q
