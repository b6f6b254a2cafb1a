/- Functions of the given program as Lean functions, each with its contract, and what they answer; words for it. No condition but those of each. -/
import Derived.Test.YtoopddhkjhpbnaaDoorMA2
namespace Go.Proofs.YtoopddhkjhpbnaaDoor.Q
open Go.RowKit Go.Proofs.YtoopddhkjhpbnaaDoorW.PrintWords Go.Proofs.YtoopddhkjhpbnaaDoorW.PrintLast Go.Proofs.YtoopddhkjhpbnaaDoorW.PrintMore
open Aside0 (mk)
open List (setIfInBounds_toArray set_cons_zero set_cons_succ)
attribute [local go_sem] max2_int min2_int max_two min_two max_three min_three max_four min_four
set_option linter.unusedVariables false
set_option linter.unusedSimpArgs false
def tabardref04_within.l0 : Nat → Int → List Int → Int → Option (Bool)
  | 0, _, _, _ => none
  | k + 1, x0, x1, x5 => if (wrap64 (x5 + 1)) < (x1.length : Int) then (if 0 ≤ x5 then (if x5 < (x1.length : Int) then (if x0 ≥ (rd x1 x5) then (if 0 ≤ (wrap64 (x5 + 1)) then (if x0 ≤ (rd x1 (wrap64 (x5 + 1))) then (some true) else (tabardref04_within.l0 k x0 x1 (wrap64 (x5 + 2)))) else (none)) else (tabardref04_within.l0 k x0 x1 (wrap64 (x5 + 2)))) else (none)) else (none)) else (some false)
def tabardref04_within.f (k : Nat) (a0 : Int) (l1 : List Int) : Option (Bool) := tabardref04_within.l0 k a0 l1 0
theorem tabardref04_within.mono_l : ∀ k, (∀ y0 y1 y2, LeO (tabardref04_within.l0 k y0 y1 y2) (tabardref04_within.l0 (k + 1) y0 y1 y2))
  | 0 => fun _ _ _ r h => by simp [tabardref04_within.l0] at h
  | k + 1 => by
    have ih0 := tabardref04_within.mono_l k
    · intro y0 y1 y2; (unfold tabardref04_within.l0)
      repeat' first
      | (with_reducible exact ih0 _ _ _)
      | (with_reducible exact LeO.refl _)
      | (with_reducible exact LeO.none _)
      | (with_reducible refine LeO.ite ?_ ?_)
      | (with_reducible refine LeO.bind ?_ (fun _ => ?_))
      | exact ih0 _ _ _
      | exact LeO.none _
      | refine LeO.ite ?_ ?_
      | refine LeO.bind ?_ (fun _ => ?_)
theorem tabardref04_within.mono : ∀ a0 a1 k, LeO (tabardref04_within.f k a0 a1) (tabardref04_within.f (k + 1) a0 a1) := by
  intro a0 a1 k
  have ih0 := tabardref04_within.mono_l k
  unfold tabardref04_within.f
  repeat' first
      | (with_reducible exact ih0 _ _ _)
      | (with_reducible exact LeO.refl _)
      | (with_reducible exact LeO.none _)
      | (with_reducible refine LeO.ite ?_ ?_)
      | (with_reducible refine LeO.bind ?_ (fun _ => ?_))
      | exact ih0 _ _ _
      | exact LeO.none _
      | refine LeO.ite ?_ ?_
      | refine LeO.bind ?_ (fun _ => ?_)
set_option maxHeartbeats 8000000 in
set_option maxRecDepth 100000 in
theorem tabardref04_within.calls (k : Nat) (a0 : Int) (A1 : Option Addr) (c1 : Nat) (l1 : List Int) (r : Bool) (w : World) (hr1 : Kd.C (Kd.int .i64) w A1 l1.length l1) (hc1 : l1.length ≤ c1) (h : tabardref04_within.f k a0 l1 = some r) :
    Calls Tryd.prog 20 #[.int .i64 a0, .slice A1 l1.length c1] w fun e w' => e = .returned (.bool r) ∧ Drawn0 w w' := by
  have HR1 := mk hr1
  have HC1 := mk hc1
  clear hr1 hc1
  have H : (tabardref04_within.l0 k a0 l1 0) = some r := h
  clear h
  have H' := mk H
  clear H
  go_enter Tryd.func20, Tryd.ntmps20
  go_wp2
  go_loopg [5] k (fun kq v5 w' => ∃ (x5_1 : Int), v5 = .int .i64 x5_1 ∧ Aside0 (tabardref04_within.l0 kq a0 l1 x5_1 = some r) ∧ Aside0 (kq ≤ k) ∧ Drawn0 w w')
  case atStart => exact ⟨(0), (by first | rfl | (simp; done) | (simp [*]; done)), H', ⟨Nat.le_refl _⟩, by repeat (first | exact Drawn0.refl _ | apply Drawn0.step)⟩
  case round =>
    clear H'
    try clear c1
    try clear c2
    try clear p2
    obtain ⟨x5_1, rfl, HA, HK1, ⟨m1, rfl⟩⟩ := hrel
    cases gk with
    | zero => exact absurd HA.out (by simp [tabardref04_within.l0])
    | succ k1 =>
      (have H := HA.out); clear HA; (simp only [tabardref04_within.l0] at H); (by_cases c3 : (wrap64 (x5_1 + 1)) < (l1.length : Int))
      · (rw [if_pos c3] at H); (have c3b0 : decide ((wrap64 (x5_1 + 1)) < (l1.length : Int)) = true := decide_eq_true c3); clear c3; (by_cases c4 : 0 ≤ x5_1)
        · (rw [if_pos c4] at H); (have c4b0 : decide (0 ≤ x5_1) = true := decide_eq_true c4); clear c4; (by_cases c5 : x5_1 < (l1.length : Int))
          · (rw [if_pos c5] at H); (have c5b0 : decide (x5_1 < (l1.length : Int)) = true := decide_eq_true c5); clear c5; (by_cases c6 : a0 ≥ (rd l1 x5_1))
            · (rw [if_pos c6] at H); (have c6b0 : decide ((rd l1 x5_1) ≤ a0) = true := decide_eq_true c6); clear c6; (obtain ⟨ji7, hji7⟩ : ∃ j_ : Int, (wrap64 (x5_1 + 1)) = j_ := ⟨_, rfl⟩); (replace H : (if 0 ≤ (ji7) then (if a0 ≤ (rd l1 (ji7)) then (some true) else (tabardref04_within.l0 k1 a0 l1 (wrap64 (x5_1 + 2)))) else (none)) = some r := by first | (rw [hji7] at H; exact H) | (simp only [hji7] at H ⊢; exact H)); ((try rw [hji7] at c3b0)); (have hji7w : (IntKind.i64.wrap (x5_1 + 1)) = ji7 := (i64_w _).trans hji7); (by_cases c8 : 0 ≤ (ji7))
              · (rw [if_pos c8] at H); (have c8b0 : decide (0 ≤ (ji7)) = true := decide_eq_true c8); clear c8; (by_cases c9 : a0 ≤ (rd l1 (ji7)))
                · (rw [if_pos c9] at H); (have c9b0 : decide (a0 ≤ (rd l1 (ji7))) = true := decide_eq_true c9); clear c9; (obtain rfl := Option.some.inj H); (have p113 : 0 ≤ (x5_1 : Int) := of_decide_eq_true (by first | (with_reducible assumption) | assumption)); (have q113 : x5_1 < (l1.length : Int) := of_decide_eq_true (by first | (with_reducible assumption) | assumption)); (obtain ⟨ad113, e113, hx113_0⟩ := Kd.at_int HR1.out x5_1 p113 q113); cases e113; replace p113 := eq_true p113; replace q113 := eq_true q113; (have p114 : 0 ≤ ((ji7) : Int) := of_decide_eq_true (by first | (with_reducible assumption) | assumption)); (have q114 : (ji7) < (l1.length : Int) := of_decide_eq_true (by first | (with_reducible assumption) | assumption)); (obtain ⟨ad114, e114, hx114_0⟩ := Kd.at_int HR1.out (ji7) p114 q114); (obtain rfl : ad113 = ad114 := (by injection e114)); replace p114 := eq_true p114; replace q114 := eq_true q114; go_wp2; go_ret; (exact ⟨by first | rfl | (simp; done) | (simp only [← hji7] <;> (first | rfl | simp)) | (simp [*]; done), by repeat (first | exact Drawn0.refl _ | apply Drawn0.step)⟩)
                · (rw [if_neg c9] at H); (have c9b0 : decide (a0 ≤ (rd l1 (ji7))) = false := decide_eq_false c9); clear c9; (have H' := mk H); clear H; (have p113 : 0 ≤ (x5_1 : Int) := of_decide_eq_true (by first | (with_reducible assumption) | assumption)); (have q113 : x5_1 < (l1.length : Int) := of_decide_eq_true (by first | (with_reducible assumption) | assumption)); (obtain ⟨ad113, e113, hx113_0⟩ := Kd.at_int HR1.out x5_1 p113 q113); cases e113; replace p113 := eq_true p113; replace q113 := eq_true q113; (have p114 : 0 ≤ ((ji7) : Int) := of_decide_eq_true (by first | (with_reducible assumption) | assumption)); (have q114 : (ji7) < (l1.length : Int) := of_decide_eq_true (by first | (with_reducible assumption) | assumption)); (obtain ⟨ad114, e114, hx114_0⟩ := Kd.at_int HR1.out (ji7) p114 q114); (obtain rfl : ad113 = ad114 := (by injection e114)); replace p114 := eq_true p114; replace q114 := eq_true q114; go_wp2; (go_roundg k1)
                  case measure => have := HK1.out; omega
                  case rel => exact ⟨(wrap64 (x5_1 + 2)), (by first | rfl | (simp; done) | (simp [*]; done)), H', ⟨by have := HK1.out; omega⟩, by repeat (first | exact Drawn0.refl _ | apply Drawn0.step)⟩
              · (rw [if_neg c8] at H); (exact absurd H (by simp))
            · (rw [if_neg c6] at H); (have c6b0 : decide ((rd l1 x5_1) ≤ a0) = false := decide_eq_false c6); clear c6; (have H' := mk H); clear H; (have p113 : 0 ≤ (x5_1 : Int) := of_decide_eq_true (by first | (with_reducible assumption) | assumption)); (have q113 : x5_1 < (l1.length : Int) := of_decide_eq_true (by first | (with_reducible assumption) | assumption)); (obtain ⟨ad113, e113, hx113_0⟩ := Kd.at_int HR1.out x5_1 p113 q113); cases e113; replace p113 := eq_true p113; replace q113 := eq_true q113; go_wp2; (go_roundg k1)
              case measure => have := HK1.out; omega
              case rel => exact ⟨(wrap64 (x5_1 + 2)), (by first | rfl | (simp; done) | (simp [*]; done)), H', ⟨by have := HK1.out; omega⟩, by repeat (first | exact Drawn0.refl _ | apply Drawn0.step)⟩
          · (rw [if_neg c5] at H); (exact absurd H (by simp))
        · (rw [if_neg c4] at H); (exact absurd H (by simp))
      · (rw [if_neg c3] at H); (have c3b0 : decide ((wrap64 (x5_1 + 1)) < (l1.length : Int)) = false := decide_eq_false c3); clear c3; (obtain rfl := Option.some.inj H); go_wp2; go_ret; (exact ⟨by first | rfl | (simp; done) | (simp [*]; done), by repeat (first | exact Drawn0.refl _ | apply Drawn0.step)⟩)
def tabardref04_Start.f (k : Nat) (a0 : Int) : Option (Bool) := (tabardref04_within.f k a0 (([65, 90, 97, 122, 95, 95, 913, 929, 931, 937, 945, 969] : List Int))).bind fun t118 => (some t118)
theorem tabardref04_Start.mono : ∀ a0 k, LeO (tabardref04_Start.f k a0) (tabardref04_Start.f (k + 1) a0) := by
  intro a0 k
  unfold tabardref04_Start.f
  repeat' first
      | (with_reducible exact tabardref04_within.mono _ _ _)
      | (with_reducible exact LeO.refl _)
      | (with_reducible exact LeO.none _)
      | (with_reducible refine LeO.ite ?_ ?_)
      | (with_reducible refine LeO.bind ?_ (fun _ => ?_))
      | exact tabardref04_within.mono _ _ _
      | exact LeO.none _
      | refine LeO.ite ?_ ?_
      | refine LeO.bind ?_ (fun _ => ?_)
set_option maxHeartbeats 8000000 in
set_option maxRecDepth 100000 in
theorem tabardref04_Start.calls (k : Nat) (a0 : Int) (r : Bool) (w : World) (h : tabardref04_Start.f k a0 = some r) :
    Calls Tryd.prog 17 #[.int .i64 a0] w fun e w' => e = .returned (.bool r) ∧ Below w.heap.size w w' := by
  have HB := mk (Below.refl w.heap.size w)
  have H : ((tabardref04_within.f k a0 (([65, 90, 97, 122, 95, 95, 913, 929, 931, 937, 945, 969] : List Int))).bind fun t118 => (some t118)) = some r := h
  clear h
  obtain ⟨y115, hy115⟩ : ∃ y_ : List Int, y_ = (([65, 90, 97, 122, 95, 95, 913, 929, 931, 937, 945, 969] : List Int)) := ⟨_, rfl⟩
  replace H : ((tabardref04_within.f k a0 y115).bind fun t118 => (some t118)) = some r := by first | (rw [hy115]; with_reducible exact H) | (have H2_ := (Option.bind_some _ _).symm.trans H; rw [hy115]; with_reducible exact H2_) | (have H2_ := (Option.bind_some _ _).symm.trans H; with_reducible exact H2_) | with_reducible exact H | (rw [hy115]; exact H) | exact H
  have Ny115 := mk hy115
  clear hy115
  replace H := Option.bind_eq_some_iff.mp H
  obtain ⟨t118, A20, H⟩ := H
  replace H : (some t118) = some r := H
  have A2 := mk A20
  clear A20
  obtain rfl := Option.some.inj H
  go_enter Tryd.func17, Tryd.ntmps17
  go_wp2_with (first | ((with_reducible refine gate_dst (N := 4) rfl ?_); refine Kd.R_lit (Kd.int .i64) _ 3 ?hg (N := 4) ?hd (xs := ([65, 90, 97, 122, 95, 95, 913, 929, 931, 937, 945, 969] : List Int)) (inner := [.int .i64 65, .int .i64 90, .int .i64 97, .int .i64 122, .int .i64 95, .int .i64 95, .int .i64 913, .int .i64 929, .int .i64 931, .int .i64 937, .int .i64 945, .int .i64 969]) (ok := fun _ => True) (okp := fun _ => True) ?hr ?hp (fun _ hk => hk) trivial (Below.refl _ _) (Nat.le_refl _) (by simp) ?_; (case hd => rfl); (case hg => rfl); (case hr => first | (go_simp; done) | (go_simp; rfl)); (case hp => exact (Reps.one (show Kd.M (Kd.int .i64) _ _ _ 65 [.int .i64 65] from rfl) (Reps.one (show Kd.M (Kd.int .i64) _ _ _ 90 [.int .i64 90] from rfl) (Reps.one (show Kd.M (Kd.int .i64) _ _ _ 97 [.int .i64 97] from rfl) (Reps.one (show Kd.M (Kd.int .i64) _ _ _ 122 [.int .i64 122] from rfl) (Reps.one (show Kd.M (Kd.int .i64) _ _ _ 95 [.int .i64 95] from rfl) (Reps.one (show Kd.M (Kd.int .i64) _ _ _ 95 [.int .i64 95] from rfl) (Reps.one (show Kd.M (Kd.int .i64) _ _ _ 913 [.int .i64 913] from rfl) (Reps.one (show Kd.M (Kd.int .i64) _ _ _ 929 [.int .i64 929] from rfl) (Reps.one (show Kd.M (Kd.int .i64) _ _ _ 931 [.int .i64 931] from rfl) (Reps.one (show Kd.M (Kd.int .i64) _ _ _ 937 [.int .i64 937] from rfl) (Reps.one (show Kd.M (Kd.int .i64) _ _ _ 945 [.int .i64 945] from rfl) (Reps.one (show Kd.M (Kd.int .i64) _ _ _ 969 [.int .i64 969] from rfl) (Reps.none _ _)))))))))))))); intro v116 w3 ho4 hb hg_ hnew_; clear hg_ hnew_; (first | rw [← Ny115.out] at ho4 | (simp only [Int.reduceToNat] at ho4; rw [← Ny115.out] at ho4)); have n0_ := mk (Kd.R_lower ho4 (below_size (by repeat (first | (with_reducible first | exact HB.out | apply bA_ | apply bN_ | apply b1_) | exact HB.out)))); have n1_ := mk (below_step (by repeat (first | (with_reducible first | exact HB.out | apply bA_ | apply bN_ | apply b1_) | exact HB.out)) hb); clear HB; have HO117 := n0_; have HB := n1_; clear n0_ n1_; clear hb ho4; obtain ⟨Ao5, co5, eo5⟩ := Kd.R_slice HO117.out; subst eo5) | ((with_reducible refine gate_callee (f := 20) rfl ?_); refine goesL_ (some 5) rfl rfl Tryd.func20 (by kernel_rfl) rfl #[.int .i64 a0, .slice Ao5 y115.length co5] rfl (by (try simp only [List.map_toArray, List.map_cons, List.map_nil]); first | done | rfl | (simp only [List.length_drop, List.length_take]; rfl)) ?_; (with_reducible refine (tabardref04_within.calls k a0 _ _ y115 t118 _ ?side1 ?side2 A2.out).mono ?_); (case side1 => repeat (first | exact (Kd.R_reads' HO117.out).2.2 | (with_reducible refine Kd.C_alloc ?_ _) | (with_reducible refine Kd.C_drewN ?_ _) | (with_reducible refine Kd.C_drew ?_))); (case side2 => exact (Kd.R_reads' HO117.out).2.1); rintro e w' ⟨rfl, ⟨nd, rfl⟩⟩; refine ⟨_, rfl, ?_⟩))
  go_ret
  exact ⟨by first | rfl | (simp [*, errW_none, errW_some] <;> rfl), by repeat (first | (with_reducible first | exact HB.out | apply bA_ | apply bN_ | apply b1_) | exact HB.out)⟩
def tabardref04_Rest.f (k : Nat) (a0 : Int) : Option (Bool) := (tabardref04_Start.f k a0).bind fun t119 => (if t119 = true then (some true) else ((tabardref04_within.f k a0 (([48, 57, 8242, 8242, 8320, 8329] : List Int))).bind fun t123 => (some t123)))
theorem tabardref04_Rest.mono : ∀ a0 k, LeO (tabardref04_Rest.f k a0) (tabardref04_Rest.f (k + 1) a0) := by
  intro a0 k
  unfold tabardref04_Rest.f
  repeat' first
      | (with_reducible exact tabardref04_Start.mono _ _)
      | (with_reducible exact tabardref04_within.mono _ _ _)
      | (with_reducible exact LeO.refl _)
      | (with_reducible exact LeO.none _)
      | (with_reducible refine LeO.ite ?_ ?_)
      | (with_reducible refine LeO.bind ?_ (fun _ => ?_))
      | exact tabardref04_Start.mono _ _
      | exact tabardref04_within.mono _ _ _
      | exact LeO.none _
      | refine LeO.ite ?_ ?_
      | refine LeO.bind ?_ (fun _ => ?_)
set_option maxHeartbeats 8000000 in
set_option maxRecDepth 100000 in
theorem tabardref04_Rest.calls (k : Nat) (a0 : Int) (r : Bool) (w : World) (h : tabardref04_Rest.f k a0 = some r) :
    Calls Tryd.prog 18 #[.int .i64 a0] w fun e w' => e = .returned (.bool r) ∧ Below w.heap.size w w' := by
  have HB := mk (Below.refl w.heap.size w)
  have H : ((tabardref04_Start.f k a0).bind fun t119 => (if t119 = true then (some true) else ((tabardref04_within.f k a0 (([48, 57, 8242, 8242, 8320, 8329] : List Int))).bind fun t123 => (some t123)))) = some r := h
  clear h
  replace H := Option.bind_eq_some_iff.mp H
  obtain ⟨t119, A20, H⟩ := H
  replace H : (if t119 = true then (some true) else ((tabardref04_within.f k a0 (([48, 57, 8242, 8242, 8320, 8329] : List Int))).bind fun t123 => (some t123))) = some r := H
  have A2 := mk A20
  clear A20
  by_cases c3 : t119 = true
  · subst c3
    have H1 : (some true) = some r := by rw [if_pos rfl] at H; exact H
    clear H
    have H := H1
    clear H1
    obtain rfl := Option.some.inj H
    go_enter Tryd.func18, Tryd.ntmps18
    go_wp2_with (first | ((with_reducible refine gate_callee (f := 17) rfl ?_); refine goesL_ (some 4) rfl rfl Tryd.func17 (by kernel_rfl) rfl #[.int .i64 a0] rfl (by (try simp only [List.map_toArray, List.map_cons, List.map_nil]); first | done | rfl | (simp only [List.length_drop, List.length_take]; rfl)) ?_; (with_reducible refine (tabardref04_Start.calls k a0 true _ A2.out).mono ?_); rintro e w4 ⟨rfl, hb⟩; refine ⟨_, rfl, ?_⟩; have n0_ := mk (below_step (by repeat (first | (with_reducible first | exact HB.out | apply bA_ | apply bN_ | apply b1_) | exact HB.out)) hb); clear HB; have HB := n0_; clear n0_; (try clear hb); (try clear hb2); (try clear hk); (try clear hi)))
    go_ret
    exact ⟨by first | rfl | (simp [*, errW_none, errW_some] <;> rfl), by repeat (first | (with_reducible first | exact HB.out | apply bA_ | apply bN_ | apply b1_) | exact HB.out)⟩
  · replace c3 := Bool.eq_false_iff.mpr c3
    subst c3
    have H1 : ((tabardref04_within.f k a0 (([48, 57, 8242, 8242, 8320, 8329] : List Int))).bind fun t123 => (some t123)) = some r := by rw [if_neg (show ¬ (false = true) by decide)] at H; exact H
    clear H
    have H := H1
    clear H1
    obtain ⟨y120, hy120⟩ : ∃ y_ : List Int, y_ = (([48, 57, 8242, 8242, 8320, 8329] : List Int)) := ⟨_, rfl⟩
    replace H : ((tabardref04_within.f k a0 y120).bind fun t123 => (some t123)) = some r := by first | (rw [hy120]; with_reducible exact H) | (have H2_ := (Option.bind_some _ _).symm.trans H; rw [hy120]; with_reducible exact H2_) | (have H2_ := (Option.bind_some _ _).symm.trans H; with_reducible exact H2_) | with_reducible exact H | (rw [hy120]; exact H) | exact H
    have Ny120 := mk hy120
    clear hy120
    replace H := Option.bind_eq_some_iff.mp H
    obtain ⟨t123, A50, H⟩ := H
    replace H : (some t123) = some r := H
    have A5 := mk A50
    clear A50
    obtain rfl := Option.some.inj H
    go_enter Tryd.func18, Tryd.ntmps18
    go_wp2_with (first | ((with_reducible refine gate_callee (f := 17) rfl ?_); refine goesL_ (some 4) rfl rfl Tryd.func17 (by kernel_rfl) rfl #[.int .i64 a0] rfl (by (try simp only [List.map_toArray, List.map_cons, List.map_nil]); first | done | rfl | (simp only [List.length_drop, List.length_take]; rfl)) ?_; (with_reducible refine (tabardref04_Start.calls k a0 false _ A2.out).mono ?_); rintro e w6 ⟨rfl, hb⟩; refine ⟨_, rfl, ?_⟩; have n0_ := mk (below_step (by repeat (first | (with_reducible first | exact HB.out | apply bA_ | apply bN_ | apply b1_) | exact HB.out)) hb); clear HB; have HB := n0_; clear n0_; (try clear hb); (try clear hb2); (try clear hk); (try clear hi)) | ((with_reducible refine gate_dst (N := 7) rfl ?_); (try (refine gate_guard (by rfl) ?_; dsimp only)); refine Kd.R_lit (Kd.int .i64) _ 3 ?hg (N := 7) ?hd (xs := ([48, 57, 8242, 8242, 8320, 8329] : List Int)) (inner := [.int .i64 48, .int .i64 57, .int .i64 8242, .int .i64 8242, .int .i64 8320, .int .i64 8329]) (ok := fun _ => True) (okp := fun _ => True) ?hr ?hp (fun _ hk => hk) trivial (Below.refl _ _) (Nat.le_refl _) (by simp) ?_; (case hd => rfl); (case hg => rfl); (case hr => first | (go_simp; done) | (go_simp; rfl)); (case hp => exact (Reps.one (show Kd.M (Kd.int .i64) _ _ _ 48 [.int .i64 48] from rfl) (Reps.one (show Kd.M (Kd.int .i64) _ _ _ 57 [.int .i64 57] from rfl) (Reps.one (show Kd.M (Kd.int .i64) _ _ _ 8242 [.int .i64 8242] from rfl) (Reps.one (show Kd.M (Kd.int .i64) _ _ _ 8242 [.int .i64 8242] from rfl) (Reps.one (show Kd.M (Kd.int .i64) _ _ _ 8320 [.int .i64 8320] from rfl) (Reps.one (show Kd.M (Kd.int .i64) _ _ _ 8329 [.int .i64 8329] from rfl) (Reps.none _ _)))))))); intro v121 w7 ho8 hb hg_ hnew_; clear hg_ hnew_; (first | rw [← Ny120.out] at ho8 | (simp only [Int.reduceToNat] at ho8; rw [← Ny120.out] at ho8)); have n0_ := mk (Kd.R_lower ho8 (below_size (by repeat (first | (with_reducible first | exact HB.out | apply bA_ | apply bN_ | apply b1_) | exact HB.out)))); have n1_ := mk (below_step (by repeat (first | (with_reducible first | exact HB.out | apply bA_ | apply bN_ | apply b1_) | exact HB.out)) hb); clear HB; have HO122 := n0_; have HB := n1_; clear n0_ n1_; clear hb ho8; obtain ⟨Ao9, co9, eo9⟩ := Kd.R_slice HO122.out; subst eo9) | (go_at_call 20; (with_reducible refine (tabardref04_within.calls k a0 _ _ y120 t123 _ ?side1 ?side2 A5.out).mono ?_); (case side1 => repeat (first | exact (Kd.R_reads' HO122.out).2.2 | (with_reducible refine Kd.C_alloc ?_ _) | (with_reducible refine Kd.C_drewN ?_ _) | (with_reducible refine Kd.C_drew ?_))); (case side2 => exact (Kd.R_reads' HO122.out).2.1); rintro e w' ⟨rfl, ⟨nd, rfl⟩⟩))
    go_ret
    exact ⟨by first | rfl | (simp [*, errW_none, errW_some] <;> rfl), by repeat (first | (with_reducible first | exact HB.out | apply bA_ | apply bN_ | apply b1_) | exact HB.out)⟩
end Go.Proofs.YtoopddhkjhpbnaaDoor.Q
