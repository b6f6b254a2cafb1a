/- Functions of the given program as Lean functions, each with its contract: written by this session's program (wip/xprint.py). No condition but those of each contract. -/
import Derived.Test.YtcphnnopjfogdaaQ0
import Derived.Test.YtcphnnopjfogdaaQ2
import Derived.Test.YtcphnnopjfogdaaQ5
import Derived.Test.YtcphnnopjfogdaaQ17
import Derived.Test.YtcphnnopjfogdaaQ20
namespace Go.Proofs.Ytcphnnopjfogdaa.Q
open Go.RowKit Go.Proofs.YtcphnnopjfogdaaW.PrintWords Go.Proofs.YtcphnnopjfogdaaW.PrintLast Go.Proofs.YtcphnnopjfogdaaW.PrintMore
attribute [local go_sem] max2_int min2_int max_two min_two max_three min_three max_four min_four   -- for this text's walks alone
set_option linter.unusedVariables false
set_option linter.unusedSimpArgs false
attribute [local go_sem] fld63_0 fld63_1

/-! ### tabardlaw01_ChkSums: function 4 -/
def tabardlaw01_ChkSums.j0 : Nat → Int → Bool → Option (Bool)
  | 0, _, _ => none
  | k + 1, x0, x54 => if x54 = true then (some false) else ((chk_Neg.f x0).bind fun bt488 => ((tabardref01_Sub.f k 0 x0).bind fun bt490 => ((chk_Abs.f x0).bind fun bt492 => ((tabardref01_Abs.f k x0).bind fun bt494 => ((tabardlaw01_told.f bt488.1 bt488.2 bt490.1 bt490.2).bind fun t496 => (if t496 = true then ((tabardlaw01_told.f bt492.1 bt492.2 bt494.1 bt494.2).bind fun t497 => (some t497)) else (some false)))))))
def tabardlaw01_ChkSums.f (k : Nat) (a0 : Int) (a1 : Int) : Option (Bool) := (chk_Add.f a0 a1).bind fun bt477 => ((tabardref01_Add.f k a0 a1).bind fun bt479 => ((chk_Sub.f a0 a1).bind fun bt481 => ((tabardref01_Sub.f k a0 a1).bind fun bt483 => ((tabardlaw01_fixed.f).bind fun t485 => (if t485 = true then ((tabardlaw01_told.f bt477.1 bt477.2 bt479.1 bt479.2).bind fun t486 => (if t486 = true then ((tabardlaw01_told.f bt481.1 bt481.2 bt483.1 bt483.2).bind fun t487 => (tabardlaw01_ChkSums.j0 k a0 (!t487))) else (tabardlaw01_ChkSums.j0 k a0 true))) else (tabardlaw01_ChkSums.j0 k a0 true))))))
theorem tabardlaw01_ChkSums.mono_l : ∀ k, (∀ y0 y1, LeO (tabardlaw01_ChkSums.j0 k y0 y1) (tabardlaw01_ChkSums.j0 (k + 1) y0 y1))
  | 0 => fun _ _ r h => by simp [tabardlaw01_ChkSums.j0] at h
  | k + 1 => by
    have ih0 := tabardlaw01_ChkSums.mono_l k
    · intro y0 y1
      unfold tabardlaw01_ChkSums.j0
      repeat' first
      | (with_reducible exact ih0 _ _)
      | (with_reducible exact tabardref01_Abs.mono _ _)
      | (with_reducible exact tabardref01_Add.mono _ _ _)
      | (with_reducible exact tabardref01_Sub.mono _ _ _)
      | (with_reducible exact LeO.refl _)
      | (with_reducible exact LeO.none _)
      | (with_reducible refine LeO.ite ?_ ?_)
      | (with_reducible refine LeO.bind ?_ (fun _ => ?_))
      | exact ih0 _ _
      | exact tabardref01_Abs.mono _ _
      | exact tabardref01_Add.mono _ _ _
      | exact tabardref01_Sub.mono _ _ _
      | exact LeO.none _
      | refine LeO.ite ?_ ?_
      | refine LeO.bind ?_ (fun _ => ?_)
theorem tabardlaw01_ChkSums.mono : ∀ a0 a1 k, LeO (tabardlaw01_ChkSums.f k a0 a1) (tabardlaw01_ChkSums.f (k + 1) a0 a1) := by
  intro a0 a1 k
  have ih0 := tabardlaw01_ChkSums.mono_l k
  unfold tabardlaw01_ChkSums.f
  repeat' first
      | (with_reducible exact ih0 _ _)
      | (with_reducible exact tabardref01_Abs.mono _ _)
      | (with_reducible exact tabardref01_Add.mono _ _ _)
      | (with_reducible exact tabardref01_Sub.mono _ _ _)
      | (with_reducible exact LeO.refl _)
      | (with_reducible exact LeO.none _)
      | (with_reducible refine LeO.ite ?_ ?_)
      | (with_reducible refine LeO.bind ?_ (fun _ => ?_))
      | exact ih0 _ _
      | exact tabardref01_Abs.mono _ _
      | exact tabardref01_Add.mono _ _ _
      | exact tabardref01_Sub.mono _ _ _
      | exact LeO.none _
      | refine LeO.ite ?_ ?_
      | refine LeO.bind ?_ (fun _ => ?_)
set_option maxHeartbeats 8000000 in
set_option maxRecDepth 100000 in
theorem tabardlaw01_ChkSums.calls (k : Nat) (a0 : Int) (a1 : Int) (r : Bool) (w : World) (h : tabardlaw01_ChkSums.f k a0 a1 = some r) :
    Calls Try.prog 4 #[.int .i64 a0, .int .i64 a1] w fun e w' => e = .returned (.bool r) ∧ Below w.heap.size w w' := by
  have HB := Aside0.mk (Below.refl w.heap.size w)
  have H : ((chk_Add.f a0 a1).bind fun bt477 => ((tabardref01_Add.f k a0 a1).bind fun bt479 => ((chk_Sub.f a0 a1).bind fun bt481 => ((tabardref01_Sub.f k a0 a1).bind fun bt483 => ((tabardlaw01_fixed.f).bind fun t485 => (if t485 = true then ((tabardlaw01_told.f bt477.1 bt477.2 bt479.1 bt479.2).bind fun t486 => (if t486 = true then ((tabardlaw01_told.f bt481.1 bt481.2 bt483.1 bt483.2).bind fun t487 => (tabardlaw01_ChkSums.j0 k a0 (!t487))) else (tabardlaw01_ChkSums.j0 k a0 true))) else (tabardlaw01_ChkSums.j0 k a0 true))))))) = some r := h
  clear h
  replace H := Option.bind_eq_some_iff.mp H
  obtain ⟨⟨t477, t478⟩, A30, H⟩ := H
  replace H : ((tabardref01_Add.f k a0 a1).bind fun bt479 => ((chk_Sub.f a0 a1).bind fun bt481 => ((tabardref01_Sub.f k a0 a1).bind fun bt483 => ((tabardlaw01_fixed.f).bind fun t485 => (if t485 = true then ((tabardlaw01_told.f t477 t478 bt479.1 bt479.2).bind fun t486 => (if t486 = true then ((tabardlaw01_told.f bt481.1 bt481.2 bt483.1 bt483.2).bind fun t487 => (tabardlaw01_ChkSums.j0 k a0 (!t487))) else (tabardlaw01_ChkSums.j0 k a0 true))) else (tabardlaw01_ChkSums.j0 k a0 true)))))) = some r := H
  have A3 := Aside0.mk A30
  clear A30
  replace H := Option.bind_eq_some_iff.mp H
  obtain ⟨⟨t479, t480⟩, A40, H⟩ := H
  replace H : ((chk_Sub.f a0 a1).bind fun bt481 => ((tabardref01_Sub.f k a0 a1).bind fun bt483 => ((tabardlaw01_fixed.f).bind fun t485 => (if t485 = true then ((tabardlaw01_told.f t477 t478 t479 t480).bind fun t486 => (if t486 = true then ((tabardlaw01_told.f bt481.1 bt481.2 bt483.1 bt483.2).bind fun t487 => (tabardlaw01_ChkSums.j0 k a0 (!t487))) else (tabardlaw01_ChkSums.j0 k a0 true))) else (tabardlaw01_ChkSums.j0 k a0 true))))) = some r := H
  have A4 := Aside0.mk A40
  clear A40
  replace H := Option.bind_eq_some_iff.mp H
  obtain ⟨⟨t481, t482⟩, A50, H⟩ := H
  replace H : ((tabardref01_Sub.f k a0 a1).bind fun bt483 => ((tabardlaw01_fixed.f).bind fun t485 => (if t485 = true then ((tabardlaw01_told.f t477 t478 t479 t480).bind fun t486 => (if t486 = true then ((tabardlaw01_told.f t481 t482 bt483.1 bt483.2).bind fun t487 => (tabardlaw01_ChkSums.j0 k a0 (!t487))) else (tabardlaw01_ChkSums.j0 k a0 true))) else (tabardlaw01_ChkSums.j0 k a0 true)))) = some r := H
  have A5 := Aside0.mk A50
  clear A50
  replace H := Option.bind_eq_some_iff.mp H
  obtain ⟨⟨t483, t484⟩, A60, H⟩ := H
  replace H : ((tabardlaw01_fixed.f).bind fun t485 => (if t485 = true then ((tabardlaw01_told.f t477 t478 t479 t480).bind fun t486 => (if t486 = true then ((tabardlaw01_told.f t481 t482 t483 t484).bind fun t487 => (tabardlaw01_ChkSums.j0 k a0 (!t487))) else (tabardlaw01_ChkSums.j0 k a0 true))) else (tabardlaw01_ChkSums.j0 k a0 true))) = some r := H
  have A6 := Aside0.mk A60
  clear A60
  have HC7 := Aside0.mk H
  clear H
  go_enter Try.func4, Try.ntmps4
  go_upto_region 5 with (first | ((with_reducible refine gate_callee (f := 17) rfl ?_); refine goesL_ (some 16) rfl rfl Try.func17 (by kernel_rfl) rfl #[.int .i64 a0, .int .i64 a1] rfl (by (try simp only [List.map_toArray, List.map_cons, List.map_nil]); first | done | rfl | (simp only [List.length_drop, List.length_take]; rfl)) ?_; (with_reducible refine (chk_Add.calls a0 a1 t477 t478 _ A3.out).mono ?_); rintro e w' ⟨rfl, ⟨nd, rfl⟩⟩; refine ⟨_, rfl, ?_⟩) | ((with_reducible refine gate_callee (f := 18) rfl ?_); refine goesL_ (some 22) rfl rfl Try.func18 (by kernel_rfl) rfl #[.int .i64 a0, .int .i64 a1] rfl (by (try simp only [List.map_toArray, List.map_cons, List.map_nil]); first | done | rfl | (simp only [List.length_drop, List.length_take]; rfl)) ?_; (with_reducible refine (tabardref01_Add.calls k a0 a1 t479 t480 _ A4.out).mono ?_); rintro e w8 ⟨rfl, hb⟩; refine ⟨_, rfl, ?_⟩; have n0_ := Aside0.mk (below_step (by repeat (first | (with_reducible first | exact HB.out | apply below_alloc | apply pw_below_drewN | apply below_drew1) | exact HB.out)) hb); clear HB; have HB := n0_; clear n0_; (try clear hb); (try clear hb2); (try clear hk); (try clear hi)) | ((with_reducible refine gate_callee (f := 19) rfl ?_); refine goesL_ (some 28) rfl rfl Try.func19 (by kernel_rfl) rfl #[.int .i64 a0, .int .i64 a1] rfl (by (try simp only [List.map_toArray, List.map_cons, List.map_nil]); first | done | rfl | (simp only [List.length_drop, List.length_take]; rfl)) ?_; (with_reducible refine (chk_Sub.calls a0 a1 t481 t482 _ A5.out).mono ?_); rintro e w' ⟨rfl, ⟨nd, rfl⟩⟩; refine ⟨_, rfl, ?_⟩) | ((with_reducible refine gate_callee (f := 20) rfl ?_); refine goesL_ (some 34) rfl rfl Try.func20 (by kernel_rfl) rfl #[.int .i64 a0, .int .i64 a1] rfl (by (try simp only [List.map_toArray, List.map_cons, List.map_nil]); first | done | rfl | (simp only [List.length_drop, List.length_take]; rfl)) ?_; (with_reducible refine (tabardref01_Sub.calls k a0 a1 t483 t484 _ A6.out).mono ?_); rintro e w9 ⟨rfl, hb⟩; refine ⟨_, rfl, ?_⟩; have n0_ := Aside0.mk (below_step (by repeat (first | (with_reducible first | exact HB.out | apply below_alloc | apply pw_below_drewN | apply below_drew1) | exact HB.out)) hb); clear HB; have HB := n0_; clear n0_; (try clear hb); (try clear hb2); (try clear hk); (try clear hi)))
  (try simp only [Act.put, List.setIfInBounds_toArray, List.set_cons_zero, List.set_cons_succ])
  go_cut [54] (fun v54 wc => ∃ (kq : Nat) (x54_6 : Bool), v54 = .bool x54_6 ∧ Aside0 (tabardlaw01_ChkSums.j0 kq a0 x54_6 = some r) ∧ Aside0 (kq ≤ k) ∧ Aside0 (Below w.heap.size w wc))
  case first =>
    have H := HC7.out
    clear HC7
    replace H := Option.bind_eq_some_iff.mp H
    obtain ⟨t485, A100, H⟩ := H
    replace H : (if t485 = true then ((tabardlaw01_told.f t477 t478 t479 t480).bind fun t486 => (if t486 = true then ((tabardlaw01_told.f t481 t482 t483 t484).bind fun t487 => (tabardlaw01_ChkSums.j0 k a0 (!t487))) else (tabardlaw01_ChkSums.j0 k a0 true))) else (tabardlaw01_ChkSums.j0 k a0 true)) = some r := H
    have A10 := Aside0.mk A100
    clear A100
    by_cases c11 : t485 = true
    · subst c11
      have H1 : ((tabardlaw01_told.f t477 t478 t479 t480).bind fun t486 => (if t486 = true then ((tabardlaw01_told.f t481 t482 t483 t484).bind fun t487 => (tabardlaw01_ChkSums.j0 k a0 (!t487))) else (tabardlaw01_ChkSums.j0 k a0 true))) = some r := by rw [if_pos rfl] at H; exact H
      clear H
      have H := H1
      clear H1
      replace H := Option.bind_eq_some_iff.mp H
      obtain ⟨t486, A120, H⟩ := H
      replace H : (if t486 = true then ((tabardlaw01_told.f t481 t482 t483 t484).bind fun t487 => (tabardlaw01_ChkSums.j0 k a0 (!t487))) else (tabardlaw01_ChkSums.j0 k a0 true)) = some r := H
      have A12 := Aside0.mk A120
      clear A120
      by_cases c13 : t486 = true
      · subst c13
        have H1 : ((tabardlaw01_told.f t481 t482 t483 t484).bind fun t487 => (tabardlaw01_ChkSums.j0 k a0 (!t487))) = some r := by rw [if_pos rfl] at H; exact H
        clear H
        have H := H1
        clear H1
        replace H := Option.bind_eq_some_iff.mp H
        obtain ⟨t487, A140, H⟩ := H
        replace H : (tabardlaw01_ChkSums.j0 k a0 (!t487)) = some r := H
        have A14 := Aside0.mk A140
        clear A140
        have H' := Aside0.mk H
        clear H
        go_wp2_with (first | ((with_reducible refine gate_callee (f := 15) rfl ?_); refine goesL_ (some 37) rfl rfl Try.func15 (by kernel_rfl) rfl #[] rfl (by (try simp only [List.map_toArray, List.map_cons, List.map_nil]); first | done | rfl | (simp only [List.length_drop, List.length_take]; rfl)) ?_; (with_reducible refine (tabardlaw01_fixed.calls  true _ A10.out).mono ?_); rintro e w' ⟨rfl, ⟨nd, rfl⟩⟩; refine ⟨_, rfl, ?_⟩) | (go_at_call 16; (with_reducible refine (tabardlaw01_told.calls t477 t478 t479 t480 true _ A12.out).mono ?_); rintro e w' ⟨rfl, ⟨nd, rfl⟩⟩) | (go_at_call 16; (with_reducible refine (tabardlaw01_told.calls t481 t482 t483 t484 t487 _ A14.out).mono ?_); rintro e w' ⟨rfl, ⟨nd, rfl⟩⟩))
        go_meet
        case rel => exact ⟨_, (!t487), (by first | rfl | (simp; done) | (simp [*]; done)), H', ⟨by first | omega | exact Nat.le_refl _⟩, ⟨by repeat (first | (with_reducible first | exact HB.out | apply below_alloc | apply pw_below_drewN | apply below_drew1) | exact HB.out)⟩⟩
      · replace c13 := Bool.eq_false_iff.mpr c13
        subst c13
        have H1 : (tabardlaw01_ChkSums.j0 k a0 true) = some r := by rw [if_neg (show ¬ (false = true) by decide)] at H; exact H
        clear H
        have H := H1
        clear H1
        have H' := Aside0.mk H
        clear H
        go_wp2_with (first | ((with_reducible refine gate_callee (f := 15) rfl ?_); refine goesL_ (some 37) rfl rfl Try.func15 (by kernel_rfl) rfl #[] rfl (by (try simp only [List.map_toArray, List.map_cons, List.map_nil]); first | done | rfl | (simp only [List.length_drop, List.length_take]; rfl)) ?_; (with_reducible refine (tabardlaw01_fixed.calls  true _ A10.out).mono ?_); rintro e w' ⟨rfl, ⟨nd, rfl⟩⟩; refine ⟨_, rfl, ?_⟩) | (go_at_call 16; (with_reducible refine (tabardlaw01_told.calls t477 t478 t479 t480 false _ A12.out).mono ?_); rintro e w' ⟨rfl, ⟨nd, rfl⟩⟩))
        go_meet
        case rel => exact ⟨_, (true), (by first | rfl | (simp; done) | (simp [*]; done)), H', ⟨by first | omega | exact Nat.le_refl _⟩, ⟨by repeat (first | (with_reducible first | exact HB.out | apply below_alloc | apply pw_below_drewN | apply below_drew1) | exact HB.out)⟩⟩
    · replace c11 := Bool.eq_false_iff.mpr c11
      subst c11
      have H1 : (tabardlaw01_ChkSums.j0 k a0 true) = some r := by rw [if_neg (show ¬ (false = true) by decide)] at H; exact H
      clear H
      have H := H1
      clear H1
      have H' := Aside0.mk H
      clear H
      go_wp2_with (first | ((with_reducible refine gate_callee (f := 15) rfl ?_); refine goesL_ (some 37) rfl rfl Try.func15 (by kernel_rfl) rfl #[] rfl (by (try simp only [List.map_toArray, List.map_cons, List.map_nil]); first | done | rfl | (simp only [List.length_drop, List.length_take]; rfl)) ?_; (with_reducible refine (tabardlaw01_fixed.calls  false _ A10.out).mono ?_); rintro e w' ⟨rfl, ⟨nd, rfl⟩⟩; refine ⟨_, rfl, ?_⟩))
      go_meet
      case rel => exact ⟨_, (true), (by first | rfl | (simp; done) | (simp [*]; done)), H', ⟨by first | omega | exact Nat.le_refl _⟩, ⟨by repeat (first | (with_reducible first | exact HB.out | apply below_alloc | apply pw_below_drewN | apply below_drew1) | exact HB.out)⟩⟩
  case rest =>
    clear HC7
    try clear c1
    try clear c2
    try clear p2
    try clear c4
    try clear c11
    try clear c13
    obtain ⟨kq, x54_6, rfl, HA, HJ6, HB⟩ := hcut
    cases kq with
    | zero => exact absurd HA.out (by simp [tabardlaw01_ChkSums.j0])
    | succ kj6 =>
      have H := HA.out
      clear HA
      simp only [tabardlaw01_ChkSums.j0] at H
      by_cases c15 : x54_6 = true
      · subst c15
        have H1 : (some false) = some r := by rw [if_pos rfl] at H; exact H
        clear H
        have H := H1
        clear H1
        obtain rfl := Option.some.inj H
        go_wp2
        go_ret
        exact ⟨by first | rfl | (simp [errW_none, errW_some] <;> rfl) | (simp [*, errW_none, errW_some] <;> rfl), by repeat (first | (with_reducible first | exact HB.out | apply below_alloc | apply pw_below_drewN | apply below_drew1) | exact HB.out)⟩
      · replace c15 := Bool.eq_false_iff.mpr c15
        subst c15
        have H1 : ((chk_Neg.f a0).bind fun bt488 => ((tabardref01_Sub.f kj6 0 a0).bind fun bt490 => ((chk_Abs.f a0).bind fun bt492 => ((tabardref01_Abs.f kj6 a0).bind fun bt494 => ((tabardlaw01_told.f bt488.1 bt488.2 bt490.1 bt490.2).bind fun t496 => (if t496 = true then ((tabardlaw01_told.f bt492.1 bt492.2 bt494.1 bt494.2).bind fun t497 => (some t497)) else (some false))))))) = some r := by rw [if_neg (show ¬ (false = true) by decide)] at H; exact H
        clear H
        have H := H1
        clear H1
        replace H := Option.bind_eq_some_iff.mp H
        obtain ⟨⟨t488, t489⟩, A160, H⟩ := H
        replace H : ((tabardref01_Sub.f kj6 0 a0).bind fun bt490 => ((chk_Abs.f a0).bind fun bt492 => ((tabardref01_Abs.f kj6 a0).bind fun bt494 => ((tabardlaw01_told.f t488 t489 bt490.1 bt490.2).bind fun t496 => (if t496 = true then ((tabardlaw01_told.f bt492.1 bt492.2 bt494.1 bt494.2).bind fun t497 => (some t497)) else (some false)))))) = some r := H
        have A16 := Aside0.mk A160
        clear A160
        replace H := Option.bind_eq_some_iff.mp H
        obtain ⟨⟨t490, t491⟩, A170, H⟩ := H
        replace H : ((chk_Abs.f a0).bind fun bt492 => ((tabardref01_Abs.f kj6 a0).bind fun bt494 => ((tabardlaw01_told.f t488 t489 t490 t491).bind fun t496 => (if t496 = true then ((tabardlaw01_told.f bt492.1 bt492.2 bt494.1 bt494.2).bind fun t497 => (some t497)) else (some false))))) = some r := H
        have A17 := Aside0.mk A170
        clear A170
        replace H := Option.bind_eq_some_iff.mp H
        obtain ⟨⟨t492, t493⟩, A180, H⟩ := H
        replace H : ((tabardref01_Abs.f kj6 a0).bind fun bt494 => ((tabardlaw01_told.f t488 t489 t490 t491).bind fun t496 => (if t496 = true then ((tabardlaw01_told.f t492 t493 bt494.1 bt494.2).bind fun t497 => (some t497)) else (some false)))) = some r := H
        have A18 := Aside0.mk A180
        clear A180
        replace H := Option.bind_eq_some_iff.mp H
        obtain ⟨⟨t494, t495⟩, A190, H⟩ := H
        replace H : ((tabardlaw01_told.f t488 t489 t490 t491).bind fun t496 => (if t496 = true then ((tabardlaw01_told.f t492 t493 t494 t495).bind fun t497 => (some t497)) else (some false))) = some r := H
        have A19 := Aside0.mk A190
        clear A190
        replace H := Option.bind_eq_some_iff.mp H
        obtain ⟨t496, A200, H⟩ := H
        replace H : (if t496 = true then ((tabardlaw01_told.f t492 t493 t494 t495).bind fun t497 => (some t497)) else (some false)) = some r := H
        have A20 := Aside0.mk A200
        clear A200
        by_cases c21 : t496 = true
        · subst c21
          have H1 : ((tabardlaw01_told.f t492 t493 t494 t495).bind fun t497 => (some t497)) = some r := by rw [if_pos rfl] at H; exact H
          clear H
          have H := H1
          clear H1
          replace H := Option.bind_eq_some_iff.mp H
          obtain ⟨t497, A220, H⟩ := H
          replace H : (some t497) = some r := H
          have A22 := Aside0.mk A220
          clear A220
          obtain rfl := Option.some.inj H
          go_wp2_with (first | ((with_reducible refine gate_callee (f := 21) rfl ?_); refine goesL_ (some 57) rfl rfl Try.func21 (by kernel_rfl) rfl #[.int .i64 a0] rfl (by (try simp only [List.map_toArray, List.map_cons, List.map_nil]); first | done | rfl | (simp only [List.length_drop, List.length_take]; rfl)) ?_; (with_reducible refine (chk_Neg.calls a0 t488 t489 _ A16.out).mono ?_); rintro e w' ⟨rfl, ⟨nd, rfl⟩⟩; refine ⟨_, rfl, ?_⟩) | ((with_reducible refine gate_callee (f := 20) rfl ?_); refine goesL_ (some 62) rfl rfl Try.func20 (by kernel_rfl) rfl #[.int .i64 0, .int .i64 a0] rfl (by (try simp only [List.map_toArray, List.map_cons, List.map_nil]); first | done | rfl | (simp only [List.length_drop, List.length_take]; rfl)) ?_; (with_reducible refine (tabardref01_Sub.calls kj6 0 a0 t490 t491 _ A17.out).mono ?_); rintro e w23 ⟨rfl, hb⟩; refine ⟨_, rfl, ?_⟩; have n0_ := Aside0.mk (below_step (by repeat (first | (with_reducible first | exact HB.out | apply below_alloc | apply pw_below_drewN | apply below_drew1) | exact HB.out)) hb); clear HB; have HB := n0_; clear n0_; (try clear hb); (try clear hb2); (try clear hk); (try clear hi)) | ((with_reducible refine gate_callee (f := 22) rfl ?_); refine goesL_ (some 67) rfl rfl Try.func22 (by kernel_rfl) rfl #[.int .i64 a0] rfl (by (try simp only [List.map_toArray, List.map_cons, List.map_nil]); first | done | rfl | (simp only [List.length_drop, List.length_take]; rfl)) ?_; (with_reducible refine (chk_Abs.calls a0 t492 t493 _ A18.out).mono ?_); rintro e w' ⟨rfl, ⟨nd, rfl⟩⟩; refine ⟨_, rfl, ?_⟩) | ((with_reducible refine gate_callee (f := 23) rfl ?_); refine goesL_ (some 72) rfl rfl Try.func23 (by kernel_rfl) rfl #[.int .i64 a0] rfl (by (try simp only [List.map_toArray, List.map_cons, List.map_nil]); first | done | rfl | (simp only [List.length_drop, List.length_take]; rfl)) ?_; (with_reducible refine (tabardref01_Abs.calls kj6 a0 t494 t495 _ A19.out).mono ?_); rintro e w24 ⟨rfl, hb⟩; refine ⟨_, rfl, ?_⟩; have n0_ := Aside0.mk (below_step (by repeat (first | (with_reducible first | exact HB.out | apply below_alloc | apply pw_below_drewN | apply below_drew1) | exact HB.out)) hb); clear HB; have HB := n0_; clear n0_; (try clear hb); (try clear hb2); (try clear hk); (try clear hi)) | ((with_reducible refine gate_callee (f := 16) rfl ?_); refine goesL_ (some 79) rfl rfl Try.func16 (by kernel_rfl) rfl #[.int .i64 t488, .int .i64 t489, .int .i64 t490, .int .i64 t491] rfl (by (try simp only [List.map_toArray, List.map_cons, List.map_nil]); first | done | rfl | (simp only [List.length_drop, List.length_take]; rfl)) ?_; (with_reducible refine (tabardlaw01_told.calls t488 t489 t490 t491 true _ A20.out).mono ?_); rintro e w' ⟨rfl, ⟨nd, rfl⟩⟩; refine ⟨_, rfl, ?_⟩) | (go_at_call 16; (with_reducible refine (tabardlaw01_told.calls t492 t493 t494 t495 t497 _ A22.out).mono ?_); rintro e w' ⟨rfl, ⟨nd, rfl⟩⟩))
          go_ret
          exact ⟨by first | rfl | (simp [errW_none, errW_some] <;> rfl) | (simp [*, errW_none, errW_some] <;> rfl), by repeat (first | (with_reducible first | exact HB.out | apply below_alloc | apply pw_below_drewN | apply below_drew1) | exact HB.out)⟩
        · replace c21 := Bool.eq_false_iff.mpr c21
          subst c21
          have H1 : (some false) = some r := by rw [if_neg (show ¬ (false = true) by decide)] at H; exact H
          clear H
          have H := H1
          clear H1
          obtain rfl := Option.some.inj H
          go_wp2_with (first | ((with_reducible refine gate_callee (f := 21) rfl ?_); refine goesL_ (some 57) rfl rfl Try.func21 (by kernel_rfl) rfl #[.int .i64 a0] rfl (by (try simp only [List.map_toArray, List.map_cons, List.map_nil]); first | done | rfl | (simp only [List.length_drop, List.length_take]; rfl)) ?_; (with_reducible refine (chk_Neg.calls a0 t488 t489 _ A16.out).mono ?_); rintro e w' ⟨rfl, ⟨nd, rfl⟩⟩; refine ⟨_, rfl, ?_⟩) | ((with_reducible refine gate_callee (f := 20) rfl ?_); refine goesL_ (some 62) rfl rfl Try.func20 (by kernel_rfl) rfl #[.int .i64 0, .int .i64 a0] rfl (by (try simp only [List.map_toArray, List.map_cons, List.map_nil]); first | done | rfl | (simp only [List.length_drop, List.length_take]; rfl)) ?_; (with_reducible refine (tabardref01_Sub.calls kj6 0 a0 t490 t491 _ A17.out).mono ?_); rintro e w25 ⟨rfl, hb⟩; refine ⟨_, rfl, ?_⟩; have n0_ := Aside0.mk (below_step (by repeat (first | (with_reducible first | exact HB.out | apply below_alloc | apply pw_below_drewN | apply below_drew1) | exact HB.out)) hb); clear HB; have HB := n0_; clear n0_; (try clear hb); (try clear hb2); (try clear hk); (try clear hi)) | ((with_reducible refine gate_callee (f := 22) rfl ?_); refine goesL_ (some 67) rfl rfl Try.func22 (by kernel_rfl) rfl #[.int .i64 a0] rfl (by (try simp only [List.map_toArray, List.map_cons, List.map_nil]); first | done | rfl | (simp only [List.length_drop, List.length_take]; rfl)) ?_; (with_reducible refine (chk_Abs.calls a0 t492 t493 _ A18.out).mono ?_); rintro e w' ⟨rfl, ⟨nd, rfl⟩⟩; refine ⟨_, rfl, ?_⟩) | ((with_reducible refine gate_callee (f := 23) rfl ?_); refine goesL_ (some 72) rfl rfl Try.func23 (by kernel_rfl) rfl #[.int .i64 a0] rfl (by (try simp only [List.map_toArray, List.map_cons, List.map_nil]); first | done | rfl | (simp only [List.length_drop, List.length_take]; rfl)) ?_; (with_reducible refine (tabardref01_Abs.calls kj6 a0 t494 t495 _ A19.out).mono ?_); rintro e w26 ⟨rfl, hb⟩; refine ⟨_, rfl, ?_⟩; have n0_ := Aside0.mk (below_step (by repeat (first | (with_reducible first | exact HB.out | apply below_alloc | apply pw_below_drewN | apply below_drew1) | exact HB.out)) hb); clear HB; have HB := n0_; clear n0_; (try clear hb); (try clear hb2); (try clear hk); (try clear hi)) | ((with_reducible refine gate_callee (f := 16) rfl ?_); refine goesL_ (some 79) rfl rfl Try.func16 (by kernel_rfl) rfl #[.int .i64 t488, .int .i64 t489, .int .i64 t490, .int .i64 t491] rfl (by (try simp only [List.map_toArray, List.map_cons, List.map_nil]); first | done | rfl | (simp only [List.length_drop, List.length_take]; rfl)) ?_; (with_reducible refine (tabardlaw01_told.calls t488 t489 t490 t491 false _ A20.out).mono ?_); rintro e w' ⟨rfl, ⟨nd, rfl⟩⟩; refine ⟨_, rfl, ?_⟩))
          go_ret
          exact ⟨by first | rfl | (simp [errW_none, errW_some] <;> rfl) | (simp [*, errW_none, errW_some] <;> rfl), by repeat (first | (with_reducible first | exact HB.out | apply below_alloc | apply pw_below_drewN | apply below_drew1) | exact HB.out)⟩

/-- THE ONE PURE STATEMENT of tabardlaw01_ChkSums: yours. -/
def tabardlaw01_ChkSums.Pure : Prop := ∀ (a0 : Int) (a1 : Int), (Lit.int .i64 a0).wf = true → (Lit.int .i64 a1).wf = true → ∃ k, tabardlaw01_ChkSums.f k a0 a1 = some true
theorem tabardlaw01_ChkSums.walk (P : tabardlaw01_ChkSums.Pure) (a0 : Int) (a1 : Int) (w : World) (w0 : (Lit.int .i64 a0).wf = true) (w1 : (Lit.int .i64 a1).wf = true) :
    Calls Try.prog 4 #[.int .i64 a0, .int .i64 a1] w fun e w' => e = .returned (.bool true) ∧ Below w.heap.size w w' := by
  obtain ⟨k, h⟩ := P a0 a1 w0 w1
  refine (tabardlaw01_ChkSums.calls k a0 a1 true w h).mono ?_
  rintro e w' ⟨rfl, hd⟩
  exact ⟨rfl, hd⟩

end Go.Proofs.Ytcphnnopjfogdaa.Q
