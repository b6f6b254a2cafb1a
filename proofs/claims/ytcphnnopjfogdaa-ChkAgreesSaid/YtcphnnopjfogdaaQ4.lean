/- Functions of the given program as Lean functions, each with its contract: written by this session's program (wip/xprint.py). No condition but those of each contract. -/
import Derived.Test.YtcphnnopjfogdaaQ0
import Derived.Test.YtcphnnopjfogdaaQ1
import Derived.Test.YtcphnnopjfogdaaQ2
import Derived.Test.YtcphnnopjfogdaaQ3
namespace Go.Proofs.Ytcphnnopjfogdaa.Q
open Go.RowKit Go.Proofs.YtcphnnopjfogdaaW.PrintWords Go.Proofs.YtcphnnopjfogdaaW.PrintLast Go.Proofs.YtcphnnopjfogdaaW.PrintMore
attribute [local go_sem] max2_int min2_int max_two min_two max_three min_three max_four min_four   -- for this text's walks alone
set_option linter.unusedVariables false
set_option linter.unusedSimpArgs false
attribute [local go_sem] fld63_0 fld63_1

/-! ### tabardlaw01_ChkAgrees: function 8 -/
mutual
def tabardlaw01_ChkAgrees.j0 : Nat → Int → Int → Int → Int → Bool → Option (Bool)
  | 0, _, _, _, _, _ => none
  | k + 1, x0, x1, x5, x6, x38 => if x38 = true then (some false) else (if x6 = 0 then ((chk_Sub.f x5 x1).bind fun bt115 => (if bt115.2 = 0 then (if bt115.1 = x0 then (tabardlaw01_ChkAgrees.j1 k x0 x1) else (some false)) else (some false))) else (tabardlaw01_ChkAgrees.j1 k x0 x1))
def tabardlaw01_ChkAgrees.j1 : Nat → Int → Int → Option (Bool)
  | 0, _, _ => none
  | k + 1, x0, x1 => (chk_Mul.f k x0 x1).bind fun bt117 => ((chk_Mul.f k x1 x0).bind fun bt119 => (if bt117.1 = bt119.1 then (tabardlaw01_ChkAgrees.j2 k x0 x1 bt117.2 bt117.1 (bt117.2 != bt119.2)) else (tabardlaw01_ChkAgrees.j2 k x0 x1 bt117.2 bt117.1 true)))
def tabardlaw01_ChkAgrees.j2 : Nat → Int → Int → Int → Int → Bool → Option (Bool)
  | 0, _, _, _, _, _ => none
  | k + 1, x0, x1, x6, x11, x73 => if x73 = true then (some false) else (if x6 = 0 then (tabardlaw01_ChkAgrees.j3 k x0 x1 x11 (x1 != 0)) else (tabardlaw01_ChkAgrees.j3 k x0 x1 x11 false))
def tabardlaw01_ChkAgrees.j3 : Nat → Int → Int → Int → Bool → Option (Bool)
  | 0, _, _, _, _ => none
  | k + 1, x0, x1, x11, x79 => if x79 = true then ((chk_Floor.f x11 x1).bind fun bt121 => (if bt121.2 = 0 then (if bt121.1 = x0 then (tabardlaw01_ChkAgrees.j4 k x0 x1) else (some false)) else (some false))) else (tabardlaw01_ChkAgrees.j4 k x0 x1)
def tabardlaw01_ChkAgrees.j4 : Nat → Int → Int → Option (Bool)
  | 0, _, _ => none
  | k + 1, x0, x1 => (chk_Rest.f x0 x1).bind fun bt123 => (if bt123.2 = 0 then ((chk_Floor.f x0 x1).bind fun bt125 => (if bt125.2 = 0 then (if bt123.1 ≥ 0 then (if bt123.1 < x1 then (some ((wrap64 ((wrap64 (bt125.1 * x1)) + bt123.1)) == x0)) else (some false)) else (some false)) else (some false))) else (if x1 < 1 then (if bt123.2 = 2 then (some (bt123.1 == 0)) else (some false)) else (some false)))
end
def tabardlaw01_ChkAgrees.f (k : Nat) (a0 : Int) (a1 : Int) : Option (Bool) := (tabardlaw01_fixed.f).bind fun t110 => (if t110 = true then ((chk_Add.f a0 a1).bind fun bt111 => ((chk_Add.f a1 a0).bind fun bt113 => (if bt111.1 = bt113.1 then (tabardlaw01_ChkAgrees.j0 k a0 a1 bt111.1 bt111.2 (bt111.2 != bt113.2)) else (tabardlaw01_ChkAgrees.j0 k a0 a1 bt111.1 bt111.2 true)))) else (some false))
theorem tabardlaw01_ChkAgrees.mono_l : ∀ k, (∀ y0 y1 y2 y3 y4, LeO (tabardlaw01_ChkAgrees.j0 k y0 y1 y2 y3 y4) (tabardlaw01_ChkAgrees.j0 (k + 1) y0 y1 y2 y3 y4)) ∧ (∀ y0 y1, LeO (tabardlaw01_ChkAgrees.j1 k y0 y1) (tabardlaw01_ChkAgrees.j1 (k + 1) y0 y1)) ∧ (∀ y0 y1 y2 y3 y4, LeO (tabardlaw01_ChkAgrees.j2 k y0 y1 y2 y3 y4) (tabardlaw01_ChkAgrees.j2 (k + 1) y0 y1 y2 y3 y4)) ∧ (∀ y0 y1 y2 y3, LeO (tabardlaw01_ChkAgrees.j3 k y0 y1 y2 y3) (tabardlaw01_ChkAgrees.j3 (k + 1) y0 y1 y2 y3)) ∧ (∀ y0 y1, LeO (tabardlaw01_ChkAgrees.j4 k y0 y1) (tabardlaw01_ChkAgrees.j4 (k + 1) y0 y1))
  | 0 => ⟨fun _ _ _ _ _ r h => by simp [tabardlaw01_ChkAgrees.j0] at h, fun _ _ r h => by simp [tabardlaw01_ChkAgrees.j1] at h, fun _ _ _ _ _ r h => by simp [tabardlaw01_ChkAgrees.j2] at h, fun _ _ _ _ r h => by simp [tabardlaw01_ChkAgrees.j3] at h, fun _ _ r h => by simp [tabardlaw01_ChkAgrees.j4] at h⟩
  | k + 1 => by
    obtain ⟨ih0, ih1, ih2, ih3, ih4⟩ := tabardlaw01_ChkAgrees.mono_l k
    refine ⟨?_, ?_, ?_, ?_, ?_⟩
    · intro y0 y1 y2 y3 y4
      unfold tabardlaw01_ChkAgrees.j0
      repeat' first
      | (with_reducible exact ih0 _ _ _ _ _)
      | (with_reducible exact ih1 _ _)
      | (with_reducible exact ih2 _ _ _ _ _)
      | (with_reducible exact ih3 _ _ _ _)
      | (with_reducible exact ih4 _ _)
      | (with_reducible exact chk_Mul.mono _ _ _)
      | (with_reducible exact LeO.refl _)
      | (with_reducible exact LeO.none _)
      | (with_reducible refine LeO.ite ?_ ?_)
      | (with_reducible refine LeO.bind ?_ (fun _ => ?_))
      | exact ih0 _ _ _ _ _
      | exact ih1 _ _
      | exact ih2 _ _ _ _ _
      | exact ih3 _ _ _ _
      | exact ih4 _ _
      | exact chk_Mul.mono _ _ _
      | exact LeO.none _
      | refine LeO.ite ?_ ?_
      | refine LeO.bind ?_ (fun _ => ?_)
    · intro y0 y1
      unfold tabardlaw01_ChkAgrees.j1
      repeat' first
      | (with_reducible exact ih0 _ _ _ _ _)
      | (with_reducible exact ih1 _ _)
      | (with_reducible exact ih2 _ _ _ _ _)
      | (with_reducible exact ih3 _ _ _ _)
      | (with_reducible exact ih4 _ _)
      | (with_reducible exact chk_Mul.mono _ _ _)
      | (with_reducible exact LeO.refl _)
      | (with_reducible exact LeO.none _)
      | (with_reducible refine LeO.ite ?_ ?_)
      | (with_reducible refine LeO.bind ?_ (fun _ => ?_))
      | exact ih0 _ _ _ _ _
      | exact ih1 _ _
      | exact ih2 _ _ _ _ _
      | exact ih3 _ _ _ _
      | exact ih4 _ _
      | exact chk_Mul.mono _ _ _
      | exact LeO.none _
      | refine LeO.ite ?_ ?_
      | refine LeO.bind ?_ (fun _ => ?_)
    · intro y0 y1 y2 y3 y4
      unfold tabardlaw01_ChkAgrees.j2
      repeat' first
      | (with_reducible exact ih0 _ _ _ _ _)
      | (with_reducible exact ih1 _ _)
      | (with_reducible exact ih2 _ _ _ _ _)
      | (with_reducible exact ih3 _ _ _ _)
      | (with_reducible exact ih4 _ _)
      | (with_reducible exact chk_Mul.mono _ _ _)
      | (with_reducible exact LeO.refl _)
      | (with_reducible exact LeO.none _)
      | (with_reducible refine LeO.ite ?_ ?_)
      | (with_reducible refine LeO.bind ?_ (fun _ => ?_))
      | exact ih0 _ _ _ _ _
      | exact ih1 _ _
      | exact ih2 _ _ _ _ _
      | exact ih3 _ _ _ _
      | exact ih4 _ _
      | exact chk_Mul.mono _ _ _
      | exact LeO.none _
      | refine LeO.ite ?_ ?_
      | refine LeO.bind ?_ (fun _ => ?_)
    · intro y0 y1 y2 y3
      unfold tabardlaw01_ChkAgrees.j3
      repeat' first
      | (with_reducible exact ih0 _ _ _ _ _)
      | (with_reducible exact ih1 _ _)
      | (with_reducible exact ih2 _ _ _ _ _)
      | (with_reducible exact ih3 _ _ _ _)
      | (with_reducible exact ih4 _ _)
      | (with_reducible exact chk_Mul.mono _ _ _)
      | (with_reducible exact LeO.refl _)
      | (with_reducible exact LeO.none _)
      | (with_reducible refine LeO.ite ?_ ?_)
      | (with_reducible refine LeO.bind ?_ (fun _ => ?_))
      | exact ih0 _ _ _ _ _
      | exact ih1 _ _
      | exact ih2 _ _ _ _ _
      | exact ih3 _ _ _ _
      | exact ih4 _ _
      | exact chk_Mul.mono _ _ _
      | exact LeO.none _
      | refine LeO.ite ?_ ?_
      | refine LeO.bind ?_ (fun _ => ?_)
    · intro y0 y1
      unfold tabardlaw01_ChkAgrees.j4
      repeat' first
      | (with_reducible exact ih0 _ _ _ _ _)
      | (with_reducible exact ih1 _ _)
      | (with_reducible exact ih2 _ _ _ _ _)
      | (with_reducible exact ih3 _ _ _ _)
      | (with_reducible exact ih4 _ _)
      | (with_reducible exact chk_Mul.mono _ _ _)
      | (with_reducible exact LeO.refl _)
      | (with_reducible exact LeO.none _)
      | (with_reducible refine LeO.ite ?_ ?_)
      | (with_reducible refine LeO.bind ?_ (fun _ => ?_))
      | exact ih0 _ _ _ _ _
      | exact ih1 _ _
      | exact ih2 _ _ _ _ _
      | exact ih3 _ _ _ _
      | exact ih4 _ _
      | exact chk_Mul.mono _ _ _
      | exact LeO.none _
      | refine LeO.ite ?_ ?_
      | refine LeO.bind ?_ (fun _ => ?_)
theorem tabardlaw01_ChkAgrees.mono : ∀ a0 a1 k, LeO (tabardlaw01_ChkAgrees.f k a0 a1) (tabardlaw01_ChkAgrees.f (k + 1) a0 a1) := by
  intro a0 a1 k
  obtain ⟨ih0, ih1, ih2, ih3, ih4⟩ := tabardlaw01_ChkAgrees.mono_l k
  unfold tabardlaw01_ChkAgrees.f
  repeat' first
      | (with_reducible exact ih0 _ _ _ _ _)
      | (with_reducible exact ih1 _ _)
      | (with_reducible exact ih2 _ _ _ _ _)
      | (with_reducible exact ih3 _ _ _ _)
      | (with_reducible exact ih4 _ _)
      | (with_reducible exact chk_Mul.mono _ _ _)
      | (with_reducible exact LeO.refl _)
      | (with_reducible exact LeO.none _)
      | (with_reducible refine LeO.ite ?_ ?_)
      | (with_reducible refine LeO.bind ?_ (fun _ => ?_))
      | exact ih0 _ _ _ _ _
      | exact ih1 _ _
      | exact ih2 _ _ _ _ _
      | exact ih3 _ _ _ _
      | exact ih4 _ _
      | exact chk_Mul.mono _ _ _
      | exact LeO.none _
      | refine LeO.ite ?_ ?_
      | refine LeO.bind ?_ (fun _ => ?_)
set_option maxHeartbeats 8000000 in
set_option maxRecDepth 100000 in
theorem tabardlaw01_ChkAgrees.calls (k : Nat) (a0 : Int) (a1 : Int) (r : Bool) (w : World) (h : tabardlaw01_ChkAgrees.f k a0 a1 = some r) :
    Calls Try.prog 8 #[.int .i64 a0, .int .i64 a1] w fun e w' => e = .returned (.bool r) ∧ Drawn0 w w' := by
  have H : ((tabardlaw01_fixed.f).bind fun t110 => (if t110 = true then ((chk_Add.f a0 a1).bind fun bt111 => ((chk_Add.f a1 a0).bind fun bt113 => (if bt111.1 = bt113.1 then (tabardlaw01_ChkAgrees.j0 k a0 a1 bt111.1 bt111.2 (bt111.2 != bt113.2)) else (tabardlaw01_ChkAgrees.j0 k a0 a1 bt111.1 bt111.2 true)))) else (some false))) = some r := h
  clear h
  replace H := Option.bind_eq_some_iff.mp H
  obtain ⟨t110, A30, H⟩ := H
  replace H : (if t110 = true then ((chk_Add.f a0 a1).bind fun bt111 => ((chk_Add.f a1 a0).bind fun bt113 => (if bt111.1 = bt113.1 then (tabardlaw01_ChkAgrees.j0 k a0 a1 bt111.1 bt111.2 (bt111.2 != bt113.2)) else (tabardlaw01_ChkAgrees.j0 k a0 a1 bt111.1 bt111.2 true)))) else (some false)) = some r := H
  have A3 := Aside0.mk A30
  clear A30
  by_cases c4 : t110 = true
  · subst c4
    have H1 : ((chk_Add.f a0 a1).bind fun bt111 => ((chk_Add.f a1 a0).bind fun bt113 => (if bt111.1 = bt113.1 then (tabardlaw01_ChkAgrees.j0 k a0 a1 bt111.1 bt111.2 (bt111.2 != bt113.2)) else (tabardlaw01_ChkAgrees.j0 k a0 a1 bt111.1 bt111.2 true)))) = some r := by rw [if_pos rfl] at H; exact H
    clear H
    have H := H1
    clear H1
    replace H := Option.bind_eq_some_iff.mp H
    obtain ⟨⟨t111, t112⟩, A50, H⟩ := H
    replace H : ((chk_Add.f a1 a0).bind fun bt113 => (if t111 = bt113.1 then (tabardlaw01_ChkAgrees.j0 k a0 a1 t111 t112 (t112 != bt113.2)) else (tabardlaw01_ChkAgrees.j0 k a0 a1 t111 t112 true))) = some r := H
    have A5 := Aside0.mk A50
    clear A50
    replace H := Option.bind_eq_some_iff.mp H
    obtain ⟨⟨t113, t114⟩, A60, H⟩ := H
    replace H : (if t111 = t113 then (tabardlaw01_ChkAgrees.j0 k a0 a1 t111 t112 (t112 != t114)) else (tabardlaw01_ChkAgrees.j0 k a0 a1 t111 t112 true)) = some r := H
    have A6 := Aside0.mk A60
    clear A60
    have HC7 := Aside0.mk H
    clear H
    go_enter Try.func8, Try.ntmps8
    go_upto_region 5 with (first | ((with_reducible refine gate_callee (f := 15) rfl ?_); refine goesL_ (some 17) rfl rfl Try.func15 (by kernel_rfl) rfl #[] rfl (by (try simp only [List.map_toArray, List.map_cons, List.map_nil]); first | done | rfl | (simp only [List.length_drop, List.length_take]; rfl)) ?_; (with_reducible refine (tabardlaw01_fixed.calls  true _ A3.out).mono ?_); rintro e w' ⟨rfl, ⟨nd, rfl⟩⟩; refine ⟨_, rfl, ?_⟩) | ((with_reducible refine gate_callee (f := 17) rfl ?_); refine goesL_ (some 22) rfl rfl Try.func17 (by kernel_rfl) rfl #[.int .i64 a0, .int .i64 a1] rfl (by (try simp only [List.map_toArray, List.map_cons, List.map_nil]); first | done | rfl | (simp only [List.length_drop, List.length_take]; rfl)) ?_; (with_reducible refine (chk_Add.calls a0 a1 t111 t112 _ A5.out).mono ?_); rintro e w' ⟨rfl, ⟨nd, rfl⟩⟩; refine ⟨_, rfl, ?_⟩) | ((with_reducible refine gate_callee (f := 17) rfl ?_); refine goesL_ (some 28) rfl rfl Try.func17 (by kernel_rfl) rfl #[.int .i64 a1, .int .i64 a0] rfl (by (try simp only [List.map_toArray, List.map_cons, List.map_nil]); first | done | rfl | (simp only [List.length_drop, List.length_take]; rfl)) ?_; (with_reducible refine (chk_Add.calls a1 a0 t113 t114 _ A6.out).mono ?_); rintro e w' ⟨rfl, ⟨nd, rfl⟩⟩; refine ⟨_, rfl, ?_⟩))
    (try simp only [Act.put, List.setIfInBounds_toArray, List.set_cons_zero, List.set_cons_succ])
    go_cut [38] (fun v38 wc => ∃ (kq : Nat) (x38_6 : Bool), v38 = .bool x38_6 ∧ Aside0 (tabardlaw01_ChkAgrees.j0 kq a0 a1 t111 t112 x38_6 = some r) ∧ Aside0 (kq ≤ k) ∧ Drawn0 w wc)
    case first =>
      have H := HC7.out
      clear HC7
      by_cases c8 : t111 = t113
      · rw [if_pos c8] at H
        have c8b0 : (t111 == t113) = true := beq_iff_eq.mpr c8
        have c8b1 : (t111 != t113) = false := bne_eq_false_iff_eq.mpr c8
        clear c8
        (first | rw [c8b0] | (simp only [i64_w, i32_w]; rw [c8b0]) | skip)
        have H' := Aside0.mk H
        clear H
        go_wp2
        go_meet
        case rel => exact ⟨_, ((t112 != t114)), (by first | rfl | (simp; done) | (simp [*]; done)), H', ⟨by first | omega | exact Nat.le_refl _⟩, by repeat (first | exact Drawn0.refl _ | apply Drawn0.step)⟩
      · rw [if_neg c8] at H
        have c8b0 : (t111 == t113) = false := beq_eq_false_iff_ne.mpr c8
        have c8b1 : (t111 != t113) = true := bne_iff_ne.mpr c8
        (first | rw [c8b0] | (simp only [i64_w, i32_w]; rw [c8b0]) | skip)
        have H' := Aside0.mk H
        clear H
        go_wp2
        go_meet
        case rel => exact ⟨_, (true), (by first | rfl | (simp; done) | (simp [*]; done)), H', ⟨by first | omega | exact Nat.le_refl _⟩, by repeat (first | exact Drawn0.refl _ | apply Drawn0.step)⟩
    case rest =>
      clear HC7
      try clear c1
      try clear p2
      try clear c4
      try clear c8
      try clear c8b0
      try clear c8b1
      obtain ⟨kq, x38_6, rfl, HA, HJ6, ⟨mc6, rfl⟩⟩ := hcut
      cases kq with
      | zero => exact absurd HA.out (by simp [tabardlaw01_ChkAgrees.j0])
      | succ kj6 =>
        have H := HA.out
        clear HA
        simp only [tabardlaw01_ChkAgrees.j0] at H
        by_cases c9 : x38_6 = true
        · subst c9
          have H1 : (some false) = some r := by rw [if_pos rfl] at H; exact H
          clear H
          have H := H1
          clear H1
          obtain rfl := Option.some.inj H
          go_wp2
          go_ret
          exact ⟨by first | rfl | (simp; done) | (simp [*]; done), by repeat (first | exact Drawn0.refl _ | apply Drawn0.step)⟩
        · replace c9 := Bool.eq_false_iff.mpr c9
          subst c9
          have H1 : (if t112 = 0 then ((chk_Sub.f t111 a1).bind fun bt115 => (if bt115.2 = 0 then (if bt115.1 = a0 then (tabardlaw01_ChkAgrees.j1 kj6 a0 a1) else (some false)) else (some false))) else (tabardlaw01_ChkAgrees.j1 kj6 a0 a1)) = some r := by rw [if_neg (show ¬ (false = true) by decide)] at H; exact H
          clear H
          have H := H1
          clear H1
          have HC10 := Aside0.mk H
          clear H
          go_upto_if 40 with (fail)
          go_cut [] (fun wc => ∃ (kq : Nat), Aside0 (tabardlaw01_ChkAgrees.j1 kq a0 a1 = some r) ∧ Aside0 (kq ≤ kj6) ∧ Drawn0 w wc)
          case first =>
            have H := HC10.out
            clear HC10
            by_cases c11 : t112 = 0
            · rw [if_pos c11] at H
              have c11b0 : (t112 == 0) = true := beq_iff_eq.mpr c11
              have c11b1 : (t112 != 0) = false := bne_eq_false_iff_eq.mpr c11
              clear c11
              (first | rw [c11b0] | (simp only [i64_w, i32_w]; rw [c11b0]) | skip)
              replace H := Option.bind_eq_some_iff.mp H
              obtain ⟨⟨t115, t116⟩, A120, H⟩ := H
              replace H : (if t116 = 0 then (if t115 = a0 then (tabardlaw01_ChkAgrees.j1 kj6 a0 a1) else (some false)) else (some false)) = some r := H
              have A12 := Aside0.mk A120
              clear A120
              by_cases c13 : t116 = 0
              · rw [if_pos c13] at H
                have c13b0 : (t116 == 0) = true := beq_iff_eq.mpr c13
                have c13b1 : (t116 != 0) = false := bne_eq_false_iff_eq.mpr c13
                clear c13
                by_cases c14 : t115 = a0
                · rw [if_pos c14] at H
                  have c14b0 : (t115 == a0) = true := beq_iff_eq.mpr c14
                  have c14b1 : (t115 != a0) = false := bne_eq_false_iff_eq.mpr c14
                  clear c14
                  have H' := Aside0.mk H
                  clear H
                  go_wp2_with (first | ((with_reducible refine gate_callee (f := 19) rfl ?_); refine goesL_ (some 44) rfl rfl Try.func19 (by kernel_rfl) rfl #[.int .i64 t111, .int .i64 a1] rfl (by (try simp only [List.map_toArray, List.map_cons, List.map_nil]); first | done | rfl | (simp only [List.length_drop, List.length_take]; rfl)) ?_; (with_reducible refine (chk_Sub.calls t111 a1 t115 t116 _ A12.out).mono ?_); rintro e w' ⟨rfl, ⟨nd, rfl⟩⟩; refine ⟨_, rfl, ?_⟩))
                  go_meet
                  case rel => exact ⟨_, H', ⟨by have := HJ6.out; first | omega | exact Nat.le_refl _⟩, by repeat (first | exact Drawn0.refl _ | apply Drawn0.step)⟩
                · rw [if_neg c14] at H
                  have c14b0 : (t115 == a0) = false := beq_eq_false_iff_ne.mpr c14
                  have c14b1 : (t115 != a0) = true := bne_iff_ne.mpr c14
                  obtain rfl := Option.some.inj H
                  go_wp2_with (first | ((with_reducible refine gate_callee (f := 19) rfl ?_); refine goesL_ (some 44) rfl rfl Try.func19 (by kernel_rfl) rfl #[.int .i64 t111, .int .i64 a1] rfl (by (try simp only [List.map_toArray, List.map_cons, List.map_nil]); first | done | rfl | (simp only [List.length_drop, List.length_take]; rfl)) ?_; (with_reducible refine (chk_Sub.calls t111 a1 t115 t116 _ A12.out).mono ?_); rintro e w' ⟨rfl, ⟨nd, rfl⟩⟩; refine ⟨_, rfl, ?_⟩))
                  go_ret
                  exact ⟨by first | rfl | (simp; done) | (simp [*]; done), by repeat (first | exact Drawn0.refl _ | apply Drawn0.step)⟩
              · rw [if_neg c13] at H
                have c13b0 : (t116 == 0) = false := beq_eq_false_iff_ne.mpr c13
                have c13b1 : (t116 != 0) = true := bne_iff_ne.mpr c13
                obtain rfl := Option.some.inj H
                go_wp2_with (first | ((with_reducible refine gate_callee (f := 19) rfl ?_); refine goesL_ (some 44) rfl rfl Try.func19 (by kernel_rfl) rfl #[.int .i64 t111, .int .i64 a1] rfl (by (try simp only [List.map_toArray, List.map_cons, List.map_nil]); first | done | rfl | (simp only [List.length_drop, List.length_take]; rfl)) ?_; (with_reducible refine (chk_Sub.calls t111 a1 t115 t116 _ A12.out).mono ?_); rintro e w' ⟨rfl, ⟨nd, rfl⟩⟩; refine ⟨_, rfl, ?_⟩))
                go_ret
                exact ⟨by first | rfl | (simp; done) | (simp [*]; done), by repeat (first | exact Drawn0.refl _ | apply Drawn0.step)⟩
            · rw [if_neg c11] at H
              have c11b0 : (t112 == 0) = false := beq_eq_false_iff_ne.mpr c11
              have c11b1 : (t112 != 0) = true := bne_iff_ne.mpr c11
              (first | rw [c11b0] | (simp only [i64_w, i32_w]; rw [c11b0]) | skip)
              have H' := Aside0.mk H
              clear H
              go_wp2
              go_meet
              case rel => exact ⟨_, H', ⟨by have := HJ6.out; first | omega | exact Nat.le_refl _⟩, by repeat (first | exact Drawn0.refl _ | apply Drawn0.step)⟩
          case rest =>
            clear HC10
            try clear c1
            try clear p2
            try clear c4
            try clear c6
            try clear c8
            try clear c8b0
            try clear c8b1
            try clear c9
            try clear c11
            try clear c11b0
            try clear c11b1
            try clear c13
            try clear c13b0
            try clear c13b1
            try clear c14
            try clear c14b0
            try clear c14b1
            try clear p2
            obtain ⟨kq, HA, HJ9, ⟨mc9, rfl⟩⟩ := hcut
            cases kq with
            | zero => exact absurd HA.out (by simp [tabardlaw01_ChkAgrees.j1])
            | succ kj9 =>
              have H := HA.out
              clear HA
              simp only [tabardlaw01_ChkAgrees.j1] at H
              replace H := Option.bind_eq_some_iff.mp H
              obtain ⟨⟨t117, t118⟩, A150, H⟩ := H
              replace H : ((chk_Mul.f kj9 a1 a0).bind fun bt119 => (if t117 = bt119.1 then (tabardlaw01_ChkAgrees.j2 kj9 a0 a1 t118 t117 (t118 != bt119.2)) else (tabardlaw01_ChkAgrees.j2 kj9 a0 a1 t118 t117 true))) = some r := H
              have A15 := Aside0.mk A150
              clear A150
              replace H := Option.bind_eq_some_iff.mp H
              obtain ⟨⟨t119, t120⟩, A160, H⟩ := H
              replace H : (if t117 = t119 then (tabardlaw01_ChkAgrees.j2 kj9 a0 a1 t118 t117 (t118 != t120)) else (tabardlaw01_ChkAgrees.j2 kj9 a0 a1 t118 t117 true)) = some r := H
              have A16 := Aside0.mk A160
              clear A160
              have HC17 := Aside0.mk H
              clear H
              go_upto_region 13 with (first | ((with_reducible refine gate_callee (f := 13) rfl ?_); refine goesL_ (some 57) rfl rfl Try.func13 (by kernel_rfl) rfl #[.int .i64 a0, .int .i64 a1] rfl (by (try simp only [List.map_toArray, List.map_cons, List.map_nil]); first | done | rfl | (simp only [List.length_drop, List.length_take]; rfl)) ?_; (with_reducible refine (chk_Mul.calls kj9 a0 a1 t117 t118 _ A15.out).mono ?_); rintro e w' ⟨rfl, ⟨nd, rfl⟩⟩; refine ⟨_, rfl, ?_⟩) | ((with_reducible refine gate_callee (f := 13) rfl ?_); refine goesL_ (some 63) rfl rfl Try.func13 (by kernel_rfl) rfl #[.int .i64 a1, .int .i64 a0] rfl (by (try simp only [List.map_toArray, List.map_cons, List.map_nil]); first | done | rfl | (simp only [List.length_drop, List.length_take]; rfl)) ?_; (with_reducible refine (chk_Mul.calls kj9 a1 a0 t119 t120 _ A16.out).mono ?_); rintro e w' ⟨rfl, ⟨nd, rfl⟩⟩; refine ⟨_, rfl, ?_⟩))
              (try simp only [Act.put, List.setIfInBounds_toArray, List.set_cons_zero, List.set_cons_succ])
              go_cut [73] (fun v73 wc => ∃ (kq : Nat) (x73_16 : Bool), v73 = .bool x73_16 ∧ Aside0 (tabardlaw01_ChkAgrees.j2 kq a0 a1 t118 t117 x73_16 = some r) ∧ Aside0 (kq ≤ kj9) ∧ Drawn0 w wc)
              case first =>
                have H := HC17.out
                clear HC17
                by_cases c18 : t117 = t119
                · rw [if_pos c18] at H
                  have c18b0 : (t117 == t119) = true := beq_iff_eq.mpr c18
                  have c18b1 : (t117 != t119) = false := bne_eq_false_iff_eq.mpr c18
                  clear c18
                  (first | rw [c18b0] | (simp only [i64_w, i32_w]; rw [c18b0]) | skip)
                  have H' := Aside0.mk H
                  clear H
                  go_wp2
                  go_meet
                  case rel => exact ⟨_, ((t118 != t120)), (by first | rfl | (simp; done) | (simp [*]; done)), H', ⟨by have := HJ6.out; have := HJ9.out; first | omega | exact Nat.le_refl _⟩, by repeat (first | exact Drawn0.refl _ | apply Drawn0.step)⟩
                · rw [if_neg c18] at H
                  have c18b0 : (t117 == t119) = false := beq_eq_false_iff_ne.mpr c18
                  have c18b1 : (t117 != t119) = true := bne_iff_ne.mpr c18
                  (first | rw [c18b0] | (simp only [i64_w, i32_w]; rw [c18b0]) | skip)
                  have H' := Aside0.mk H
                  clear H
                  go_wp2
                  go_meet
                  case rel => exact ⟨_, (true), (by first | rfl | (simp; done) | (simp [*]; done)), H', ⟨by have := HJ6.out; have := HJ9.out; first | omega | exact Nat.le_refl _⟩, by repeat (first | exact Drawn0.refl _ | apply Drawn0.step)⟩
              case rest =>
                clear HC17
                try clear c1
                try clear p2
                try clear c4
                try clear c6
                try clear c8
                try clear c8b0
                try clear c8b1
                try clear c9
                try clear c11
                try clear c11b0
                try clear c11b1
                try clear c13
                try clear c13b0
                try clear c13b1
                try clear c14
                try clear c14b0
                try clear c14b1
                try clear c15
                try clear c17
                try clear c18
                try clear c18b0
                try clear c18b1
                try clear p2
                obtain ⟨kq, x73_16, rfl, HA, HJ16, ⟨mc16, rfl⟩⟩ := hcut
                cases kq with
                | zero => exact absurd HA.out (by simp [tabardlaw01_ChkAgrees.j2])
                | succ kj16 =>
                  have H := HA.out
                  clear HA
                  simp only [tabardlaw01_ChkAgrees.j2] at H
                  by_cases c19 : x73_16 = true
                  · subst c19
                    have H1 : (some false) = some r := by rw [if_pos rfl] at H; exact H
                    clear H
                    have H := H1
                    clear H1
                    obtain rfl := Option.some.inj H
                    go_wp2
                    go_ret
                    exact ⟨by first | rfl | (simp; done) | (simp [*]; done), by repeat (first | exact Drawn0.refl _ | apply Drawn0.step)⟩
                  · replace c19 := Bool.eq_false_iff.mpr c19
                    subst c19
                    have H1 : (if t118 = 0 then (tabardlaw01_ChkAgrees.j3 kj16 a0 a1 t117 (a1 != 0)) else (tabardlaw01_ChkAgrees.j3 kj16 a0 a1 t117 false)) = some r := by rw [if_neg (show ¬ (false = true) by decide)] at H; exact H
                    clear H
                    have H := H1
                    clear H1
                    have HC20 := Aside0.mk H
                    clear H
                    go_upto_region 15 with (fail)
                    go_cut [79] (fun v79 wc => ∃ (kq : Nat) (x79_19 : Bool), v79 = .bool x79_19 ∧ Aside0 (tabardlaw01_ChkAgrees.j3 kq a0 a1 t117 x79_19 = some r) ∧ Aside0 (kq ≤ kj16) ∧ Drawn0 w wc)
                    case first =>
                      have H := HC20.out
                      clear HC20
                      by_cases c21 : t118 = 0
                      · rw [if_pos c21] at H
                        have c21b0 : (t118 == 0) = true := beq_iff_eq.mpr c21
                        have c21b1 : (t118 != 0) = false := bne_eq_false_iff_eq.mpr c21
                        clear c21
                        (first | rw [c21b0] | (simp only [i64_w, i32_w]; rw [c21b0]) | skip)
                        have H' := Aside0.mk H
                        clear H
                        go_wp2
                        go_meet
                        case rel => exact ⟨_, ((a1 != 0)), (by first | rfl | (simp; done) | (simp [*]; done)), H', ⟨by have := HJ6.out; have := HJ9.out; have := HJ16.out; first | omega | exact Nat.le_refl _⟩, by repeat (first | exact Drawn0.refl _ | apply Drawn0.step)⟩
                      · rw [if_neg c21] at H
                        have c21b0 : (t118 == 0) = false := beq_eq_false_iff_ne.mpr c21
                        have c21b1 : (t118 != 0) = true := bne_iff_ne.mpr c21
                        (first | rw [c21b0] | (simp only [i64_w, i32_w]; rw [c21b0]) | skip)
                        have H' := Aside0.mk H
                        clear H
                        go_wp2
                        go_meet
                        case rel => exact ⟨_, (false), (by first | rfl | (simp; done) | (simp [*]; done)), H', ⟨by have := HJ6.out; have := HJ9.out; have := HJ16.out; first | omega | exact Nat.le_refl _⟩, by repeat (first | exact Drawn0.refl _ | apply Drawn0.step)⟩
                    case rest =>
                      clear HC20
                      try clear c1
                      try clear c2
                      try clear p2
                      try clear c4
                      try clear c6
                      try clear c8
                      try clear c8b0
                      try clear c8b1
                      try clear c9
                      try clear c11
                      try clear c11b0
                      try clear c11b1
                      try clear c13
                      try clear c13b0
                      try clear c13b1
                      try clear c14
                      try clear c14b0
                      try clear c14b1
                      try clear c15
                      try clear c16
                      try clear c17
                      try clear c18
                      try clear c18b0
                      try clear c18b1
                      try clear c19
                      try clear c21
                      try clear c21b0
                      try clear c21b1
                      try clear p2
                      obtain ⟨kq, x79_19, rfl, HA, HJ19, ⟨mc19, rfl⟩⟩ := hcut
                      cases kq with
                      | zero => exact absurd HA.out (by simp [tabardlaw01_ChkAgrees.j3])
                      | succ kj19 =>
                        have H := HA.out
                        clear HA
                        simp only [tabardlaw01_ChkAgrees.j3] at H
                        have HC22 := Aside0.mk H
                        clear H
                        go_upto_if 79 with (fail)
                        go_cut [] (fun wc => ∃ (kq : Nat), Aside0 (tabardlaw01_ChkAgrees.j4 kq a0 a1 = some r) ∧ Aside0 (kq ≤ kj19) ∧ Drawn0 w wc)
                        case first =>
                          have H := HC22.out
                          clear HC22
                          by_cases c23 : x79_19 = true
                          · subst c23
                            have H1 : ((chk_Floor.f t117 a1).bind fun bt121 => (if bt121.2 = 0 then (if bt121.1 = a0 then (tabardlaw01_ChkAgrees.j4 kj19 a0 a1) else (some false)) else (some false))) = some r := by rw [if_pos rfl] at H; exact H
                            clear H
                            have H := H1
                            clear H1
                            replace H := Option.bind_eq_some_iff.mp H
                            obtain ⟨⟨t121, t122⟩, A240, H⟩ := H
                            replace H : (if t122 = 0 then (if t121 = a0 then (tabardlaw01_ChkAgrees.j4 kj19 a0 a1) else (some false)) else (some false)) = some r := H
                            have A24 := Aside0.mk A240
                            clear A240
                            by_cases c25 : t122 = 0
                            · rw [if_pos c25] at H
                              have c25b0 : (t122 == 0) = true := beq_iff_eq.mpr c25
                              have c25b1 : (t122 != 0) = false := bne_eq_false_iff_eq.mpr c25
                              clear c25
                              (first | rw [c25b0] | (simp only [i64_w, i32_w]; rw [c25b0]) | skip)
                              by_cases c26 : t121 = a0
                              · rw [if_pos c26] at H
                                have c26b0 : (t121 == a0) = true := beq_iff_eq.mpr c26
                                have c26b1 : (t121 != a0) = false := bne_eq_false_iff_eq.mpr c26
                                clear c26
                                have H' := Aside0.mk H
                                clear H
                                go_wp2_with (first | ((with_reducible refine gate_callee (f := 28) rfl ?_); refine goesL_ (some 83) rfl rfl Try.func28 (by kernel_rfl) rfl #[.int .i64 t117, .int .i64 a1] rfl (by (try simp only [List.map_toArray, List.map_cons, List.map_nil]); first | done | rfl | (simp only [List.length_drop, List.length_take]; rfl)) ?_; (with_reducible refine (chk_Floor.calls t117 a1 t121 t122 _ A24.out).mono ?_); rintro e w' ⟨rfl, ⟨nd, rfl⟩⟩; refine ⟨_, rfl, ?_⟩))
                                go_meet
                                case rel => exact ⟨_, H', ⟨by have := HJ6.out; have := HJ9.out; have := HJ16.out; have := HJ19.out; first | omega | exact Nat.le_refl _⟩, by repeat (first | exact Drawn0.refl _ | apply Drawn0.step)⟩
                              · rw [if_neg c26] at H
                                have c26b0 : (t121 == a0) = false := beq_eq_false_iff_ne.mpr c26
                                have c26b1 : (t121 != a0) = true := bne_iff_ne.mpr c26
                                obtain rfl := Option.some.inj H
                                go_wp2_with (first | ((with_reducible refine gate_callee (f := 28) rfl ?_); refine goesL_ (some 83) rfl rfl Try.func28 (by kernel_rfl) rfl #[.int .i64 t117, .int .i64 a1] rfl (by (try simp only [List.map_toArray, List.map_cons, List.map_nil]); first | done | rfl | (simp only [List.length_drop, List.length_take]; rfl)) ?_; (with_reducible refine (chk_Floor.calls t117 a1 t121 t122 _ A24.out).mono ?_); rintro e w' ⟨rfl, ⟨nd, rfl⟩⟩; refine ⟨_, rfl, ?_⟩))
                                go_ret
                                exact ⟨by first | rfl | (simp; done) | (simp [*]; done), by repeat (first | exact Drawn0.refl _ | apply Drawn0.step)⟩
                            · rw [if_neg c25] at H
                              have c25b0 : (t122 == 0) = false := beq_eq_false_iff_ne.mpr c25
                              have c25b1 : (t122 != 0) = true := bne_iff_ne.mpr c25
                              (first | rw [c25b0] | (simp only [i64_w, i32_w]; rw [c25b0]) | skip)
                              obtain rfl := Option.some.inj H
                              go_wp2_with (first | ((with_reducible refine gate_callee (f := 28) rfl ?_); refine goesL_ (some 83) rfl rfl Try.func28 (by kernel_rfl) rfl #[.int .i64 t117, .int .i64 a1] rfl (by (try simp only [List.map_toArray, List.map_cons, List.map_nil]); first | done | rfl | (simp only [List.length_drop, List.length_take]; rfl)) ?_; (with_reducible refine (chk_Floor.calls t117 a1 t121 t122 _ A24.out).mono ?_); rintro e w' ⟨rfl, ⟨nd, rfl⟩⟩; refine ⟨_, rfl, ?_⟩))
                              go_ret
                              exact ⟨by first | rfl | (simp; done) | (simp [*]; done), by repeat (first | exact Drawn0.refl _ | apply Drawn0.step)⟩
                          · replace c23 := Bool.eq_false_iff.mpr c23
                            subst c23
                            have H1 : (tabardlaw01_ChkAgrees.j4 kj19 a0 a1) = some r := by rw [if_neg (show ¬ (false = true) by decide)] at H; exact H
                            clear H
                            have H := H1
                            clear H1
                            have H' := Aside0.mk H
                            clear H
                            go_wp2
                            go_meet
                            case rel => exact ⟨_, H', ⟨by have := HJ6.out; have := HJ9.out; have := HJ16.out; have := HJ19.out; first | omega | exact Nat.le_refl _⟩, by repeat (first | exact Drawn0.refl _ | apply Drawn0.step)⟩
                        case rest =>
                          clear HC22
                          try clear c1
                          try clear c2
                          try clear p2
                          try clear c4
                          try clear c6
                          try clear c8
                          try clear c8b0
                          try clear c8b1
                          try clear c9
                          try clear c11
                          try clear c11b0
                          try clear c11b1
                          try clear c13
                          try clear c13b0
                          try clear c13b1
                          try clear c14
                          try clear c14b0
                          try clear c14b1
                          try clear c15
                          try clear c16
                          try clear c17
                          try clear c18
                          try clear c18b0
                          try clear c18b1
                          try clear c19
                          try clear c21
                          try clear c21b0
                          try clear c21b1
                          try clear c23
                          try clear c25
                          try clear c25b0
                          try clear c25b1
                          try clear c26
                          try clear c26b0
                          try clear c26b1
                          try clear p2
                          obtain ⟨kq, HA, HJ21, ⟨mc21, rfl⟩⟩ := hcut
                          cases kq with
                          | zero => exact absurd HA.out (by simp [tabardlaw01_ChkAgrees.j4])
                          | succ kj21 =>
                            have H := HA.out
                            clear HA
                            simp only [tabardlaw01_ChkAgrees.j4] at H
                            replace H := Option.bind_eq_some_iff.mp H
                            obtain ⟨⟨t123, t124⟩, A270, H⟩ := H
                            replace H : (if t124 = 0 then ((chk_Floor.f a0 a1).bind fun bt125 => (if bt125.2 = 0 then (if t123 ≥ 0 then (if t123 < a1 then (some ((wrap64 ((wrap64 (bt125.1 * a1)) + t123)) == a0)) else (some false)) else (some false)) else (some false))) else (if a1 < 1 then (if t124 = 2 then (some (t123 == 0)) else (some false)) else (some false))) = some r := H
                            have A27 := Aside0.mk A270
                            clear A270
                            by_cases c28 : t124 = 0
                            · rw [if_pos c28] at H
                              have c28b0 : (t124 == 0) = true := beq_iff_eq.mpr c28
                              have c28b1 : (t124 != 0) = false := bne_eq_false_iff_eq.mpr c28
                              clear c28
                              replace H := Option.bind_eq_some_iff.mp H
                              obtain ⟨⟨t125, t126⟩, A290, H⟩ := H
                              replace H : (if t126 = 0 then (if t123 ≥ 0 then (if t123 < a1 then (some ((wrap64 ((wrap64 (t125 * a1)) + t123)) == a0)) else (some false)) else (some false)) else (some false)) = some r := H
                              have A29 := Aside0.mk A290
                              clear A290
                              by_cases c30 : t126 = 0
                              · rw [if_pos c30] at H
                                have c30b0 : (t126 == 0) = true := beq_iff_eq.mpr c30
                                have c30b1 : (t126 != 0) = false := bne_eq_false_iff_eq.mpr c30
                                clear c30
                                by_cases c31 : t123 ≥ 0
                                · rw [if_pos c31] at H
                                  have c31b0 : decide (0 ≤ t123) = true := decide_eq_true c31
                                  clear c31
                                  by_cases c32 : t123 < a1
                                  · rw [if_pos c32] at H
                                    have c32b0 : decide (t123 < a1) = true := decide_eq_true c32
                                    clear c32
                                    obtain rfl := Option.some.inj H
                                    go_wp2_with (first | ((with_reducible refine gate_callee (f := 26) rfl ?_); refine goesL_ (some 96) rfl rfl Try.func26 (by kernel_rfl) rfl #[.int .i64 a0, .int .i64 a1] rfl (by (try simp only [List.map_toArray, List.map_cons, List.map_nil]); first | done | rfl | (simp only [List.length_drop, List.length_take]; rfl)) ?_; (with_reducible refine (chk_Rest.calls a0 a1 t123 t124 _ A27.out).mono ?_); rintro e w' ⟨rfl, ⟨nd, rfl⟩⟩; refine ⟨_, rfl, ?_⟩) | ((with_reducible refine gate_callee (f := 28) rfl ?_); refine goesL_ (some 114) rfl rfl Try.func28 (by kernel_rfl) rfl #[.int .i64 a0, .int .i64 a1] rfl (by (try simp only [List.map_toArray, List.map_cons, List.map_nil]); first | done | rfl | (simp only [List.length_drop, List.length_take]; rfl)) ?_; (with_reducible refine (chk_Floor.calls a0 a1 t125 t126 _ A29.out).mono ?_); rintro e w' ⟨rfl, ⟨nd, rfl⟩⟩; refine ⟨_, rfl, ?_⟩))
                                    go_ret
                                    exact ⟨by first | rfl | (simp; done) | (simp [*]; done), by repeat (first | exact Drawn0.refl _ | apply Drawn0.step)⟩
                                  · rw [if_neg c32] at H
                                    have c32b0 : decide (t123 < a1) = false := decide_eq_false c32
                                    clear c32
                                    obtain rfl := Option.some.inj H
                                    go_wp2_with (first | ((with_reducible refine gate_callee (f := 26) rfl ?_); refine goesL_ (some 96) rfl rfl Try.func26 (by kernel_rfl) rfl #[.int .i64 a0, .int .i64 a1] rfl (by (try simp only [List.map_toArray, List.map_cons, List.map_nil]); first | done | rfl | (simp only [List.length_drop, List.length_take]; rfl)) ?_; (with_reducible refine (chk_Rest.calls a0 a1 t123 t124 _ A27.out).mono ?_); rintro e w' ⟨rfl, ⟨nd, rfl⟩⟩; refine ⟨_, rfl, ?_⟩) | ((with_reducible refine gate_callee (f := 28) rfl ?_); refine goesL_ (some 114) rfl rfl Try.func28 (by kernel_rfl) rfl #[.int .i64 a0, .int .i64 a1] rfl (by (try simp only [List.map_toArray, List.map_cons, List.map_nil]); first | done | rfl | (simp only [List.length_drop, List.length_take]; rfl)) ?_; (with_reducible refine (chk_Floor.calls a0 a1 t125 t126 _ A29.out).mono ?_); rintro e w' ⟨rfl, ⟨nd, rfl⟩⟩; refine ⟨_, rfl, ?_⟩))
                                    go_ret
                                    exact ⟨by first | rfl | (simp; done) | (simp [*]; done), by repeat (first | exact Drawn0.refl _ | apply Drawn0.step)⟩
                                · rw [if_neg c31] at H
                                  have c31b0 : decide (0 ≤ t123) = false := decide_eq_false c31
                                  clear c31
                                  obtain rfl := Option.some.inj H
                                  go_wp2_with (first | ((with_reducible refine gate_callee (f := 26) rfl ?_); refine goesL_ (some 96) rfl rfl Try.func26 (by kernel_rfl) rfl #[.int .i64 a0, .int .i64 a1] rfl (by (try simp only [List.map_toArray, List.map_cons, List.map_nil]); first | done | rfl | (simp only [List.length_drop, List.length_take]; rfl)) ?_; (with_reducible refine (chk_Rest.calls a0 a1 t123 t124 _ A27.out).mono ?_); rintro e w' ⟨rfl, ⟨nd, rfl⟩⟩; refine ⟨_, rfl, ?_⟩) | ((with_reducible refine gate_callee (f := 28) rfl ?_); refine goesL_ (some 114) rfl rfl Try.func28 (by kernel_rfl) rfl #[.int .i64 a0, .int .i64 a1] rfl (by (try simp only [List.map_toArray, List.map_cons, List.map_nil]); first | done | rfl | (simp only [List.length_drop, List.length_take]; rfl)) ?_; (with_reducible refine (chk_Floor.calls a0 a1 t125 t126 _ A29.out).mono ?_); rintro e w' ⟨rfl, ⟨nd, rfl⟩⟩; refine ⟨_, rfl, ?_⟩))
                                  go_ret
                                  exact ⟨by first | rfl | (simp; done) | (simp [*]; done), by repeat (first | exact Drawn0.refl _ | apply Drawn0.step)⟩
                              · rw [if_neg c30] at H
                                have c30b0 : (t126 == 0) = false := beq_eq_false_iff_ne.mpr c30
                                have c30b1 : (t126 != 0) = true := bne_iff_ne.mpr c30
                                obtain rfl := Option.some.inj H
                                go_wp2_with (first | ((with_reducible refine gate_callee (f := 26) rfl ?_); refine goesL_ (some 96) rfl rfl Try.func26 (by kernel_rfl) rfl #[.int .i64 a0, .int .i64 a1] rfl (by (try simp only [List.map_toArray, List.map_cons, List.map_nil]); first | done | rfl | (simp only [List.length_drop, List.length_take]; rfl)) ?_; (with_reducible refine (chk_Rest.calls a0 a1 t123 t124 _ A27.out).mono ?_); rintro e w' ⟨rfl, ⟨nd, rfl⟩⟩; refine ⟨_, rfl, ?_⟩) | ((with_reducible refine gate_callee (f := 28) rfl ?_); refine goesL_ (some 114) rfl rfl Try.func28 (by kernel_rfl) rfl #[.int .i64 a0, .int .i64 a1] rfl (by (try simp only [List.map_toArray, List.map_cons, List.map_nil]); first | done | rfl | (simp only [List.length_drop, List.length_take]; rfl)) ?_; (with_reducible refine (chk_Floor.calls a0 a1 t125 t126 _ A29.out).mono ?_); rintro e w' ⟨rfl, ⟨nd, rfl⟩⟩; refine ⟨_, rfl, ?_⟩))
                                go_ret
                                exact ⟨by first | rfl | (simp; done) | (simp [*]; done), by repeat (first | exact Drawn0.refl _ | apply Drawn0.step)⟩
                            · rw [if_neg c28] at H
                              have c28b0 : (t124 == 0) = false := beq_eq_false_iff_ne.mpr c28
                              have c28b1 : (t124 != 0) = true := bne_iff_ne.mpr c28
                              by_cases c33 : a1 < 1
                              · rw [if_pos c33] at H
                                have c33b0 : decide (a1 < 1) = true := decide_eq_true c33
                                clear c33
                                by_cases c34 : t124 = 2
                                · rw [if_pos c34] at H
                                  have c34b0 : (t124 == 2) = true := beq_iff_eq.mpr c34
                                  have c34b1 : (t124 != 2) = false := bne_eq_false_iff_eq.mpr c34
                                  clear c34
                                  obtain rfl := Option.some.inj H
                                  go_wp2_with (first | ((with_reducible refine gate_callee (f := 26) rfl ?_); refine goesL_ (some 96) rfl rfl Try.func26 (by kernel_rfl) rfl #[.int .i64 a0, .int .i64 a1] rfl (by (try simp only [List.map_toArray, List.map_cons, List.map_nil]); first | done | rfl | (simp only [List.length_drop, List.length_take]; rfl)) ?_; (with_reducible refine (chk_Rest.calls a0 a1 t123 t124 _ A27.out).mono ?_); rintro e w' ⟨rfl, ⟨nd, rfl⟩⟩; refine ⟨_, rfl, ?_⟩))
                                  go_ret
                                  exact ⟨by first | rfl | (simp; done) | (simp [*]; done), by repeat (first | exact Drawn0.refl _ | apply Drawn0.step)⟩
                                · rw [if_neg c34] at H
                                  have c34b0 : (t124 == 2) = false := beq_eq_false_iff_ne.mpr c34
                                  have c34b1 : (t124 != 2) = true := bne_iff_ne.mpr c34
                                  obtain rfl := Option.some.inj H
                                  go_wp2_with (first | ((with_reducible refine gate_callee (f := 26) rfl ?_); refine goesL_ (some 96) rfl rfl Try.func26 (by kernel_rfl) rfl #[.int .i64 a0, .int .i64 a1] rfl (by (try simp only [List.map_toArray, List.map_cons, List.map_nil]); first | done | rfl | (simp only [List.length_drop, List.length_take]; rfl)) ?_; (with_reducible refine (chk_Rest.calls a0 a1 t123 t124 _ A27.out).mono ?_); rintro e w' ⟨rfl, ⟨nd, rfl⟩⟩; refine ⟨_, rfl, ?_⟩))
                                  go_ret
                                  exact ⟨by first | rfl | (simp; done) | (simp [*]; done), by repeat (first | exact Drawn0.refl _ | apply Drawn0.step)⟩
                              · rw [if_neg c33] at H
                                have c33b0 : decide (a1 < 1) = false := decide_eq_false c33
                                clear c33
                                obtain rfl := Option.some.inj H
                                go_wp2_with (first | ((with_reducible refine gate_callee (f := 26) rfl ?_); refine goesL_ (some 96) rfl rfl Try.func26 (by kernel_rfl) rfl #[.int .i64 a0, .int .i64 a1] rfl (by (try simp only [List.map_toArray, List.map_cons, List.map_nil]); first | done | rfl | (simp only [List.length_drop, List.length_take]; rfl)) ?_; (with_reducible refine (chk_Rest.calls a0 a1 t123 t124 _ A27.out).mono ?_); rintro e w' ⟨rfl, ⟨nd, rfl⟩⟩; refine ⟨_, rfl, ?_⟩))
                                go_ret
                                exact ⟨by first | rfl | (simp; done) | (simp [*]; done), by repeat (first | exact Drawn0.refl _ | apply Drawn0.step)⟩
  · replace c4 := Bool.eq_false_iff.mpr c4
    subst c4
    have H1 : (some false) = some r := by rw [if_neg (show ¬ (false = true) by decide)] at H; exact H
    clear H
    have H := H1
    clear H1
    obtain rfl := Option.some.inj H
    go_enter Try.func8, Try.ntmps8
    go_wp2_with (first | ((with_reducible refine gate_callee (f := 15) rfl ?_); refine goesL_ (some 17) rfl rfl Try.func15 (by kernel_rfl) rfl #[] rfl (by (try simp only [List.map_toArray, List.map_cons, List.map_nil]); first | done | rfl | (simp only [List.length_drop, List.length_take]; rfl)) ?_; (with_reducible refine (tabardlaw01_fixed.calls  false _ A3.out).mono ?_); rintro e w' ⟨rfl, ⟨nd, rfl⟩⟩; refine ⟨_, rfl, ?_⟩))
    go_ret
    exact ⟨by first | rfl | (simp; done) | (simp [*]; done), by repeat (first | exact Drawn0.refl _ | apply Drawn0.step)⟩

/-- THE ONE PURE STATEMENT of tabardlaw01_ChkAgrees: yours. -/
def tabardlaw01_ChkAgrees.Pure : Prop := ∀ (a0 : Int) (a1 : Int), (Lit.int .i64 a0).wf = true → (Lit.int .i64 a1).wf = true → ∃ k, tabardlaw01_ChkAgrees.f k a0 a1 = some true
theorem tabardlaw01_ChkAgrees.walk (P : tabardlaw01_ChkAgrees.Pure) (a0 : Int) (a1 : Int) (w : World) (w0 : (Lit.int .i64 a0).wf = true) (w1 : (Lit.int .i64 a1).wf = true) :
    Calls Try.prog 8 #[.int .i64 a0, .int .i64 a1] w fun e w' => e = .returned (.bool true) ∧ Below w.heap.size w w' := by
  obtain ⟨k, h⟩ := P a0 a1 w0 w1
  refine (tabardlaw01_ChkAgrees.calls k a0 a1 true w h).mono ?_
  rintro e w' ⟨rfl, hd⟩
  exact ⟨rfl, hd.below⟩

end Go.Proofs.Ytcphnnopjfogdaa.Q
