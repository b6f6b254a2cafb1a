/- Functions of the given program as Lean functions, each with its contract: written by this session's program (wip/xprint.py). No condition but those of each contract. -/
import Derived.Test.YtcphnnopjfogdaaQ0
import Derived.Test.YtcphnnopjfogdaaQ2
namespace Go.Proofs.Ytcphnnopjfogdaa.Q
open Go.RowKit Go.Proofs.YtcphnnopjfogdaaW.PrintWords Go.Proofs.YtcphnnopjfogdaaW.PrintLast Go.Proofs.YtcphnnopjfogdaaW.PrintMore
attribute [local go_sem] max2_int min2_int max_two min_two max_three min_three max_four min_four   -- for this text's walks alone
set_option linter.unusedVariables false
set_option linter.unusedSimpArgs false
attribute [local go_sem] fld63_0 fld63_1

/-! ### chk_Floor: function 28 -/
def chk_Floor.f (a0 : Int) (a1 : Int) : Option (Int × Int) := if a1 = 0 then (some (0, 2)) else (if a1 = (-1) then ((chk_Neg.f a0).bind fun bt108 => (some (bt108.1, bt108.2))) else (if (Int.tmod a0 a1) = 0 then (some (wrap64 (Int.tdiv a0 a1), 0)) else (if ((decide (a0 < 0)) != (decide (a1 < 0))) = true then (some (wrap64 ((wrap64 (Int.tdiv a0 a1)) - 1), 0)) else (some (wrap64 (Int.tdiv a0 a1), 0)))))
set_option maxHeartbeats 8000000 in
set_option maxRecDepth 100000 in
theorem chk_Floor.calls (a0 : Int) (a1 : Int) (r1 : Int) (r2 : Int) (w : World) (h : chk_Floor.f a0 a1 = some (r1, r2)) :
    Calls Try.prog 28 #[.int .i64 a0, .int .i64 a1] w fun e w' => e = .returned (.tuple #[.int .i64 r1, .int .i64 r2]) ∧ Drawn0 w w' := by
  have H : (if a1 = 0 then (some (0, 2)) else (if a1 = (-1) then ((chk_Neg.f a0).bind fun bt108 => (some (bt108.1, bt108.2))) else (if (Int.tmod a0 a1) = 0 then (some (wrap64 (Int.tdiv a0 a1), 0)) else (if ((decide (a0 < 0)) != (decide (a1 < 0))) = true then (some (wrap64 ((wrap64 (Int.tdiv a0 a1)) - 1), 0)) else (some (wrap64 (Int.tdiv a0 a1), 0)))))) = some (r1, r2) := h
  clear h
  by_cases c3 : a1 = 0
  · rw [if_pos c3] at H
    have c3b0 : (a1 == 0) = true := beq_iff_eq.mpr c3
    have c3b1 : (a1 != 0) = false := bne_eq_false_iff_eq.mpr c3
    clear c3
    simp only [Option.some.injEq, Prod.mk.injEq] at H
    obtain ⟨rfl, rfl⟩ := H
    go_enter Try.func28, Try.ntmps28
    go_wp2
    go_ret2
    exact ⟨by first | rfl | (simp; done) | (simp [*]; done), by repeat (first | exact Drawn0.refl _ | apply Drawn0.step)⟩
  · rw [if_neg c3] at H
    have c3b0 : (a1 == 0) = false := beq_eq_false_iff_ne.mpr c3
    have c3b1 : (a1 != 0) = true := bne_iff_ne.mpr c3
    by_cases c4 : a1 = (-1)
    · rw [if_pos c4] at H
      have c4b0 : (a1 == (-1)) = true := beq_iff_eq.mpr c4
      have c4b1 : (a1 != (-1)) = false := bne_eq_false_iff_eq.mpr c4
      clear c4
      replace H := Option.bind_eq_some_iff.mp H
      obtain ⟨⟨t108, t109⟩, A50, H⟩ := H
      replace H : (some (t108, t109)) = some (r1, r2) := H
      have A5 := Aside0.mk A50
      clear A50
      simp only [Option.some.injEq, Prod.mk.injEq] at H
      obtain ⟨rfl, rfl⟩ := H
      go_enter Try.func28, Try.ntmps28
      go_wp2_with (first | ((with_reducible refine gate_callee (f := 21) rfl ?_); refine goesL_ (some 14) rfl rfl Try.func21 (by kernel_rfl) rfl #[.int .i64 a0] rfl (by (try simp only [List.map_toArray, List.map_cons, List.map_nil]); first | done | rfl | (simp only [List.length_drop, List.length_take]; rfl)) ?_; (with_reducible refine (chk_Neg.calls a0 t108 t109 _ A5.out).mono ?_); rintro e w' ⟨rfl, ⟨nd, rfl⟩⟩; refine ⟨_, rfl, ?_⟩))
      go_ret2
      exact ⟨by first | rfl | (simp; done) | (simp [*]; done), by repeat (first | exact Drawn0.refl _ | apply Drawn0.step)⟩
    · rw [if_neg c4] at H
      have c4b0 : (a1 == (-1)) = false := beq_eq_false_iff_ne.mpr c4
      have c4b1 : (a1 != (-1)) = true := bne_iff_ne.mpr c4
      by_cases c6 : (Int.tmod a0 a1) = 0
      · rw [if_pos c6] at H
        have c6b0 : ((Int.tmod a0 a1) == 0) = true := beq_iff_eq.mpr c6
        have c6b1 : ((Int.tmod a0 a1) != 0) = false := bne_eq_false_iff_eq.mpr c6
        clear c6
        simp only [Option.some.injEq, Prod.mk.injEq] at H
        obtain ⟨rfl, rfl⟩ := H
        go_enter Try.func28, Try.ntmps28
        go_wp2
        go_ret2
        exact ⟨by first | rfl | (simp; done) | (simp [*]; done), by repeat (first | exact Drawn0.refl _ | apply Drawn0.step)⟩
      · rw [if_neg c6] at H
        have c6b0 : ((Int.tmod a0 a1) == 0) = false := beq_eq_false_iff_ne.mpr c6
        have c6b1 : ((Int.tmod a0 a1) != 0) = true := bne_iff_ne.mpr c6
        by_cases c7 : ((decide (a0 < 0)) != (decide (a1 < 0))) = true
        · rw [if_pos c7] at H
          have c7b0 : ((decide (a0 < 0)) != (decide (a1 < 0))) = true := c7
          (try (have c7b1 : decide ((decide (a0 < 0)) = (decide (a1 < 0))) = false := by simpa using c7))
          (try (have c7b2 : ((decide (a0 < 0)) == (decide (a1 < 0))) = false := by simpa using c7))
          (try (have c7b3 : ¬ ((decide (a0 < 0)) = (decide (a1 < 0))) := by simpa using c7))
          clear c7
          simp only [Option.some.injEq, Prod.mk.injEq] at H
          obtain ⟨rfl, rfl⟩ := H
          go_enter Try.func28, Try.ntmps28
          go_wp2
          go_ret2
          exact ⟨by first | rfl | (simp; done) | (simp [*]; done), by repeat (first | exact Drawn0.refl _ | apply Drawn0.step)⟩
        · rw [if_neg c7] at H
          have c7b0 : ((decide (a0 < 0)) != (decide (a1 < 0))) = false := by simpa using c7
          (try (have c7b1 : decide ((decide (a0 < 0)) = (decide (a1 < 0))) = true := by simpa using c7))
          (try (have c7b2 : ((decide (a0 < 0)) == (decide (a1 < 0))) = true := by simpa using c7))
          clear c7
          simp only [Option.some.injEq, Prod.mk.injEq] at H
          obtain ⟨rfl, rfl⟩ := H
          go_enter Try.func28, Try.ntmps28
          go_wp2
          go_ret2
          exact ⟨by first | rfl | (simp; done) | (simp [*]; done), by repeat (first | exact Drawn0.refl _ | apply Drawn0.step)⟩

end Go.Proofs.Ytcphnnopjfogdaa.Q
