/- Functions of the given program as Lean functions, each with its contract: written by this session's program (wip/xprint.py). No condition but those of each contract. -/
import Derived.Test.YtcphnnopjfogdaaG0
import Derived.Test.YtcphnnopjfogdaaG2
import Derived.Test.YtcphnnopjfogdaaG3
import Derived.Test.YtcphnnopjfogdaaG4
import Derived.Test.YtcphnnopjfogdaaG5
import Derived.Test.YtcphnnopjfogdaaG8
import Derived.Test.YtcphnnopjfogdaaG9
namespace Go.Proofs.Ytcphnnopjfogdaa.G
open Go.RowKit Go.Proofs.YtcphnnopjfogdaaW.PrintWords Go.Proofs.YtcphnnopjfogdaaW.PrintLast Go.Proofs.YtcphnnopjfogdaaW.PrintMore
attribute [local go_sem] max2_int min2_int max_two min_two max_three min_three max_four min_four   -- for this text's walks alone
set_option linter.unusedVariables false
set_option linter.unusedSimpArgs false

/-! ### tabardlaw04_GlyphChars: function 10 -/
def tabardlaw04_GlyphChars.f (k : Nat) (a0 : Int) : Option (Bool) := (tabardlaw04_fixed.f).bind fun t137 => (if t137 = true then ((glyph_Start.f k a0).bind fun t138 => ((tabardref04_Start.f k (wrap64 (a0))).bind fun t139 => (if (t138 == t139) = true then ((glyph_Rest.f k a0).bind fun t140 => ((tabardref04_Rest.f k (wrap64 (a0))).bind fun t141 => (if (t140 == t141) = true then ((glyph_Blank.f a0).bind fun t142 => ((tabardref04_Blank.f (wrap64 (a0))).bind fun t143 => (if (t142 == t143) = true then ((glyph_Plain.f a0).bind fun t144 => ((tabardref04_Plain.f k (wrap64 (a0))).bind fun t145 => (some (t144.toList == t145.toList)))) else (some false)))) else (some false)))) else (some false)))) else (some false))
theorem tabardlaw04_GlyphChars.mono : ∀ a0 k, LeO (tabardlaw04_GlyphChars.f k a0) (tabardlaw04_GlyphChars.f (k + 1) a0) := by
  intro a0 k
  unfold tabardlaw04_GlyphChars.f
  repeat' first
      | (with_reducible exact glyph_Rest.mono _ _)
      | (with_reducible exact glyph_Start.mono _ _)
      | (with_reducible exact tabardref04_Plain.mono _ _)
      | (with_reducible exact tabardref04_Rest.mono _ _)
      | (with_reducible exact tabardref04_Start.mono _ _)
      | (with_reducible exact LeO.refl _)
      | (with_reducible exact LeO.none _)
      | (with_reducible refine LeO.ite ?_ ?_)
      | (with_reducible refine LeO.bind ?_ (fun _ => ?_))
      | exact glyph_Rest.mono _ _
      | exact glyph_Start.mono _ _
      | exact tabardref04_Plain.mono _ _
      | exact tabardref04_Rest.mono _ _
      | exact tabardref04_Start.mono _ _
      | exact LeO.none _
      | refine LeO.ite ?_ ?_
      | refine LeO.bind ?_ (fun _ => ?_)
set_option maxHeartbeats 8000000 in
set_option maxRecDepth 100000 in
theorem tabardlaw04_GlyphChars.calls (k : Nat) (a0 : Int) (r : Bool) (w : World) (h : tabardlaw04_GlyphChars.f k a0 = some r) :
    Calls Try.prog 10 #[.int .i32 a0] w fun e w' => e = .returned (.bool r) ∧ Below w.heap.size w w' := by
  have HB := Aside0.mk (Below.refl w.heap.size w)
  have H : ((tabardlaw04_fixed.f).bind fun t137 => (if t137 = true then ((glyph_Start.f k a0).bind fun t138 => ((tabardref04_Start.f k (wrap64 (a0))).bind fun t139 => (if (t138 == t139) = true then ((glyph_Rest.f k a0).bind fun t140 => ((tabardref04_Rest.f k (wrap64 (a0))).bind fun t141 => (if (t140 == t141) = true then ((glyph_Blank.f a0).bind fun t142 => ((tabardref04_Blank.f (wrap64 (a0))).bind fun t143 => (if (t142 == t143) = true then ((glyph_Plain.f a0).bind fun t144 => ((tabardref04_Plain.f k (wrap64 (a0))).bind fun t145 => (some (t144.toList == t145.toList)))) else (some false)))) else (some false)))) else (some false)))) else (some false))) = some r := h
  clear h
  replace H := Option.bind_eq_some_iff.mp H
  obtain ⟨t137, A20, H⟩ := H
  replace H : (if t137 = true then ((glyph_Start.f k a0).bind fun t138 => ((tabardref04_Start.f k (wrap64 (a0))).bind fun t139 => (if (t138 == t139) = true then ((glyph_Rest.f k a0).bind fun t140 => ((tabardref04_Rest.f k (wrap64 (a0))).bind fun t141 => (if (t140 == t141) = true then ((glyph_Blank.f a0).bind fun t142 => ((tabardref04_Blank.f (wrap64 (a0))).bind fun t143 => (if (t142 == t143) = true then ((glyph_Plain.f a0).bind fun t144 => ((tabardref04_Plain.f k (wrap64 (a0))).bind fun t145 => (some (t144.toList == t145.toList)))) else (some false)))) else (some false)))) else (some false)))) else (some false)) = some r := H
  have A2 := Aside0.mk A20
  clear A20
  by_cases c3 : t137 = true
  · subst c3
    have H1 : ((glyph_Start.f k a0).bind fun t138 => ((tabardref04_Start.f k (wrap64 (a0))).bind fun t139 => (if (t138 == t139) = true then ((glyph_Rest.f k a0).bind fun t140 => ((tabardref04_Rest.f k (wrap64 (a0))).bind fun t141 => (if (t140 == t141) = true then ((glyph_Blank.f a0).bind fun t142 => ((tabardref04_Blank.f (wrap64 (a0))).bind fun t143 => (if (t142 == t143) = true then ((glyph_Plain.f a0).bind fun t144 => ((tabardref04_Plain.f k (wrap64 (a0))).bind fun t145 => (some (t144.toList == t145.toList)))) else (some false)))) else (some false)))) else (some false)))) = some r := by rw [if_pos rfl] at H; exact H
    clear H
    have H := H1
    clear H1
    replace H := Option.bind_eq_some_iff.mp H
    obtain ⟨t138, A40, H⟩ := H
    replace H : ((tabardref04_Start.f k (wrap64 (a0))).bind fun t139 => (if (t138 == t139) = true then ((glyph_Rest.f k a0).bind fun t140 => ((tabardref04_Rest.f k (wrap64 (a0))).bind fun t141 => (if (t140 == t141) = true then ((glyph_Blank.f a0).bind fun t142 => ((tabardref04_Blank.f (wrap64 (a0))).bind fun t143 => (if (t142 == t143) = true then ((glyph_Plain.f a0).bind fun t144 => ((tabardref04_Plain.f k (wrap64 (a0))).bind fun t145 => (some (t144.toList == t145.toList)))) else (some false)))) else (some false)))) else (some false))) = some r := H
    have A4 := Aside0.mk A40
    clear A40
    replace H := Option.bind_eq_some_iff.mp H
    obtain ⟨t139, A50, H⟩ := H
    replace H : (if (t138 == t139) = true then ((glyph_Rest.f k a0).bind fun t140 => ((tabardref04_Rest.f k (wrap64 (a0))).bind fun t141 => (if (t140 == t141) = true then ((glyph_Blank.f a0).bind fun t142 => ((tabardref04_Blank.f (wrap64 (a0))).bind fun t143 => (if (t142 == t143) = true then ((glyph_Plain.f a0).bind fun t144 => ((tabardref04_Plain.f k (wrap64 (a0))).bind fun t145 => (some (t144.toList == t145.toList)))) else (some false)))) else (some false)))) else (some false)) = some r := H
    have A5 := Aside0.mk A50
    clear A50
    by_cases c6 : (t138 == t139) = true
    · rw [if_pos c6] at H
      have c6b0 : (t138 == t139) = true := c6
      (try (have c6b1 : decide (t138 = t139) = true := by simpa using c6))
      (try (have c6b2 : (t138 == t139) = true := by simpa using c6))
      clear c6
      replace H := Option.bind_eq_some_iff.mp H
      obtain ⟨t140, A70, H⟩ := H
      replace H : ((tabardref04_Rest.f k (wrap64 (a0))).bind fun t141 => (if (t140 == t141) = true then ((glyph_Blank.f a0).bind fun t142 => ((tabardref04_Blank.f (wrap64 (a0))).bind fun t143 => (if (t142 == t143) = true then ((glyph_Plain.f a0).bind fun t144 => ((tabardref04_Plain.f k (wrap64 (a0))).bind fun t145 => (some (t144.toList == t145.toList)))) else (some false)))) else (some false))) = some r := H
      have A7 := Aside0.mk A70
      clear A70
      replace H := Option.bind_eq_some_iff.mp H
      obtain ⟨t141, A80, H⟩ := H
      replace H : (if (t140 == t141) = true then ((glyph_Blank.f a0).bind fun t142 => ((tabardref04_Blank.f (wrap64 (a0))).bind fun t143 => (if (t142 == t143) = true then ((glyph_Plain.f a0).bind fun t144 => ((tabardref04_Plain.f k (wrap64 (a0))).bind fun t145 => (some (t144.toList == t145.toList)))) else (some false)))) else (some false)) = some r := H
      have A8 := Aside0.mk A80
      clear A80
      by_cases c9 : (t140 == t141) = true
      · rw [if_pos c9] at H
        have c9b0 : (t140 == t141) = true := c9
        (try (have c9b1 : decide (t140 = t141) = true := by simpa using c9))
        (try (have c9b2 : (t140 == t141) = true := by simpa using c9))
        clear c9
        replace H := Option.bind_eq_some_iff.mp H
        obtain ⟨t142, A100, H⟩ := H
        replace H : ((tabardref04_Blank.f (wrap64 (a0))).bind fun t143 => (if (t142 == t143) = true then ((glyph_Plain.f a0).bind fun t144 => ((tabardref04_Plain.f k (wrap64 (a0))).bind fun t145 => (some (t144.toList == t145.toList)))) else (some false))) = some r := H
        have A10 := Aside0.mk A100
        clear A100
        replace H := Option.bind_eq_some_iff.mp H
        obtain ⟨t143, A110, H⟩ := H
        replace H : (if (t142 == t143) = true then ((glyph_Plain.f a0).bind fun t144 => ((tabardref04_Plain.f k (wrap64 (a0))).bind fun t145 => (some (t144.toList == t145.toList)))) else (some false)) = some r := H
        have A11 := Aside0.mk A110
        clear A110
        by_cases c12 : (t142 == t143) = true
        · rw [if_pos c12] at H
          have c12b0 : (t142 == t143) = true := c12
          (try (have c12b1 : decide (t142 = t143) = true := by simpa using c12))
          (try (have c12b2 : (t142 == t143) = true := by simpa using c12))
          clear c12
          replace H := Option.bind_eq_some_iff.mp H
          obtain ⟨t144, A130, H⟩ := H
          replace H : ((tabardref04_Plain.f k (wrap64 (a0))).bind fun t145 => (some (t144.toList == t145.toList))) = some r := H
          have A13 := Aside0.mk A130
          clear A130
          replace H := Option.bind_eq_some_iff.mp H
          obtain ⟨t145, A140, H⟩ := H
          replace H : (some (t144.toList == t145.toList)) = some r := H
          have A14 := Aside0.mk A140
          clear A140
          obtain rfl := Option.some.inj H
          go_enter Try.func10, Try.ntmps10
          go_wp2_with (first | ((with_reducible refine gate_callee (f := 32) rfl ?_); refine goesL_ (some 3) rfl rfl Try.func32 (by kernel_rfl) rfl #[] rfl (by (try simp only [List.map_toArray, List.map_cons, List.map_nil]); first | done | rfl | (simp only [List.length_drop, List.length_take]; rfl)) ?_; (with_reducible refine (tabardlaw04_fixed.calls  true _ A2.out).mono ?_); rintro e w15 ⟨rfl, hb⟩; refine ⟨_, rfl, ?_⟩; have n0_ := Aside0.mk (below_step (by repeat (first | (with_reducible first | exact HB.out | apply below_alloc | apply pw_below_drewN | apply below_drew1) | exact HB.out)) hb); clear HB; have HB := n0_; clear n0_; (try clear hb); (try clear hb2); (try clear hk); (try clear hi)) | (go_at_call 34; (with_reducible refine (glyph_Start.calls k a0 t138 _ A4.out).mono ?_); rintro e w' ⟨rfl, ⟨nd, rfl⟩⟩) | (go_at_call 35; (with_reducible refine (tabardref04_Start.calls k (wrap64 (a0)) t139 _ A5.out).mono ?_); rintro e w16 ⟨rfl, hb⟩; have n0_ := Aside0.mk (below_step (by repeat (first | (with_reducible first | exact HB.out | apply below_alloc | apply pw_below_drewN | apply below_drew1) | exact HB.out)) hb); clear HB; have HB := n0_; clear n0_; (try clear hb); (try clear hb2); (try clear hk); (try clear hi)) | (go_at_call 36; (with_reducible refine (glyph_Rest.calls k a0 t140 _ A7.out).mono ?_); rintro e w' ⟨rfl, ⟨nd, rfl⟩⟩) | (go_at_call 37; (with_reducible refine (tabardref04_Rest.calls k (wrap64 (a0)) t141 _ A8.out).mono ?_); rintro e w17 ⟨rfl, hb⟩; have n0_ := Aside0.mk (below_step (by repeat (first | (with_reducible first | exact HB.out | apply below_alloc | apply pw_below_drewN | apply below_drew1) | exact HB.out)) hb); clear HB; have HB := n0_; clear n0_; (try clear hb); (try clear hb2); (try clear hk); (try clear hi)) | (go_at_call 38; (with_reducible refine (glyph_Blank.calls a0 t142 _ A10.out).mono ?_); rintro e w' ⟨rfl, ⟨nd, rfl⟩⟩) | (go_at_call 39; (with_reducible refine (tabardref04_Blank.calls (wrap64 (a0)) t143 _ A11.out).mono ?_); rintro e w' ⟨rfl, ⟨nd, rfl⟩⟩) | (go_at_call 40; (with_reducible refine (glyph_Plain.calls a0 t144 _ A13.out).mono ?_); rintro e w' ⟨rfl, ⟨nd, rfl⟩⟩) | (go_at_call 41; (with_reducible refine (tabardref04_Plain.calls k (wrap64 (a0)) t145 _ A14.out).mono ?_); rintro e w18 ⟨rfl, hb⟩; have n0_ := Aside0.mk (below_step (by repeat (first | (with_reducible first | exact HB.out | apply below_alloc | apply pw_below_drewN | apply below_drew1) | exact HB.out)) hb); clear HB; have HB := n0_; clear n0_; (try clear hb); (try clear hb2); (try clear hk); (try clear hi)))
          go_ret
          exact ⟨by first | rfl | (simp [errW_none, errW_some] <;> rfl) | (simp [*, errW_none, errW_some] <;> rfl), by repeat (first | (with_reducible first | exact HB.out | apply below_alloc | apply pw_below_drewN | apply below_drew1) | exact HB.out)⟩
        · rw [if_neg c12] at H
          have c12b0 : (t142 == t143) = false := by simpa using c12
          (try (have c12b1 : decide (t142 = t143) = false := by simpa using c12))
          (try (have c12b2 : (t142 == t143) = false := by simpa using c12))
          (try (have c12b3 : ¬ (t142 = t143) := by simpa using c12))
          clear c12
          obtain rfl := Option.some.inj H
          go_enter Try.func10, Try.ntmps10
          go_wp2_with (first | ((with_reducible refine gate_callee (f := 32) rfl ?_); refine goesL_ (some 3) rfl rfl Try.func32 (by kernel_rfl) rfl #[] rfl (by (try simp only [List.map_toArray, List.map_cons, List.map_nil]); first | done | rfl | (simp only [List.length_drop, List.length_take]; rfl)) ?_; (with_reducible refine (tabardlaw04_fixed.calls  true _ A2.out).mono ?_); rintro e w19 ⟨rfl, hb⟩; refine ⟨_, rfl, ?_⟩; have n0_ := Aside0.mk (below_step (by repeat (first | (with_reducible first | exact HB.out | apply below_alloc | apply pw_below_drewN | apply below_drew1) | exact HB.out)) hb); clear HB; have HB := n0_; clear n0_; (try clear hb); (try clear hb2); (try clear hk); (try clear hi)) | (go_at_call 34; (with_reducible refine (glyph_Start.calls k a0 t138 _ A4.out).mono ?_); rintro e w' ⟨rfl, ⟨nd, rfl⟩⟩) | (go_at_call 35; (with_reducible refine (tabardref04_Start.calls k (wrap64 (a0)) t139 _ A5.out).mono ?_); rintro e w20 ⟨rfl, hb⟩; have n0_ := Aside0.mk (below_step (by repeat (first | (with_reducible first | exact HB.out | apply below_alloc | apply pw_below_drewN | apply below_drew1) | exact HB.out)) hb); clear HB; have HB := n0_; clear n0_; (try clear hb); (try clear hb2); (try clear hk); (try clear hi)) | (go_at_call 36; (with_reducible refine (glyph_Rest.calls k a0 t140 _ A7.out).mono ?_); rintro e w' ⟨rfl, ⟨nd, rfl⟩⟩) | (go_at_call 37; (with_reducible refine (tabardref04_Rest.calls k (wrap64 (a0)) t141 _ A8.out).mono ?_); rintro e w21 ⟨rfl, hb⟩; have n0_ := Aside0.mk (below_step (by repeat (first | (with_reducible first | exact HB.out | apply below_alloc | apply pw_below_drewN | apply below_drew1) | exact HB.out)) hb); clear HB; have HB := n0_; clear n0_; (try clear hb); (try clear hb2); (try clear hk); (try clear hi)) | (go_at_call 38; (with_reducible refine (glyph_Blank.calls a0 t142 _ A10.out).mono ?_); rintro e w' ⟨rfl, ⟨nd, rfl⟩⟩) | (go_at_call 39; (with_reducible refine (tabardref04_Blank.calls (wrap64 (a0)) t143 _ A11.out).mono ?_); rintro e w' ⟨rfl, ⟨nd, rfl⟩⟩))
          go_ret
          exact ⟨by first | rfl | (simp [errW_none, errW_some] <;> rfl) | (simp [*, errW_none, errW_some] <;> rfl), by repeat (first | (with_reducible first | exact HB.out | apply below_alloc | apply pw_below_drewN | apply below_drew1) | exact HB.out)⟩
      · rw [if_neg c9] at H
        have c9b0 : (t140 == t141) = false := by simpa using c9
        (try (have c9b1 : decide (t140 = t141) = false := by simpa using c9))
        (try (have c9b2 : (t140 == t141) = false := by simpa using c9))
        (try (have c9b3 : ¬ (t140 = t141) := by simpa using c9))
        clear c9
        obtain rfl := Option.some.inj H
        go_enter Try.func10, Try.ntmps10
        go_wp2_with (first | ((with_reducible refine gate_callee (f := 32) rfl ?_); refine goesL_ (some 3) rfl rfl Try.func32 (by kernel_rfl) rfl #[] rfl (by (try simp only [List.map_toArray, List.map_cons, List.map_nil]); first | done | rfl | (simp only [List.length_drop, List.length_take]; rfl)) ?_; (with_reducible refine (tabardlaw04_fixed.calls  true _ A2.out).mono ?_); rintro e w22 ⟨rfl, hb⟩; refine ⟨_, rfl, ?_⟩; have n0_ := Aside0.mk (below_step (by repeat (first | (with_reducible first | exact HB.out | apply below_alloc | apply pw_below_drewN | apply below_drew1) | exact HB.out)) hb); clear HB; have HB := n0_; clear n0_; (try clear hb); (try clear hb2); (try clear hk); (try clear hi)) | (go_at_call 34; (with_reducible refine (glyph_Start.calls k a0 t138 _ A4.out).mono ?_); rintro e w' ⟨rfl, ⟨nd, rfl⟩⟩) | (go_at_call 35; (with_reducible refine (tabardref04_Start.calls k (wrap64 (a0)) t139 _ A5.out).mono ?_); rintro e w23 ⟨rfl, hb⟩; have n0_ := Aside0.mk (below_step (by repeat (first | (with_reducible first | exact HB.out | apply below_alloc | apply pw_below_drewN | apply below_drew1) | exact HB.out)) hb); clear HB; have HB := n0_; clear n0_; (try clear hb); (try clear hb2); (try clear hk); (try clear hi)) | (go_at_call 36; (with_reducible refine (glyph_Rest.calls k a0 t140 _ A7.out).mono ?_); rintro e w' ⟨rfl, ⟨nd, rfl⟩⟩) | (go_at_call 37; (with_reducible refine (tabardref04_Rest.calls k (wrap64 (a0)) t141 _ A8.out).mono ?_); rintro e w24 ⟨rfl, hb⟩; have n0_ := Aside0.mk (below_step (by repeat (first | (with_reducible first | exact HB.out | apply below_alloc | apply pw_below_drewN | apply below_drew1) | exact HB.out)) hb); clear HB; have HB := n0_; clear n0_; (try clear hb); (try clear hb2); (try clear hk); (try clear hi)))
        go_ret
        exact ⟨by first | rfl | (simp [errW_none, errW_some] <;> rfl) | (simp [*, errW_none, errW_some] <;> rfl), by repeat (first | (with_reducible first | exact HB.out | apply below_alloc | apply pw_below_drewN | apply below_drew1) | exact HB.out)⟩
    · rw [if_neg c6] at H
      have c6b0 : (t138 == t139) = false := by simpa using c6
      (try (have c6b1 : decide (t138 = t139) = false := by simpa using c6))
      (try (have c6b2 : (t138 == t139) = false := by simpa using c6))
      (try (have c6b3 : ¬ (t138 = t139) := by simpa using c6))
      clear c6
      obtain rfl := Option.some.inj H
      go_enter Try.func10, Try.ntmps10
      go_wp2_with (first | ((with_reducible refine gate_callee (f := 32) rfl ?_); refine goesL_ (some 3) rfl rfl Try.func32 (by kernel_rfl) rfl #[] rfl (by (try simp only [List.map_toArray, List.map_cons, List.map_nil]); first | done | rfl | (simp only [List.length_drop, List.length_take]; rfl)) ?_; (with_reducible refine (tabardlaw04_fixed.calls  true _ A2.out).mono ?_); rintro e w25 ⟨rfl, hb⟩; refine ⟨_, rfl, ?_⟩; have n0_ := Aside0.mk (below_step (by repeat (first | (with_reducible first | exact HB.out | apply below_alloc | apply pw_below_drewN | apply below_drew1) | exact HB.out)) hb); clear HB; have HB := n0_; clear n0_; (try clear hb); (try clear hb2); (try clear hk); (try clear hi)) | (go_at_call 34; (with_reducible refine (glyph_Start.calls k a0 t138 _ A4.out).mono ?_); rintro e w' ⟨rfl, ⟨nd, rfl⟩⟩) | (go_at_call 35; (with_reducible refine (tabardref04_Start.calls k (wrap64 (a0)) t139 _ A5.out).mono ?_); rintro e w26 ⟨rfl, hb⟩; have n0_ := Aside0.mk (below_step (by repeat (first | (with_reducible first | exact HB.out | apply below_alloc | apply pw_below_drewN | apply below_drew1) | exact HB.out)) hb); clear HB; have HB := n0_; clear n0_; (try clear hb); (try clear hb2); (try clear hk); (try clear hi)))
      go_ret
      exact ⟨by first | rfl | (simp [errW_none, errW_some] <;> rfl) | (simp [*, errW_none, errW_some] <;> rfl), by repeat (first | (with_reducible first | exact HB.out | apply below_alloc | apply pw_below_drewN | apply below_drew1) | exact HB.out)⟩
  · replace c3 := Bool.eq_false_iff.mpr c3
    subst c3
    have H1 : (some false) = some r := by rw [if_neg (show ¬ (false = true) by decide)] at H; exact H
    clear H
    have H := H1
    clear H1
    obtain rfl := Option.some.inj H
    go_enter Try.func10, Try.ntmps10
    go_wp2_with (first | ((with_reducible refine gate_callee (f := 32) rfl ?_); refine goesL_ (some 3) rfl rfl Try.func32 (by kernel_rfl) rfl #[] rfl (by (try simp only [List.map_toArray, List.map_cons, List.map_nil]); first | done | rfl | (simp only [List.length_drop, List.length_take]; rfl)) ?_; (with_reducible refine (tabardlaw04_fixed.calls  false _ A2.out).mono ?_); rintro e w27 ⟨rfl, hb⟩; refine ⟨_, rfl, ?_⟩; have n0_ := Aside0.mk (below_step (by repeat (first | (with_reducible first | exact HB.out | apply below_alloc | apply pw_below_drewN | apply below_drew1) | exact HB.out)) hb); clear HB; have HB := n0_; clear n0_; (try clear hb); (try clear hb2); (try clear hk); (try clear hi)))
    go_ret
    exact ⟨by first | rfl | (simp [errW_none, errW_some] <;> rfl) | (simp [*, errW_none, errW_some] <;> rfl), by repeat (first | (with_reducible first | exact HB.out | apply below_alloc | apply pw_below_drewN | apply below_drew1) | exact HB.out)⟩

/-- THE ONE PURE STATEMENT of tabardlaw04_GlyphChars: yours. -/
def tabardlaw04_GlyphChars.Pure : Prop := ∀ (a0 : Int), (Lit.int .i32 a0).wf = true → ∃ k, tabardlaw04_GlyphChars.f k a0 = some true
theorem tabardlaw04_GlyphChars.walk (P : tabardlaw04_GlyphChars.Pure) (a0 : Int) (w : World) (w0 : (Lit.int .i32 a0).wf = true) :
    Calls Try.prog 10 #[.int .i32 a0] w fun e w' => e = .returned (.bool true) ∧ Below w.heap.size w w' := by
  obtain ⟨k, h⟩ := P a0 w0
  refine (tabardlaw04_GlyphChars.calls k a0 true w h).mono ?_
  rintro e w' ⟨rfl, hd⟩
  exact ⟨rfl, hd⟩

end Go.Proofs.Ytcphnnopjfogdaa.G
