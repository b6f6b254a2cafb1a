/- Functions of the given program as Lean functions, each with its contract: written by this session's program (wip/xprint.py). No condition but those of each contract. -/
import Derived.Test.YtcphnnopjfogdaaG0
import Derived.Test.YtcphnnopjfogdaaG2
import Derived.Test.YtcphnnopjfogdaaG3
import Derived.Test.YtcphnnopjfogdaaG4
import Derived.Test.YtcphnnopjfogdaaG5
import Derived.Test.YtcphnnopjfogdaaG9
namespace Go.Proofs.Ytcphnnopjfogdaa.G
open Go.RowKit Go.Proofs.YtcphnnopjfogdaaW.PrintWords Go.Proofs.YtcphnnopjfogdaaW.PrintLast Go.Proofs.YtcphnnopjfogdaaW.PrintMore
attribute [local go_sem] max2_int min2_int max_two min_two max_three min_three max_four min_four   -- for this text's walks alone
set_option linter.unusedVariables false
set_option linter.unusedSimpArgs false

/-! ### tabardlaw04_GlyphClasses: function 11 -/
mutual
def tabardlaw04_GlyphClasses.j0 : Nat → Int → ByteArray → Bool → Option (Bool)
  | 0, _, _, _ => none
  | k + 1, x0, x3, x35 => if x35 = true then (some false) else (tabardlaw04_GlyphClasses.l0 k x0 x3 0)
def tabardlaw04_GlyphClasses.l0 : Nat → Int → ByteArray → Int → Option (Bool)
  | 0, _, _, _ => none
  | k + 1, x0, x3, x4 => if x4 < (x3.size : Int) then (if 0 ≤ x4 then (if (bt x3 x4) ≥ 128 then (some false) else (if (bt x3 x4) ≤ 32 then (some false) else (tabardlaw04_GlyphClasses.l0 k x0 x3 (wrap64 (x4 + 1))))) else (none)) else (if x0 ≥ 0 then (if x0 ≤ 1114111 then (some true) else ((glyph_Rest.f k x0).bind fun t154 => (if t154 = true then (some false) else ((glyph_Blank.f x0).bind fun t155 => (if t155 = true then (some false) else (some (x3.toList == ([] : List UInt8)))))))) else ((glyph_Rest.f k x0).bind fun t156 => (if t156 = true then (some false) else ((glyph_Blank.f x0).bind fun t157 => (if t157 = true then (some false) else (some (x3.toList == ([] : List UInt8))))))))
end
def tabardlaw04_GlyphClasses.f (k : Nat) (a0 : Int) : Option (Bool) := (tabardlaw04_fixed.f).bind fun t146 => (if t146 = true then ((glyph_Plain.f a0).bind fun t147 => ((glyph_Start.f k a0).bind fun t148 => (if t148 = true then ((glyph_Rest.f k a0).bind fun t149 => (if t149 = true then ((glyph_Blank.f a0).bind fun t150 => (if t150 = true then (tabardlaw04_GlyphClasses.j0 k a0 t147 true) else (if t147.toList = ([] : List UInt8) then (tabardlaw04_GlyphClasses.j0 k a0 t147 false) else (tabardlaw04_GlyphClasses.j0 k a0 t147 t149)))) else (tabardlaw04_GlyphClasses.j0 k a0 t147 true))) else ((glyph_Blank.f a0).bind fun t151 => (if t151 = true then ((glyph_Rest.f k a0).bind fun t152 => (if t152 = true then (tabardlaw04_GlyphClasses.j0 k a0 t147 true) else (if t147.toList = ([] : List UInt8) then (tabardlaw04_GlyphClasses.j0 k a0 t147 false) else (tabardlaw04_GlyphClasses.j0 k a0 t147 true)))) else (if t147.toList = ([] : List UInt8) then (tabardlaw04_GlyphClasses.j0 k a0 t147 false) else ((glyph_Rest.f k a0).bind fun t153 => (tabardlaw04_GlyphClasses.j0 k a0 t147 t153)))))))) else (some false))
theorem tabardlaw04_GlyphClasses.mono_l : ∀ k, (∀ y0 y1 y2, LeO (tabardlaw04_GlyphClasses.j0 k y0 y1 y2) (tabardlaw04_GlyphClasses.j0 (k + 1) y0 y1 y2)) ∧ (∀ y0 y1 y2, LeO (tabardlaw04_GlyphClasses.l0 k y0 y1 y2) (tabardlaw04_GlyphClasses.l0 (k + 1) y0 y1 y2))
  | 0 => ⟨fun _ _ _ r h => by simp [tabardlaw04_GlyphClasses.j0] at h, fun _ _ _ r h => by simp [tabardlaw04_GlyphClasses.l0] at h⟩
  | k + 1 => by
    obtain ⟨ih0, ih1⟩ := tabardlaw04_GlyphClasses.mono_l k
    refine ⟨?_, ?_⟩
    · intro y0 y1 y2
      unfold tabardlaw04_GlyphClasses.j0
      repeat' first
      | (with_reducible exact ih0 _ _ _)
      | (with_reducible exact ih1 _ _ _)
      | (with_reducible exact glyph_Rest.mono _ _)
      | (with_reducible exact glyph_Start.mono _ _)
      | (with_reducible exact LeO.refl _)
      | (with_reducible exact LeO.none _)
      | (with_reducible refine LeO.ite ?_ ?_)
      | (with_reducible refine LeO.bind ?_ (fun _ => ?_))
      | exact ih0 _ _ _
      | exact ih1 _ _ _
      | exact glyph_Rest.mono _ _
      | exact glyph_Start.mono _ _
      | exact LeO.none _
      | refine LeO.ite ?_ ?_
      | refine LeO.bind ?_ (fun _ => ?_)
    · intro y0 y1 y2
      unfold tabardlaw04_GlyphClasses.l0
      repeat' first
      | (with_reducible exact ih0 _ _ _)
      | (with_reducible exact ih1 _ _ _)
      | (with_reducible exact glyph_Rest.mono _ _)
      | (with_reducible exact glyph_Start.mono _ _)
      | (with_reducible exact LeO.refl _)
      | (with_reducible exact LeO.none _)
      | (with_reducible refine LeO.ite ?_ ?_)
      | (with_reducible refine LeO.bind ?_ (fun _ => ?_))
      | exact ih0 _ _ _
      | exact ih1 _ _ _
      | exact glyph_Rest.mono _ _
      | exact glyph_Start.mono _ _
      | exact LeO.none _
      | refine LeO.ite ?_ ?_
      | refine LeO.bind ?_ (fun _ => ?_)
theorem tabardlaw04_GlyphClasses.mono : ∀ a0 k, LeO (tabardlaw04_GlyphClasses.f k a0) (tabardlaw04_GlyphClasses.f (k + 1) a0) := by
  intro a0 k
  obtain ⟨ih0, ih1⟩ := tabardlaw04_GlyphClasses.mono_l k
  unfold tabardlaw04_GlyphClasses.f
  repeat' first
      | (with_reducible exact ih0 _ _ _)
      | (with_reducible exact ih1 _ _ _)
      | (with_reducible exact glyph_Rest.mono _ _)
      | (with_reducible exact glyph_Start.mono _ _)
      | (with_reducible exact LeO.refl _)
      | (with_reducible exact LeO.none _)
      | (with_reducible refine LeO.ite ?_ ?_)
      | (with_reducible refine LeO.bind ?_ (fun _ => ?_))
      | exact ih0 _ _ _
      | exact ih1 _ _ _
      | exact glyph_Rest.mono _ _
      | exact glyph_Start.mono _ _
      | exact LeO.none _
      | refine LeO.ite ?_ ?_
      | refine LeO.bind ?_ (fun _ => ?_)
set_option maxHeartbeats 8000000 in
set_option maxRecDepth 100000 in
theorem tabardlaw04_GlyphClasses.calls (k : Nat) (a0 : Int) (r : Bool) (w : World) (h : tabardlaw04_GlyphClasses.f k a0 = some r) :
    Calls Try.prog 11 #[.int .i32 a0] w fun e w' => e = .returned (.bool r) ∧ Below w.heap.size w w' := by
  have HB := Aside0.mk (Below.refl w.heap.size w)
  have H : ((tabardlaw04_fixed.f).bind fun t146 => (if t146 = true then ((glyph_Plain.f a0).bind fun t147 => ((glyph_Start.f k a0).bind fun t148 => (if t148 = true then ((glyph_Rest.f k a0).bind fun t149 => (if t149 = true then ((glyph_Blank.f a0).bind fun t150 => (if t150 = true then (tabardlaw04_GlyphClasses.j0 k a0 t147 true) else (if t147.toList = ([] : List UInt8) then (tabardlaw04_GlyphClasses.j0 k a0 t147 false) else (tabardlaw04_GlyphClasses.j0 k a0 t147 t149)))) else (tabardlaw04_GlyphClasses.j0 k a0 t147 true))) else ((glyph_Blank.f a0).bind fun t151 => (if t151 = true then ((glyph_Rest.f k a0).bind fun t152 => (if t152 = true then (tabardlaw04_GlyphClasses.j0 k a0 t147 true) else (if t147.toList = ([] : List UInt8) then (tabardlaw04_GlyphClasses.j0 k a0 t147 false) else (tabardlaw04_GlyphClasses.j0 k a0 t147 true)))) else (if t147.toList = ([] : List UInt8) then (tabardlaw04_GlyphClasses.j0 k a0 t147 false) else ((glyph_Rest.f k a0).bind fun t153 => (tabardlaw04_GlyphClasses.j0 k a0 t147 t153)))))))) else (some false))) = some r := h
  clear h
  replace H := Option.bind_eq_some_iff.mp H
  obtain ⟨t146, A20, H⟩ := H
  replace H : (if t146 = true then ((glyph_Plain.f a0).bind fun t147 => ((glyph_Start.f k a0).bind fun t148 => (if t148 = true then ((glyph_Rest.f k a0).bind fun t149 => (if t149 = true then ((glyph_Blank.f a0).bind fun t150 => (if t150 = true then (tabardlaw04_GlyphClasses.j0 k a0 t147 true) else (if t147.toList = ([] : List UInt8) then (tabardlaw04_GlyphClasses.j0 k a0 t147 false) else (tabardlaw04_GlyphClasses.j0 k a0 t147 t149)))) else (tabardlaw04_GlyphClasses.j0 k a0 t147 true))) else ((glyph_Blank.f a0).bind fun t151 => (if t151 = true then ((glyph_Rest.f k a0).bind fun t152 => (if t152 = true then (tabardlaw04_GlyphClasses.j0 k a0 t147 true) else (if t147.toList = ([] : List UInt8) then (tabardlaw04_GlyphClasses.j0 k a0 t147 false) else (tabardlaw04_GlyphClasses.j0 k a0 t147 true)))) else (if t147.toList = ([] : List UInt8) then (tabardlaw04_GlyphClasses.j0 k a0 t147 false) else ((glyph_Rest.f k a0).bind fun t153 => (tabardlaw04_GlyphClasses.j0 k a0 t147 t153)))))))) else (some false)) = some r := H
  have A2 := Aside0.mk A20
  clear A20
  by_cases c3 : t146 = true
  · subst c3
    have H1 : ((glyph_Plain.f a0).bind fun t147 => ((glyph_Start.f k a0).bind fun t148 => (if t148 = true then ((glyph_Rest.f k a0).bind fun t149 => (if t149 = true then ((glyph_Blank.f a0).bind fun t150 => (if t150 = true then (tabardlaw04_GlyphClasses.j0 k a0 t147 true) else (if t147.toList = ([] : List UInt8) then (tabardlaw04_GlyphClasses.j0 k a0 t147 false) else (tabardlaw04_GlyphClasses.j0 k a0 t147 t149)))) else (tabardlaw04_GlyphClasses.j0 k a0 t147 true))) else ((glyph_Blank.f a0).bind fun t151 => (if t151 = true then ((glyph_Rest.f k a0).bind fun t152 => (if t152 = true then (tabardlaw04_GlyphClasses.j0 k a0 t147 true) else (if t147.toList = ([] : List UInt8) then (tabardlaw04_GlyphClasses.j0 k a0 t147 false) else (tabardlaw04_GlyphClasses.j0 k a0 t147 true)))) else (if t147.toList = ([] : List UInt8) then (tabardlaw04_GlyphClasses.j0 k a0 t147 false) else ((glyph_Rest.f k a0).bind fun t153 => (tabardlaw04_GlyphClasses.j0 k a0 t147 t153)))))))) = some r := by rw [if_pos rfl] at H; exact H
    clear H
    have H := H1
    clear H1
    replace H := Option.bind_eq_some_iff.mp H
    obtain ⟨t147, A40, H⟩ := H
    replace H : ((glyph_Start.f k a0).bind fun t148 => (if t148 = true then ((glyph_Rest.f k a0).bind fun t149 => (if t149 = true then ((glyph_Blank.f a0).bind fun t150 => (if t150 = true then (tabardlaw04_GlyphClasses.j0 k a0 t147 true) else (if t147.toList = ([] : List UInt8) then (tabardlaw04_GlyphClasses.j0 k a0 t147 false) else (tabardlaw04_GlyphClasses.j0 k a0 t147 t149)))) else (tabardlaw04_GlyphClasses.j0 k a0 t147 true))) else ((glyph_Blank.f a0).bind fun t151 => (if t151 = true then ((glyph_Rest.f k a0).bind fun t152 => (if t152 = true then (tabardlaw04_GlyphClasses.j0 k a0 t147 true) else (if t147.toList = ([] : List UInt8) then (tabardlaw04_GlyphClasses.j0 k a0 t147 false) else (tabardlaw04_GlyphClasses.j0 k a0 t147 true)))) else (if t147.toList = ([] : List UInt8) then (tabardlaw04_GlyphClasses.j0 k a0 t147 false) else ((glyph_Rest.f k a0).bind fun t153 => (tabardlaw04_GlyphClasses.j0 k a0 t147 t153))))))) = some r := H
    have A4 := Aside0.mk A40
    clear A40
    have HC5 := Aside0.mk H
    clear H
    go_enter Try.func11, Try.ntmps11
    go_upto_region 4 with (first | ((with_reducible refine gate_callee (f := 32) rfl ?_); refine goesL_ (some 5) rfl rfl Try.func32 (by kernel_rfl) rfl #[] rfl (by (try simp only [List.map_toArray, List.map_cons, List.map_nil]); first | done | rfl | (simp only [List.length_drop, List.length_take]; rfl)) ?_; (with_reducible refine (tabardlaw04_fixed.calls  true _ A2.out).mono ?_); rintro e w6 ⟨rfl, hb⟩; refine ⟨_, rfl, ?_⟩; have n0_ := Aside0.mk (below_step (by repeat (first | (with_reducible first | exact HB.out | apply below_alloc | apply pw_below_drewN | apply below_drew1) | exact HB.out)) hb); clear HB; have HB := n0_; clear n0_; (try clear hb); (try clear hb2); (try clear hk); (try clear hi)) | ((with_reducible refine gate_callee (f := 40) rfl ?_); refine goesL_ (some 8) rfl rfl Try.func40 (by kernel_rfl) rfl #[.int .i32 a0] rfl (by (try simp only [List.map_toArray, List.map_cons, List.map_nil]); first | done | rfl | (simp only [List.length_drop, List.length_take]; rfl)) ?_; (with_reducible refine (glyph_Plain.calls a0 t147 _ A4.out).mono ?_); rintro e w' ⟨rfl, ⟨nd, rfl⟩⟩; refine ⟨_, rfl, ?_⟩))
    (try simp only [Act.put, List.setIfInBounds_toArray, List.set_cons_zero, List.set_cons_succ])
    go_cut [35] (fun v35 wc => ∃ (kq : Nat) (x35_4 : Bool), v35 = .bool x35_4 ∧ Aside0 (tabardlaw04_GlyphClasses.j0 kq a0 t147 x35_4 = some r) ∧ Aside0 (kq ≤ k) ∧ Aside0 (Below w.heap.size w wc))
    case first =>
      have H := HC5.out
      clear HC5
      replace H := Option.bind_eq_some_iff.mp H
      obtain ⟨t148, A70, H⟩ := H
      replace H : (if t148 = true then ((glyph_Rest.f k a0).bind fun t149 => (if t149 = true then ((glyph_Blank.f a0).bind fun t150 => (if t150 = true then (tabardlaw04_GlyphClasses.j0 k a0 t147 true) else (if t147.toList = ([] : List UInt8) then (tabardlaw04_GlyphClasses.j0 k a0 t147 false) else (tabardlaw04_GlyphClasses.j0 k a0 t147 t149)))) else (tabardlaw04_GlyphClasses.j0 k a0 t147 true))) else ((glyph_Blank.f a0).bind fun t151 => (if t151 = true then ((glyph_Rest.f k a0).bind fun t152 => (if t152 = true then (tabardlaw04_GlyphClasses.j0 k a0 t147 true) else (if t147.toList = ([] : List UInt8) then (tabardlaw04_GlyphClasses.j0 k a0 t147 false) else (tabardlaw04_GlyphClasses.j0 k a0 t147 true)))) else (if t147.toList = ([] : List UInt8) then (tabardlaw04_GlyphClasses.j0 k a0 t147 false) else ((glyph_Rest.f k a0).bind fun t153 => (tabardlaw04_GlyphClasses.j0 k a0 t147 t153)))))) = some r := H
      have A7 := Aside0.mk A70
      clear A70
      by_cases c8 : t148 = true
      · subst c8
        have H1 : ((glyph_Rest.f k a0).bind fun t149 => (if t149 = true then ((glyph_Blank.f a0).bind fun t150 => (if t150 = true then (tabardlaw04_GlyphClasses.j0 k a0 t147 true) else (if t147.toList = ([] : List UInt8) then (tabardlaw04_GlyphClasses.j0 k a0 t147 false) else (tabardlaw04_GlyphClasses.j0 k a0 t147 t149)))) else (tabardlaw04_GlyphClasses.j0 k a0 t147 true))) = some r := by rw [if_pos rfl] at H; exact H
        clear H
        have H := H1
        clear H1
        replace H := Option.bind_eq_some_iff.mp H
        obtain ⟨t149, A90, H⟩ := H
        replace H : (if t149 = true then ((glyph_Blank.f a0).bind fun t150 => (if t150 = true then (tabardlaw04_GlyphClasses.j0 k a0 t147 true) else (if t147.toList = ([] : List UInt8) then (tabardlaw04_GlyphClasses.j0 k a0 t147 false) else (tabardlaw04_GlyphClasses.j0 k a0 t147 t149)))) else (tabardlaw04_GlyphClasses.j0 k a0 t147 true)) = some r := H
        have A9 := Aside0.mk A90
        clear A90
        by_cases c10 : t149 = true
        · subst c10
          have H1 : ((glyph_Blank.f a0).bind fun t150 => (if t150 = true then (tabardlaw04_GlyphClasses.j0 k a0 t147 true) else (if t147.toList = ([] : List UInt8) then (tabardlaw04_GlyphClasses.j0 k a0 t147 false) else (tabardlaw04_GlyphClasses.j0 k a0 t147 true)))) = some r := by rw [if_pos rfl] at H; exact H
          clear H
          have H := H1
          clear H1
          replace H := Option.bind_eq_some_iff.mp H
          obtain ⟨t150, A110, H⟩ := H
          replace H : (if t150 = true then (tabardlaw04_GlyphClasses.j0 k a0 t147 true) else (if t147.toList = ([] : List UInt8) then (tabardlaw04_GlyphClasses.j0 k a0 t147 false) else (tabardlaw04_GlyphClasses.j0 k a0 t147 true))) = some r := H
          have A11 := Aside0.mk A110
          clear A110
          by_cases c12 : t150 = true
          · subst c12
            have H1 : (tabardlaw04_GlyphClasses.j0 k a0 t147 true) = some r := by rw [if_pos rfl] at H; exact H
            clear H
            have H := H1
            clear H1
            have H' := Aside0.mk H
            clear H
            go_wp2_with (first | ((with_reducible refine gate_callee (f := 34) rfl ?_); refine goesL_ (some 10) rfl rfl Try.func34 (by kernel_rfl) rfl #[.int .i32 a0] rfl (by (try simp only [List.map_toArray, List.map_cons, List.map_nil]); first | done | rfl | (simp only [List.length_drop, List.length_take]; rfl)) ?_; (with_reducible refine (glyph_Start.calls k a0 true _ A7.out).mono ?_); rintro e w' ⟨rfl, ⟨nd, rfl⟩⟩; refine ⟨_, rfl, ?_⟩) | (go_at_call 36; (with_reducible refine (glyph_Rest.calls k a0 true _ A9.out).mono ?_); rintro e w' ⟨rfl, ⟨nd, rfl⟩⟩) | (go_at_call 38; (with_reducible refine (glyph_Blank.calls a0 true _ A11.out).mono ?_); rintro e w' ⟨rfl, ⟨nd, rfl⟩⟩))
            go_meet
            case rel => exact ⟨_, (true), (by first | rfl | (simp; done) | (simp [*]; done)), H', ⟨by first | omega | exact Nat.le_refl _⟩, ⟨by repeat (first | (with_reducible first | exact HB.out | apply below_alloc | apply pw_below_drewN | apply below_drew1) | exact HB.out)⟩⟩
          · replace c12 := Bool.eq_false_iff.mpr c12
            subst c12
            have H1 : (if t147.toList = ([] : List UInt8) then (tabardlaw04_GlyphClasses.j0 k a0 t147 false) else (tabardlaw04_GlyphClasses.j0 k a0 t147 true)) = some r := by rw [if_neg (show ¬ (false = true) by decide)] at H; exact H
            clear H
            have H := H1
            clear H1
            by_cases c13 : t147.toList = ([] : List UInt8)
            · rw [if_pos c13] at H
              have c13b0 : (t147.toList == ([] : List UInt8)) = true := beq_iff_eq.mpr c13
              have c13b1 : (t147.toList != ([] : List UInt8)) = false := bne_eq_false_iff_eq.mpr c13
              clear c13
              (first | rw [c13b0] | (simp only [i64_w, i32_w]; rw [c13b0]) | skip)
              have H' := Aside0.mk H
              clear H
              go_wp2_with (first | ((with_reducible refine gate_callee (f := 34) rfl ?_); refine goesL_ (some 10) rfl rfl Try.func34 (by kernel_rfl) rfl #[.int .i32 a0] rfl (by (try simp only [List.map_toArray, List.map_cons, List.map_nil]); first | done | rfl | (simp only [List.length_drop, List.length_take]; rfl)) ?_; (with_reducible refine (glyph_Start.calls k a0 true _ A7.out).mono ?_); rintro e w' ⟨rfl, ⟨nd, rfl⟩⟩; refine ⟨_, rfl, ?_⟩) | (go_at_call 36; (with_reducible refine (glyph_Rest.calls k a0 true _ A9.out).mono ?_); rintro e w' ⟨rfl, ⟨nd, rfl⟩⟩) | (go_at_call 38; (with_reducible refine (glyph_Blank.calls a0 false _ A11.out).mono ?_); rintro e w' ⟨rfl, ⟨nd, rfl⟩⟩))
              go_meet
              case rel => exact ⟨_, (false), (by first | rfl | (simp; done) | (simp [*]; done)), H', ⟨by first | omega | exact Nat.le_refl _⟩, ⟨by repeat (first | (with_reducible first | exact HB.out | apply below_alloc | apply pw_below_drewN | apply below_drew1) | exact HB.out)⟩⟩
            · rw [if_neg c13] at H
              have c13b0 : (t147.toList == ([] : List UInt8)) = false := beq_eq_false_iff_ne.mpr c13
              have c13b1 : (t147.toList != ([] : List UInt8)) = true := bne_iff_ne.mpr c13
              (first | rw [c13b0] | (simp only [i64_w, i32_w]; rw [c13b0]) | skip)
              have H' := Aside0.mk H
              clear H
              go_wp2_with (first | ((with_reducible refine gate_callee (f := 34) rfl ?_); refine goesL_ (some 10) rfl rfl Try.func34 (by kernel_rfl) rfl #[.int .i32 a0] rfl (by (try simp only [List.map_toArray, List.map_cons, List.map_nil]); first | done | rfl | (simp only [List.length_drop, List.length_take]; rfl)) ?_; (with_reducible refine (glyph_Start.calls k a0 true _ A7.out).mono ?_); rintro e w' ⟨rfl, ⟨nd, rfl⟩⟩; refine ⟨_, rfl, ?_⟩) | (go_at_call 36; (with_reducible refine (glyph_Rest.calls k a0 true _ A9.out).mono ?_); rintro e w' ⟨rfl, ⟨nd, rfl⟩⟩) | (go_at_call 38; (with_reducible refine (glyph_Blank.calls a0 false _ A11.out).mono ?_); rintro e w' ⟨rfl, ⟨nd, rfl⟩⟩))
              go_meet
              case rel => exact ⟨_, (true), (by first | rfl | (simp; done) | (simp [*]; done)), H', ⟨by first | omega | exact Nat.le_refl _⟩, ⟨by repeat (first | (with_reducible first | exact HB.out | apply below_alloc | apply pw_below_drewN | apply below_drew1) | exact HB.out)⟩⟩
        · replace c10 := Bool.eq_false_iff.mpr c10
          subst c10
          have H1 : (tabardlaw04_GlyphClasses.j0 k a0 t147 true) = some r := by rw [if_neg (show ¬ (false = true) by decide)] at H; exact H
          clear H
          have H := H1
          clear H1
          have H' := Aside0.mk H
          clear H
          go_wp2_with (first | ((with_reducible refine gate_callee (f := 34) rfl ?_); refine goesL_ (some 10) rfl rfl Try.func34 (by kernel_rfl) rfl #[.int .i32 a0] rfl (by (try simp only [List.map_toArray, List.map_cons, List.map_nil]); first | done | rfl | (simp only [List.length_drop, List.length_take]; rfl)) ?_; (with_reducible refine (glyph_Start.calls k a0 true _ A7.out).mono ?_); rintro e w' ⟨rfl, ⟨nd, rfl⟩⟩; refine ⟨_, rfl, ?_⟩) | (go_at_call 36; (with_reducible refine (glyph_Rest.calls k a0 false _ A9.out).mono ?_); rintro e w' ⟨rfl, ⟨nd, rfl⟩⟩))
          go_meet
          case rel => exact ⟨_, (true), (by first | rfl | (simp; done) | (simp [*]; done)), H', ⟨by first | omega | exact Nat.le_refl _⟩, ⟨by repeat (first | (with_reducible first | exact HB.out | apply below_alloc | apply pw_below_drewN | apply below_drew1) | exact HB.out)⟩⟩
      · replace c8 := Bool.eq_false_iff.mpr c8
        subst c8
        have H1 : ((glyph_Blank.f a0).bind fun t151 => (if t151 = true then ((glyph_Rest.f k a0).bind fun t152 => (if t152 = true then (tabardlaw04_GlyphClasses.j0 k a0 t147 true) else (if t147.toList = ([] : List UInt8) then (tabardlaw04_GlyphClasses.j0 k a0 t147 false) else (tabardlaw04_GlyphClasses.j0 k a0 t147 true)))) else (if t147.toList = ([] : List UInt8) then (tabardlaw04_GlyphClasses.j0 k a0 t147 false) else ((glyph_Rest.f k a0).bind fun t153 => (tabardlaw04_GlyphClasses.j0 k a0 t147 t153))))) = some r := by rw [if_neg (show ¬ (false = true) by decide)] at H; exact H
        clear H
        have H := H1
        clear H1
        replace H := Option.bind_eq_some_iff.mp H
        obtain ⟨t151, A140, H⟩ := H
        replace H : (if t151 = true then ((glyph_Rest.f k a0).bind fun t152 => (if t152 = true then (tabardlaw04_GlyphClasses.j0 k a0 t147 true) else (if t147.toList = ([] : List UInt8) then (tabardlaw04_GlyphClasses.j0 k a0 t147 false) else (tabardlaw04_GlyphClasses.j0 k a0 t147 true)))) else (if t147.toList = ([] : List UInt8) then (tabardlaw04_GlyphClasses.j0 k a0 t147 false) else ((glyph_Rest.f k a0).bind fun t153 => (tabardlaw04_GlyphClasses.j0 k a0 t147 t153)))) = some r := H
        have A14 := Aside0.mk A140
        clear A140
        by_cases c15 : t151 = true
        · subst c15
          have H1 : ((glyph_Rest.f k a0).bind fun t152 => (if t152 = true then (tabardlaw04_GlyphClasses.j0 k a0 t147 true) else (if t147.toList = ([] : List UInt8) then (tabardlaw04_GlyphClasses.j0 k a0 t147 false) else (tabardlaw04_GlyphClasses.j0 k a0 t147 true)))) = some r := by rw [if_pos rfl] at H; exact H
          clear H
          have H := H1
          clear H1
          replace H := Option.bind_eq_some_iff.mp H
          obtain ⟨t152, A160, H⟩ := H
          replace H : (if t152 = true then (tabardlaw04_GlyphClasses.j0 k a0 t147 true) else (if t147.toList = ([] : List UInt8) then (tabardlaw04_GlyphClasses.j0 k a0 t147 false) else (tabardlaw04_GlyphClasses.j0 k a0 t147 true))) = some r := H
          have A16 := Aside0.mk A160
          clear A160
          by_cases c17 : t152 = true
          · subst c17
            have H1 : (tabardlaw04_GlyphClasses.j0 k a0 t147 true) = some r := by rw [if_pos rfl] at H; exact H
            clear H
            have H := H1
            clear H1
            have H' := Aside0.mk H
            clear H
            go_wp2_with (first | ((with_reducible refine gate_callee (f := 34) rfl ?_); refine goesL_ (some 10) rfl rfl Try.func34 (by kernel_rfl) rfl #[.int .i32 a0] rfl (by (try simp only [List.map_toArray, List.map_cons, List.map_nil]); first | done | rfl | (simp only [List.length_drop, List.length_take]; rfl)) ?_; (with_reducible refine (glyph_Start.calls k a0 false _ A7.out).mono ?_); rintro e w' ⟨rfl, ⟨nd, rfl⟩⟩; refine ⟨_, rfl, ?_⟩) | (go_at_call 38; (with_reducible refine (glyph_Blank.calls a0 true _ A14.out).mono ?_); rintro e w' ⟨rfl, ⟨nd, rfl⟩⟩) | (go_at_call 36; (with_reducible refine (glyph_Rest.calls k a0 true _ A16.out).mono ?_); rintro e w' ⟨rfl, ⟨nd, rfl⟩⟩))
            go_meet
            case rel => exact ⟨_, (true), (by first | rfl | (simp; done) | (simp [*]; done)), H', ⟨by first | omega | exact Nat.le_refl _⟩, ⟨by repeat (first | (with_reducible first | exact HB.out | apply below_alloc | apply pw_below_drewN | apply below_drew1) | exact HB.out)⟩⟩
          · replace c17 := Bool.eq_false_iff.mpr c17
            subst c17
            have H1 : (if t147.toList = ([] : List UInt8) then (tabardlaw04_GlyphClasses.j0 k a0 t147 false) else (tabardlaw04_GlyphClasses.j0 k a0 t147 true)) = some r := by rw [if_neg (show ¬ (false = true) by decide)] at H; exact H
            clear H
            have H := H1
            clear H1
            by_cases c18 : t147.toList = ([] : List UInt8)
            · rw [if_pos c18] at H
              have c18b0 : (t147.toList == ([] : List UInt8)) = true := beq_iff_eq.mpr c18
              have c18b1 : (t147.toList != ([] : List UInt8)) = false := bne_eq_false_iff_eq.mpr c18
              clear c18
              have H' := Aside0.mk H
              clear H
              go_wp2_with (first | ((with_reducible refine gate_callee (f := 34) rfl ?_); refine goesL_ (some 10) rfl rfl Try.func34 (by kernel_rfl) rfl #[.int .i32 a0] rfl (by (try simp only [List.map_toArray, List.map_cons, List.map_nil]); first | done | rfl | (simp only [List.length_drop, List.length_take]; rfl)) ?_; (with_reducible refine (glyph_Start.calls k a0 false _ A7.out).mono ?_); rintro e w' ⟨rfl, ⟨nd, rfl⟩⟩; refine ⟨_, rfl, ?_⟩) | (go_at_call 38; (with_reducible refine (glyph_Blank.calls a0 true _ A14.out).mono ?_); rintro e w' ⟨rfl, ⟨nd, rfl⟩⟩) | (go_at_call 36; (with_reducible refine (glyph_Rest.calls k a0 false _ A16.out).mono ?_); rintro e w' ⟨rfl, ⟨nd, rfl⟩⟩))
              go_meet
              case rel => exact ⟨_, (false), (by first | rfl | (simp; done) | (simp [*]; done)), H', ⟨by first | omega | exact Nat.le_refl _⟩, ⟨by repeat (first | (with_reducible first | exact HB.out | apply below_alloc | apply pw_below_drewN | apply below_drew1) | exact HB.out)⟩⟩
            · rw [if_neg c18] at H
              have c18b0 : (t147.toList == ([] : List UInt8)) = false := beq_eq_false_iff_ne.mpr c18
              have c18b1 : (t147.toList != ([] : List UInt8)) = true := bne_iff_ne.mpr c18
              have H' := Aside0.mk H
              clear H
              go_wp2_with (first | ((with_reducible refine gate_callee (f := 34) rfl ?_); refine goesL_ (some 10) rfl rfl Try.func34 (by kernel_rfl) rfl #[.int .i32 a0] rfl (by (try simp only [List.map_toArray, List.map_cons, List.map_nil]); first | done | rfl | (simp only [List.length_drop, List.length_take]; rfl)) ?_; (with_reducible refine (glyph_Start.calls k a0 false _ A7.out).mono ?_); rintro e w' ⟨rfl, ⟨nd, rfl⟩⟩; refine ⟨_, rfl, ?_⟩) | (go_at_call 38; (with_reducible refine (glyph_Blank.calls a0 true _ A14.out).mono ?_); rintro e w' ⟨rfl, ⟨nd, rfl⟩⟩) | (go_at_call 36; (with_reducible refine (glyph_Rest.calls k a0 false _ A16.out).mono ?_); rintro e w' ⟨rfl, ⟨nd, rfl⟩⟩))
              go_meet
              case rel => exact ⟨_, (true), (by first | rfl | (simp; done) | (simp [*]; done)), H', ⟨by first | omega | exact Nat.le_refl _⟩, ⟨by repeat (first | (with_reducible first | exact HB.out | apply below_alloc | apply pw_below_drewN | apply below_drew1) | exact HB.out)⟩⟩
        · replace c15 := Bool.eq_false_iff.mpr c15
          subst c15
          have H1 : (if t147.toList = ([] : List UInt8) then (tabardlaw04_GlyphClasses.j0 k a0 t147 false) else ((glyph_Rest.f k a0).bind fun t153 => (tabardlaw04_GlyphClasses.j0 k a0 t147 t153))) = some r := by rw [if_neg (show ¬ (false = true) by decide)] at H; exact H
          clear H
          have H := H1
          clear H1
          by_cases c19 : t147.toList = ([] : List UInt8)
          · rw [if_pos c19] at H
            have c19b0 : (t147.toList == ([] : List UInt8)) = true := beq_iff_eq.mpr c19
            have c19b1 : (t147.toList != ([] : List UInt8)) = false := bne_eq_false_iff_eq.mpr c19
            clear c19
            have H' := Aside0.mk H
            clear H
            go_wp2_with (first | ((with_reducible refine gate_callee (f := 34) rfl ?_); refine goesL_ (some 10) rfl rfl Try.func34 (by kernel_rfl) rfl #[.int .i32 a0] rfl (by (try simp only [List.map_toArray, List.map_cons, List.map_nil]); first | done | rfl | (simp only [List.length_drop, List.length_take]; rfl)) ?_; (with_reducible refine (glyph_Start.calls k a0 false _ A7.out).mono ?_); rintro e w' ⟨rfl, ⟨nd, rfl⟩⟩; refine ⟨_, rfl, ?_⟩) | (go_at_call 38; (with_reducible refine (glyph_Blank.calls a0 false _ A14.out).mono ?_); rintro e w' ⟨rfl, ⟨nd, rfl⟩⟩))
            go_meet
            case rel => exact ⟨_, (false), (by first | rfl | (simp; done) | (simp [*]; done)), H', ⟨by first | omega | exact Nat.le_refl _⟩, ⟨by repeat (first | (with_reducible first | exact HB.out | apply below_alloc | apply pw_below_drewN | apply below_drew1) | exact HB.out)⟩⟩
          · rw [if_neg c19] at H
            have c19b0 : (t147.toList == ([] : List UInt8)) = false := beq_eq_false_iff_ne.mpr c19
            have c19b1 : (t147.toList != ([] : List UInt8)) = true := bne_iff_ne.mpr c19
            replace H := Option.bind_eq_some_iff.mp H
            obtain ⟨t153, A200, H⟩ := H
            replace H : (tabardlaw04_GlyphClasses.j0 k a0 t147 t153) = some r := H
            have A20 := Aside0.mk A200
            clear A200
            have H' := Aside0.mk H
            clear H
            go_wp2_with (first | ((with_reducible refine gate_callee (f := 34) rfl ?_); refine goesL_ (some 10) rfl rfl Try.func34 (by kernel_rfl) rfl #[.int .i32 a0] rfl (by (try simp only [List.map_toArray, List.map_cons, List.map_nil]); first | done | rfl | (simp only [List.length_drop, List.length_take]; rfl)) ?_; (with_reducible refine (glyph_Start.calls k a0 false _ A7.out).mono ?_); rintro e w' ⟨rfl, ⟨nd, rfl⟩⟩; refine ⟨_, rfl, ?_⟩) | (go_at_call 38; (with_reducible refine (glyph_Blank.calls a0 false _ A14.out).mono ?_); rintro e w' ⟨rfl, ⟨nd, rfl⟩⟩) | (go_at_call 36; (with_reducible refine (glyph_Rest.calls k a0 t153 _ A20.out).mono ?_); rintro e w' ⟨rfl, ⟨nd, rfl⟩⟩))
            go_meet
            case rel => exact ⟨_, (t153), (by first | rfl | (simp; done) | (simp [*]; done)), H', ⟨by first | omega | exact Nat.le_refl _⟩, ⟨by repeat (first | (with_reducible first | exact HB.out | apply below_alloc | apply pw_below_drewN | apply below_drew1) | exact HB.out)⟩⟩
    case rest =>
      clear HC5
      try clear c1
      try clear p2
      try clear c3
      try clear c4
      try clear c8
      try clear c10
      try clear c11
      try clear c12
      try clear c13
      try clear c13b0
      try clear c13b1
      try clear c15
      try clear c17
      try clear c18
      try clear c18b0
      try clear c18b1
      try clear c19
      try clear c19b0
      try clear c19b1
      obtain ⟨kq, x35_4, rfl, HA, HJ4, HB⟩ := hcut
      cases kq with
      | zero => exact absurd HA.out (by simp [tabardlaw04_GlyphClasses.j0])
      | succ kj4 =>
        have H := HA.out
        clear HA
        simp only [tabardlaw04_GlyphClasses.j0] at H
        by_cases c21 : x35_4 = true
        · subst c21
          have H1 : (some false) = some r := by rw [if_pos rfl] at H; exact H
          clear H
          have H := H1
          clear H1
          obtain rfl := Option.some.inj H
          go_wp2
          go_ret
          exact ⟨by first | rfl | (simp [errW_none, errW_some] <;> rfl) | (simp [*, errW_none, errW_some] <;> rfl), by repeat (first | (with_reducible first | exact HB.out | apply below_alloc | apply pw_below_drewN | apply below_drew1) | exact HB.out)⟩
        · replace c21 := Bool.eq_false_iff.mpr c21
          subst c21
          have H1 : (tabardlaw04_GlyphClasses.l0 kj4 a0 t147 0) = some r := by rw [if_neg (show ¬ (false = true) by decide)] at H; exact H
          clear H
          have H := H1
          clear H1
          have H' := Aside0.mk H
          clear H
          go_wp2
          go_loopg [4] kj4 (fun kq v4 w' => ∃ (x4_2 : Int), v4 = .int .i64 x4_2 ∧ Aside0 (tabardlaw04_GlyphClasses.l0 kq a0 t147 x4_2 = some r) ∧ Aside0 (kq ≤ kj4) ∧ Aside0 (Below w.heap.size w w'))
          case atStart => exact ⟨(0), (by first | rfl | (simp; done) | (simp [*]; done)), H', ⟨Nat.le_refl _⟩, ⟨by repeat (first | (with_reducible first | exact HB.out | apply below_alloc | apply pw_below_drewN | apply below_drew1) | exact HB.out)⟩⟩
          case round =>
            clear H'
            try clear c1
            try clear c2
            try clear p2
            try clear c3
            try clear c4
            try clear c8
            try clear c10
            try clear c11
            try clear c12
            try clear c13
            try clear c13b0
            try clear c13b1
            try clear c15
            try clear c17
            try clear c18
            try clear c18b0
            try clear c18b1
            try clear c19
            try clear c19b0
            try clear c19b1
            try clear c21
            try clear p2
            obtain ⟨x4_2, rfl, HA, HK2, HB⟩ := hrel
            cases gk with
            | zero => exact absurd HA.out (by simp [tabardlaw04_GlyphClasses.l0])
            | succ k2 =>
              have H := HA.out
              clear HA
              simp only [tabardlaw04_GlyphClasses.l0] at H
              by_cases c22 : x4_2 < (t147.size : Int)
              · rw [if_pos c22] at H
                have c22b0 : decide (x4_2 < (t147.size : Int)) = true := decide_eq_true c22
                clear c22
                by_cases c23 : 0 ≤ x4_2
                · rw [if_pos c23] at H
                  have c23b0 : decide (0 ≤ x4_2) = true := decide_eq_true c23
                  clear c23
                  by_cases c25 : (bt t147 x4_2) ≥ 128
                  · rw [if_pos c25] at H
                    have c25b0 : decide (128 ≤ (bt t147 x4_2)) = true := decide_eq_true c25
                    clear c25
                    obtain rfl := Option.some.inj H
                    have p24 : 0 ≤ (x4_2 : Int) := of_decide_eq_true (by first | (with_reducible assumption) | assumption)
                    have q24 : x4_2 < (t147.size : Int) := of_decide_eq_true (by first | (with_reducible assumption) | assumption)
                    have hx24 := bt_at t147 x4_2
                    replace p24 := eq_true p24
                    replace q24 := eq_true q24
                    go_wp2
                    go_ret
                    exact ⟨by first | rfl | (simp [errW_none, errW_some] <;> rfl) | (simp [*, errW_none, errW_some] <;> rfl), by repeat (first | (with_reducible first | exact HB.out | apply below_alloc | apply pw_below_drewN | apply below_drew1) | exact HB.out)⟩
                  · rw [if_neg c25] at H
                    have c25b0 : decide (128 ≤ (bt t147 x4_2)) = false := decide_eq_false c25
                    clear c25
                    by_cases c27 : (bt t147 x4_2) ≤ 32
                    · rw [if_pos c27] at H
                      have c27b0 : decide ((bt t147 x4_2) ≤ 32) = true := decide_eq_true c27
                      clear c27
                      obtain rfl := Option.some.inj H
                      have p24 : 0 ≤ (x4_2 : Int) := of_decide_eq_true (by first | (with_reducible assumption) | assumption)
                      have q24 : x4_2 < (t147.size : Int) := of_decide_eq_true (by first | (with_reducible assumption) | assumption)
                      have hx24 := bt_at t147 x4_2
                      replace p24 := eq_true p24
                      replace q24 := eq_true q24
                      have p26 : 0 ≤ (x4_2 : Int) := of_decide_eq_true (by first | (with_reducible assumption) | assumption)
                      have q26 : x4_2 < (t147.size : Int) := of_decide_eq_true (by first | (with_reducible assumption) | assumption)
                      have hx26 := bt_at t147 x4_2
                      replace p26 := eq_true p26
                      replace q26 := eq_true q26
                      go_wp2
                      go_ret
                      exact ⟨by first | rfl | (simp [errW_none, errW_some] <;> rfl) | (simp [*, errW_none, errW_some] <;> rfl), by repeat (first | (with_reducible first | exact HB.out | apply below_alloc | apply pw_below_drewN | apply below_drew1) | exact HB.out)⟩
                    · rw [if_neg c27] at H
                      have c27b0 : decide ((bt t147 x4_2) ≤ 32) = false := decide_eq_false c27
                      clear c27
                      have H' := Aside0.mk H
                      clear H
                      have p24 : 0 ≤ (x4_2 : Int) := of_decide_eq_true (by first | (with_reducible assumption) | assumption)
                      have q24 : x4_2 < (t147.size : Int) := of_decide_eq_true (by first | (with_reducible assumption) | assumption)
                      have hx24 := bt_at t147 x4_2
                      replace p24 := eq_true p24
                      replace q24 := eq_true q24
                      have p26 : 0 ≤ (x4_2 : Int) := of_decide_eq_true (by first | (with_reducible assumption) | assumption)
                      have q26 : x4_2 < (t147.size : Int) := of_decide_eq_true (by first | (with_reducible assumption) | assumption)
                      have hx26 := bt_at t147 x4_2
                      replace p26 := eq_true p26
                      replace q26 := eq_true q26
                      go_wp2
                      go_roundg k2
                      case measure => have := HJ4.out; have := HK2.out; omega
                      case rel => exact ⟨(wrap64 (x4_2 + 1)), (by first | rfl | (simp; done) | (simp [*]; done)), H', ⟨by have := HJ4.out; have := HK2.out; omega⟩, ⟨by repeat (first | (with_reducible first | exact HB.out | apply below_alloc | apply pw_below_drewN | apply below_drew1) | exact HB.out)⟩⟩
                · rw [if_neg c23] at H
                  exact absurd H (by simp)
              · rw [if_neg c22] at H
                have c22b0 : decide (x4_2 < (t147.size : Int)) = false := decide_eq_false c22
                clear c22
                by_cases c28 : a0 ≥ 0
                · rw [if_pos c28] at H
                  have c28b0 : decide (0 ≤ a0) = true := decide_eq_true c28
                  clear c28
                  by_cases c29 : a0 ≤ 1114111
                  · rw [if_pos c29] at H
                    have c29b0 : decide (a0 ≤ 1114111) = true := decide_eq_true c29
                    clear c29
                    obtain rfl := Option.some.inj H
                    go_wp2
                    go_ret
                    exact ⟨by first | rfl | (simp [errW_none, errW_some] <;> rfl) | (simp [*, errW_none, errW_some] <;> rfl), by repeat (first | (with_reducible first | exact HB.out | apply below_alloc | apply pw_below_drewN | apply below_drew1) | exact HB.out)⟩
                  · rw [if_neg c29] at H
                    have c29b0 : decide (a0 ≤ 1114111) = false := decide_eq_false c29
                    clear c29
                    replace H := Option.bind_eq_some_iff.mp H
                    obtain ⟨t154, A300, H⟩ := H
                    replace H : (if t154 = true then (some false) else ((glyph_Blank.f a0).bind fun t155 => (if t155 = true then (some false) else (some (t147.toList == ([] : List UInt8)))))) = some r := H
                    have A30 := Aside0.mk A300
                    clear A300
                    by_cases c31 : t154 = true
                    · subst c31
                      have H1 : (some false) = some r := by rw [if_pos rfl] at H; exact H
                      clear H
                      have H := H1
                      clear H1
                      obtain rfl := Option.some.inj H
                      go_wp2_with (first | (go_at_call 36; (with_reducible refine (glyph_Rest.calls k2 a0 true _ A30.out).mono ?_); rintro e w' ⟨rfl, ⟨nd, rfl⟩⟩))
                      go_ret
                      exact ⟨by first | rfl | (simp [errW_none, errW_some] <;> rfl) | (simp [*, errW_none, errW_some] <;> rfl), by repeat (first | (with_reducible first | exact HB.out | apply below_alloc | apply pw_below_drewN | apply below_drew1) | exact HB.out)⟩
                    · replace c31 := Bool.eq_false_iff.mpr c31
                      subst c31
                      have H1 : ((glyph_Blank.f a0).bind fun t155 => (if t155 = true then (some false) else (some (t147.toList == ([] : List UInt8))))) = some r := by rw [if_neg (show ¬ (false = true) by decide)] at H; exact H
                      clear H
                      have H := H1
                      clear H1
                      replace H := Option.bind_eq_some_iff.mp H
                      obtain ⟨t155, A320, H⟩ := H
                      replace H : (if t155 = true then (some false) else (some (t147.toList == ([] : List UInt8)))) = some r := H
                      have A32 := Aside0.mk A320
                      clear A320
                      by_cases c33 : t155 = true
                      · subst c33
                        have H1 : (some false) = some r := by rw [if_pos rfl] at H; exact H
                        clear H
                        have H := H1
                        clear H1
                        obtain rfl := Option.some.inj H
                        go_wp2_with (first | (go_at_call 36; (with_reducible refine (glyph_Rest.calls k2 a0 false _ A30.out).mono ?_); rintro e w' ⟨rfl, ⟨nd, rfl⟩⟩) | (go_at_call 38; (with_reducible refine (glyph_Blank.calls a0 true _ A32.out).mono ?_); rintro e w' ⟨rfl, ⟨nd, rfl⟩⟩))
                        go_ret
                        exact ⟨by first | rfl | (simp [errW_none, errW_some] <;> rfl) | (simp [*, errW_none, errW_some] <;> rfl), by repeat (first | (with_reducible first | exact HB.out | apply below_alloc | apply pw_below_drewN | apply below_drew1) | exact HB.out)⟩
                      · replace c33 := Bool.eq_false_iff.mpr c33
                        subst c33
                        have H1 : (some (t147.toList == ([] : List UInt8))) = some r := by rw [if_neg (show ¬ (false = true) by decide)] at H; exact H
                        clear H
                        have H := H1
                        clear H1
                        obtain rfl := Option.some.inj H
                        go_wp2_with (first | (go_at_call 36; (with_reducible refine (glyph_Rest.calls k2 a0 false _ A30.out).mono ?_); rintro e w' ⟨rfl, ⟨nd, rfl⟩⟩) | (go_at_call 38; (with_reducible refine (glyph_Blank.calls a0 false _ A32.out).mono ?_); rintro e w' ⟨rfl, ⟨nd, rfl⟩⟩))
                        go_ret
                        exact ⟨by first | rfl | (simp [errW_none, errW_some] <;> rfl) | (simp [*, errW_none, errW_some] <;> rfl), by repeat (first | (with_reducible first | exact HB.out | apply below_alloc | apply pw_below_drewN | apply below_drew1) | exact HB.out)⟩
                · rw [if_neg c28] at H
                  have c28b0 : decide (0 ≤ a0) = false := decide_eq_false c28
                  clear c28
                  replace H := Option.bind_eq_some_iff.mp H
                  obtain ⟨t156, A340, H⟩ := H
                  replace H : (if t156 = true then (some false) else ((glyph_Blank.f a0).bind fun t157 => (if t157 = true then (some false) else (some (t147.toList == ([] : List UInt8)))))) = some r := H
                  have A34 := Aside0.mk A340
                  clear A340
                  by_cases c35 : t156 = true
                  · subst c35
                    have H1 : (some false) = some r := by rw [if_pos rfl] at H; exact H
                    clear H
                    have H := H1
                    clear H1
                    obtain rfl := Option.some.inj H
                    go_wp2_with (first | (go_at_call 36; (with_reducible refine (glyph_Rest.calls k2 a0 true _ A34.out).mono ?_); rintro e w' ⟨rfl, ⟨nd, rfl⟩⟩))
                    go_ret
                    exact ⟨by first | rfl | (simp [errW_none, errW_some] <;> rfl) | (simp [*, errW_none, errW_some] <;> rfl), by repeat (first | (with_reducible first | exact HB.out | apply below_alloc | apply pw_below_drewN | apply below_drew1) | exact HB.out)⟩
                  · replace c35 := Bool.eq_false_iff.mpr c35
                    subst c35
                    have H1 : ((glyph_Blank.f a0).bind fun t157 => (if t157 = true then (some false) else (some (t147.toList == ([] : List UInt8))))) = some r := by rw [if_neg (show ¬ (false = true) by decide)] at H; exact H
                    clear H
                    have H := H1
                    clear H1
                    replace H := Option.bind_eq_some_iff.mp H
                    obtain ⟨t157, A360, H⟩ := H
                    replace H : (if t157 = true then (some false) else (some (t147.toList == ([] : List UInt8)))) = some r := H
                    have A36 := Aside0.mk A360
                    clear A360
                    by_cases c37 : t157 = true
                    · subst c37
                      have H1 : (some false) = some r := by rw [if_pos rfl] at H; exact H
                      clear H
                      have H := H1
                      clear H1
                      obtain rfl := Option.some.inj H
                      go_wp2_with (first | (go_at_call 36; (with_reducible refine (glyph_Rest.calls k2 a0 false _ A34.out).mono ?_); rintro e w' ⟨rfl, ⟨nd, rfl⟩⟩) | (go_at_call 38; (with_reducible refine (glyph_Blank.calls a0 true _ A36.out).mono ?_); rintro e w' ⟨rfl, ⟨nd, rfl⟩⟩))
                      go_ret
                      exact ⟨by first | rfl | (simp [errW_none, errW_some] <;> rfl) | (simp [*, errW_none, errW_some] <;> rfl), by repeat (first | (with_reducible first | exact HB.out | apply below_alloc | apply pw_below_drewN | apply below_drew1) | exact HB.out)⟩
                    · replace c37 := Bool.eq_false_iff.mpr c37
                      subst c37
                      have H1 : (some (t147.toList == ([] : List UInt8))) = some r := by rw [if_neg (show ¬ (false = true) by decide)] at H; exact H
                      clear H
                      have H := H1
                      clear H1
                      obtain rfl := Option.some.inj H
                      go_wp2_with (first | (go_at_call 36; (with_reducible refine (glyph_Rest.calls k2 a0 false _ A34.out).mono ?_); rintro e w' ⟨rfl, ⟨nd, rfl⟩⟩) | (go_at_call 38; (with_reducible refine (glyph_Blank.calls a0 false _ A36.out).mono ?_); rintro e w' ⟨rfl, ⟨nd, rfl⟩⟩))
                      go_ret
                      exact ⟨by first | rfl | (simp [errW_none, errW_some] <;> rfl) | (simp [*, errW_none, errW_some] <;> rfl), by repeat (first | (with_reducible first | exact HB.out | apply below_alloc | apply pw_below_drewN | apply below_drew1) | exact HB.out)⟩
  · replace c3 := Bool.eq_false_iff.mpr c3
    subst c3
    have H1 : (some false) = some r := by rw [if_neg (show ¬ (false = true) by decide)] at H; exact H
    clear H
    have H := H1
    clear H1
    obtain rfl := Option.some.inj H
    go_enter Try.func11, Try.ntmps11
    go_wp2_with (first | ((with_reducible refine gate_callee (f := 32) rfl ?_); refine goesL_ (some 5) rfl rfl Try.func32 (by kernel_rfl) rfl #[] rfl (by (try simp only [List.map_toArray, List.map_cons, List.map_nil]); first | done | rfl | (simp only [List.length_drop, List.length_take]; rfl)) ?_; (with_reducible refine (tabardlaw04_fixed.calls  false _ A2.out).mono ?_); rintro e w38 ⟨rfl, hb⟩; refine ⟨_, rfl, ?_⟩; have n0_ := Aside0.mk (below_step (by repeat (first | (with_reducible first | exact HB.out | apply below_alloc | apply pw_below_drewN | apply below_drew1) | exact HB.out)) hb); clear HB; have HB := n0_; clear n0_; (try clear hb); (try clear hb2); (try clear hk); (try clear hi)))
    go_ret
    exact ⟨by first | rfl | (simp [errW_none, errW_some] <;> rfl) | (simp [*, errW_none, errW_some] <;> rfl), by repeat (first | (with_reducible first | exact HB.out | apply below_alloc | apply pw_below_drewN | apply below_drew1) | exact HB.out)⟩

/-- THE ONE PURE STATEMENT of tabardlaw04_GlyphClasses: yours. -/
def tabardlaw04_GlyphClasses.Pure : Prop := ∀ (a0 : Int), (Lit.int .i32 a0).wf = true → ∃ k, tabardlaw04_GlyphClasses.f k a0 = some true
theorem tabardlaw04_GlyphClasses.walk (P : tabardlaw04_GlyphClasses.Pure) (a0 : Int) (w : World) (w0 : (Lit.int .i32 a0).wf = true) :
    Calls Try.prog 11 #[.int .i32 a0] w fun e w' => e = .returned (.bool true) ∧ Below w.heap.size w w' := by
  obtain ⟨k, h⟩ := P a0 w0
  refine (tabardlaw04_GlyphClasses.calls k a0 true w h).mono ?_
  rintro e w' ⟨rfl, hd⟩
  exact ⟨rfl, hd⟩

end Go.Proofs.Ytcphnnopjfogdaa.G
