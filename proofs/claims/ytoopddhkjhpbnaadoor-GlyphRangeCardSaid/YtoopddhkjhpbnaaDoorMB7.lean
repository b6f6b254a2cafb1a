/- Functions of the given program as Lean functions, each with its contract, and what they answer; words for it. No condition but those of each. -/
import Derived.Test.YtoopddhkjhpbnaaDoorMB2
namespace Go.Proofs.YtoopddhkjhpbnaaDoor.Q
open Go.RowKit Go.Proofs.YtoopddhkjhpbnaaDoorW.PrintWords Go.Proofs.YtoopddhkjhpbnaaDoorW.PrintLast Go.Proofs.YtoopddhkjhpbnaaDoorW.PrintMore
open Aside0 (mk)
open List (setIfInBounds_toArray set_cons_zero set_cons_succ)
attribute [local go_sem] max2_int min2_int max_two min_two max_three min_three max_four min_four
set_option linter.unusedVariables false
set_option linter.unusedSimpArgs false
def glyph_Plain.f (a0 : Int) : Option (ByteArray) := if a0 = 8804 then (some (⟨#[60, 61]⟩ : ByteArray)) else (if a0 = 8805 then (some (⟨#[62, 61]⟩ : ByteArray)) else (if a0 = 8800 then (some (⟨#[33, 61]⟩ : ByteArray)) else (if a0 = 8801 then (some (⟨#[126]⟩ : ByteArray)) else (if a0 = 8722 then (some (⟨#[45]⟩ : ByteArray)) else (if a0 = 183 then (some (⟨#[42]⟩ : ByteArray)) else (if a0 = 8594 then (some (⟨#[45, 62]⟩ : ByteArray)) else (if a0 = 8596 then (some (⟨#[60, 45, 62]⟩ : ByteArray)) else (if a0 = 8743 then (some (⟨#[97, 110, 100]⟩ : ByteArray)) else (if a0 = 8744 then (some (⟨#[111, 114]⟩ : ByteArray)) else (if a0 = 172 then (some (⟨#[110, 111, 116]⟩ : ByteArray)) else (if a0 = 8707 then (some (⟨#[101, 120]⟩ : ByteArray)) else (if a0 = 8704 then (some (⟨#[97, 108, 108]⟩ : ByteArray)) else (some (⟨#[]⟩ : ByteArray))))))))))))))
set_option maxHeartbeats 8000000 in
set_option maxRecDepth 100000 in
theorem glyph_Plain.calls (a0 : Int) (r : ByteArray) (w : World) (h : glyph_Plain.f a0 = some r) :
    Calls Tryd.prog 15 #[.int .i32 a0] w fun e w' => e = .returned (.string r) ∧ Drawn0 w w' := by
  have H : (if a0 = 8804 then (some (⟨#[60, 61]⟩ : ByteArray)) else (if a0 = 8805 then (some (⟨#[62, 61]⟩ : ByteArray)) else (if a0 = 8800 then (some (⟨#[33, 61]⟩ : ByteArray)) else (if a0 = 8801 then (some (⟨#[126]⟩ : ByteArray)) else (if a0 = 8722 then (some (⟨#[45]⟩ : ByteArray)) else (if a0 = 183 then (some (⟨#[42]⟩ : ByteArray)) else (if a0 = 8594 then (some (⟨#[45, 62]⟩ : ByteArray)) else (if a0 = 8596 then (some (⟨#[60, 45, 62]⟩ : ByteArray)) else (if a0 = 8743 then (some (⟨#[97, 110, 100]⟩ : ByteArray)) else (if a0 = 8744 then (some (⟨#[111, 114]⟩ : ByteArray)) else (if a0 = 172 then (some (⟨#[110, 111, 116]⟩ : ByteArray)) else (if a0 = 8707 then (some (⟨#[101, 120]⟩ : ByteArray)) else (if a0 = 8704 then (some (⟨#[97, 108, 108]⟩ : ByteArray)) else (some (⟨#[]⟩ : ByteArray))))))))))))))) = some r := h
  clear h
  by_cases c2 : a0 = 8804
  · rw [if_pos c2] at H
    have c2b0 : (a0 == 8804) = true := beq_iff_eq.mpr c2
    have c2b1 : (a0 != 8804) = false := bne_eq_false_iff_eq.mpr c2
    clear c2
    obtain rfl := Option.some.inj H
    go_enter Tryd.func15, Tryd.ntmps15
    go_wp2
    go_ret
    exact ⟨by first | rfl | (simp; done) | (simp [*]; done), by repeat (first | exact Drawn0.refl _ | apply Drawn0.step)⟩
  · rw [if_neg c2] at H
    have c2b0 : (a0 == 8804) = false := beq_eq_false_iff_ne.mpr c2
    have c2b1 : (a0 != 8804) = true := bne_iff_ne.mpr c2
    by_cases c3 : a0 = 8805
    · (rw [if_pos c3] at H); (have c3b0 : (a0 == 8805) = true := beq_iff_eq.mpr c3); (have c3b1 : (a0 != 8805) = false := bne_eq_false_iff_eq.mpr c3); clear c3; (obtain rfl := Option.some.inj H); (go_enter Tryd.func15, Tryd.ntmps15); go_wp2; go_ret; (exact ⟨by first | rfl | (simp; done) | (simp [*]; done), by repeat (first | exact Drawn0.refl _ | apply Drawn0.step)⟩)
    · (rw [if_neg c3] at H); (have c3b0 : (a0 == 8805) = false := beq_eq_false_iff_ne.mpr c3); (have c3b1 : (a0 != 8805) = true := bne_iff_ne.mpr c3); (by_cases c4 : a0 = 8800)
      · (rw [if_pos c4] at H); (have c4b0 : (a0 == 8800) = true := beq_iff_eq.mpr c4); (have c4b1 : (a0 != 8800) = false := bne_eq_false_iff_eq.mpr c4); clear c4; (obtain rfl := Option.some.inj H); (go_enter Tryd.func15, Tryd.ntmps15); go_wp2; go_ret; (exact ⟨by first | rfl | (simp; done) | (simp [*]; done), by repeat (first | exact Drawn0.refl _ | apply Drawn0.step)⟩)
      · (rw [if_neg c4] at H); (have c4b0 : (a0 == 8800) = false := beq_eq_false_iff_ne.mpr c4); (have c4b1 : (a0 != 8800) = true := bne_iff_ne.mpr c4); (by_cases c5 : a0 = 8801)
        · (rw [if_pos c5] at H); (have c5b0 : (a0 == 8801) = true := beq_iff_eq.mpr c5); (have c5b1 : (a0 != 8801) = false := bne_eq_false_iff_eq.mpr c5); clear c5; (obtain rfl := Option.some.inj H); (go_enter Tryd.func15, Tryd.ntmps15); go_wp2; go_ret; (exact ⟨by first | rfl | (simp; done) | (simp [*]; done), by repeat (first | exact Drawn0.refl _ | apply Drawn0.step)⟩)
        · (rw [if_neg c5] at H); (have c5b0 : (a0 == 8801) = false := beq_eq_false_iff_ne.mpr c5); (have c5b1 : (a0 != 8801) = true := bne_iff_ne.mpr c5); (by_cases c6 : a0 = 8722)
          · (rw [if_pos c6] at H); (have c6b0 : (a0 == 8722) = true := beq_iff_eq.mpr c6); (have c6b1 : (a0 != 8722) = false := bne_eq_false_iff_eq.mpr c6); clear c6; (obtain rfl := Option.some.inj H); (go_enter Tryd.func15, Tryd.ntmps15); go_wp2; go_ret; (exact ⟨by first | rfl | (simp; done) | (simp [*]; done), by repeat (first | exact Drawn0.refl _ | apply Drawn0.step)⟩)
          · (rw [if_neg c6] at H); (have c6b0 : (a0 == 8722) = false := beq_eq_false_iff_ne.mpr c6); (have c6b1 : (a0 != 8722) = true := bne_iff_ne.mpr c6); (by_cases c7 : a0 = 183)
            · (rw [if_pos c7] at H); (have c7b0 : (a0 == 183) = true := beq_iff_eq.mpr c7); (have c7b1 : (a0 != 183) = false := bne_eq_false_iff_eq.mpr c7); clear c7; (obtain rfl := Option.some.inj H); (go_enter Tryd.func15, Tryd.ntmps15); go_wp2; go_ret; (exact ⟨by first | rfl | (simp; done) | (simp [*]; done), by repeat (first | exact Drawn0.refl _ | apply Drawn0.step)⟩)
            · (rw [if_neg c7] at H); (have c7b0 : (a0 == 183) = false := beq_eq_false_iff_ne.mpr c7); (have c7b1 : (a0 != 183) = true := bne_iff_ne.mpr c7); (by_cases c8 : a0 = 8594)
              · (rw [if_pos c8] at H); (have c8b0 : (a0 == 8594) = true := beq_iff_eq.mpr c8); (have c8b1 : (a0 != 8594) = false := bne_eq_false_iff_eq.mpr c8); clear c8; (obtain rfl := Option.some.inj H); (go_enter Tryd.func15, Tryd.ntmps15); go_wp2; go_ret; (exact ⟨by first | rfl | (simp; done) | (simp [*]; done), by repeat (first | exact Drawn0.refl _ | apply Drawn0.step)⟩)
              · (rw [if_neg c8] at H); (have c8b0 : (a0 == 8594) = false := beq_eq_false_iff_ne.mpr c8); (have c8b1 : (a0 != 8594) = true := bne_iff_ne.mpr c8); (by_cases c9 : a0 = 8596)
                · (rw [if_pos c9] at H); (have c9b0 : (a0 == 8596) = true := beq_iff_eq.mpr c9); (have c9b1 : (a0 != 8596) = false := bne_eq_false_iff_eq.mpr c9); clear c9; (obtain rfl := Option.some.inj H); (go_enter Tryd.func15, Tryd.ntmps15); go_wp2; go_ret; (exact ⟨by first | rfl | (simp; done) | (simp [*]; done), by repeat (first | exact Drawn0.refl _ | apply Drawn0.step)⟩)
                · (rw [if_neg c9] at H); (have c9b0 : (a0 == 8596) = false := beq_eq_false_iff_ne.mpr c9); (have c9b1 : (a0 != 8596) = true := bne_iff_ne.mpr c9); (by_cases c10 : a0 = 8743)
                  · (rw [if_pos c10] at H); (have c10b0 : (a0 == 8743) = true := beq_iff_eq.mpr c10); (have c10b1 : (a0 != 8743) = false := bne_eq_false_iff_eq.mpr c10); clear c10; (obtain rfl := Option.some.inj H); (go_enter Tryd.func15, Tryd.ntmps15); go_wp2; go_ret; (exact ⟨by first | rfl | (simp; done) | (simp [*]; done), by repeat (first | exact Drawn0.refl _ | apply Drawn0.step)⟩)
                  · (rw [if_neg c10] at H); (have c10b0 : (a0 == 8743) = false := beq_eq_false_iff_ne.mpr c10); (have c10b1 : (a0 != 8743) = true := bne_iff_ne.mpr c10); (by_cases c11 : a0 = 8744)
                    · (rw [if_pos c11] at H); (have c11b0 : (a0 == 8744) = true := beq_iff_eq.mpr c11); (have c11b1 : (a0 != 8744) = false := bne_eq_false_iff_eq.mpr c11); clear c11; (obtain rfl := Option.some.inj H); (go_enter Tryd.func15, Tryd.ntmps15); go_wp2; go_ret; (exact ⟨by first | rfl | (simp; done) | (simp [*]; done), by repeat (first | exact Drawn0.refl _ | apply Drawn0.step)⟩)
                    · (rw [if_neg c11] at H); (have c11b0 : (a0 == 8744) = false := beq_eq_false_iff_ne.mpr c11); (have c11b1 : (a0 != 8744) = true := bne_iff_ne.mpr c11); (by_cases c12 : a0 = 172)
                      · (rw [if_pos c12] at H); (have c12b0 : (a0 == 172) = true := beq_iff_eq.mpr c12); (have c12b1 : (a0 != 172) = false := bne_eq_false_iff_eq.mpr c12); clear c12; (obtain rfl := Option.some.inj H); (go_enter Tryd.func15, Tryd.ntmps15); go_wp2; go_ret; (exact ⟨by first | rfl | (simp; done) | (simp [*]; done), by repeat (first | exact Drawn0.refl _ | apply Drawn0.step)⟩)
                      · (rw [if_neg c12] at H); (have c12b0 : (a0 == 172) = false := beq_eq_false_iff_ne.mpr c12); (have c12b1 : (a0 != 172) = true := bne_iff_ne.mpr c12); (by_cases c13 : a0 = 8707)
                        · (rw [if_pos c13] at H); (have c13b0 : (a0 == 8707) = true := beq_iff_eq.mpr c13); (have c13b1 : (a0 != 8707) = false := bne_eq_false_iff_eq.mpr c13); clear c13; (obtain rfl := Option.some.inj H); (go_enter Tryd.func15, Tryd.ntmps15); go_wp2; go_ret; (exact ⟨by first | rfl | (simp; done) | (simp [*]; done), by repeat (first | exact Drawn0.refl _ | apply Drawn0.step)⟩)
                        · (rw [if_neg c13] at H); (have c13b0 : (a0 == 8707) = false := beq_eq_false_iff_ne.mpr c13); (have c13b1 : (a0 != 8707) = true := bne_iff_ne.mpr c13); (by_cases c14 : a0 = 8704)
                          · (rw [if_pos c14] at H); (have c14b0 : (a0 == 8704) = true := beq_iff_eq.mpr c14); (have c14b1 : (a0 != 8704) = false := bne_eq_false_iff_eq.mpr c14); clear c14; (obtain rfl := Option.some.inj H); (go_enter Tryd.func15, Tryd.ntmps15); go_wp2; go_ret; (exact ⟨by first | rfl | (simp; done) | (simp [*]; done), by repeat (first | exact Drawn0.refl _ | apply Drawn0.step)⟩)
                          · (rw [if_neg c14] at H); (have c14b0 : (a0 == 8704) = false := beq_eq_false_iff_ne.mpr c14); (have c14b1 : (a0 != 8704) = true := bne_iff_ne.mpr c14); (obtain rfl := Option.some.inj H); (go_enter Tryd.func15, Tryd.ntmps15); go_wp2; go_ret; (exact ⟨by first | rfl | (simp; done) | (simp [*]; done), by repeat (first | exact Drawn0.refl _ | apply Drawn0.step)⟩)
end Go.Proofs.YtoopddhkjhpbnaaDoor.Q
