/- Functions of the given program as Lean functions, each with its contract, and what they answer; words for it. No condition but those of each. -/
import Derived.Test.YtjknpmibdkoklaaMLS
import Derived.Test.YtjknpmibdkoklaaML3
import Derived.Test.YtjknpmibdkoklaaML4
namespace Go.Proofs.Ytjknpmibdkoklaa.Q
open Go.RowKit Go.Proofs.YtjknpmibdkoklaaW.PrintWords Go.Proofs.YtjknpmibdkoklaaW.PrintLast Go.Proofs.YtjknpmibdkoklaaW.PrintMore
open Aside0 (mk)
open List (setIfInBounds_toArray set_cons_zero set_cons_succ)
attribute [local go_sem] max2_int min2_int max_two min_two max_three min_three max_four min_four
set_option linter.unusedVariables false
set_option linter.unusedSimpArgs false
attribute [local go_sem] fld99_2 fld103_2 fld160_0 fld160_1
def tree_term.f (a0_0 : Int) (a0_1 : Int) (a0_2 : ByteArray) (l0_3 : List (S66)) : Option (Bool) := if a0_0 = 0 then (if a0_1 ≥ 0 then (if a0_2.toList = ([] : List UInt8) then (some ((l0_3.length : Int) == 0)) else (some false)) else (some false)) else (if a0_0 = 1 then (if a0_1 = 0 then ((glyph_Name.f a0_2).bind fun t103 => (if t103 = true then (some ((l0_3.length : Int) == 0)) else (some false))) else (some false)) else (if a0_0 = 2 then (if a0_1 = 0 then (if a0_2.toList = ([] : List UInt8) then (some ((l0_3.length : Int) == 1)) else (some false)) else (some false)) else (if a0_0 = 3 then (if a0_1 = 0 then (if a0_2.toList = ([] : List UInt8) then (some ((l0_3.length : Int) == 2)) else (some false)) else (some false)) else (if a0_0 = 4 then (if a0_1 = 0 then (if a0_2.toList = ([] : List UInt8) then (some ((l0_3.length : Int) == 2)) else (some false)) else (some false)) else (if a0_0 = 5 then (if a0_1 = 0 then (if a0_2.toList = ([] : List UInt8) then (some ((l0_3.length : Int) == 2)) else (some false)) else (some false)) else (some false))))))
set_option maxHeartbeats 8000000 in
set_option maxRecDepth 100000 in
theorem tree_term.calls (a0_0 : Int) (a0_1 : Int) (a0_2 : ByteArray) (A0_3 : Option Addr) (c0_3 : Nat) (l0_3 : List (S66)) (r : Bool) (w : World) (hr0_3 : Kd.C k66 w A0_3 l0_3.length l0_3) (hc0_3 : l0_3.length ≤ c0_3) (h : tree_term.f a0_0 a0_1 a0_2 l0_3 = some r) :
    Calls Try.prog 165 #[.agg #[.int .i64 a0_0, .int .i64 a0_1, .string a0_2, .slice A0_3 l0_3.length c0_3]] w fun e w' => e = .returned (.bool r) ∧ Below w.heap.size w w' := by
  have hu66 := Try.underlying66
  have HR0_3 := mk hr0_3
  have HC0_3 := mk hc0_3
  clear hr0_3 hc0_3
  have HB := mk (Below.refl w.heap.size w)
  have H : (if a0_0 = 0 then (if a0_1 ≥ 0 then (if a0_2.toList = ([] : List UInt8) then (some ((l0_3.length : Int) == 0)) else (some false)) else (some false)) else (if a0_0 = 1 then (if a0_1 = 0 then ((glyph_Name.f a0_2).bind fun t103 => (if t103 = true then (some ((l0_3.length : Int) == 0)) else (some false))) else (some false)) else (if a0_0 = 2 then (if a0_1 = 0 then (if a0_2.toList = ([] : List UInt8) then (some ((l0_3.length : Int) == 1)) else (some false)) else (some false)) else (if a0_0 = 3 then (if a0_1 = 0 then (if a0_2.toList = ([] : List UInt8) then (some ((l0_3.length : Int) == 2)) else (some false)) else (some false)) else (if a0_0 = 4 then (if a0_1 = 0 then (if a0_2.toList = ([] : List UInt8) then (some ((l0_3.length : Int) == 2)) else (some false)) else (some false)) else (if a0_0 = 5 then (if a0_1 = 0 then (if a0_2.toList = ([] : List UInt8) then (some ((l0_3.length : Int) == 2)) else (some false)) else (some false)) else (some false))))))) = some r := h
  clear h
  by_cases c2 : a0_0 = 0
  · rw [if_pos c2] at H
    have c2b0 := eT_ c2
    have c2b1 := nF_ c2
    clear c2
    replace H := ic_ H; obtain ⟨c3, H⟩ | ⟨c3, H⟩ := H
    · (have c3b0 : decide (0 ≤ a0_1) = true := decide_eq_true c3); clear c3; replace H := ic_ H; obtain ⟨c4, H⟩ | ⟨c4, H⟩ := H
      · (obtain ⟨c4b0, c4b1⟩ := eTn_ c4); clear c4; (obtain rfl := Option.some.inj H); (go_enter Try.func165, Try.ntmps165); (go_wp2_with (first | ((with_reducible refine gate_dst (N := 1) rfl ?_); refine box_event ?hg (N := 1) ?hd (cs := #[.int .i64 a0_0, .int .i64 a0_1, .string a0_2, .slice A0_3 l0_3.length c0_3]) (t := 66) ?hr ?_; (case hd => rfl); (case hg => rfl); (case hr => exact kq11); intro gb102 hg w5 hbox hb; have BK102 := mk (hbox); have GW102 := (gs_ hg kq9); have GE102 := GW102; replace HB := mk (below_step kq9 hb); clear hb hbox hg; obtain ⟨_, _, _, _, _, _, _, _⟩ := cz4_ BK102.out))); (repeat (go_quiet (fail); try go_wp2)); go_ret; (exact ⟨kq14, (kq16 GE102)⟩)
      · (obtain ⟨c4b0, c4b1⟩ := eFn_ c4); (obtain rfl := Option.some.inj H); (go_enter Try.func165, Try.ntmps165); (go_wp2_with (first | ((with_reducible refine gate_dst (N := 1) rfl ?_); refine box_event ?hg (N := 1) ?hd (cs := #[.int .i64 a0_0, .int .i64 a0_1, .string a0_2, .slice A0_3 l0_3.length c0_3]) (t := 66) ?hr ?_; (case hd => rfl); (case hg => rfl); (case hr => exact kq11); intro gb102 hg w7 hbox hb; have BK102 := mk (hbox); have GW102 := (gs_ hg kq9); have GE102 := GW102; replace HB := mk (below_step kq9 hb); clear hb hbox hg; obtain ⟨_, _, _, _, _, _, _, _⟩ := cz4_ BK102.out))); (repeat (go_quiet (fail); try go_wp2)); go_ret; (exact ⟨kq14, (kq16 GE102)⟩)
    · (have c3b0 : decide (0 ≤ a0_1) = false := decide_eq_false c3); clear c3; (obtain rfl := Option.some.inj H); (go_enter Try.func165, Try.ntmps165); (go_wp2_with (first | ((with_reducible refine gate_dst (N := 1) rfl ?_); refine box_event ?hg (N := 1) ?hd (cs := #[.int .i64 a0_0, .int .i64 a0_1, .string a0_2, .slice A0_3 l0_3.length c0_3]) (t := 66) ?hr ?_; (case hd => rfl); (case hg => rfl); (case hr => exact kq11); intro gb102 hg w9 hbox hb; have BK102 := mk (hbox); have GW102 := (gs_ hg kq9); have GE102 := GW102; replace HB := mk (below_step kq9 hb); clear hb hbox hg; obtain ⟨_, _, _, _, _, _, _, _⟩ := cz4_ BK102.out))); (repeat (go_quiet (fail); try go_wp2)); go_ret; (exact ⟨kq14, (kq16 GE102)⟩)
  · rw [if_neg c2] at H
    have c2b0 := eF_ c2
    have c2b1 := nT_ c2
    replace H := ic_ H; obtain ⟨c11, H⟩ | ⟨c11, H⟩ := H
    · (obtain ⟨c11b0, c11b1⟩ := eTn_ c11); clear c11; replace H := ic_ H; obtain ⟨c12, H⟩ | ⟨c12, H⟩ := H
      · (obtain ⟨c12b0, c12b1⟩ := eTn_ c12); clear c12; (replace H := Option.bind_eq_some_iff.mp H); (obtain ⟨t103, A130, H⟩ := H); (replace H : (if t103 = true then (some ((l0_3.length : Int) == 0)) else (some false)) = some r := H); (have A13 := mk A130); clear A130; (by_cases c14 : t103 = true)
        · subst c14; (have H1 : (some ((l0_3.length : Int) == 0)) = some r := by rw [if_pos rfl] at H; exact H); clear H; (have H := H1); clear H1; (obtain rfl := Option.some.inj H); (go_enter Try.func165, Try.ntmps165); (go_wp2_with (first | ((with_reducible refine gate_dst (N := 1) rfl ?_); refine box_event ?hg (N := 1) ?hd (cs := #[.int .i64 a0_0, .int .i64 a0_1, .string a0_2, .slice A0_3 l0_3.length c0_3]) (t := 66) ?hr ?_; (case hd => rfl); (case hg => rfl); (case hr => exact kq11); intro gb102 hg w15 hbox hb; have BK102 := mk (hbox); have GW102 := (gs_ hg kq9); have GE102 := GW102; replace HB := mk (below_step kq9 hb); clear hb hbox hg; obtain ⟨_, _, _, _, _, _, _, _⟩ := cz4_ BK102.out))); (repeat (go_quiet (fail); try go_wp2_with (first | (go_at_call 41; (with_reducible refine (glyph_Name.calls a0_2 true _ A13.out).mono ?_); rintro e w17 ⟨rfl, hb⟩; replace BK102 := (bb_ BK102 hb); replace HB := mk (below_step (kq16 GE102) hb))))); go_ret; (exact ⟨kq14, (kq16 GE102)⟩)
        · (replace c14 := Bool.eq_false_iff.mpr c14); subst c14; (have H1 : (some false) = some r := by rw [if_neg (show ¬ (false = true) by decide)] at H; exact H); clear H; (have H := H1); clear H1; (obtain rfl := Option.some.inj H); (go_enter Try.func165, Try.ntmps165); (go_wp2_with (first | ((with_reducible refine gate_dst (N := 1) rfl ?_); refine box_event ?hg (N := 1) ?hd (cs := #[.int .i64 a0_0, .int .i64 a0_1, .string a0_2, .slice A0_3 l0_3.length c0_3]) (t := 66) ?hr ?_; (case hd => rfl); (case hg => rfl); (case hr => exact kq11); intro gb102 hg w18 hbox hb; have BK102 := mk (hbox); have GW102 := (gs_ hg kq9); have GE102 := GW102; replace HB := mk (below_step kq9 hb); clear hb hbox hg; obtain ⟨_, _, _, _, _, _, _, _⟩ := cz4_ BK102.out))); (repeat (go_quiet (fail); try go_wp2_with (first | (go_at_call 41; (with_reducible refine (glyph_Name.calls a0_2 false _ A13.out).mono ?_); rintro e w20 ⟨rfl, hb⟩; replace BK102 := (bb_ BK102 hb); replace HB := mk (below_step (kq16 GE102) hb))))); go_ret; (exact ⟨kq14, (kq16 GE102)⟩)
      · (obtain ⟨c12b0, c12b1⟩ := eFn_ c12); (obtain rfl := Option.some.inj H); (go_enter Try.func165, Try.ntmps165); (go_wp2_with (first | ((with_reducible refine gate_dst (N := 1) rfl ?_); refine box_event ?hg (N := 1) ?hd (cs := #[.int .i64 a0_0, .int .i64 a0_1, .string a0_2, .slice A0_3 l0_3.length c0_3]) (t := 66) ?hr ?_; (case hd => rfl); (case hg => rfl); (case hr => exact kq11); intro gb102 hg w21 hbox hb; have BK102 := mk (hbox); have GW102 := (gs_ hg kq9); have GE102 := GW102; replace HB := mk (below_step kq9 hb); clear hb hbox hg; obtain ⟨_, _, _, _, _, _, _, _⟩ := cz4_ BK102.out))); (repeat (go_quiet (fail); try go_wp2)); go_ret; (exact ⟨kq14, (kq16 GE102)⟩)
    · (obtain ⟨c11b0, c11b1⟩ := eFn_ c11); replace H := ic_ H; obtain ⟨c23, H⟩ | ⟨c23, H⟩ := H
      · (obtain ⟨c23b0, c23b1⟩ := eTn_ c23); clear c23; replace H := ic_ H; obtain ⟨c24, H⟩ | ⟨c24, H⟩ := H
        · (obtain ⟨c24b0, c24b1⟩ := eTn_ c24); clear c24; replace H := ic_ H; obtain ⟨c25, H⟩ | ⟨c25, H⟩ := H
          · (obtain ⟨c25b0, c25b1⟩ := eTn_ c25); clear c25; (obtain rfl := Option.some.inj H); (go_enter Try.func165, Try.ntmps165); (go_wp2_with (first | ((with_reducible refine gate_dst (N := 1) rfl ?_); refine box_event ?hg (N := 1) ?hd (cs := #[.int .i64 a0_0, .int .i64 a0_1, .string a0_2, .slice A0_3 l0_3.length c0_3]) (t := 66) ?hr ?_; (case hd => rfl); (case hg => rfl); (case hr => exact kq11); intro gb102 hg w26 hbox hb; have BK102 := mk (hbox); have GW102 := (gs_ hg kq9); have GE102 := GW102; replace HB := mk (below_step kq9 hb); clear hb hbox hg; obtain ⟨_, _, _, _, _, _, _, _⟩ := cz4_ BK102.out))); (repeat (go_quiet (fail); try go_wp2)); go_ret; (exact ⟨kq14, (kq16 GE102)⟩)
          · (obtain ⟨c25b0, c25b1⟩ := eFn_ c25); (obtain rfl := Option.some.inj H); (go_enter Try.func165, Try.ntmps165); (go_wp2_with (first | ((with_reducible refine gate_dst (N := 1) rfl ?_); refine box_event ?hg (N := 1) ?hd (cs := #[.int .i64 a0_0, .int .i64 a0_1, .string a0_2, .slice A0_3 l0_3.length c0_3]) (t := 66) ?hr ?_; (case hd => rfl); (case hg => rfl); (case hr => exact kq11); intro gb102 hg w28 hbox hb; have BK102 := mk (hbox); have GW102 := (gs_ hg kq9); have GE102 := GW102; replace HB := mk (below_step kq9 hb); clear hb hbox hg; obtain ⟨_, _, _, _, _, _, _, _⟩ := cz4_ BK102.out))); (repeat (go_quiet (fail); try go_wp2)); go_ret; (exact ⟨kq14, (kq16 GE102)⟩)
        · (obtain ⟨c24b0, c24b1⟩ := eFn_ c24); (obtain rfl := Option.some.inj H); (go_enter Try.func165, Try.ntmps165); (go_wp2_with (first | ((with_reducible refine gate_dst (N := 1) rfl ?_); refine box_event ?hg (N := 1) ?hd (cs := #[.int .i64 a0_0, .int .i64 a0_1, .string a0_2, .slice A0_3 l0_3.length c0_3]) (t := 66) ?hr ?_; (case hd => rfl); (case hg => rfl); (case hr => exact kq11); intro gb102 hg w30 hbox hb; have BK102 := mk (hbox); have GW102 := (gs_ hg kq9); have GE102 := GW102; replace HB := mk (below_step kq9 hb); clear hb hbox hg; obtain ⟨_, _, _, _, _, _, _, _⟩ := cz4_ BK102.out))); (repeat (go_quiet (fail); try go_wp2)); go_ret; (exact ⟨kq14, (kq16 GE102)⟩)
      · (obtain ⟨c23b0, c23b1⟩ := eFn_ c23); replace H := ic_ H; obtain ⟨c32, H⟩ | ⟨c32, H⟩ := H
        · (obtain ⟨c32b0, c32b1⟩ := eTn_ c32); clear c32; replace H := ic_ H; obtain ⟨c33, H⟩ | ⟨c33, H⟩ := H
          · (obtain ⟨c33b0, c33b1⟩ := eTn_ c33); clear c33; replace H := ic_ H; obtain ⟨c34, H⟩ | ⟨c34, H⟩ := H
            · (obtain ⟨c34b0, c34b1⟩ := eTn_ c34); clear c34; (obtain rfl := Option.some.inj H); (go_enter Try.func165, Try.ntmps165); (go_wp2_with (first | ((with_reducible refine gate_dst (N := 1) rfl ?_); refine box_event ?hg (N := 1) ?hd (cs := #[.int .i64 a0_0, .int .i64 a0_1, .string a0_2, .slice A0_3 l0_3.length c0_3]) (t := 66) ?hr ?_; (case hd => rfl); (case hg => rfl); (case hr => exact kq11); intro gb102 hg w35 hbox hb; have BK102 := mk (hbox); have GW102 := (gs_ hg kq9); have GE102 := GW102; replace HB := mk (below_step kq9 hb); clear hb hbox hg; obtain ⟨_, _, _, _, _, _, _, _⟩ := cz4_ BK102.out))); (repeat (go_quiet (fail); try go_wp2)); go_ret; (exact ⟨kq14, (kq16 GE102)⟩)
            · (obtain ⟨c34b0, c34b1⟩ := eFn_ c34); (obtain rfl := Option.some.inj H); (go_enter Try.func165, Try.ntmps165); (go_wp2_with (first | ((with_reducible refine gate_dst (N := 1) rfl ?_); refine box_event ?hg (N := 1) ?hd (cs := #[.int .i64 a0_0, .int .i64 a0_1, .string a0_2, .slice A0_3 l0_3.length c0_3]) (t := 66) ?hr ?_; (case hd => rfl); (case hg => rfl); (case hr => exact kq11); intro gb102 hg w37 hbox hb; have BK102 := mk (hbox); have GW102 := (gs_ hg kq9); have GE102 := GW102; replace HB := mk (below_step kq9 hb); clear hb hbox hg; obtain ⟨_, _, _, _, _, _, _, _⟩ := cz4_ BK102.out))); (repeat (go_quiet (fail); try go_wp2)); go_ret; (exact ⟨kq14, (kq16 GE102)⟩)
          · (obtain ⟨c33b0, c33b1⟩ := eFn_ c33); (obtain rfl := Option.some.inj H); (go_enter Try.func165, Try.ntmps165); (go_wp2_with (first | ((with_reducible refine gate_dst (N := 1) rfl ?_); refine box_event ?hg (N := 1) ?hd (cs := #[.int .i64 a0_0, .int .i64 a0_1, .string a0_2, .slice A0_3 l0_3.length c0_3]) (t := 66) ?hr ?_; (case hd => rfl); (case hg => rfl); (case hr => exact kq11); intro gb102 hg w39 hbox hb; have BK102 := mk (hbox); have GW102 := (gs_ hg kq9); have GE102 := GW102; replace HB := mk (below_step kq9 hb); clear hb hbox hg; obtain ⟨_, _, _, _, _, _, _, _⟩ := cz4_ BK102.out))); (repeat (go_quiet (fail); try go_wp2)); go_ret; (exact ⟨kq14, (kq16 GE102)⟩)
        · (obtain ⟨c32b0, c32b1⟩ := eFn_ c32); replace H := ic_ H; obtain ⟨c41, H⟩ | ⟨c41, H⟩ := H
          · (obtain ⟨c41b0, c41b1⟩ := eTn_ c41); clear c41; replace H := ic_ H; obtain ⟨c42, H⟩ | ⟨c42, H⟩ := H
            · (obtain ⟨c42b0, c42b1⟩ := eTn_ c42); clear c42; replace H := ic_ H; obtain ⟨c43, H⟩ | ⟨c43, H⟩ := H
              · (obtain ⟨c43b0, c43b1⟩ := eTn_ c43); clear c43; (obtain rfl := Option.some.inj H); (go_enter Try.func165, Try.ntmps165); (go_wp2_with (first | ((with_reducible refine gate_dst (N := 1) rfl ?_); refine box_event ?hg (N := 1) ?hd (cs := #[.int .i64 a0_0, .int .i64 a0_1, .string a0_2, .slice A0_3 l0_3.length c0_3]) (t := 66) ?hr ?_; (case hd => rfl); (case hg => rfl); (case hr => exact kq11); intro gb102 hg w44 hbox hb; have BK102 := mk (hbox); have GW102 := (gs_ hg kq9); have GE102 := GW102; replace HB := mk (below_step kq9 hb); clear hb hbox hg; obtain ⟨_, _, _, _, _, _, _, _⟩ := cz4_ BK102.out))); (repeat (go_quiet (fail); try go_wp2)); go_ret; (exact ⟨kq14, (kq16 GE102)⟩)
              · (obtain ⟨c43b0, c43b1⟩ := eFn_ c43); (obtain rfl := Option.some.inj H); (go_enter Try.func165, Try.ntmps165); (go_wp2_with (first | ((with_reducible refine gate_dst (N := 1) rfl ?_); refine box_event ?hg (N := 1) ?hd (cs := #[.int .i64 a0_0, .int .i64 a0_1, .string a0_2, .slice A0_3 l0_3.length c0_3]) (t := 66) ?hr ?_; (case hd => rfl); (case hg => rfl); (case hr => exact kq11); intro gb102 hg w46 hbox hb; have BK102 := mk (hbox); have GW102 := (gs_ hg kq9); have GE102 := GW102; replace HB := mk (below_step kq9 hb); clear hb hbox hg; obtain ⟨_, _, _, _, _, _, _, _⟩ := cz4_ BK102.out))); (repeat (go_quiet (fail); try go_wp2)); go_ret; (exact ⟨kq14, (kq16 GE102)⟩)
            · (obtain ⟨c42b0, c42b1⟩ := eFn_ c42); (obtain rfl := Option.some.inj H); (go_enter Try.func165, Try.ntmps165); (go_wp2_with (first | ((with_reducible refine gate_dst (N := 1) rfl ?_); refine box_event ?hg (N := 1) ?hd (cs := #[.int .i64 a0_0, .int .i64 a0_1, .string a0_2, .slice A0_3 l0_3.length c0_3]) (t := 66) ?hr ?_; (case hd => rfl); (case hg => rfl); (case hr => exact kq11); intro gb102 hg w48 hbox hb; have BK102 := mk (hbox); have GW102 := (gs_ hg kq9); have GE102 := GW102; replace HB := mk (below_step kq9 hb); clear hb hbox hg; obtain ⟨_, _, _, _, _, _, _, _⟩ := cz4_ BK102.out))); (repeat (go_quiet (fail); try go_wp2)); go_ret; (exact ⟨kq14, (kq16 GE102)⟩)
          · (obtain ⟨c41b0, c41b1⟩ := eFn_ c41); replace H := ic_ H; obtain ⟨c50, H⟩ | ⟨c50, H⟩ := H
            · (obtain ⟨c50b0, c50b1⟩ := eTn_ c50); clear c50; replace H := ic_ H; obtain ⟨c51, H⟩ | ⟨c51, H⟩ := H
              · (obtain ⟨c51b0, c51b1⟩ := eTn_ c51); clear c51; replace H := ic_ H; obtain ⟨c52, H⟩ | ⟨c52, H⟩ := H
                · (obtain ⟨c52b0, c52b1⟩ := eTn_ c52); clear c52; (obtain rfl := Option.some.inj H); (go_enter Try.func165, Try.ntmps165); (go_wp2_with (first | ((with_reducible refine gate_dst (N := 1) rfl ?_); refine box_event ?hg (N := 1) ?hd (cs := #[.int .i64 a0_0, .int .i64 a0_1, .string a0_2, .slice A0_3 l0_3.length c0_3]) (t := 66) ?hr ?_; (case hd => rfl); (case hg => rfl); (case hr => exact kq11); intro gb102 hg w53 hbox hb; have BK102 := mk (hbox); have GW102 := (gs_ hg kq9); have GE102 := GW102; replace HB := mk (below_step kq9 hb); clear hb hbox hg; obtain ⟨_, _, _, _, _, _, _, _⟩ := cz4_ BK102.out))); (repeat (go_quiet (fail); try go_wp2)); go_ret; (exact ⟨kq14, (kq16 GE102)⟩)
                · (obtain ⟨c52b0, c52b1⟩ := eFn_ c52); (obtain rfl := Option.some.inj H); (go_enter Try.func165, Try.ntmps165); (go_wp2_with (first | ((with_reducible refine gate_dst (N := 1) rfl ?_); refine box_event ?hg (N := 1) ?hd (cs := #[.int .i64 a0_0, .int .i64 a0_1, .string a0_2, .slice A0_3 l0_3.length c0_3]) (t := 66) ?hr ?_; (case hd => rfl); (case hg => rfl); (case hr => exact kq11); intro gb102 hg w55 hbox hb; have BK102 := mk (hbox); have GW102 := (gs_ hg kq9); have GE102 := GW102; replace HB := mk (below_step kq9 hb); clear hb hbox hg; obtain ⟨_, _, _, _, _, _, _, _⟩ := cz4_ BK102.out))); (repeat (go_quiet (fail); try go_wp2)); go_ret; (exact ⟨kq14, (kq16 GE102)⟩)
              · (obtain ⟨c51b0, c51b1⟩ := eFn_ c51); (obtain rfl := Option.some.inj H); (go_enter Try.func165, Try.ntmps165); (go_wp2_with (first | ((with_reducible refine gate_dst (N := 1) rfl ?_); refine box_event ?hg (N := 1) ?hd (cs := #[.int .i64 a0_0, .int .i64 a0_1, .string a0_2, .slice A0_3 l0_3.length c0_3]) (t := 66) ?hr ?_; (case hd => rfl); (case hg => rfl); (case hr => exact kq11); intro gb102 hg w57 hbox hb; have BK102 := mk (hbox); have GW102 := (gs_ hg kq9); have GE102 := GW102; replace HB := mk (below_step kq9 hb); clear hb hbox hg; obtain ⟨_, _, _, _, _, _, _, _⟩ := cz4_ BK102.out))); (repeat (go_quiet (fail); try go_wp2)); go_ret; (exact ⟨kq14, (kq16 GE102)⟩)
            · (obtain ⟨c50b0, c50b1⟩ := eFn_ c50); (obtain rfl := Option.some.inj H); (go_enter Try.func165, Try.ntmps165); (go_wp2_with (first | ((with_reducible refine gate_dst (N := 1) rfl ?_); refine box_event ?hg (N := 1) ?hd (cs := #[.int .i64 a0_0, .int .i64 a0_1, .string a0_2, .slice A0_3 l0_3.length c0_3]) (t := 66) ?hr ?_; (case hd => rfl); (case hg => rfl); (case hr => exact kq11); intro gb102 hg w59 hbox hb; have BK102 := mk (hbox); have GW102 := (gs_ hg kq9); have GE102 := GW102; replace HB := mk (below_step kq9 hb); clear hb hbox hg; obtain ⟨_, _, _, _, _, _, _, _⟩ := cz4_ BK102.out))); (repeat (go_quiet (fail); try go_wp2)); go_ret; (exact ⟨kq14, (kq16 GE102)⟩)
end Go.Proofs.Ytjknpmibdkoklaa.Q
namespace Go.Proofs.Ytjknpmibdkoklaa.Q
open Go.RowKit Go.Proofs.YtjknpmibdkoklaaW.PrintWords Go.Proofs.YtjknpmibdkoklaaW.PrintLast Go.Proofs.YtjknpmibdkoklaaW.PrintMore
open Aside0 (mk)
open List (setIfInBounds_toArray set_cons_zero set_cons_succ)
attribute [local go_sem] max2_int min2_int max_two min_two max_three min_three max_four min_four
set_option linter.unusedVariables false
set_option linter.unusedSimpArgs false
attribute [local go_sem] fld99_2 fld103_2 fld160_0 fld160_1
mutual
def tree_formula.j0 : Nat → Bool → Int → ByteArray → Int → List (S66) → List (S39) → Option (Bool)
  | 0, _, _, _, _, _, _ => none
  | k + 1, x3, x105000, x105001, x105002, x105003, x105004 => if x105000 = 0 then (tree_formula.j1 k x3 (x105003.length : Int) (x105004.length : Int) true x105000 x105001 x105002 x105003 x105004) else (tree_formula.j1 k x3 (x105003.length : Int) (x105004.length : Int) (x105000 == 1) x105000 x105001 x105002 x105003 x105004)
def tree_formula.j1 : Nat → Bool → Int → Int → Bool → Int → ByteArray → Int → List (S66) → List (S39) → Option (Bool)
  | 0, _, _, _, _, _, _, _, _, _ => none
  | k + 1, x3, x4, x5, x20, x105000, x105001, x105002, x105003, x105004 => if x20 = true then (if x3 = true then (if x4 = 0 then (some (x5 == 0)) else (some false)) else (some false)) else (if x105000 = 2 then (if x3 = true then (if x4 = 0 then (some (x5 == 1)) else (some false)) else (some false)) else (if x105000 ≥ 3 then (tree_formula.j2 k x3 x4 x5 (decide (x105000 ≤ 6)) x105000 x105001 x105002 x105003 x105004) else (tree_formula.j2 k x3 x4 x5 false x105000 x105001 x105002 x105003 x105004)))
def tree_formula.j2 : Nat → Bool → Int → Int → Bool → Int → ByteArray → Int → List (S66) → List (S39) → Option (Bool)
  | 0, _, _, _, _, _, _, _, _, _ => none
  | k + 1, x3, x4, x5, x51, x105000, x105001, x105002, x105003, x105004 => if x51 = true then (if x3 = true then (if x4 = 0 then (some (x5 == 2)) else (some false)) else (some false)) else (if x105000 = 7 then (tree_formula.j3 k x3 x4 x5 true x105000 x105001 x105002 x105003 x105004) else (tree_formula.j3 k x3 x4 x5 (x105000 == 8) x105000 x105001 x105002 x105003 x105004))
def tree_formula.j3 : Nat → Bool → Int → Int → Bool → Int → ByteArray → Int → List (S66) → List (S39) → Option (Bool)
  | 0, _, _, _, _, _, _, _, _, _ => none
  | k + 1, x3, x4, x5, x69, x105000, x105001, x105002, x105003, x105004 => if x69 = true then ((glyph_Name.f x105001).bind fun t105 => (if t105 = true then (if x105002 = 0 then (if x4 = 0 then (some (x5 == 1)) else (some false)) else (some false)) else (some false))) else (if x105000 ≥ 9 then (tree_formula.j4 k x3 x4 x5 (decide (x105000 ≤ 14)) x105000 x105001 x105002 x105003 x105004) else (tree_formula.j4 k x3 x4 x5 false x105000 x105001 x105002 x105003 x105004))
def tree_formula.j4 : Nat → Bool → Int → Int → Bool → Int → ByteArray → Int → List (S66) → List (S39) → Option (Bool)
  | 0, _, _, _, _, _, _, _, _, _ => none
  | k + 1, x3, x4, x5, x94, x105000, x105001, x105002, x105003, x105004 => if x94 = true then (if x3 = true then (if x4 = 2 then (some (x5 == 0)) else (some false)) else (some false)) else (if x105000 = 15 then (if x105001.toList = ([] : List UInt8) then (if x105002 ≥ 1 then (if x4 = 2 then (some (x5 == 0)) else (some false)) else (some false)) else (some false)) else (some false))
end
def tree_formula.f (k : Nat) (a0_0 : Int) (a0_1 : ByteArray) (a0_2 : Int) (l0_3 : List (S66)) (l0_4 : List (S39)) : Option (Bool) := if a0_1.toList = ([] : List UInt8) then (tree_formula.j0 k (a0_2 == 0) a0_0 a0_1 a0_2 l0_3 l0_4) else (tree_formula.j0 k false a0_0 a0_1 a0_2 l0_3 l0_4)
theorem tree_formula.mono_l : ∀ k, (∀ y0 y1 y2 y3 y4 y5, LeO (tree_formula.j0 k y0 y1 y2 y3 y4 y5) (tree_formula.j0 (k + 1) y0 y1 y2 y3 y4 y5)) ∧ (∀ y0 y1 y2 y3 y4 y5 y6 y7 y8, LeO (tree_formula.j1 k y0 y1 y2 y3 y4 y5 y6 y7 y8) (tree_formula.j1 (k + 1) y0 y1 y2 y3 y4 y5 y6 y7 y8)) ∧ (∀ y0 y1 y2 y3 y4 y5 y6 y7 y8, LeO (tree_formula.j2 k y0 y1 y2 y3 y4 y5 y6 y7 y8) (tree_formula.j2 (k + 1) y0 y1 y2 y3 y4 y5 y6 y7 y8)) ∧ (∀ y0 y1 y2 y3 y4 y5 y6 y7 y8, LeO (tree_formula.j3 k y0 y1 y2 y3 y4 y5 y6 y7 y8) (tree_formula.j3 (k + 1) y0 y1 y2 y3 y4 y5 y6 y7 y8)) ∧ (∀ y0 y1 y2 y3 y4 y5 y6 y7 y8, LeO (tree_formula.j4 k y0 y1 y2 y3 y4 y5 y6 y7 y8) (tree_formula.j4 (k + 1) y0 y1 y2 y3 y4 y5 y6 y7 y8))
  | 0 => ⟨fun _ _ _ _ _ _ r h => by simp [tree_formula.j0] at h, fun _ _ _ _ _ _ _ _ _ r h => by simp [tree_formula.j1] at h, fun _ _ _ _ _ _ _ _ _ r h => by simp [tree_formula.j2] at h, fun _ _ _ _ _ _ _ _ _ r h => by simp [tree_formula.j3] at h, fun _ _ _ _ _ _ _ _ _ r h => by simp [tree_formula.j4] at h⟩
  | k + 1 => by
    obtain ⟨ih0, ih1, ih2, ih3, ih4⟩ := tree_formula.mono_l k
    refine ⟨?_, ?_, ?_, ?_, ?_⟩ <;> intros <;> (first | unfold tree_formula.j0 | unfold tree_formula.j1 | unfold tree_formula.j2 | unfold tree_formula.j3 | unfold tree_formula.j4) <;> repeat' first | (with_reducible first | exact ih0 _ _ _ _ _ _ | exact ih1 _ _ _ _ _ _ _ _ _ | exact ih2 _ _ _ _ _ _ _ _ _ | exact ih3 _ _ _ _ _ _ _ _ _ | exact ih4 _ _ _ _ _ _ _ _ _ | exact LeO.refl _ | exact LeO.none _ | refine LeO.ite ?_ ?_ | refine LeO.bind ?_ (fun _ => ?_)) | exact ih0 _ _ _ _ _ _ | exact ih1 _ _ _ _ _ _ _ _ _ | exact ih2 _ _ _ _ _ _ _ _ _ | exact ih3 _ _ _ _ _ _ _ _ _ | exact ih4 _ _ _ _ _ _ _ _ _ | exact LeO.none _ | refine LeO.ite ?_ ?_ | refine LeO.bind ?_ (fun _ => ?_)
theorem tree_formula.mono : ∀ a0 a1 a2 a3 a4 k, LeO (tree_formula.f k a0 a1 a2 a3 a4) (tree_formula.f (k + 1) a0 a1 a2 a3 a4) := by
  intro a0 a1 a2 a3 a4 k
  obtain ⟨ih0, ih1, ih2, ih3, ih4⟩ := tree_formula.mono_l k
  unfold tree_formula.f
  repeat' first
      | (with_reducible exact ih0 _ _ _ _ _ _)
      | (with_reducible exact ih1 _ _ _ _ _ _ _ _ _)
      | (with_reducible exact ih2 _ _ _ _ _ _ _ _ _)
      | (with_reducible exact ih3 _ _ _ _ _ _ _ _ _)
      | (with_reducible exact ih4 _ _ _ _ _ _ _ _ _)
      | (with_reducible exact LeO.refl _)
      | (with_reducible exact LeO.none _)
      | (with_reducible refine LeO.ite ?_ ?_)
      | (with_reducible refine LeO.bind ?_ (fun _ => ?_))
      | exact ih0 _ _ _ _ _ _
      | exact ih1 _ _ _ _ _ _ _ _ _
      | exact ih2 _ _ _ _ _ _ _ _ _
      | exact ih3 _ _ _ _ _ _ _ _ _
      | exact ih4 _ _ _ _ _ _ _ _ _
      | exact LeO.none _
      | refine LeO.ite ?_ ?_
      | refine LeO.bind ?_ (fun _ => ?_)
set_option maxHeartbeats 8000000 in
set_option maxRecDepth 100000 in
theorem tree_formula.calls (k : Nat) (a0_0 : Int) (a0_1 : ByteArray) (a0_2 : Int) (A0_3 : Option Addr) (c0_3 : Nat) (l0_3 : List (S66)) (A0_4 : Option Addr) (c0_4 : Nat) (l0_4 : List (S39)) (r : Bool) (w : World) (hr0_3 : Kd.C k66 w A0_3 l0_3.length l0_3) (hc0_3 : l0_3.length ≤ c0_3) (hr0_4 : Kd.C k39 w A0_4 l0_4.length l0_4) (hc0_4 : l0_4.length ≤ c0_4) (h : tree_formula.f k a0_0 a0_1 a0_2 l0_3 l0_4 = some r) :
    Calls Try.prog 162 #[.agg #[.int .i64 a0_0, .string a0_1, .int .i64 a0_2, .slice A0_3 l0_3.length c0_3, .slice A0_4 l0_4.length c0_4]] w fun e w' => e = .returned (.bool r) ∧ Below w.heap.size w w' := by
  have hu39 := Try.underlying39
  have HR0_3 := mk hr0_3
  have HC0_3 := mk hc0_3
  clear hr0_3 hc0_3
  have HR0_4 := mk hr0_4
  have HC0_4 := mk hc0_4
  clear hr0_4 hc0_4
  have HB := mk (Below.refl w.heap.size w)
  have H : (if a0_1.toList = ([] : List UInt8) then (tree_formula.j0 k (a0_2 == 0) a0_0 a0_1 a0_2 l0_3 l0_4) else (tree_formula.j0 k false a0_0 a0_1 a0_2 l0_3 l0_4)) = some r := h
  clear h
  have HC2 := mk H
  clear H
  go_enter Try.func162, Try.ntmps162
  go_upto_region 1 with (first | ((with_reducible refine gate_dst (N := 1) rfl ?_); refine box_event ?hg (N := 1) ?hd (cs := #[.int .i64 a0_0, .string a0_1, .int .i64 a0_2, .slice A0_3 l0_3.length c0_3, .slice A0_4 l0_4.length c0_4]) (t := 39) ?hr ?_; (case hd => rfl); (case hg => rfl); (case hr => exact kq11); intro gb104 hg w3 hbox hb; have BK104 := mk (hbox); have GW104 := (gs_ hg kq9); have GE104 := GW104; replace HB := mk (below_step kq9 hb); clear hb hbox hg))
  (try simp only [Act.put, setIfInBounds_toArray, set_cons_zero, set_cons_succ])
  go_cut [3] (fun v3 wc => ∃ (kq : Nat) (x3_1 : Bool), v3 = .bool x3_1 ∧ Aside0 (tree_formula.j0 kq x3_1 a0_0 a0_1 a0_2 l0_3 l0_4 = some r) ∧ Aside0 (kq ≤ k) ∧ Aside0 (wc.heap[gb104]? = some (.cells #[.int .i64 a0_0, .string a0_1, .int .i64 a0_2, (.slice A0_3 l0_3.length c0_3), (.slice A0_4 l0_4.length c0_4)] 39 (0, 0))) ∧ Aside0 (Below w.heap.size w wc))
  case first =>
    have H := HC2.out
    clear HC2
    replace H := ic_ H; obtain ⟨c4, H⟩ | ⟨c4, H⟩ := H
    · (obtain ⟨c4b0, c4b1⟩ := eTn_ c4); clear c4; ((first | rw [c4b0] | (simp only [i64_w, i32_w]; rw [c4b0]) | skip)); (have H' := mk H); clear H; (obtain ⟨_, _, _, _, _, _, _, _, _, _⟩ := cz5_ BK104.out); go_wp2; (go_meet)
      case rel => exact ⟨_, ((a0_2 == 0)), kq3, H', ⟨kq4⟩, ⟨(kq18 BK104)⟩, ⟨(kq16 GE104)⟩⟩
    · (obtain ⟨c4b0, c4b1⟩ := eFn_ c4); ((first | rw [c4b0] | (simp only [i64_w, i32_w]; rw [c4b0]) | skip)); (have H' := mk H); clear H; (obtain ⟨_, _, _, _, _, _, _, _, _, _⟩ := cz5_ BK104.out); go_wp2; (go_meet)
      case rel => exact ⟨_, (false), kq3, H', ⟨kq4⟩, ⟨(kq18 BK104)⟩, ⟨(kq16 GE104)⟩⟩
  case rest =>
    clear HC2
    obtain ⟨kq, x3_1, rfl, HA, HJ1, BK104, HB⟩ := hcut
    cases kq with
    | zero => exact absurd HA.out (by simp [tree_formula.j0])
    | succ kj1 =>
      (have H := HA.out); clear HA; (simp only [tree_formula.j0] at H); (have HC7 := mk H); clear H; (obtain ⟨_, _, _, _, _, _, _, _, _, _⟩ := cz5_ BK104.out); (go_upto_region 3 with (fail)); (repeat (go_quiet (fail); go_upto_region 3 with (fail))); (go_cut [20] (fun v20 wc => ∃ (kq : Nat) (x20_6 : Bool), v20 = .bool x20_6 ∧ Aside0 (tree_formula.j1 kq x3_1 (l0_3.length : Int) (l0_4.length : Int) x20_6 a0_0 a0_1 a0_2 l0_3 l0_4 = some r) ∧ Aside0 (kq ≤ kj1) ∧ Aside0 (wc.heap[gb104]? = some (.cells #[.int .i64 a0_0, .string a0_1, .int .i64 a0_2, (.slice A0_3 l0_3.length c0_3), (.slice A0_4 l0_4.length c0_4)] 39 (0, 0))) ∧ Aside0 (Below w.heap.size w wc)))
      case first =>
        (have H := HC7.out); clear HC7; replace H := ic_ H; obtain ⟨c9, H⟩ | ⟨c9, H⟩ := H
        · (obtain ⟨c9b0, c9b1⟩ := eTn_ c9); clear c9; ((first | rw [c9b0] | (simp only [i64_w, i32_w]; rw [c9b0]) | skip)); (have H' := mk H); clear H; (obtain ⟨_, _, _, _, _, _, _, _, _, _⟩ := cz5_ BK104.out); go_wp2; (go_meet)
          case rel => exact ⟨_, (true), kq3, H', ⟨kq6⟩, ⟨(kq18 BK104)⟩, ⟨(kq16 GE104)⟩⟩
        · (obtain ⟨c9b0, c9b1⟩ := eFn_ c9); ((first | rw [c9b0] | (simp only [i64_w, i32_w]; rw [c9b0]) | skip)); (have H' := mk H); clear H; (obtain ⟨_, _, _, _, _, _, _, _, _, _⟩ := cz5_ BK104.out); go_wp2; (go_meet)
          case rel => exact ⟨_, ((a0_0 == 1)), kq3, H', ⟨kq6⟩, ⟨(kq18 BK104)⟩, ⟨(kq16 GE104)⟩⟩
      case rest =>
        clear HC7; (obtain ⟨kq, x20_6, rfl, HA, HJ6, BK104, HB⟩ := hcut)
        cases kq with
        | zero => exact absurd HA.out (by simp [tree_formula.j1])
        | succ kj6 =>
          (have H := HA.out); clear HA; (simp only [tree_formula.j1] at H); (by_cases c12 : x20_6 = true)
          · subst c12; (have H1 : (if x3_1 = true then (if (l0_3.length : Int) = 0 then (some ((l0_4.length : Int) == 0)) else (some false)) else (some false)) = some r := by rw [if_pos rfl] at H; exact H); clear H; (have H := H1); clear H1; (by_cases c13 : x3_1 = true)
            · subst c13; (have H1 : (if (l0_3.length : Int) = 0 then (some ((l0_4.length : Int) == 0)) else (some false)) = some r := by rw [if_pos rfl] at H; exact H); clear H; (have H := H1); clear H1; replace H := ic_ H; obtain ⟨c14, H⟩ | ⟨c14, H⟩ := H
              · (obtain ⟨c14b0, c14b1⟩ := eTn_ c14); clear c14; (obtain rfl := Option.some.inj H); go_wp2; go_ret; (exact ⟨kq14, (kq16 GE104)⟩)
              · (obtain ⟨c14b0, c14b1⟩ := eFn_ c14); (have c14b2 : ¬ (l0_3 = []) := fun h_ => c14 (by rw [h_]; rfl)); (obtain rfl := Option.some.inj H); go_wp2; go_ret; (exact ⟨kq14, (kq16 GE104)⟩)
            · (replace c13 := Bool.eq_false_iff.mpr c13); subst c13; (have H1 : (some false) = some r := by rw [if_neg (show ¬ (false = true) by decide)] at H; exact H); clear H; (have H := H1); clear H1; (obtain rfl := Option.some.inj H); go_wp2; go_ret; (exact ⟨kq14, (kq16 GE104)⟩)
          · (replace c12 := Bool.eq_false_iff.mpr c12); subst c12; (have H1 : (if a0_0 = 2 then (if x3_1 = true then (if (l0_3.length : Int) = 0 then (some ((l0_4.length : Int) == 1)) else (some false)) else (some false)) else (if a0_0 ≥ 3 then (tree_formula.j2 kj6 x3_1 (l0_3.length : Int) (l0_4.length : Int) (decide (a0_0 ≤ 6)) a0_0 a0_1 a0_2 l0_3 l0_4) else (tree_formula.j2 kj6 x3_1 (l0_3.length : Int) (l0_4.length : Int) false a0_0 a0_1 a0_2 l0_3 l0_4))) = some r := by rw [if_neg (show ¬ (false = true) by decide)] at H; exact H); clear H; (have H := H1); clear H1; replace H := ic_ H; obtain ⟨c15, H⟩ | ⟨c15, H⟩ := H
            · (obtain ⟨c15b0, c15b1⟩ := eTn_ c15); clear c15; (by_cases c16 : x3_1 = true)
              · subst c16; (have H1 : (if (l0_3.length : Int) = 0 then (some ((l0_4.length : Int) == 1)) else (some false)) = some r := by rw [if_pos rfl] at H; exact H); clear H; (have H := H1); clear H1; replace H := ic_ H; obtain ⟨c17, H⟩ | ⟨c17, H⟩ := H
                · (obtain ⟨c17b0, c17b1⟩ := eTn_ c17); clear c17; (obtain rfl := Option.some.inj H); (obtain ⟨_, _, _, _, _, _, _, _, _, _⟩ := cz5_ BK104.out); go_wp2; go_ret; (exact ⟨kq14, (kq16 GE104)⟩)
                · (obtain ⟨c17b0, c17b1⟩ := eFn_ c17); (have c17b2 : ¬ (l0_3 = []) := fun h_ => c17 (by rw [h_]; rfl)); (obtain rfl := Option.some.inj H); (obtain ⟨_, _, _, _, _, _, _, _, _, _⟩ := cz5_ BK104.out); go_wp2; go_ret; (exact ⟨kq14, (kq16 GE104)⟩)
              · (replace c16 := Bool.eq_false_iff.mpr c16); subst c16; (have H1 : (some false) = some r := by rw [if_neg (show ¬ (false = true) by decide)] at H; exact H); clear H; (have H := H1); clear H1; (obtain rfl := Option.some.inj H); (obtain ⟨_, _, _, _, _, _, _, _, _, _⟩ := cz5_ BK104.out); go_wp2; go_ret; (exact ⟨kq14, (kq16 GE104)⟩)
            · (obtain ⟨c15b0, c15b1⟩ := eFn_ c15); (have HC21 := mk H); clear H; (obtain ⟨_, _, _, _, _, _, _, _, _, _⟩ := cz5_ BK104.out); (go_upto_region 7 with (fail)); (go_cut [51] (fun v51 wc => ∃ (kq : Nat) (x51_20 : Bool), v51 = .bool x51_20 ∧ Aside0 (tree_formula.j2 kq x3_1 (l0_3.length : Int) (l0_4.length : Int) x51_20 a0_0 a0_1 a0_2 l0_3 l0_4 = some r) ∧ Aside0 (kq ≤ kj6) ∧ Aside0 (wc.heap[gb104]? = some (.cells #[.int .i64 a0_0, .string a0_1, .int .i64 a0_2, (.slice A0_3 l0_3.length c0_3), (.slice A0_4 l0_4.length c0_4)] 39 (0, 0))) ∧ Aside0 (Below w.heap.size w wc)))
              case first =>
                (have H := HC21.out); clear HC21; replace H := ic_ H; obtain ⟨c23, H⟩ | ⟨c23, H⟩ := H
                · (have c23b0 : decide (3 ≤ a0_0) = true := decide_eq_true c23); clear c23; ((first | rw [c23b0] | (simp only [i64_w, i32_w]; rw [c23b0]) | skip)); (have H' := mk H); clear H; (obtain ⟨_, _, _, _, _, _, _, _, _, _⟩ := cz5_ BK104.out); go_wp2; (go_meet)
                  case rel => exact ⟨_, (decide (a0_0 ≤ 6)), kq3, H', ⟨by have := HJ1.out; have := HJ6.out; first | omega | exact Nat.le_refl _⟩, ⟨(kq18 BK104)⟩, ⟨(kq16 GE104)⟩⟩
                · (have c23b0 : decide (3 ≤ a0_0) = false := decide_eq_false c23); clear c23; ((first | rw [c23b0] | (simp only [i64_w, i32_w]; rw [c23b0]) | skip)); (have H' := mk H); clear H; (obtain ⟨_, _, _, _, _, _, _, _, _, _⟩ := cz5_ BK104.out); go_wp2; (go_meet)
                  case rel => exact ⟨_, (false), kq3, H', ⟨by have := HJ1.out; have := HJ6.out; first | omega | exact Nat.le_refl _⟩, ⟨(kq18 BK104)⟩, ⟨(kq16 GE104)⟩⟩
              case rest =>
                clear HC21; (obtain ⟨kq, x51_20, rfl, HA, HJ20, BK104, HB⟩ := hcut)
                cases kq with
                | zero => exact absurd HA.out (by simp [tree_formula.j2])
                | succ kj20 =>
                  (have H := HA.out); clear HA; (simp only [tree_formula.j2] at H); (by_cases c26 : x51_20 = true)
                  · subst c26; (have H1 : (if x3_1 = true then (if (l0_3.length : Int) = 0 then (some ((l0_4.length : Int) == 2)) else (some false)) else (some false)) = some r := by rw [if_pos rfl] at H; exact H); clear H; (have H := H1); clear H1; (by_cases c27 : x3_1 = true)
                    · subst c27; (have H1 : (if (l0_3.length : Int) = 0 then (some ((l0_4.length : Int) == 2)) else (some false)) = some r := by rw [if_pos rfl] at H; exact H); clear H; (have H := H1); clear H1; replace H := ic_ H; obtain ⟨c28, H⟩ | ⟨c28, H⟩ := H
                      · (obtain ⟨c28b0, c28b1⟩ := eTn_ c28); clear c28; (obtain rfl := Option.some.inj H); go_wp2; go_ret; (exact ⟨kq14, (kq16 GE104)⟩)
                      · (obtain ⟨c28b0, c28b1⟩ := eFn_ c28); (have c28b2 : ¬ (l0_3 = []) := fun h_ => c28 (by rw [h_]; rfl)); (obtain rfl := Option.some.inj H); go_wp2; go_ret; (exact ⟨kq14, (kq16 GE104)⟩)
                    · (replace c27 := Bool.eq_false_iff.mpr c27); subst c27; (have H1 : (some false) = some r := by rw [if_neg (show ¬ (false = true) by decide)] at H; exact H); clear H; (have H := H1); clear H1; (obtain rfl := Option.some.inj H); go_wp2; go_ret; (exact ⟨kq14, (kq16 GE104)⟩)
                  · (replace c26 := Bool.eq_false_iff.mpr c26); subst c26; (have H1 : (if a0_0 = 7 then (tree_formula.j3 kj20 x3_1 (l0_3.length : Int) (l0_4.length : Int) true a0_0 a0_1 a0_2 l0_3 l0_4) else (tree_formula.j3 kj20 x3_1 (l0_3.length : Int) (l0_4.length : Int) (a0_0 == 8) a0_0 a0_1 a0_2 l0_3 l0_4)) = some r := by rw [if_neg (show ¬ (false = true) by decide)] at H; exact H); clear H; (have H := H1); clear H1; (have HC29 := mk H); clear H; (go_upto_region 9 with (fail)); (go_cut [69] (fun v69 wc => ∃ (kq : Nat) (x69_28 : Bool), v69 = .bool x69_28 ∧ Aside0 (tree_formula.j3 kq x3_1 (l0_3.length : Int) (l0_4.length : Int) x69_28 a0_0 a0_1 a0_2 l0_3 l0_4 = some r) ∧ Aside0 (kq ≤ kj20) ∧ Aside0 (wc.heap[gb104]? = some (.cells #[.int .i64 a0_0, .string a0_1, .int .i64 a0_2, (.slice A0_3 l0_3.length c0_3), (.slice A0_4 l0_4.length c0_4)] 39 (0, 0))) ∧ Aside0 (Below w.heap.size w wc)))
                    case first =>
                      (have H := HC29.out); clear HC29; replace H := ic_ H; obtain ⟨c30, H⟩ | ⟨c30, H⟩ := H
                      · (obtain ⟨c30b0, c30b1⟩ := eTn_ c30); clear c30; ((first | rw [c30b0] | (simp only [i64_w, i32_w]; rw [c30b0]) | skip)); (have H' := mk H); clear H; (obtain ⟨_, _, _, _, _, _, _, _, _, _⟩ := cz5_ BK104.out); go_wp2; (go_meet)
                        case rel => exact ⟨_, (true), kq3, H', ⟨by have := HJ1.out; have := HJ6.out; have := HJ20.out; first | omega | exact Nat.le_refl _⟩, ⟨(kq18 BK104)⟩, ⟨(kq16 GE104)⟩⟩
                      · (obtain ⟨c30b0, c30b1⟩ := eFn_ c30); ((first | rw [c30b0] | (simp only [i64_w, i32_w]; rw [c30b0]) | skip)); (have H' := mk H); clear H; (obtain ⟨_, _, _, _, _, _, _, _, _, _⟩ := cz5_ BK104.out); go_wp2; (go_meet)
                        case rel => exact ⟨_, ((a0_0 == 8)), kq3, H', ⟨by have := HJ1.out; have := HJ6.out; have := HJ20.out; first | omega | exact Nat.le_refl _⟩, ⟨(kq18 BK104)⟩, ⟨(kq16 GE104)⟩⟩
                    case rest =>
                      clear HC29; (obtain ⟨kq, x69_28, rfl, HA, HJ28, BK104, HB⟩ := hcut)
                      cases kq with
                      | zero => exact absurd HA.out (by simp [tree_formula.j3])
                      | succ kj28 =>
                        (have H := HA.out); clear HA; (simp only [tree_formula.j3] at H); (by_cases c33 : x69_28 = true)
                        · subst c33; (have H1 : ((glyph_Name.f a0_1).bind fun t105 => (if t105 = true then (if a0_2 = 0 then (if (l0_3.length : Int) = 0 then (some ((l0_4.length : Int) == 1)) else (some false)) else (some false)) else (some false))) = some r := by rw [if_pos rfl] at H; exact H); clear H; (have H := H1); clear H1; (replace H := Option.bind_eq_some_iff.mp H); (obtain ⟨t105, A340, H⟩ := H); (replace H : (if t105 = true then (if a0_2 = 0 then (if (l0_3.length : Int) = 0 then (some ((l0_4.length : Int) == 1)) else (some false)) else (some false)) else (some false)) = some r := H); (have A34 := mk A340); clear A340; (by_cases c35 : t105 = true)
                          · subst c35; (have H1 : (if a0_2 = 0 then (if (l0_3.length : Int) = 0 then (some ((l0_4.length : Int) == 1)) else (some false)) else (some false)) = some r := by rw [if_pos rfl] at H; exact H); clear H; (have H := H1); clear H1; replace H := ic_ H; obtain ⟨c36, H⟩ | ⟨c36, H⟩ := H
                            · (obtain ⟨c36b0, c36b1⟩ := eTn_ c36); clear c36; replace H := ic_ H; obtain ⟨c37, H⟩ | ⟨c37, H⟩ := H
                              · (obtain ⟨c37b0, c37b1⟩ := eTn_ c37); clear c37; (obtain rfl := Option.some.inj H); (obtain ⟨_, _, _, _, _, _, _, _, _, _⟩ := cz5_ BK104.out); (go_wp2_with (first | (go_at_call 41; (with_reducible refine (glyph_Name.calls a0_1 true _ A34.out).mono ?_); rintro e w39 ⟨rfl, hb⟩; replace BK104 := (bb_ BK104 hb); replace HB := mk (below_step (kq16 GE104) hb); obtain ⟨_, _, _, _, _, _, _, _, _, _⟩ := cz5_ BK104.out))); go_ret; (exact ⟨kq14, (kq16 GE104)⟩)
                              · (obtain ⟨c37b0, c37b1⟩ := eFn_ c37); (have c37b2 : ¬ (l0_3 = []) := fun h_ => c37 (by rw [h_]; rfl)); (obtain rfl := Option.some.inj H); (obtain ⟨_, _, _, _, _, _, _, _, _, _⟩ := cz5_ BK104.out); (go_wp2_with (first | (go_at_call 41; (with_reducible refine (glyph_Name.calls a0_1 true _ A34.out).mono ?_); rintro e w42 ⟨rfl, hb⟩; replace BK104 := (bb_ BK104 hb); replace HB := mk (below_step (kq16 GE104) hb); obtain ⟨_, _, _, _, _, _, _, _, _, _⟩ := cz5_ BK104.out))); go_ret; (exact ⟨kq14, (kq16 GE104)⟩)
                            · (obtain ⟨c36b0, c36b1⟩ := eFn_ c36); (obtain rfl := Option.some.inj H); (obtain ⟨_, _, _, _, _, _, _, _, _, _⟩ := cz5_ BK104.out); (go_wp2_with (first | (go_at_call 41; (with_reducible refine (glyph_Name.calls a0_1 true _ A34.out).mono ?_); rintro e w45 ⟨rfl, hb⟩; replace BK104 := (bb_ BK104 hb); replace HB := mk (below_step (kq16 GE104) hb); obtain ⟨_, _, _, _, _, _, _, _, _, _⟩ := cz5_ BK104.out))); go_ret; (exact ⟨kq14, (kq16 GE104)⟩)
                          · (replace c35 := Bool.eq_false_iff.mpr c35); subst c35; (have H1 : (some false) = some r := by rw [if_neg (show ¬ (false = true) by decide)] at H; exact H); clear H; (have H := H1); clear H1; (obtain rfl := Option.some.inj H); (obtain ⟨_, _, _, _, _, _, _, _, _, _⟩ := cz5_ BK104.out); (go_wp2_with (first | (go_at_call 41; (with_reducible refine (glyph_Name.calls a0_1 false _ A34.out).mono ?_); rintro e w48 ⟨rfl, hb⟩; replace BK104 := (bb_ BK104 hb); replace HB := mk (below_step (kq16 GE104) hb)))); go_ret; (exact ⟨kq14, (kq16 GE104)⟩)
                        · (replace c33 := Bool.eq_false_iff.mpr c33); subst c33; (have H1 : (if a0_0 ≥ 9 then (tree_formula.j4 kj28 x3_1 (l0_3.length : Int) (l0_4.length : Int) (decide (a0_0 ≤ 14)) a0_0 a0_1 a0_2 l0_3 l0_4) else (tree_formula.j4 kj28 x3_1 (l0_3.length : Int) (l0_4.length : Int) false a0_0 a0_1 a0_2 l0_3 l0_4)) = some r := by rw [if_neg (show ¬ (false = true) by decide)] at H; exact H); clear H; (have H := H1); clear H1; (have HC49 := mk H); clear H; (go_upto_region 11 with (fail)); (go_cut [94] (fun v94 wc => ∃ (kq : Nat) (x94_48 : Bool), v94 = .bool x94_48 ∧ Aside0 (tree_formula.j4 kq x3_1 (l0_3.length : Int) (l0_4.length : Int) x94_48 a0_0 a0_1 a0_2 l0_3 l0_4 = some r) ∧ Aside0 (kq ≤ kj28) ∧ Aside0 (wc.heap[gb104]? = some (.cells #[.int .i64 a0_0, .string a0_1, .int .i64 a0_2, (.slice A0_3 l0_3.length c0_3), (.slice A0_4 l0_4.length c0_4)] 39 (0, 0))) ∧ Aside0 (Below w.heap.size w wc)))
                          case first =>
                            (have H := HC49.out); clear HC49; replace H := ic_ H; obtain ⟨c50, H⟩ | ⟨c50, H⟩ := H
                            · (have c50b0 : decide (9 ≤ a0_0) = true := decide_eq_true c50); clear c50; ((first | rw [c50b0] | (simp only [i64_w, i32_w]; rw [c50b0]) | skip)); (have H' := mk H); clear H; (obtain ⟨_, _, _, _, _, _, _, _, _, _⟩ := cz5_ BK104.out); go_wp2; (go_meet)
                              case rel => exact ⟨_, (decide (a0_0 ≤ 14)), kq3, H', ⟨by have := HJ1.out; have := HJ6.out; have := HJ20.out; have := HJ28.out; first | omega | exact Nat.le_refl _⟩, ⟨(kq18 BK104)⟩, ⟨(kq16 GE104)⟩⟩
                            · (have c50b0 : decide (9 ≤ a0_0) = false := decide_eq_false c50); clear c50; ((first | rw [c50b0] | (simp only [i64_w, i32_w]; rw [c50b0]) | skip)); (have H' := mk H); clear H; (obtain ⟨_, _, _, _, _, _, _, _, _, _⟩ := cz5_ BK104.out); go_wp2; (go_meet)
                              case rel => exact ⟨_, (false), kq3, H', ⟨by have := HJ1.out; have := HJ6.out; have := HJ20.out; have := HJ28.out; first | omega | exact Nat.le_refl _⟩, ⟨(kq18 BK104)⟩, ⟨(kq16 GE104)⟩⟩
                          case rest =>
                            clear HC49; (obtain ⟨kq, x94_48, rfl, HA, HJ48, BK104, HB⟩ := hcut)
                            cases kq with
                            | zero => exact absurd HA.out (by simp [tree_formula.j4])
                            | succ kj48 =>
                              (have H := HA.out); clear HA; (simp only [tree_formula.j4] at H); (by_cases c53 : x94_48 = true)
                              · subst c53; (have H1 : (if x3_1 = true then (if (l0_3.length : Int) = 2 then (some ((l0_4.length : Int) == 0)) else (some false)) else (some false)) = some r := by rw [if_pos rfl] at H; exact H); clear H; (have H := H1); clear H1; (by_cases c54 : x3_1 = true)
                                · subst c54; (have H1 : (if (l0_3.length : Int) = 2 then (some ((l0_4.length : Int) == 0)) else (some false)) = some r := by rw [if_pos rfl] at H; exact H); clear H; (have H := H1); clear H1; replace H := ic_ H; obtain ⟨c55, H⟩ | ⟨c55, H⟩ := H
                                  · (obtain ⟨c55b0, c55b1⟩ := eTn_ c55); clear c55; (obtain rfl := Option.some.inj H); go_wp2; go_ret; (exact ⟨kq14, (kq16 GE104)⟩)
                                  · (obtain ⟨c55b0, c55b1⟩ := eFn_ c55); (obtain rfl := Option.some.inj H); go_wp2; go_ret; (exact ⟨kq14, (kq16 GE104)⟩)
                                · (replace c54 := Bool.eq_false_iff.mpr c54); subst c54; (have H1 : (some false) = some r := by rw [if_neg (show ¬ (false = true) by decide)] at H; exact H); clear H; (have H := H1); clear H1; (obtain rfl := Option.some.inj H); go_wp2; go_ret; (exact ⟨kq14, (kq16 GE104)⟩)
                              · (replace c53 := Bool.eq_false_iff.mpr c53); subst c53; (have H1 : (if a0_0 = 15 then (if a0_1.toList = ([] : List UInt8) then (if a0_2 ≥ 1 then (if (l0_3.length : Int) = 2 then (some ((l0_4.length : Int) == 0)) else (some false)) else (some false)) else (some false)) else (some false)) = some r := by rw [if_neg (show ¬ (false = true) by decide)] at H; exact H); clear H; (have H := H1); clear H1; replace H := ic_ H; obtain ⟨c56, H⟩ | ⟨c56, H⟩ := H
                                · (obtain ⟨c56b0, c56b1⟩ := eTn_ c56); clear c56; replace H := ic_ H; obtain ⟨c57, H⟩ | ⟨c57, H⟩ := H
                                  · (obtain ⟨c57b0, c57b1⟩ := eTn_ c57); clear c57; replace H := ic_ H; obtain ⟨c58, H⟩ | ⟨c58, H⟩ := H
                                    · (have c58b0 : decide (1 ≤ a0_2) = true := decide_eq_true c58); clear c58; replace H := ic_ H; obtain ⟨c59, H⟩ | ⟨c59, H⟩ := H
                                      · (obtain ⟨c59b0, c59b1⟩ := eTn_ c59); clear c59; (obtain rfl := Option.some.inj H); (obtain ⟨_, _, _, _, _, _, _, _, _, _⟩ := cz5_ BK104.out); go_wp2; go_ret; (exact ⟨kq14, (kq16 GE104)⟩)
                                      · (obtain ⟨c59b0, c59b1⟩ := eFn_ c59); (obtain rfl := Option.some.inj H); (obtain ⟨_, _, _, _, _, _, _, _, _, _⟩ := cz5_ BK104.out); go_wp2; go_ret; (exact ⟨kq14, (kq16 GE104)⟩)
                                    · (have c58b0 : decide (1 ≤ a0_2) = false := decide_eq_false c58); clear c58; (obtain rfl := Option.some.inj H); (obtain ⟨_, _, _, _, _, _, _, _, _, _⟩ := cz5_ BK104.out); go_wp2; go_ret; (exact ⟨kq14, (kq16 GE104)⟩)
                                  · (obtain ⟨c57b0, c57b1⟩ := eFn_ c57); (obtain rfl := Option.some.inj H); (obtain ⟨_, _, _, _, _, _, _, _, _, _⟩ := cz5_ BK104.out); go_wp2; go_ret; (exact ⟨kq14, (kq16 GE104)⟩)
                                · (obtain ⟨c56b0, c56b1⟩ := eFn_ c56); (obtain rfl := Option.some.inj H); (obtain ⟨_, _, _, _, _, _, _, _, _, _⟩ := cz5_ BK104.out); go_wp2; go_ret; (exact ⟨kq14, (kq16 GE104)⟩)
end Go.Proofs.Ytjknpmibdkoklaa.Q
namespace Go.Proofs.Ytjknpmibdkoklaa.Q
open Go.RowKit Go.Proofs.YtjknpmibdkoklaaW.PrintWords Go.Proofs.YtjknpmibdkoklaaW.PrintLast Go.Proofs.YtjknpmibdkoklaaW.PrintMore
open Aside0 (mk)
open List (setIfInBounds_toArray set_cons_zero set_cons_succ)
attribute [local go_sem] max2_int min2_int max_two min_two max_three min_three max_four min_four
set_option linter.unusedVariables false
set_option linter.unusedSimpArgs false
attribute [local go_sem] fld99_2 fld103_2 fld160_0 fld160_1
end Go.Proofs.Ytjknpmibdkoklaa.Q
namespace Go.Proofs.Ytjknpmibdkoklaa.Q
open Go.RowKit Go.Proofs.YtjknpmibdkoklaaW.PrintWords Go.Proofs.YtjknpmibdkoklaaW.PrintLast Go.Proofs.YtjknpmibdkoklaaW.PrintMore
open Aside0 (mk)
open List (setIfInBounds_toArray set_cons_zero set_cons_succ)
attribute [local go_sem] max2_int min2_int max_two min_two max_three min_three max_four min_four
set_option linter.unusedVariables false
set_option linter.unusedSimpArgs false
attribute [local go_sem] fld99_2 fld103_2 fld160_0 fld160_1
end Go.Proofs.Ytjknpmibdkoklaa.Q
namespace Go.Proofs.Ytjknpmibdkoklaa.Q
open Go.RowKit Go.Proofs.YtjknpmibdkoklaaW.PrintWords Go.Proofs.YtjknpmibdkoklaaW.PrintLast Go.Proofs.YtjknpmibdkoklaaW.PrintMore
open Aside0 (mk)
open List (setIfInBounds_toArray set_cons_zero set_cons_succ)
attribute [local go_sem] max2_int min2_int max_two min_two max_three min_three max_four min_four
set_option linter.unusedVariables false
set_option linter.unusedSimpArgs false
attribute [local go_sem] fld99_2 fld103_2 fld160_0 fld160_1
end Go.Proofs.Ytjknpmibdkoklaa.Q
namespace Go.Proofs.Ytjknpmibdkoklaa.Q
open Go.RowKit Go.Proofs.YtjknpmibdkoklaaW.PrintWords Go.Proofs.YtjknpmibdkoklaaW.PrintLast Go.Proofs.YtjknpmibdkoklaaW.PrintMore
open Aside0 (mk)
open List (setIfInBounds_toArray set_cons_zero set_cons_succ)
attribute [local go_sem] max2_int min2_int max_two min_two max_three min_three max_four min_four
set_option linter.unusedVariables false
set_option linter.unusedSimpArgs false
attribute [local go_sem] fld99_2 fld103_2 fld160_0 fld160_1
def slices_Index_string_string.l0 : Nat → List ByteArray → ByteArray → Int → Int → Option (Int)
  | 0, _, _, _, _ => none
  | k + 1, x0, x1, x7, x8 => if x8 < x7 then (if 0 ≤ x8 then (if x8 < (x0.length : Int) then (if x1.toList = (rdOf ByteArray.empty x0 x8).toList then (some x8) else (slices_Index_string_string.l0 k x0 x1 x7 (wrap64 (x8 + 1)))) else (none)) else (none)) else (some (-1))
def slices_Index_string_string.f (k : Nat) (l0 : List ByteArray) (a1 : ByteArray) : Option (Int) := slices_Index_string_string.l0 k l0 a1 (l0.length : Int) 0
theorem slices_Index_string_string.mono_l : ∀ k, (∀ y0 y1 y2 y3, LeO (slices_Index_string_string.l0 k y0 y1 y2 y3) (slices_Index_string_string.l0 (k + 1) y0 y1 y2 y3))
  | 0 => fun _ _ _ _ r h => by simp [slices_Index_string_string.l0] at h
  | k + 1 => by
    have ih0 := slices_Index_string_string.mono_l k
    · intro y0 y1 y2 y3; (unfold slices_Index_string_string.l0)
      repeat' first
      | (with_reducible exact ih0 _ _ _ _)
      | (with_reducible exact LeO.refl _)
      | (with_reducible exact LeO.none _)
      | (with_reducible refine LeO.ite ?_ ?_)
      | (with_reducible refine LeO.bind ?_ (fun _ => ?_))
      | exact ih0 _ _ _ _
      | exact LeO.none _
      | refine LeO.ite ?_ ?_
      | refine LeO.bind ?_ (fun _ => ?_)
theorem slices_Index_string_string.mono : ∀ a0 a1 k, LeO (slices_Index_string_string.f k a0 a1) (slices_Index_string_string.f (k + 1) a0 a1) := by
  intro a0 a1 k
  have ih0 := slices_Index_string_string.mono_l k
  unfold slices_Index_string_string.f
  repeat' first
      | (with_reducible exact ih0 _ _ _ _)
      | (with_reducible exact LeO.refl _)
      | (with_reducible exact LeO.none _)
      | (with_reducible refine LeO.ite ?_ ?_)
      | (with_reducible refine LeO.bind ?_ (fun _ => ?_))
      | exact ih0 _ _ _ _
      | exact LeO.none _
      | refine LeO.ite ?_ ?_
      | refine LeO.bind ?_ (fun _ => ?_)
set_option maxHeartbeats 8000000 in
set_option maxRecDepth 100000 in
theorem slices_Index_string_string.calls (k : Nat) (A0 : Option Addr) (c0 : Nat) (l0 : List ByteArray) (a1 : ByteArray) (r : Int) (w : World) (hr0 : Kd.C Kd.string w A0 l0.length l0) (hc0 : l0.length ≤ c0) (h : slices_Index_string_string.f k l0 a1 = some r) :
    Calls Try.prog 69 #[.slice A0 l0.length c0, .string a1] w fun e w' => e = .returned (.int .i64 r) ∧ Drawn0 w w' := by
  have HR0 := mk hr0
  have HC0 := mk hc0
  clear hr0 hc0
  have H : (slices_Index_string_string.l0 k l0 a1 (l0.length : Int) 0) = some r := h
  clear h
  have H' := mk H
  clear H
  go_enter Try.func69, Try.ntmps69
  go_wp2
  go_loopg [8] k (fun kq v8 w' => ∃ (x8_1 : Int), v8 = .int .i64 x8_1 ∧ Aside0 (slices_Index_string_string.l0 kq l0 a1 (l0.length : Int) x8_1 = some r) ∧ Aside0 (kq ≤ k) ∧ Drawn0 w w')
  case atStart => exact ⟨(0), kq3, H', ⟨Nat.le_refl _⟩, kq5⟩
  case round =>
    clear H'
    obtain ⟨x8_1, rfl, HA, HK1, ⟨m1, rfl⟩⟩ := hrel
    cases gk with
    | zero => exact absurd HA.out (by simp [slices_Index_string_string.l0])
    | succ k1 =>
      (have H := HA.out); clear HA; (simp only [slices_Index_string_string.l0] at H); replace H := ic_ H; obtain ⟨c3, H⟩ | ⟨c3, H⟩ := H
      · (have c3b0 := decide_eq_true c3); clear c3; replace H := ic_ H; obtain ⟨c4, H⟩ | ⟨c4, H⟩ := H
        · (have c4b0 : decide (0 ≤ x8_1) = true := decide_eq_true c4); clear c4; replace H := ic_ H; obtain ⟨c5, H⟩ | ⟨c5, H⟩ := H
          · (have c5b0 := decide_eq_true c5); clear c5; replace H := ic_ H; obtain ⟨c6, H⟩ | ⟨c6, H⟩ := H
            · (obtain ⟨c6b0, c6b1⟩ := eTn_ c6); clear c6; (obtain rfl := Option.some.inj H); (have p667 : 0 ≤ (x8_1 : Int) := of_decide_eq_true kq8); (have q667 : x8_1 < (l0.length : Int) := of_decide_eq_true kq8); (obtain ⟨ad667, e667, hx667_0⟩ := Kd.at_string HR0.out x8_1 p667 q667); cases e667; replace p667 := eq_true p667; replace q667 := eq_true q667; go_wp2; go_ret; (exact ⟨kq3, kq5⟩)
            · (obtain ⟨c6b0, c6b1⟩ := eFn_ c6); (have H' := mk H); clear H; (have p667 : 0 ≤ (x8_1 : Int) := of_decide_eq_true kq8); (have q667 : x8_1 < (l0.length : Int) := of_decide_eq_true kq8); (obtain ⟨ad667, e667, hx667_0⟩ := Kd.at_string HR0.out x8_1 p667 q667); cases e667; replace p667 := eq_true p667; replace q667 := eq_true q667; go_wp2; (go_roundg k1)
              case measure => have := HK1.out; omega
              case rel => exact ⟨(wrap64 (x8_1 + 1)), kq3, H', ⟨kq13⟩, kq5⟩
          · (exact absurd H (by simp))
        · (exact absurd H (by simp))
      · (have c3b0 := decide_eq_false c3); clear c3; (obtain rfl := Option.some.inj H); go_wp2; go_ret; (exact ⟨kq3, kq5⟩)
end Go.Proofs.Ytjknpmibdkoklaa.Q
namespace Go.Proofs.Ytjknpmibdkoklaa.Q
open Go.RowKit Go.Proofs.YtjknpmibdkoklaaW.PrintWords Go.Proofs.YtjknpmibdkoklaaW.PrintLast Go.Proofs.YtjknpmibdkoklaaW.PrintMore
open Aside0 (mk)
open List (setIfInBounds_toArray set_cons_zero set_cons_succ)
attribute [local go_sem] max2_int min2_int max_two min_two max_three min_three max_four min_four
set_option linter.unusedVariables false
set_option linter.unusedSimpArgs false
attribute [local go_sem] fld99_2 fld103_2 fld160_0 fld160_1
def glyph_Index.f (k : Nat) (l0 : List ByteArray) (a1 : ByteArray) : Option (Int) := (slices_Index_string_string.f k l0 a1).bind fun t668 => (some t668)
theorem glyph_Index.mono : ∀ a0 a1 k, LeO (glyph_Index.f k a0 a1) (glyph_Index.f (k + 1) a0 a1) := by
  intro a0 a1 k
  unfold glyph_Index.f
  repeat' first
      | (with_reducible exact slices_Index_string_string.mono _ _ _)
      | (with_reducible exact LeO.refl _)
      | (with_reducible exact LeO.none _)
      | (with_reducible refine LeO.ite ?_ ?_)
      | (with_reducible refine LeO.bind ?_ (fun _ => ?_))
      | exact slices_Index_string_string.mono _ _ _
      | exact LeO.none _
      | refine LeO.ite ?_ ?_
      | refine LeO.bind ?_ (fun _ => ?_)
set_option maxHeartbeats 8000000 in
set_option maxRecDepth 100000 in
theorem glyph_Index.calls (k : Nat) (A0 : Option Addr) (c0 : Nat) (l0 : List ByteArray) (a1 : ByteArray) (r : Int) (w : World) (hr0 : Kd.C Kd.string w A0 l0.length l0) (hc0 : l0.length ≤ c0) (h : glyph_Index.f k l0 a1 = some r) :
    Calls Try.prog 27 #[.slice A0 l0.length c0, .string a1] w fun e w' => e = .returned (.int .i64 r) ∧ Drawn0 w w' := by
  have HR0 := mk hr0
  have HC0 := mk hc0
  clear hr0 hc0
  have H : ((slices_Index_string_string.f k l0 a1).bind fun t668 => (some t668)) = some r := h
  clear h
  replace H := Option.bind_eq_some_iff.mp H
  obtain ⟨t668, A30, H⟩ := H
  replace H : (some t668) = some r := H
  have A3 := mk A30
  clear A30
  obtain rfl := Option.some.inj H
  go_enter Try.func27, Try.ntmps27
  go_wp2_with (first | ((with_reducible refine gate_callee (f := 69) rfl ?_); refine goesL_ (some 7) rfl rfl Try.func69 kq0 rfl #[.slice A0 l0.length c0, .string a1] rfl kq7 ?_; (with_reducible refine (slices_Index_string_string.calls k _ _ l0 a1 t668 _ ?side1 ?side2 A3.out).mono ?_); (case side1 => repeat (first | exact HR0.out | (with_reducible refine Kd.C_alloc ?_ _) | (with_reducible refine Kd.C_drewN ?_ _) | (with_reducible refine Kd.C_drew ?_))); (case side2 => exact HC0.out); rintro e w' ⟨rfl, ⟨nd, rfl⟩⟩; refine ⟨_, rfl, ?_⟩))
  go_ret
  exact ⟨kq3, kq5⟩
def norm_sum_of.f (k : Nat) (l0_0 : List ByteArray) (l0_1 : List Int) (a0_2 : Int) (a0_3 : Int) (a1 : ByteArray) : Option (Int) := (glyph_Index.f k l0_0 a1).bind fun t670 => (if t670 ≥ 0 then (if 0 ≤ t670 then (if t670 < (l0_1.length : Int) then (some (rd l0_1 t670)) else (none)) else (none)) else (some 0))
theorem norm_sum_of.mono : ∀ a0 a1 a2 a3 a4 k, LeO (norm_sum_of.f k a0 a1 a2 a3 a4) (norm_sum_of.f (k + 1) a0 a1 a2 a3 a4) := by
  intro a0 a1 a2 a3 a4 k
  unfold norm_sum_of.f
  repeat' first
      | (with_reducible exact glyph_Index.mono _ _ _)
      | (with_reducible exact LeO.refl _)
      | (with_reducible exact LeO.none _)
      | (with_reducible refine LeO.ite ?_ ?_)
      | (with_reducible refine LeO.bind ?_ (fun _ => ?_))
      | exact glyph_Index.mono _ _ _
      | exact LeO.none _
      | refine LeO.ite ?_ ?_
      | refine LeO.bind ?_ (fun _ => ?_)
set_option maxHeartbeats 8000000 in
set_option maxRecDepth 100000 in
theorem norm_sum_of.calls (k : Nat) (A0_0 : Option Addr) (c0_0 : Nat) (l0_0 : List ByteArray) (A0_1 : Option Addr) (c0_1 : Nat) (l0_1 : List Int) (a0_2 : Int) (a0_3 : Int) (a1 : ByteArray) (r : Int) (w : World) (hr0_0 : Kd.C Kd.string w A0_0 l0_0.length l0_0) (hc0_0 : l0_0.length ≤ c0_0) (hr0_1 : Kd.C (Kd.int .i64) w A0_1 l0_1.length l0_1) (hc0_1 : l0_1.length ≤ c0_1) (h : norm_sum_of.f k l0_0 l0_1 a0_2 a0_3 a1 = some r) :
    Calls Try.prog 123 #[.agg #[.slice A0_0 l0_0.length c0_0, .slice A0_1 l0_1.length c0_1, .int .i64 a0_2, .int .i64 a0_3], .string a1] w fun e w' => e = .returned (.int .i64 r) ∧ Below w.heap.size w w' := by
  have hu107 := Try.underlying107
  have HR0_0 := mk hr0_0
  have HC0_0 := mk hc0_0
  clear hr0_0 hc0_0
  have HR0_1 := mk hr0_1
  have HC0_1 := mk hc0_1
  clear hr0_1 hc0_1
  have HB := mk (Below.refl w.heap.size w)
  have H : ((glyph_Index.f k l0_0 a1).bind fun t670 => (if t670 ≥ 0 then (if 0 ≤ t670 then (if t670 < (l0_1.length : Int) then (some (rd l0_1 t670)) else (none)) else (none)) else (some 0))) = some r := h
  clear h
  replace H := Option.bind_eq_some_iff.mp H
  obtain ⟨t670, A30, H⟩ := H
  replace H : (if t670 ≥ 0 then (if 0 ≤ t670 then (if t670 < (l0_1.length : Int) then (some (rd l0_1 t670)) else (none)) else (none)) else (some 0)) = some r := H
  have A3 := mk A30
  clear A30
  by_cases c4 : t670 ≥ 0
  · rw [if_pos c4] at H
    have c4b0 : decide (0 ≤ t670) = true := decide_eq_true c4
    clear c4
    replace H := ic_ H; obtain ⟨c5, H⟩ | ⟨c5, H⟩ := H
    · (have c5b0 : decide (0 ≤ t670) = true := decide_eq_true c5); clear c5; replace H := ic_ H; obtain ⟨c6, H⟩ | ⟨c6, H⟩ := H
      · (have c6b0 : decide (t670 < (l0_1.length : Int)) = true := decide_eq_true c6); clear c6; (obtain rfl := Option.some.inj H); (go_enter Try.func123, Try.ntmps123); (go_wp2_with (first | ((with_reducible refine gate_dst (N := 2) rfl ?_); refine box_event ?hg (N := 2) ?hd (cs := #[.slice A0_0 l0_0.length c0_0, .slice A0_1 l0_1.length c0_1, .int .i64 a0_2, .int .i64 a0_3]) (t := 107) ?hr ?_; (case hd => rfl); (case hg => rfl); (case hr => exact kq11); intro gb669 hg w7 hbox hb; have BK669 := mk (hbox); have GW669 := (gs_ hg kq9); have GE669 := GW669; replace HB := mk (below_step kq9 hb); clear hb hbox hg; obtain ⟨_, _, _, _, _, _, _, _⟩ := cz4_ BK669.out) | ((with_reducible refine gate_callee (f := 27) rfl ?_); refine goesL_ (some 9) rfl rfl Try.func27 kq0 rfl #[.slice A0_0 l0_0.length c0_0, .string a1] rfl kq7 ?_; (with_reducible refine (glyph_Index.calls k _ _ l0_0 a1 t670 _ ?side1 ?side2 A3.out).mono ?_); (case side1 => exact kq17 HR0_0); (case side2 => exact HC0_0.out); rintro e w' ⟨rfl, ⟨nd, rfl⟩⟩; refine ⟨_, rfl, ?_⟩; have p671 : 0 ≤ (t670 : Int) := of_decide_eq_true kq8; have q671 : t670 < (l0_1.length : Int) := of_decide_eq_true kq8; obtain ⟨ad671, e671, hx671_0⟩ := Kd.at_int HR0_1.out t670 p671 q671; cases e671; replace hx671_0 := (HB.out.cell (World.block_lt_of_cell? w _ hx671_0)).trans hx671_0; replace p671 := eq_true p671; replace q671 := eq_true q671))); go_ret; (exact ⟨kq14, (kq16 GE669)⟩)
      · (exact absurd H (by simp))
    · (exact absurd H (by simp))
  · rw [if_neg c4] at H
    have c4b0 : decide (0 ≤ t670) = false := decide_eq_false c4
    clear c4
    obtain rfl := Option.some.inj H
    go_enter Try.func123, Try.ntmps123
    go_wp2_with (first | ((with_reducible refine gate_dst (N := 2) rfl ?_); refine box_event ?hg (N := 2) ?hd (cs := #[.slice A0_0 l0_0.length c0_0, .slice A0_1 l0_1.length c0_1, .int .i64 a0_2, .int .i64 a0_3]) (t := 107) ?hr ?_; (case hd => rfl); (case hg => rfl); (case hr => exact kq11); intro gb669 hg w9 hbox hb; have BK669 := mk (hbox); have GW669 := (gs_ hg kq9); have GE669 := GW669; replace HB := mk (below_step kq9 hb); clear hb hbox hg; obtain ⟨_, _, _, _, _, _, _, _⟩ := cz4_ BK669.out) | ((with_reducible refine gate_callee (f := 27) rfl ?_); refine goesL_ (some 9) rfl rfl Try.func27 kq0 rfl #[.slice A0_0 l0_0.length c0_0, .string a1] rfl kq7 ?_; (with_reducible refine (glyph_Index.calls k _ _ l0_0 a1 t670 _ ?side1 ?side2 A3.out).mono ?_); (case side1 => exact kq17 HR0_0); (case side2 => exact HC0_0.out); rintro e w' ⟨rfl, ⟨nd, rfl⟩⟩; refine ⟨_, rfl, ?_⟩))
    go_ret
    exact ⟨kq14, (kq16 GE669)⟩
def chk_Sub.f (a0 : Int) (a1 : Int) : Option (Int × Int) := if ((decide (a0 ≥ 0)) != (decide (a1 ≥ 0))) = true then (if ((decide ((wrap64 (a0 - a1)) ≥ 0)) != (decide (a0 ≥ 0))) = true then (some (0, 10)) else (some (wrap64 (a0 - a1), 0))) else (some (wrap64 (a0 - a1), 0))
set_option maxHeartbeats 8000000 in
set_option maxRecDepth 100000 in
theorem chk_Sub.calls (a0 : Int) (a1 : Int) (r1 : Int) (r2 : Int) (w : World) (h : chk_Sub.f a0 a1 = some (r1, r2)) :
    Calls Try.prog 83 #[.int .i64 a0, .int .i64 a1] w fun e w' => e = .returned (.tuple #[.int .i64 r1, .int .i64 r2]) ∧ Drawn0 w w' := by
  have H : (if ((decide (a0 ≥ 0)) != (decide (a1 ≥ 0))) = true then (if ((decide ((wrap64 (a0 - a1)) ≥ 0)) != (decide (a0 ≥ 0))) = true then (some (0, 10)) else (some (wrap64 (a0 - a1), 0))) else (some (wrap64 (a0 - a1), 0))) = some (r1, r2) := h
  clear h
  by_cases c3 : ((decide (a0 ≥ 0)) != (decide (a1 ≥ 0))) = true
  · rw [if_pos c3] at H
    have c3b0 : ((decide (a0 ≥ 0)) != (decide (a1 ≥ 0))) = true := c3
    (try (have c3b1 : decide ((decide (a0 ≥ 0)) = (decide (a1 ≥ 0))) = false := by simpa using c3))
    (try (have c3b2 : ((decide (a0 ≥ 0)) == (decide (a1 ≥ 0))) = false := by simpa using c3))
    (try (have c3b3 : ¬ ((decide (a0 ≥ 0)) = (decide (a1 ≥ 0))) := by simpa using c3))
    clear c3
    replace H := ic_ H; obtain ⟨c4, H⟩ | ⟨c4, H⟩ := H
    · (have c4b0 : ((decide ((wrap64 (a0 - a1)) ≥ 0)) != (decide (a0 ≥ 0))) = true := c4); ((try (have c4b1 : decide ((decide ((wrap64 (a0 - a1)) ≥ 0)) = (decide (a0 ≥ 0))) = false := by simpa using c4))); ((try (have c4b2 : ((decide ((wrap64 (a0 - a1)) ≥ 0)) == (decide (a0 ≥ 0))) = false := by simpa using c4))); ((try (have c4b3 : ¬ ((decide ((wrap64 (a0 - a1)) ≥ 0)) = (decide (a0 ≥ 0))) := by simpa using c4))); clear c4; (simp only [Option.some.injEq, Prod.mk.injEq] at H); (obtain ⟨rfl, rfl⟩ := H); (go_enter Try.func83, Try.ntmps83); go_wp2; go_ret2; (exact ⟨kq3, kq5⟩)
    · (have c4b0 : ((decide ((wrap64 (a0 - a1)) ≥ 0)) != (decide (a0 ≥ 0))) = false := by simpa using c4); ((try (have c4b1 : decide ((decide ((wrap64 (a0 - a1)) ≥ 0)) = (decide (a0 ≥ 0))) = true := by simpa using c4))); ((try (have c4b2 : ((decide ((wrap64 (a0 - a1)) ≥ 0)) == (decide (a0 ≥ 0))) = true := by simpa using c4))); clear c4; (simp only [Option.some.injEq, Prod.mk.injEq] at H); (obtain ⟨rfl, rfl⟩ := H); (go_enter Try.func83, Try.ntmps83); go_wp2; go_ret2; (exact ⟨kq3, kq5⟩)
  · rw [if_neg c3] at H
    have c3b0 : ((decide (a0 ≥ 0)) != (decide (a1 ≥ 0))) = false := by simpa using c3
    (try (have c3b1 : decide ((decide (a0 ≥ 0)) = (decide (a1 ≥ 0))) = true := by simpa using c3))
    (try (have c3b2 : ((decide (a0 ≥ 0)) == (decide (a1 ≥ 0))) = true := by simpa using c3))
    clear c3
    simp only [Option.some.injEq, Prod.mk.injEq] at H
    obtain ⟨rfl, rfl⟩ := H
    go_enter Try.func83, Try.ntmps83
    go_wp2
    go_ret2
    exact ⟨kq3, kq5⟩
def chk_Add.f (a0 : Int) (a1 : Int) : Option (Int × Int) := if ((decide (a0 ≥ 0)) == (decide (a1 ≥ 0))) = true then (if ((decide ((wrap64 (a0 + a1)) ≥ 0)) != (decide (a0 ≥ 0))) = true then (some (0, 10)) else (some (wrap64 (a0 + a1), 0))) else (some (wrap64 (a0 + a1), 0))
set_option maxHeartbeats 8000000 in
set_option maxRecDepth 100000 in
theorem chk_Add.calls (a0 : Int) (a1 : Int) (r1 : Int) (r2 : Int) (w : World) (h : chk_Add.f a0 a1 = some (r1, r2)) :
    Calls Try.prog 121 #[.int .i64 a0, .int .i64 a1] w fun e w' => e = .returned (.tuple #[.int .i64 r1, .int .i64 r2]) ∧ Drawn0 w w' := by
  have H : (if ((decide (a0 ≥ 0)) == (decide (a1 ≥ 0))) = true then (if ((decide ((wrap64 (a0 + a1)) ≥ 0)) != (decide (a0 ≥ 0))) = true then (some (0, 10)) else (some (wrap64 (a0 + a1), 0))) else (some (wrap64 (a0 + a1), 0))) = some (r1, r2) := h
  clear h
  by_cases c3 : ((decide (a0 ≥ 0)) == (decide (a1 ≥ 0))) = true
  · rw [if_pos c3] at H
    have c3b0 : ((decide (a0 ≥ 0)) == (decide (a1 ≥ 0))) = true := c3
    (try (have c3b1 : decide ((decide (a0 ≥ 0)) = (decide (a1 ≥ 0))) = true := by simpa using c3))
    (try (have c3b2 : ((decide (a0 ≥ 0)) == (decide (a1 ≥ 0))) = true := by simpa using c3))
    clear c3
    replace H := ic_ H; obtain ⟨c4, H⟩ | ⟨c4, H⟩ := H
    · (have c4b0 : ((decide ((wrap64 (a0 + a1)) ≥ 0)) != (decide (a0 ≥ 0))) = true := c4); ((try (have c4b1 : decide ((decide ((wrap64 (a0 + a1)) ≥ 0)) = (decide (a0 ≥ 0))) = false := by simpa using c4))); ((try (have c4b2 : ((decide ((wrap64 (a0 + a1)) ≥ 0)) == (decide (a0 ≥ 0))) = false := by simpa using c4))); ((try (have c4b3 : ¬ ((decide ((wrap64 (a0 + a1)) ≥ 0)) = (decide (a0 ≥ 0))) := by simpa using c4))); clear c4; (simp only [Option.some.injEq, Prod.mk.injEq] at H); (obtain ⟨rfl, rfl⟩ := H); (go_enter Try.func121, Try.ntmps121); go_wp2; go_ret2; (exact ⟨kq3, kq5⟩)
    · (have c4b0 : ((decide ((wrap64 (a0 + a1)) ≥ 0)) != (decide (a0 ≥ 0))) = false := by simpa using c4); ((try (have c4b1 : decide ((decide ((wrap64 (a0 + a1)) ≥ 0)) = (decide (a0 ≥ 0))) = true := by simpa using c4))); ((try (have c4b2 : ((decide ((wrap64 (a0 + a1)) ≥ 0)) == (decide (a0 ≥ 0))) = true := by simpa using c4))); clear c4; (simp only [Option.some.injEq, Prod.mk.injEq] at H); (obtain ⟨rfl, rfl⟩ := H); (go_enter Try.func121, Try.ntmps121); go_wp2; go_ret2; (exact ⟨kq3, kq5⟩)
  · rw [if_neg c3] at H
    have c3b0 : ((decide (a0 ≥ 0)) == (decide (a1 ≥ 0))) = false := by simpa using c3
    (try (have c3b1 : decide ((decide (a0 ≥ 0)) = (decide (a1 ≥ 0))) = false := by simpa using c3))
    (try (have c3b2 : ((decide (a0 ≥ 0)) == (decide (a1 ≥ 0))) = false := by simpa using c3))
    (try (have c3b3 : ¬ ((decide (a0 ≥ 0)) = (decide (a1 ≥ 0))) := by simpa using c3))
    clear c3
    simp only [Option.some.injEq, Prod.mk.injEq] at H
    obtain ⟨rfl, rfl⟩ := H
    go_enter Try.func121, Try.ntmps121
    go_wp2
    go_ret2
    exact ⟨kq3, kq5⟩
end Go.Proofs.Ytjknpmibdkoklaa.Q
