/- Functions of the given program as Lean functions, each with its contract: written by this session's program (wip/xprint.py). No condition but those of each contract. -/
import Derived.Test.YtcphnnopjfogdaaQ0
import Derived.Test.YtcphnnopjfogdaaQ8
import Derived.Test.YtcphnnopjfogdaaQ9
import Derived.Test.YtcphnnopjfogdaaQ12
import Derived.Test.YtcphnnopjfogdaaQ13
import Derived.Test.YtcphnnopjfogdaaQ15
namespace Go.Proofs.Ytcphnnopjfogdaa.Q
open Go.RowKit Go.Proofs.YtcphnnopjfogdaaW.PrintWords Go.Proofs.YtcphnnopjfogdaaW.PrintLast Go.Proofs.YtcphnnopjfogdaaW.PrintMore
attribute [local go_sem] max2_int min2_int max_two min_two max_three min_three max_four min_four   -- for this text's walks alone
set_option linter.unusedVariables false
set_option linter.unusedSimpArgs false
attribute [local go_sem] fld63_0 fld63_1

/-! ### tabardref01_Floor: function 29 -/
def tabardref01_Floor.l0 : Nat → Int → Int → Int → Bool → List Int → Bool → List Int → Bool → List Int → Bool → List Int → Option (Int × Int)
  | 0, _, _, _, _, _, _, _, _, _, _, _ => none
  | k + 1, x0, x1, x10, x334000, x334001, x335000, x335001, x344000, x344001, x345000, x345001 => if x10 ≥ 0 then ((tabardref01_Plus.f k x345000 x345001 x345000 x345001).bind fun bt345 => ((tabardref01_Wide_digit.f x334000 x334001 (wrap64 (Int.tdiv x10 16))).bind fun t349 => (if 0 ≤ (IntKind.u64.wrap (Int.tmod x10 16)) then ((tabardref01_Of.f k (wrap64 (Go.bits .and .u64 (shr .u64 t349 (IntKind.u64.wrap (Int.tmod x10 16))) 1))).bind fun bt350 => ((tabardref01_Plus.f k bt345.1 bt345.2 bt350.1 bt350.2).bind fun bt354 => ((tabardref01_Plus.f k x344000 x344001 x344000 x344001).bind fun bt358 => ((tabardref01_Size.f k bt354.1 bt354.2 x335000 x335001).bind fun t362 => (if t362 ≥ 0 then ((tabardref01_Minus.f k x335000 x335001).bind fun bt363 => ((tabardref01_Plus.f k bt354.1 bt354.2 bt363.1 bt363.2).bind fun bt367 => ((tabardref01_Of.f k 1).bind fun bt371 => ((tabardref01_Plus.f k bt358.1 bt358.2 bt371.1 bt371.2).bind fun bt375 => (tabardref01_Floor.l0 k x0 x1 (wrap64 (x10 - 1)) x334000 x334001 x335000 x335001 bt375.1 bt375.2 bt367.1 bt367.2))))) else (tabardref01_Floor.l0 k x0 x1 (wrap64 (x10 - 1)) x334000 x334001 x335000 x335001 bt358.1 bt358.2 bt354.1 bt354.2)))))) else (none)))) else (if ((decide (x0 < 0)) != (decide (x1 < 0))) = true then ((tabardref01_Minus.f k x344000 x344001).bind fun bt379 => (if (x345001.length : Int) > 0 then ((tabardref01_Of.f k (-1)).bind fun bt383 => ((tabardref01_Plus.f k bt379.1 bt379.2 bt383.1 bt383.2).bind fun bt387 => ((tabardref01_told.f k bt387.1 bt387.2).bind fun bt391 => (some (bt391.1, bt391.2))))) else ((tabardref01_told.f k bt379.1 bt379.2).bind fun bt393 => (some (bt393.1, bt393.2))))) else ((tabardref01_told.f k x344000 x344001).bind fun bt395 => (some (bt395.1, bt395.2))))
def tabardref01_Floor.f (k : Nat) (a0 : Int) (a1 : Int) : Option (Int × Int) := if a1 = 0 then (some (0, 2)) else ((tabardref01_Of.f k a0).bind fun bt325 => ((tabardref01_Of.f k a1).bind fun bt329 => ((tabardref01_Of.f k 0).bind fun bt335 => ((tabardref01_Of.f k 0).bind fun bt339 => (tabardref01_Floor.l0 k a0 a1 (wrap64 ((wrap64 ((bt325.2.length : Int) * 16)) - 1)) false bt325.2 false bt329.2 bt335.1 bt335.2 bt339.1 bt339.2)))))
theorem tabardref01_Floor.mono_l : ∀ k, (∀ y0 y1 y2 y3 y4 y5 y6 y7 y8 y9 y10, LeO (tabardref01_Floor.l0 k y0 y1 y2 y3 y4 y5 y6 y7 y8 y9 y10) (tabardref01_Floor.l0 (k + 1) y0 y1 y2 y3 y4 y5 y6 y7 y8 y9 y10))
  | 0 => fun _ _ _ _ _ _ _ _ _ _ _ r h => by simp [tabardref01_Floor.l0] at h
  | k + 1 => by
    have ih0 := tabardref01_Floor.mono_l k
    · intro y0 y1 y2 y3 y4 y5 y6 y7 y8 y9 y10
      unfold tabardref01_Floor.l0
      repeat' first
      | (with_reducible exact ih0 _ _ _ _ _ _ _ _ _ _ _)
      | (with_reducible exact tabardref01_Minus.mono _ _ _)
      | (with_reducible exact tabardref01_Of.mono _ _)
      | (with_reducible exact tabardref01_Plus.mono _ _ _ _ _)
      | (with_reducible exact tabardref01_Size.mono _ _ _ _ _)
      | (with_reducible exact tabardref01_told.mono _ _ _)
      | (with_reducible exact LeO.refl _)
      | (with_reducible exact LeO.none _)
      | (with_reducible refine LeO.ite ?_ ?_)
      | (with_reducible refine LeO.bind ?_ (fun _ => ?_))
      | exact ih0 _ _ _ _ _ _ _ _ _ _ _
      | exact tabardref01_Minus.mono _ _ _
      | exact tabardref01_Of.mono _ _
      | exact tabardref01_Plus.mono _ _ _ _ _
      | exact tabardref01_Size.mono _ _ _ _ _
      | exact tabardref01_told.mono _ _ _
      | exact LeO.none _
      | refine LeO.ite ?_ ?_
      | refine LeO.bind ?_ (fun _ => ?_)
theorem tabardref01_Floor.mono : ∀ a0 a1 k, LeO (tabardref01_Floor.f k a0 a1) (tabardref01_Floor.f (k + 1) a0 a1) := by
  intro a0 a1 k
  have ih0 := tabardref01_Floor.mono_l k
  unfold tabardref01_Floor.f
  repeat' first
      | (with_reducible exact ih0 _ _ _ _ _ _ _ _ _ _ _)
      | (with_reducible exact tabardref01_Minus.mono _ _ _)
      | (with_reducible exact tabardref01_Of.mono _ _)
      | (with_reducible exact tabardref01_Plus.mono _ _ _ _ _)
      | (with_reducible exact tabardref01_Size.mono _ _ _ _ _)
      | (with_reducible exact tabardref01_told.mono _ _ _)
      | (with_reducible exact LeO.refl _)
      | (with_reducible exact LeO.none _)
      | (with_reducible refine LeO.ite ?_ ?_)
      | (with_reducible refine LeO.bind ?_ (fun _ => ?_))
      | exact ih0 _ _ _ _ _ _ _ _ _ _ _
      | exact tabardref01_Minus.mono _ _ _
      | exact tabardref01_Of.mono _ _
      | exact tabardref01_Plus.mono _ _ _ _ _
      | exact tabardref01_Size.mono _ _ _ _ _
      | exact tabardref01_told.mono _ _ _
      | exact LeO.none _
      | refine LeO.ite ?_ ?_
      | refine LeO.bind ?_ (fun _ => ?_)
def tabardref01_Floor.T8 : Bool × List (List Nat × List Nat) := (true, [([], []), ([], []), ([0, 1], [0, 1]), ([], []), ([], []), ([4], [4]), ([3, 5, 2], [3, 5]), ([], []), ([7], [7]), ([8], [8]), ([6, 9], [6, 9]), ([10], [10]), ([11], [11]), ([12, 6], [12]), ([2, 13, 13], [2, 13]), ([14, 14, 0, 1, 2, 3, 4, 5, 6, 7, 8, 9, 10, 11, 12, 13, 14], [14])])
def tabardref01_Floor.B8 : List Nat := [0, 0, 3, 0, 0, 16, 63, 0, 128, 384, 1023, 2047, 4095, 8191, 16383, 32767]
theorem tabardref01_Floor.tab8 : rtab .any (opsOf Try.f29 8) = tabardref01_Floor.T8 := by kernel_rfl
theorem tabardref01_Floor.bits8 : waitsOk tabardref01_Floor.T8.2 tabardref01_Floor.B8 = true := by kernel_rfl
set_option maxHeartbeats 8000000 in
set_option maxRecDepth 100000 in
theorem tabardref01_Floor.calls (k : Nat) (a0 : Int) (a1 : Int) (r1 : Int) (r2 : Int) (w : World) (h : tabardref01_Floor.f k a0 a1 = some (r1, r2)) :
    Calls Try.prog 29 #[.int .i64 a0, .int .i64 a1] w fun e w' => e = .returned (.tuple #[.int .i64 r1, .int .i64 r2]) ∧ Below w.heap.size w w' := by
  have hu63 := Try.underlying63
  have HB := Aside0.mk (Below.refl w.heap.size w)
  have H : (if a1 = 0 then (some (0, 2)) else ((tabardref01_Of.f k a0).bind fun bt325 => ((tabardref01_Of.f k a1).bind fun bt329 => ((tabardref01_Of.f k 0).bind fun bt335 => ((tabardref01_Of.f k 0).bind fun bt339 => (tabardref01_Floor.l0 k a0 a1 (wrap64 ((wrap64 ((bt325.2.length : Int) * 16)) - 1)) false bt325.2 false bt329.2 bt335.1 bt335.2 bt339.1 bt339.2)))))) = some (r1, r2) := h
  clear h
  by_cases c3 : a1 = 0
  · rw [if_pos c3] at H
    have c3b0 : (a1 == 0) = true := beq_iff_eq.mpr c3
    have c3b1 : (a1 != 0) = false := bne_eq_false_iff_eq.mpr c3
    clear c3
    simp only [Option.some.injEq, Prod.mk.injEq] at H
    obtain ⟨rfl, rfl⟩ := H
    go_enter Try.func29, Try.ntmps29
    go_wp2
    go_ret2
    exact ⟨by first | rfl | (simp [errW_none, errW_some] <;> rfl) | (simp [*, errW_none, errW_some] <;> rfl), by repeat (first | (with_reducible first | exact HB.out | apply below_alloc | apply pw_below_drewN | apply below_drew1) | exact HB.out)⟩
  · rw [if_neg c3] at H
    have c3b0 : (a1 == 0) = false := beq_eq_false_iff_ne.mpr c3
    have c3b1 : (a1 != 0) = true := bne_iff_ne.mpr c3
    replace H := Option.bind_eq_some_iff.mp H
    obtain ⟨⟨t325, t326⟩, A40, H⟩ := H
    replace H : ((tabardref01_Of.f k a1).bind fun bt329 => ((tabardref01_Of.f k 0).bind fun bt335 => ((tabardref01_Of.f k 0).bind fun bt339 => (tabardref01_Floor.l0 k a0 a1 (wrap64 ((wrap64 ((t326.length : Int) * 16)) - 1)) false t326 false bt329.2 bt335.1 bt335.2 bt339.1 bt339.2)))) = some (r1, r2) := H
    have A4 := Aside0.mk A40
    clear A40
    replace H := Option.bind_eq_some_iff.mp H
    obtain ⟨⟨t329, t330⟩, A50, H⟩ := H
    replace H : ((tabardref01_Of.f k 0).bind fun bt335 => ((tabardref01_Of.f k 0).bind fun bt339 => (tabardref01_Floor.l0 k a0 a1 (wrap64 ((wrap64 ((t326.length : Int) * 16)) - 1)) false t326 false t330 bt335.1 bt335.2 bt339.1 bt339.2))) = some (r1, r2) := H
    have A5 := Aside0.mk A50
    clear A50
    replace H := Option.bind_eq_some_iff.mp H
    obtain ⟨⟨t335, t336⟩, A60, H⟩ := H
    replace H : ((tabardref01_Of.f k 0).bind fun bt339 => (tabardref01_Floor.l0 k a0 a1 (wrap64 ((wrap64 ((t326.length : Int) * 16)) - 1)) false t326 false t330 t335 t336 bt339.1 bt339.2)) = some (r1, r2) := H
    have A6 := Aside0.mk A60
    clear A60
    replace H := Option.bind_eq_some_iff.mp H
    obtain ⟨⟨t339, t340⟩, A70, H⟩ := H
    replace H : (tabardref01_Floor.l0 k a0 a1 (wrap64 ((wrap64 ((t326.length : Int) * 16)) - 1)) false t326 false t330 t335 t336 t339 t340) = some (r1, r2) := H
    have A7 := Aside0.mk A70
    clear A70
    have H' := Aside0.mk H
    clear H
    go_enter Try.func29, Try.ntmps29
    go_wp2_with (first | ((with_reducible refine gate_callee (f := 53) rfl ?_); refine goesL_ (some 14) rfl rfl Try.func53 (by kernel_rfl) rfl #[.int .i64 a0] rfl (by (try simp only [List.map_toArray, List.map_cons, List.map_nil]); first | done | rfl | (simp only [List.length_drop, List.length_take]; rfl)) ?_; (with_reducible refine (tabardref01_Of.calls k a0 t325 t326 _ A4.out).mono ?_); rintro e w8 ⟨v327, rfl, ho0, hb⟩; refine ⟨_, rfl, ?_⟩; have n0_ := Aside0.mk (Kd.V_lower (Kd.V_mono (ok' := fun k_ => True) ho0 (fun k_ hk_ => trivial)) (below_size (by repeat (first | (with_reducible first | exact HB.out | apply below_alloc | apply pw_below_drewN | apply below_drew1) | exact HB.out)))); have n1_ := Aside0.mk (below_step (by repeat (first | (with_reducible first | exact HB.out | apply below_alloc | apply pw_below_drewN | apply below_drew1) | exact HB.out)) hb); clear HB; have HO328 := n0_; have HB := n1_; clear n0_ n1_; (try clear hb); (try clear hb2); (try clear hk); (try clear hi); (try clear ho0); obtain ⟨Ao9, co9, eo9⟩ := Kd.V_slice HO328.out; subst eo9) | ((with_reducible refine gate_callee (f := 53) rfl ?_); refine goesL_ (some 18) rfl rfl Try.func53 (by kernel_rfl) rfl #[.int .i64 a1] rfl (by (try simp only [List.map_toArray, List.map_cons, List.map_nil]); first | done | rfl | (simp only [List.length_drop, List.length_take]; rfl)) ?_; (with_reducible refine (tabardref01_Of.calls k a1 t329 t330 _ A5.out).mono ?_); rintro e w10 ⟨v331, rfl, ho0, hb⟩; refine ⟨_, rfl, ?_⟩; have n0_ := Aside0.mk (Kd.V_below (by (with_reducible repeat (first | apply Kd.V_alloc | apply Kd.V_drewN | apply Kd.V_drew)); exact HO328.out) hb); have n1_ := Aside0.mk (Kd.V_lower (Kd.V_mono (ok' := fun k_ => True) ho0 (fun k_ hk_ => trivial)) (below_size (by repeat (first | (with_reducible first | exact HB.out | apply below_alloc | apply pw_below_drewN | apply below_drew1) | exact HB.out)))); have n2_ := Aside0.mk (below_step (by repeat (first | (with_reducible first | exact HB.out | apply below_alloc | apply pw_below_drewN | apply below_drew1) | exact HB.out)) hb); clear HO328; clear HB; have HO328 := n0_; have HO332 := n1_; have HB := n2_; clear n0_ n1_ n2_; (try clear hb); (try clear hb2); (try clear hk); (try clear hi); (try clear ho0); obtain ⟨Ao11, co11, eo11⟩ := Kd.V_slice HO332.out; subst eo11) | ((with_reducible refine gate_dst (N := 6) rfl ?_); refine box_event ?hg (N := 6) ?hd (cs := #[.bool false, .slice none 0 0]) (t := 63) ?hr ?_; (case hd => rfl); (case hg => rfl); (case hr => first | (go_simp; done) | (go_simp; rfl)); intro gb333 hg w12 hbox hb; have n0_ := Aside0.mk (Kd.V_below (Kd.V_elderB (by (with_reducible repeat (first | apply Kd.V_alloc | apply Kd.V_drewN | apply Kd.V_drew)); exact HO328.out) gb333 (Nat.le_of_eq hg.symm)) hb); have n1_ := Aside0.mk (Kd.V_below (Kd.V_elderB (by (with_reducible repeat (first | apply Kd.V_alloc | apply Kd.V_drewN | apply Kd.V_drew)); exact HO332.out) gb333 (Nat.le_of_eq hg.symm)) hb); have n2_ := Aside0.mk (below_step (by repeat (first | (with_reducible first | exact HB.out | apply below_alloc | apply pw_below_drewN | apply below_drew1) | exact HB.out)) hb); have n3_ := Aside0.mk (hbox); have n4_ := Aside0.mk ((by rw [hg]; exact (below_size (by repeat (first | (with_reducible first | exact HB.out | apply below_alloc | apply pw_below_drewN | apply below_drew1) | exact HB.out))) : w.heap.size ≤ gb333)); have n5_ := Aside0.mk ((by rw [hg]; exact (below_size (by repeat (first | (with_reducible first | exact HB.out | apply below_alloc | apply pw_below_drewN | apply below_drew1) | exact HB.out))) : w.heap.size ≤ gb333)); clear HO328; clear HO332; clear HB; have HO328 := n0_; have HO332 := n1_; have HB := n2_; have BK333 := n3_; have GW333 := n4_; have GE333 := n5_; clear n0_ n1_ n2_ n3_ n4_ n5_; clear hb hbox hg) | ((with_reducible refine gate_dst (N := 7) rfl ?_); refine box_event ?hg (N := 7) ?hd (cs := #[.bool false, .slice none 0 0]) (t := 63) ?hr ?_; (case hd => rfl); (case hg => rfl); (case hr => first | (go_simp; done) | (go_simp; rfl)); intro gb334 hg w13 hbox hb; have n0_ := Aside0.mk (Kd.V_below (Kd.V_elderB (by (with_reducible repeat (first | apply Kd.V_alloc | apply Kd.V_drewN | apply Kd.V_drew)); exact HO328.out) gb334 (Nat.le_of_eq hg.symm)) hb); have n1_ := Aside0.mk (Kd.V_below (Kd.V_elderB (by (with_reducible repeat (first | apply Kd.V_alloc | apply Kd.V_drewN | apply Kd.V_drew)); exact HO332.out) gb334 (Nat.le_of_eq hg.symm)) hb); have n2_ := Aside0.mk (blk_below (g := gb333) (o := .cells #[.bool false, .slice none 0 0] 63 (0, 0)) (by (with_reducible repeat (first | refine blk_drewN ?_ _ | refine blk_drew ?_ | refine blk_alloc ?_ _)); exact BK333.out) hb); have n3_ := Aside0.mk (below_step (by repeat (first | (with_reducible first | exact HB.out | apply below_alloc | apply pw_below_drewN | apply below_drew1 | refine below_set ?_ GE333.out) | exact HB.out)) hb); have n4_ := Aside0.mk (hbox); have n5_ := Aside0.mk ((by rw [hg]; exact (below_size (by repeat (first | (with_reducible first | exact HB.out | apply below_alloc | apply pw_below_drewN | apply below_drew1 | refine below_set ?_ GE333.out) | exact HB.out))) : w.heap.size ≤ gb334)); have n6_ := Aside0.mk ((by rw [hg]; exact (below_size (by repeat (first | (with_reducible first | exact HB.out | apply below_alloc | apply pw_below_drewN | apply below_drew1 | refine below_set ?_ GE333.out) | exact HB.out))) : w.heap.size ≤ gb334)); have n7_ := Aside0.mk ((by rw [hg]; exact Nat.ne_of_lt (blk_lt (g := gb333) (o := .cells #[.bool false, .slice none 0 0] 63 (0, 0)) (by (with_reducible repeat (first | refine blk_drewN ?_ _ | refine blk_drew ?_ | refine blk_alloc ?_ _)); exact BK333.out)) : gb333 ≠ gb334)); have n8_ := Aside0.mk ((by rw [hg]; exact Nat.ne_of_gt (blk_lt (g := gb333) (o := .cells #[.bool false, .slice none 0 0] 63 (0, 0)) (by (with_reducible repeat (first | refine blk_drewN ?_ _ | refine blk_drew ?_ | refine blk_alloc ?_ _)); exact BK333.out)) : gb334 ≠ gb333)); clear HO328; clear HO332; clear BK333; clear HB; have HO328 := n0_; have HO332 := n1_; have BK333 := n2_; have HB := n3_; have BK334 := n4_; have GW334 := n5_; have GE334 := n6_; have NB333_334 := n7_; have NB334_333 := n8_; clear n0_ n1_ n2_ n3_ n4_ n5_ n6_ n7_ n8_; clear hb hbox hg; have hnb14 := NB333_334.out; have hnc14 := NB334_333.out; have hcz15_0 : w13.cell? ⟨gb333, 0, none⟩ = some (.bool false) := (blk_cell BK333.out 0).trans rfl; have hcz15_1 : w13.cell? ⟨gb333, 1, none⟩ = some (.slice none 0 0) := (blk_cell BK333.out 1).trans rfl; have hfz15_0 := blk_frozen BK333.out 0; have hfz15_1 := blk_frozen BK333.out 1; have hcz16_0 : w13.cell? ⟨gb334, 0, none⟩ = some (.bool false) := (blk_cell BK334.out 0).trans rfl; have hcz16_1 : w13.cell? ⟨gb334, 1, none⟩ = some (.slice none 0 0) := (blk_cell BK334.out 1).trans rfl; have hfz16_0 := blk_frozen BK334.out 0; have hfz16_1 := blk_frozen BK334.out 1) | ((with_reducible refine gate_callee (f := 53) rfl ?_); refine goesL_ (some 21) rfl rfl Try.func53 (by kernel_rfl) rfl #[.int .i64 0] rfl (by (try simp only [List.map_toArray, List.map_cons, List.map_nil]); first | done | rfl | (simp only [List.length_drop, List.length_take]; rfl)) ?_; (with_reducible refine (tabardref01_Of.calls k 0 t335 t336 _ A6.out).mono ?_); rintro e w17 ⟨v337, rfl, ho0, hb⟩; refine ⟨_, rfl, ?_⟩; have n0_ := Aside0.mk (Kd.V_below (by (with_reducible repeat (first | apply Kd.V_alloc | apply Kd.V_drewN | apply Kd.V_drew)); exact (Kd.V_mono (Kd.V_mono (Kd.V_far (p := ⟨gb334, 1, none⟩) (Kd.V_far (p := ⟨gb334, 0, none⟩) (Kd.V_far (p := ⟨gb333, 1, none⟩) (Kd.V_far (p := ⟨gb333, 0, none⟩) (Kd.V_mono (Kd.V_mono HO328.out (fun k_ hk => (⟨hk, hk.1.2⟩ : _ ∧ k_ ≠ gb333))) (fun k_ hk => (⟨hk, hk.1.2⟩ : _ ∧ k_ ≠ gb334))) (fun _ hk => hk.1.2) (.bool false)) (fun _ hk => hk.1.2) (.slice Ao9 t326.length co9)) (fun _ hk => hk.2) (.bool false)) (fun _ hk => hk.2) (.slice Ao11 t330.length co11)) (fun _ h_ => h_.1)) (fun _ h_ => h_.1))) hb); have n1_ := Aside0.mk (Kd.V_below (by (with_reducible repeat (first | apply Kd.V_alloc | apply Kd.V_drewN | apply Kd.V_drew)); exact (Kd.V_mono (Kd.V_mono (Kd.V_far (p := ⟨gb334, 1, none⟩) (Kd.V_far (p := ⟨gb334, 0, none⟩) (Kd.V_far (p := ⟨gb333, 1, none⟩) (Kd.V_far (p := ⟨gb333, 0, none⟩) (Kd.V_mono (Kd.V_mono HO332.out (fun k_ hk => (⟨hk, hk.1.2⟩ : _ ∧ k_ ≠ gb333))) (fun k_ hk => (⟨hk, hk.1.2⟩ : _ ∧ k_ ≠ gb334))) (fun _ hk => hk.1.2) (.bool false)) (fun _ hk => hk.1.2) (.slice Ao9 t326.length co9)) (fun _ hk => hk.2) (.bool false)) (fun _ hk => hk.2) (.slice Ao11 t330.length co11)) (fun _ h_ => h_.1)) (fun _ h_ => h_.1))) hb); have n2_ := Aside0.mk (Kd.V_lower (Kd.V_mono (ok' := fun k_ => k_ ≠ gb333 ∧ k_ ≠ gb334) ho0 (fun k_ hk_ => ⟨(Kd.freshB (g := gb333) (o := .cells #[.bool false, .slice Ao9 t326.length co9] 63 (0, 0)) (by (with_reducible repeat (first | refine blk_drewN ?_ _ | refine blk_drew ?_ | refine blk_alloc ?_ _)); refine blk_far ?_ NB333_334.out _; (with_reducible repeat (first | refine blk_drewN ?_ _ | refine blk_drew ?_ | refine blk_alloc ?_ _)); refine blk_far ?_ NB333_334.out _; (with_reducible repeat (first | refine blk_drewN ?_ _ | refine blk_drew ?_ | refine blk_alloc ?_ _)); refine blk_put (cs := #[.bool false, .slice none 0 0]) ?_ 1 _ rfl; (with_reducible repeat (first | refine blk_drewN ?_ _ | refine blk_drew ?_ | refine blk_alloc ?_ _)); refine blk_put (cs := #[.bool false, .slice none 0 0]) ?_ 0 _ rfl; (with_reducible repeat (first | refine blk_drewN ?_ _ | refine blk_drew ?_ | refine blk_alloc ?_ _)); exact BK333.out) k_ hk_), (Kd.freshB (g := gb334) (o := .cells #[.bool false, .slice Ao11 t330.length co11] 63 (0, 0)) (by (with_reducible repeat (first | refine blk_drewN ?_ _ | refine blk_drew ?_ | refine blk_alloc ?_ _)); refine blk_put (cs := #[.bool false, .slice none 0 0]) ?_ 1 _ rfl; (with_reducible repeat (first | refine blk_drewN ?_ _ | refine blk_drew ?_ | refine blk_alloc ?_ _)); refine blk_put (cs := #[.bool false, .slice none 0 0]) ?_ 0 _ rfl; (with_reducible repeat (first | refine blk_drewN ?_ _ | refine blk_drew ?_ | refine blk_alloc ?_ _)); refine blk_far ?_ NB334_333.out _; (with_reducible repeat (first | refine blk_drewN ?_ _ | refine blk_drew ?_ | refine blk_alloc ?_ _)); refine blk_far ?_ NB334_333.out _; (with_reducible repeat (first | refine blk_drewN ?_ _ | refine blk_drew ?_ | refine blk_alloc ?_ _)); exact BK334.out) k_ hk_)⟩)) (below_size (by repeat (first | (with_reducible first | exact HB.out | apply below_alloc | apply pw_below_drewN | apply below_drew1 | refine below_set ?_ GE333.out | refine below_set ?_ GE334.out) | exact HB.out)))); have n3_ := Aside0.mk (blk_below (g := gb333) (o := .cells #[.bool false, .slice Ao9 t326.length co9] 63 (0, 0)) (by (with_reducible repeat (first | refine blk_drewN ?_ _ | refine blk_drew ?_ | refine blk_alloc ?_ _)); refine blk_far ?_ NB333_334.out _; (with_reducible repeat (first | refine blk_drewN ?_ _ | refine blk_drew ?_ | refine blk_alloc ?_ _)); refine blk_far ?_ NB333_334.out _; (with_reducible repeat (first | refine blk_drewN ?_ _ | refine blk_drew ?_ | refine blk_alloc ?_ _)); refine blk_put (cs := #[.bool false, .slice none 0 0]) ?_ 1 _ rfl; (with_reducible repeat (first | refine blk_drewN ?_ _ | refine blk_drew ?_ | refine blk_alloc ?_ _)); refine blk_put (cs := #[.bool false, .slice none 0 0]) ?_ 0 _ rfl; (with_reducible repeat (first | refine blk_drewN ?_ _ | refine blk_drew ?_ | refine blk_alloc ?_ _)); exact BK333.out) hb); have n4_ := Aside0.mk (blk_below (g := gb334) (o := .cells #[.bool false, .slice Ao11 t330.length co11] 63 (0, 0)) (by (with_reducible repeat (first | refine blk_drewN ?_ _ | refine blk_drew ?_ | refine blk_alloc ?_ _)); refine blk_put (cs := #[.bool false, .slice none 0 0]) ?_ 1 _ rfl; (with_reducible repeat (first | refine blk_drewN ?_ _ | refine blk_drew ?_ | refine blk_alloc ?_ _)); refine blk_put (cs := #[.bool false, .slice none 0 0]) ?_ 0 _ rfl; (with_reducible repeat (first | refine blk_drewN ?_ _ | refine blk_drew ?_ | refine blk_alloc ?_ _)); refine blk_far ?_ NB334_333.out _; (with_reducible repeat (first | refine blk_drewN ?_ _ | refine blk_drew ?_ | refine blk_alloc ?_ _)); refine blk_far ?_ NB334_333.out _; (with_reducible repeat (first | refine blk_drewN ?_ _ | refine blk_drew ?_ | refine blk_alloc ?_ _)); exact BK334.out) hb); have n5_ := Aside0.mk (below_step (by repeat (first | (with_reducible first | exact HB.out | apply below_alloc | apply pw_below_drewN | apply below_drew1 | refine below_set ?_ GE333.out | refine below_set ?_ GE334.out) | exact HB.out)) hb); clear HO328; clear HO332; clear BK333; clear BK334; clear HB; have HO328 := n0_; have HO332 := n1_; have HO338 := n2_; have BK333 := n3_; have BK334 := n4_; have HB := n5_; clear n0_ n1_ n2_ n3_ n4_ n5_; (try clear hb); (try clear hb2); (try clear hk); (try clear hi); (try clear ho0)) | ((with_reducible refine gate_callee (f := 53) rfl ?_); refine goesL_ (some 22) rfl rfl Try.func53 (by kernel_rfl) rfl #[.int .i64 0] rfl (by (try simp only [List.map_toArray, List.map_cons, List.map_nil]); first | done | rfl | (simp only [List.length_drop, List.length_take]; rfl)) ?_; (with_reducible refine (tabardref01_Of.calls k 0 t339 t340 _ A7.out).mono ?_); rintro e w18 ⟨v341, rfl, ho0, hb⟩; refine ⟨_, rfl, ?_⟩; have n0_ := Aside0.mk (Kd.V_below (by (with_reducible repeat (first | apply Kd.V_alloc | apply Kd.V_drewN | apply Kd.V_drew)); exact HO328.out) hb); have n1_ := Aside0.mk (Kd.V_below (by (with_reducible repeat (first | apply Kd.V_alloc | apply Kd.V_drewN | apply Kd.V_drew)); exact HO332.out) hb); have n2_ := Aside0.mk (Kd.V_below (by (with_reducible repeat (first | apply Kd.V_alloc | apply Kd.V_drewN | apply Kd.V_drew)); exact HO338.out) hb); have n3_ := Aside0.mk (Kd.V_lower (Kd.V_mono (ok' := fun k_ => k_ ≠ gb333 ∧ k_ ≠ gb334) ho0 (fun k_ hk_ => ⟨(Kd.freshB (g := gb333) (o := .cells #[.bool false, .slice Ao9 t326.length co9] 63 (0, 0)) (by (with_reducible repeat (first | refine blk_drewN ?_ _ | refine blk_drew ?_ | refine blk_alloc ?_ _)); exact BK333.out) k_ hk_), (Kd.freshB (g := gb334) (o := .cells #[.bool false, .slice Ao11 t330.length co11] 63 (0, 0)) (by (with_reducible repeat (first | refine blk_drewN ?_ _ | refine blk_drew ?_ | refine blk_alloc ?_ _)); exact BK334.out) k_ hk_)⟩)) (below_size (by repeat (first | (with_reducible first | exact HB.out | apply below_alloc | apply pw_below_drewN | apply below_drew1 | refine below_set ?_ GE333.out | refine below_set ?_ GE334.out) | exact HB.out)))); have n4_ := Aside0.mk (blk_below (g := gb333) (o := .cells #[.bool false, .slice Ao9 t326.length co9] 63 (0, 0)) (by (with_reducible repeat (first | refine blk_drewN ?_ _ | refine blk_drew ?_ | refine blk_alloc ?_ _)); exact BK333.out) hb); have n5_ := Aside0.mk (blk_below (g := gb334) (o := .cells #[.bool false, .slice Ao11 t330.length co11] 63 (0, 0)) (by (with_reducible repeat (first | refine blk_drewN ?_ _ | refine blk_drew ?_ | refine blk_alloc ?_ _)); exact BK334.out) hb); have n6_ := Aside0.mk (below_step (by repeat (first | (with_reducible first | exact HB.out | apply below_alloc | apply pw_below_drewN | apply below_drew1 | refine below_set ?_ GE333.out | refine below_set ?_ GE334.out) | exact HB.out)) hb); clear HO328; clear HO332; clear HO338; clear BK333; clear BK334; clear HB; have HO328 := n0_; have HO332 := n1_; have HO338 := n2_; have HO342 := n3_; have BK333 := n4_; have BK334 := n5_; have HB := n6_; clear n0_ n1_ n2_ n3_ n4_ n5_ n6_; (try clear hb); (try clear hb2); (try clear hk); (try clear hi); (try clear ho0)) | ((with_reducible refine gate_dst (N := 8) rfl ?_); refine box_event ?hg (N := 8) ?hd (cs := #[.bool false, .slice none 0 0]) (t := 63) ?hr ?_; (case hd => rfl); (case hg => rfl); (case hr => first | (go_simp; done) | (go_simp; rfl)); intro gb343 hg w19 hbox hb; have n0_ := Aside0.mk (Kd.V_below (Kd.V_elderB (by (with_reducible repeat (first | apply Kd.V_alloc | apply Kd.V_drewN | apply Kd.V_drew)); exact HO328.out) gb343 (Nat.le_of_eq hg.symm)) hb); have n1_ := Aside0.mk (Kd.V_below (Kd.V_elderB (by (with_reducible repeat (first | apply Kd.V_alloc | apply Kd.V_drewN | apply Kd.V_drew)); exact HO332.out) gb343 (Nat.le_of_eq hg.symm)) hb); have n2_ := Aside0.mk (Kd.V_below (Kd.V_elderB (by (with_reducible repeat (first | apply Kd.V_alloc | apply Kd.V_drewN | apply Kd.V_drew)); exact HO338.out) gb343 (Nat.le_of_eq hg.symm)) hb); have n3_ := Aside0.mk (Kd.V_below (Kd.V_elderB (by (with_reducible repeat (first | apply Kd.V_alloc | apply Kd.V_drewN | apply Kd.V_drew)); exact HO342.out) gb343 (Nat.le_of_eq hg.symm)) hb); have n4_ := Aside0.mk (blk_below (g := gb333) (o := .cells #[.bool false, .slice Ao9 t326.length co9] 63 (0, 0)) (by (with_reducible repeat (first | refine blk_drewN ?_ _ | refine blk_drew ?_ | refine blk_alloc ?_ _)); exact BK333.out) hb); have n5_ := Aside0.mk (blk_below (g := gb334) (o := .cells #[.bool false, .slice Ao11 t330.length co11] 63 (0, 0)) (by (with_reducible repeat (first | refine blk_drewN ?_ _ | refine blk_drew ?_ | refine blk_alloc ?_ _)); exact BK334.out) hb); have n6_ := Aside0.mk (below_step (by repeat (first | (with_reducible first | exact HB.out | apply below_alloc | apply pw_below_drewN | apply below_drew1 | refine below_set ?_ GE333.out | refine below_set ?_ GE334.out) | exact HB.out)) hb); have n7_ := Aside0.mk (hbox); have n8_ := Aside0.mk ((by rw [hg]; exact (below_size (by repeat (first | (with_reducible first | exact HB.out | apply below_alloc | apply pw_below_drewN | apply below_drew1 | refine below_set ?_ GE333.out | refine below_set ?_ GE334.out) | exact HB.out))) : w.heap.size ≤ gb343)); have n9_ := Aside0.mk ((by rw [hg]; exact (below_size (by repeat (first | (with_reducible first | exact HB.out | apply below_alloc | apply pw_below_drewN | apply below_drew1 | refine below_set ?_ GE333.out | refine below_set ?_ GE334.out) | exact HB.out))) : w.heap.size ≤ gb343)); have n10_ := Aside0.mk ((by rw [hg]; exact Nat.ne_of_lt (blk_lt (g := gb333) (o := .cells #[.bool false, .slice Ao9 t326.length co9] 63 (0, 0)) (by (with_reducible repeat (first | refine blk_drewN ?_ _ | refine blk_drew ?_ | refine blk_alloc ?_ _)); exact BK333.out)) : gb333 ≠ gb343)); have n11_ := Aside0.mk ((by rw [hg]; exact Nat.ne_of_gt (blk_lt (g := gb333) (o := .cells #[.bool false, .slice Ao9 t326.length co9] 63 (0, 0)) (by (with_reducible repeat (first | refine blk_drewN ?_ _ | refine blk_drew ?_ | refine blk_alloc ?_ _)); exact BK333.out)) : gb343 ≠ gb333)); have n12_ := Aside0.mk ((by rw [hg]; exact Nat.ne_of_lt (blk_lt (g := gb334) (o := .cells #[.bool false, .slice Ao11 t330.length co11] 63 (0, 0)) (by (with_reducible repeat (first | refine blk_drewN ?_ _ | refine blk_drew ?_ | refine blk_alloc ?_ _)); exact BK334.out)) : gb334 ≠ gb343)); have n13_ := Aside0.mk ((by rw [hg]; exact Nat.ne_of_gt (blk_lt (g := gb334) (o := .cells #[.bool false, .slice Ao11 t330.length co11] 63 (0, 0)) (by (with_reducible repeat (first | refine blk_drewN ?_ _ | refine blk_drew ?_ | refine blk_alloc ?_ _)); exact BK334.out)) : gb343 ≠ gb334)); clear HO328; clear HO332; clear HO338; clear HO342; clear BK333; clear BK334; clear HB; have HO328 := n0_; have HO332 := n1_; have HO338 := n2_; have HO342 := n3_; have BK333 := n4_; have BK334 := n5_; have HB := n6_; have BK343 := n7_; have GW343 := n8_; have GE343 := n9_; have NB333_343 := n10_; have NB343_333 := n11_; have NB334_343 := n12_; have NB343_334 := n13_; clear n0_ n1_ n2_ n3_ n4_ n5_ n6_ n7_ n8_ n9_ n10_ n11_ n12_ n13_; clear hb hbox hg) | ((with_reducible refine gate_dst (N := 9) rfl ?_); refine box_event ?hg (N := 9) ?hd (cs := #[.bool false, .slice none 0 0]) (t := 63) ?hr ?_; (case hd => rfl); (case hg => rfl); (case hr => first | (go_simp; done) | (go_simp; rfl)); intro gb344 hg w20 hbox hb; have n0_ := Aside0.mk (Kd.V_below (Kd.V_elderB (by (with_reducible repeat (first | apply Kd.V_alloc | apply Kd.V_drewN | apply Kd.V_drew)); exact HO328.out) gb344 (Nat.le_of_eq hg.symm)) hb); have n1_ := Aside0.mk (Kd.V_below (Kd.V_elderB (by (with_reducible repeat (first | apply Kd.V_alloc | apply Kd.V_drewN | apply Kd.V_drew)); exact HO332.out) gb344 (Nat.le_of_eq hg.symm)) hb); have n2_ := Aside0.mk (Kd.V_below (Kd.V_elderB (by (with_reducible repeat (first | apply Kd.V_alloc | apply Kd.V_drewN | apply Kd.V_drew)); exact HO338.out) gb344 (Nat.le_of_eq hg.symm)) hb); have n3_ := Aside0.mk (Kd.V_below (Kd.V_elderB (by (with_reducible repeat (first | apply Kd.V_alloc | apply Kd.V_drewN | apply Kd.V_drew)); exact HO342.out) gb344 (Nat.le_of_eq hg.symm)) hb); have n4_ := Aside0.mk (blk_below (g := gb333) (o := .cells #[.bool false, .slice Ao9 t326.length co9] 63 (0, 0)) (by (with_reducible repeat (first | refine blk_drewN ?_ _ | refine blk_drew ?_ | refine blk_alloc ?_ _)); exact BK333.out) hb); have n5_ := Aside0.mk (blk_below (g := gb334) (o := .cells #[.bool false, .slice Ao11 t330.length co11] 63 (0, 0)) (by (with_reducible repeat (first | refine blk_drewN ?_ _ | refine blk_drew ?_ | refine blk_alloc ?_ _)); exact BK334.out) hb); have n6_ := Aside0.mk (blk_below (g := gb343) (o := .cells #[.bool false, .slice none 0 0] 63 (0, 0)) (by (with_reducible repeat (first | refine blk_drewN ?_ _ | refine blk_drew ?_ | refine blk_alloc ?_ _)); exact BK343.out) hb); have n7_ := Aside0.mk (below_step (by repeat (first | (with_reducible first | exact HB.out | apply below_alloc | apply pw_below_drewN | apply below_drew1 | refine below_set ?_ GE333.out | refine below_set ?_ GE334.out | refine below_set ?_ GE343.out) | exact HB.out)) hb); have n8_ := Aside0.mk (hbox); have n9_ := Aside0.mk ((by rw [hg]; exact (below_size (by repeat (first | (with_reducible first | exact HB.out | apply below_alloc | apply pw_below_drewN | apply below_drew1 | refine below_set ?_ GE333.out | refine below_set ?_ GE334.out | refine below_set ?_ GE343.out) | exact HB.out))) : w.heap.size ≤ gb344)); have n10_ := Aside0.mk ((by rw [hg]; exact (below_size (by repeat (first | (with_reducible first | exact HB.out | apply below_alloc | apply pw_below_drewN | apply below_drew1 | refine below_set ?_ GE333.out | refine below_set ?_ GE334.out | refine below_set ?_ GE343.out) | exact HB.out))) : w.heap.size ≤ gb344)); have n11_ := Aside0.mk ((by rw [hg]; exact Nat.ne_of_lt (blk_lt (g := gb333) (o := .cells #[.bool false, .slice Ao9 t326.length co9] 63 (0, 0)) (by (with_reducible repeat (first | refine blk_drewN ?_ _ | refine blk_drew ?_ | refine blk_alloc ?_ _)); exact BK333.out)) : gb333 ≠ gb344)); have n12_ := Aside0.mk ((by rw [hg]; exact Nat.ne_of_gt (blk_lt (g := gb333) (o := .cells #[.bool false, .slice Ao9 t326.length co9] 63 (0, 0)) (by (with_reducible repeat (first | refine blk_drewN ?_ _ | refine blk_drew ?_ | refine blk_alloc ?_ _)); exact BK333.out)) : gb344 ≠ gb333)); have n13_ := Aside0.mk ((by rw [hg]; exact Nat.ne_of_lt (blk_lt (g := gb334) (o := .cells #[.bool false, .slice Ao11 t330.length co11] 63 (0, 0)) (by (with_reducible repeat (first | refine blk_drewN ?_ _ | refine blk_drew ?_ | refine blk_alloc ?_ _)); exact BK334.out)) : gb334 ≠ gb344)); have n14_ := Aside0.mk ((by rw [hg]; exact Nat.ne_of_gt (blk_lt (g := gb334) (o := .cells #[.bool false, .slice Ao11 t330.length co11] 63 (0, 0)) (by (with_reducible repeat (first | refine blk_drewN ?_ _ | refine blk_drew ?_ | refine blk_alloc ?_ _)); exact BK334.out)) : gb344 ≠ gb334)); have n15_ := Aside0.mk ((by rw [hg]; exact Nat.ne_of_lt (blk_lt (g := gb343) (o := .cells #[.bool false, .slice none 0 0] 63 (0, 0)) (by (with_reducible repeat (first | refine blk_drewN ?_ _ | refine blk_drew ?_ | refine blk_alloc ?_ _)); exact BK343.out)) : gb343 ≠ gb344)); have n16_ := Aside0.mk ((by rw [hg]; exact Nat.ne_of_gt (blk_lt (g := gb343) (o := .cells #[.bool false, .slice none 0 0] 63 (0, 0)) (by (with_reducible repeat (first | refine blk_drewN ?_ _ | refine blk_drew ?_ | refine blk_alloc ?_ _)); exact BK343.out)) : gb344 ≠ gb343)); clear HO328; clear HO332; clear HO338; clear HO342; clear BK333; clear BK334; clear BK343; clear HB; have HO328 := n0_; have HO332 := n1_; have HO338 := n2_; have HO342 := n3_; have BK333 := n4_; have BK334 := n5_; have BK343 := n6_; have HB := n7_; have BK344 := n8_; have GW344 := n9_; have GE344 := n10_; have NB333_344 := n11_; have NB344_333 := n12_; have NB334_344 := n13_; have NB344_334 := n14_; have NB343_344 := n15_; have NB344_343 := n16_; clear n0_ n1_ n2_ n3_ n4_ n5_ n6_ n7_ n8_ n9_ n10_ n11_ n12_ n13_ n14_ n15_ n16_; clear hb hbox hg; have hnb21 := NB343_333.out; have hnc21 := NB333_343.out; have hnb22 := NB343_334.out; have hnc22 := NB334_343.out; have hnb23 := NB343_344.out; have hnc23 := NB344_343.out; have hcz24_0 : w20.cell? ⟨gb343, 0, none⟩ = some (.bool false) := (blk_cell BK343.out 0).trans rfl; have hcz24_1 : w20.cell? ⟨gb343, 1, none⟩ = some (.slice none 0 0) := (blk_cell BK343.out 1).trans rfl; have hfz24_0 := blk_frozen BK343.out 0; have hfz24_1 := blk_frozen BK343.out 1; obtain ⟨Ao25, co25, eo25⟩ := Kd.V_slice HO338.out; subst eo25; have hnb26 := NB344_333.out; have hnc26 := NB333_344.out; have hnb27 := NB344_334.out; have hnc27 := NB334_344.out; have hcz28_0 : w20.cell? ⟨gb344, 0, none⟩ = some (.bool false) := (blk_cell BK344.out 0).trans rfl; have hcz28_1 : w20.cell? ⟨gb344, 1, none⟩ = some (.slice none 0 0) := (blk_cell BK344.out 1).trans rfl; have hfz28_0 := blk_frozen BK344.out 0; have hfz28_1 := blk_frozen BK344.out 1; obtain ⟨Ao29, co29, eo29⟩ := Kd.V_slice HO342.out; subst eo29; have hcz30_0 : w20.cell? ⟨gb333, 0, none⟩ = some (.bool false) := (blk_cell BK333.out 0).trans rfl; have hcz30_1 : w20.cell? ⟨gb333, 1, none⟩ = some (.slice Ao9 t326.length co9) := (blk_cell BK333.out 1).trans rfl; have hfz30_0 := blk_frozen BK333.out 0; have hfz30_1 := blk_frozen BK333.out 1))
    go_loopg [10] k (fun kq v10 w' => ∃ (x10_1 : Int) (x344000_1 : Bool) (x344001_1 : List Int) (x345000_1 : Bool) (x345001_1 : List Int) (u344001 : Value) (u345001 : Value), v10 = .int .i64 x10_1 ∧ Aside0 (tabardref01_Floor.l0 kq a0 a1 x10_1 false t326 false t330 x344000_1 x344001_1 x345000_1 x345001_1 = some (r1, r2)) ∧ Aside0 (kq ≤ k) ∧ Aside0 (Kd.V (Kd.int .u64) 67 w' w.heap.size (fun k_ => k_ ≠ gb333 ∧ k_ ≠ gb334 ∧ k_ ≠ gb343 ∧ k_ ≠ gb344) (.slice Ao9 t326.length co9) t326) ∧ Aside0 (Kd.V (Kd.int .u64) 67 w' w.heap.size (fun k_ => k_ ≠ gb333 ∧ k_ ≠ gb334 ∧ k_ ≠ gb343 ∧ k_ ≠ gb344) (.slice Ao11 t330.length co11) t330) ∧ Aside0 (Kd.V (Kd.int .u64) 67 w' w.heap.size (fun k_ => k_ ≠ gb333 ∧ k_ ≠ gb334 ∧ k_ ≠ gb343 ∧ k_ ≠ gb344) u344001 x344001_1) ∧ Aside0 (Kd.V (Kd.int .u64) 67 w' w.heap.size (fun k_ => k_ ≠ gb333 ∧ k_ ≠ gb334 ∧ k_ ≠ gb343 ∧ k_ ≠ gb344) u345001 x345001_1) ∧ Aside0 (w'.heap[gb333]? = some (.cells #[.bool false, (.slice Ao9 t326.length co9)] 63 (0, 0))) ∧ Aside0 (w'.heap[gb334]? = some (.cells #[.bool false, (.slice Ao11 t330.length co11)] 63 (0, 0))) ∧ Aside0 (w'.heap[gb343]? = some (.cells #[.bool x344000_1, u344001] 63 (0, 0))) ∧ Aside0 (w'.heap[gb344]? = some (.cells #[.bool x345000_1, u345001] 63 (0, 0))) ∧ Aside0 (Below w.heap.size w w'))
    case atStart => exact ⟨(wrap64 ((wrap64 ((t326.length : Int) * 16)) - 1)), (t335), (t336), (t339), (t340), (.slice Ao25 t336.length co25), (.slice Ao29 t340.length co29), (by first | rfl | (simp; done) | (simp [*]; done)), H', ⟨Nat.le_refl _⟩, ⟨by (with_reducible repeat (first | apply Kd.V_alloc | apply Kd.V_drewN | apply Kd.V_drew)); exact Kd.V_mono (Kd.V_far (p := ⟨gb344, 1, none⟩) (Kd.V_far (p := ⟨gb344, 0, none⟩) (Kd.V_far (p := ⟨gb343, 1, none⟩) (Kd.V_far (p := ⟨gb343, 0, none⟩) (Kd.V_mono (Kd.V_mono HO328.out (fun k_ hk => (⟨hk, hk.1.2⟩ : _ ∧ k_ ≠ gb343))) (fun k_ hk => (⟨hk, hk.1.2⟩ : _ ∧ k_ ≠ gb344))) (fun _ hk => hk.1.2) (.bool t335)) (fun _ hk => hk.1.2) (.slice Ao25 t336.length co25)) (fun _ hk => hk.2) (.bool t339)) (fun _ hk => hk.2) (.slice Ao29 t340.length co29)) (fun _ hk => ⟨hk.1.1.1.1.1.2, ⟨hk.1.1.1.1.2, ⟨hk.1.1.1.2, hk.1.1.2⟩⟩⟩)⟩, ⟨by (with_reducible repeat (first | apply Kd.V_alloc | apply Kd.V_drewN | apply Kd.V_drew)); exact Kd.V_mono (Kd.V_far (p := ⟨gb344, 1, none⟩) (Kd.V_far (p := ⟨gb344, 0, none⟩) (Kd.V_far (p := ⟨gb343, 1, none⟩) (Kd.V_far (p := ⟨gb343, 0, none⟩) (Kd.V_mono (Kd.V_mono HO332.out (fun k_ hk => (⟨hk, hk.1.2⟩ : _ ∧ k_ ≠ gb343))) (fun k_ hk => (⟨hk, hk.1.2⟩ : _ ∧ k_ ≠ gb344))) (fun _ hk => hk.1.2) (.bool t335)) (fun _ hk => hk.1.2) (.slice Ao25 t336.length co25)) (fun _ hk => hk.2) (.bool t339)) (fun _ hk => hk.2) (.slice Ao29 t340.length co29)) (fun _ hk => ⟨hk.1.1.1.1.1.2, ⟨hk.1.1.1.1.2, ⟨hk.1.1.1.2, hk.1.1.2⟩⟩⟩)⟩, ⟨by (with_reducible repeat (first | apply Kd.V_alloc | apply Kd.V_drewN | apply Kd.V_drew)); exact Kd.V_mono (Kd.V_far (p := ⟨gb344, 1, none⟩) (Kd.V_far (p := ⟨gb344, 0, none⟩) (Kd.V_far (p := ⟨gb343, 1, none⟩) (Kd.V_far (p := ⟨gb343, 0, none⟩) (Kd.V_mono (Kd.V_mono HO338.out (fun k_ hk => (⟨hk, hk.1.2⟩ : _ ∧ k_ ≠ gb343))) (fun k_ hk => (⟨hk, hk.1.2⟩ : _ ∧ k_ ≠ gb344))) (fun _ hk => hk.1.2) (.bool t335)) (fun _ hk => hk.1.2) (.slice Ao25 t336.length co25)) (fun _ hk => hk.2) (.bool t339)) (fun _ hk => hk.2) (.slice Ao29 t340.length co29)) (fun _ hk => ⟨hk.1.1.1.1.1, ⟨hk.1.1.1.1.2, ⟨hk.1.1.1.2, hk.1.1.2⟩⟩⟩)⟩, ⟨by (with_reducible repeat (first | apply Kd.V_alloc | apply Kd.V_drewN | apply Kd.V_drew)); exact Kd.V_mono (Kd.V_far (p := ⟨gb344, 1, none⟩) (Kd.V_far (p := ⟨gb344, 0, none⟩) (Kd.V_far (p := ⟨gb343, 1, none⟩) (Kd.V_far (p := ⟨gb343, 0, none⟩) (Kd.V_mono (Kd.V_mono HO342.out (fun k_ hk => (⟨hk, hk.1.2⟩ : _ ∧ k_ ≠ gb343))) (fun k_ hk => (⟨hk, hk.1.2⟩ : _ ∧ k_ ≠ gb344))) (fun _ hk => hk.1.2) (.bool t335)) (fun _ hk => hk.1.2) (.slice Ao25 t336.length co25)) (fun _ hk => hk.2) (.bool t339)) (fun _ hk => hk.2) (.slice Ao29 t340.length co29)) (fun _ hk => ⟨hk.1.1.1.1.1, ⟨hk.1.1.1.1.2, ⟨hk.1.1.1.2, hk.1.1.2⟩⟩⟩)⟩, ⟨by (with_reducible repeat (first | refine blk_drewN ?_ _ | refine blk_drew ?_ | refine blk_alloc ?_ _)); refine blk_far ?_ NB333_344.out _; (with_reducible repeat (first | refine blk_drewN ?_ _ | refine blk_drew ?_ | refine blk_alloc ?_ _)); refine blk_far ?_ NB333_344.out _; (with_reducible repeat (first | refine blk_drewN ?_ _ | refine blk_drew ?_ | refine blk_alloc ?_ _)); refine blk_far ?_ NB333_343.out _; (with_reducible repeat (first | refine blk_drewN ?_ _ | refine blk_drew ?_ | refine blk_alloc ?_ _)); refine blk_far ?_ NB333_343.out _; (with_reducible repeat (first | refine blk_drewN ?_ _ | refine blk_drew ?_ | refine blk_alloc ?_ _)); exact BK333.out⟩, ⟨by (with_reducible repeat (first | refine blk_drewN ?_ _ | refine blk_drew ?_ | refine blk_alloc ?_ _)); refine blk_far ?_ NB334_344.out _; (with_reducible repeat (first | refine blk_drewN ?_ _ | refine blk_drew ?_ | refine blk_alloc ?_ _)); refine blk_far ?_ NB334_344.out _; (with_reducible repeat (first | refine blk_drewN ?_ _ | refine blk_drew ?_ | refine blk_alloc ?_ _)); refine blk_far ?_ NB334_343.out _; (with_reducible repeat (first | refine blk_drewN ?_ _ | refine blk_drew ?_ | refine blk_alloc ?_ _)); refine blk_far ?_ NB334_343.out _; (with_reducible repeat (first | refine blk_drewN ?_ _ | refine blk_drew ?_ | refine blk_alloc ?_ _)); exact BK334.out⟩, ⟨by (with_reducible repeat (first | refine blk_drewN ?_ _ | refine blk_drew ?_ | refine blk_alloc ?_ _)); refine blk_far ?_ NB343_344.out _; (with_reducible repeat (first | refine blk_drewN ?_ _ | refine blk_drew ?_ | refine blk_alloc ?_ _)); refine blk_far ?_ NB343_344.out _; (with_reducible repeat (first | refine blk_drewN ?_ _ | refine blk_drew ?_ | refine blk_alloc ?_ _)); refine blk_put (cs := #[.bool t335, .slice none 0 0]) ?_ 1 _ rfl; (with_reducible repeat (first | refine blk_drewN ?_ _ | refine blk_drew ?_ | refine blk_alloc ?_ _)); refine blk_put (cs := #[.bool false, .slice none 0 0]) ?_ 0 _ rfl; (with_reducible repeat (first | refine blk_drewN ?_ _ | refine blk_drew ?_ | refine blk_alloc ?_ _)); exact BK343.out⟩, ⟨by (with_reducible repeat (first | refine blk_drewN ?_ _ | refine blk_drew ?_ | refine blk_alloc ?_ _)); refine blk_put (cs := #[.bool t339, .slice none 0 0]) ?_ 1 _ rfl; (with_reducible repeat (first | refine blk_drewN ?_ _ | refine blk_drew ?_ | refine blk_alloc ?_ _)); refine blk_put (cs := #[.bool false, .slice none 0 0]) ?_ 0 _ rfl; (with_reducible repeat (first | refine blk_drewN ?_ _ | refine blk_drew ?_ | refine blk_alloc ?_ _)); refine blk_far ?_ NB344_343.out _; (with_reducible repeat (first | refine blk_drewN ?_ _ | refine blk_drew ?_ | refine blk_alloc ?_ _)); refine blk_far ?_ NB344_343.out _; (with_reducible repeat (first | refine blk_drewN ?_ _ | refine blk_drew ?_ | refine blk_alloc ?_ _)); exact BK344.out⟩, ⟨by repeat (first | (with_reducible first | exact HB.out | apply below_alloc | apply pw_below_drewN | apply below_drew1 | refine below_set ?_ GE333.out | refine below_set ?_ GE334.out | refine below_set ?_ GE343.out | refine below_set ?_ GE344.out) | exact HB.out)⟩⟩
    case round =>
      clear H'
      try clear c1
      try clear c2
      try clear p2
      try clear c3
      try clear c3b0
      try clear c3b1
      try clear c5
      try clear p6
      try clear c14
      try clear c21
      try clear c22
      try clear c23
      try clear c26
      try clear c27
      try clear c29
      try clear hcz15_0
      try clear hcz15_1
      try clear hcz16_0
      try clear hcz16_1
      try clear hcz24_0
      try clear hcz24_1
      try clear hcz28_0
      try clear hcz28_1
      try clear hcz30_0
      try clear hcz30_1
      try clear hfz15_0
      try clear hfz15_1
      try clear hfz16_0
      try clear hfz16_1
      try clear hfz24_0
      try clear hfz24_1
      try clear hfz28_0
      try clear hfz28_1
      try clear hfz30_0
      try clear hfz30_1
      obtain ⟨x10_1, x344000_1, x344001_1, x345000_1, x345001_1, u344001, u345001, rfl, HA, HK1, HO_334001, HO_335001, HO_344001, HO_345001, BK333, BK334, BK343, BK344, HB⟩ := hrel
      cases gk with
      | zero => exact absurd HA.out (by simp [tabardref01_Floor.l0])
      | succ k1 =>
        have H := HA.out
        clear HA
        simp only [tabardref01_Floor.l0] at H
        by_cases c31 : x10_1 ≥ 0
        · rw [if_pos c31] at H
          have c31b0 : decide (0 ≤ x10_1) = true := decide_eq_true c31
          clear c31
          replace H := Option.bind_eq_some_iff.mp H
          obtain ⟨⟨t345, t346⟩, A320, H⟩ := H
          replace H : ((tabardref01_Wide_digit.f false t326 (wrap64 (Int.tdiv x10_1 16))).bind fun t349 => (if 0 ≤ (IntKind.u64.wrap (Int.tmod x10_1 16)) then ((tabardref01_Of.f k1 (wrap64 (Go.bits .and .u64 (shr .u64 t349 (IntKind.u64.wrap (Int.tmod x10_1 16))) 1))).bind fun bt350 => ((tabardref01_Plus.f k1 t345 t346 bt350.1 bt350.2).bind fun bt354 => ((tabardref01_Plus.f k1 x344000_1 x344001_1 x344000_1 x344001_1).bind fun bt358 => ((tabardref01_Size.f k1 bt354.1 bt354.2 false t330).bind fun t362 => (if t362 ≥ 0 then ((tabardref01_Minus.f k1 false t330).bind fun bt363 => ((tabardref01_Plus.f k1 bt354.1 bt354.2 bt363.1 bt363.2).bind fun bt367 => ((tabardref01_Of.f k1 1).bind fun bt371 => ((tabardref01_Plus.f k1 bt358.1 bt358.2 bt371.1 bt371.2).bind fun bt375 => (tabardref01_Floor.l0 k1 a0 a1 (wrap64 (x10_1 - 1)) false t326 false t330 bt375.1 bt375.2 bt367.1 bt367.2))))) else (tabardref01_Floor.l0 k1 a0 a1 (wrap64 (x10_1 - 1)) false t326 false t330 bt358.1 bt358.2 bt354.1 bt354.2)))))) else (none))) = some (r1, r2) := H
          have A32 := Aside0.mk A320
          clear A320
          replace H := Option.bind_eq_some_iff.mp H
          obtain ⟨t349, A330, H⟩ := H
          replace H : (if 0 ≤ (IntKind.u64.wrap (Int.tmod x10_1 16)) then ((tabardref01_Of.f k1 (wrap64 (Go.bits .and .u64 (shr .u64 t349 (IntKind.u64.wrap (Int.tmod x10_1 16))) 1))).bind fun bt350 => ((tabardref01_Plus.f k1 t345 t346 bt350.1 bt350.2).bind fun bt354 => ((tabardref01_Plus.f k1 x344000_1 x344001_1 x344000_1 x344001_1).bind fun bt358 => ((tabardref01_Size.f k1 bt354.1 bt354.2 false t330).bind fun t362 => (if t362 ≥ 0 then ((tabardref01_Minus.f k1 false t330).bind fun bt363 => ((tabardref01_Plus.f k1 bt354.1 bt354.2 bt363.1 bt363.2).bind fun bt367 => ((tabardref01_Of.f k1 1).bind fun bt371 => ((tabardref01_Plus.f k1 bt358.1 bt358.2 bt371.1 bt371.2).bind fun bt375 => (tabardref01_Floor.l0 k1 a0 a1 (wrap64 (x10_1 - 1)) false t326 false t330 bt375.1 bt375.2 bt367.1 bt367.2))))) else (tabardref01_Floor.l0 k1 a0 a1 (wrap64 (x10_1 - 1)) false t326 false t330 bt358.1 bt358.2 bt354.1 bt354.2)))))) else (none)) = some (r1, r2) := H
          have A33 := Aside0.mk A330
          clear A330
          obtain ⟨ji34, hji34⟩ : ∃ j_ : Int, (IntKind.u64.wrap (Int.tmod x10_1 16)) = j_ := ⟨_, rfl⟩
          replace H : (if 0 ≤ (ji34) then ((tabardref01_Of.f k1 (wrap64 (Go.bits .and .u64 (shr .u64 t349 (ji34)) 1))).bind fun bt350 => ((tabardref01_Plus.f k1 t345 t346 bt350.1 bt350.2).bind fun bt354 => ((tabardref01_Plus.f k1 x344000_1 x344001_1 x344000_1 x344001_1).bind fun bt358 => ((tabardref01_Size.f k1 bt354.1 bt354.2 false t330).bind fun t362 => (if t362 ≥ 0 then ((tabardref01_Minus.f k1 false t330).bind fun bt363 => ((tabardref01_Plus.f k1 bt354.1 bt354.2 bt363.1 bt363.2).bind fun bt367 => ((tabardref01_Of.f k1 1).bind fun bt371 => ((tabardref01_Plus.f k1 bt358.1 bt358.2 bt371.1 bt371.2).bind fun bt375 => (tabardref01_Floor.l0 k1 a0 a1 (wrap64 (x10_1 - 1)) false t326 false t330 bt375.1 bt375.2 bt367.1 bt367.2))))) else (tabardref01_Floor.l0 k1 a0 a1 (wrap64 (x10_1 - 1)) false t326 false t330 bt358.1 bt358.2 bt354.1 bt354.2)))))) else (none)) = some (r1, r2) := by first | (rw [hji34] at H; exact H) | (simp only [hji34] at H ⊢; exact H)
          (try rw [hji34] at A32)
          (try rw [hji34] at A33)
          by_cases c35 : 0 ≤ (ji34)
          · rw [if_pos c35] at H
            have c35b0 := eq_true c35
            have c35b1 : decide (0 ≤ (ji34)) = true := decide_eq_true c35
            clear c35
            obtain ⟨ji36, hji36⟩ : ∃ j_ : Int, (shr .u64 t349 (ji34)) = j_ := ⟨_, rfl⟩
            replace H : ((tabardref01_Of.f k1 (wrap64 (Go.bits .and .u64 (ji36) 1))).bind fun bt350 => ((tabardref01_Plus.f k1 t345 t346 bt350.1 bt350.2).bind fun bt354 => ((tabardref01_Plus.f k1 x344000_1 x344001_1 x344000_1 x344001_1).bind fun bt358 => ((tabardref01_Size.f k1 bt354.1 bt354.2 false t330).bind fun t362 => (if t362 ≥ 0 then ((tabardref01_Minus.f k1 false t330).bind fun bt363 => ((tabardref01_Plus.f k1 bt354.1 bt354.2 bt363.1 bt363.2).bind fun bt367 => ((tabardref01_Of.f k1 1).bind fun bt371 => ((tabardref01_Plus.f k1 bt358.1 bt358.2 bt371.1 bt371.2).bind fun bt375 => (tabardref01_Floor.l0 k1 a0 a1 (wrap64 (x10_1 - 1)) false t326 false t330 bt375.1 bt375.2 bt367.1 bt367.2))))) else (tabardref01_Floor.l0 k1 a0 a1 (wrap64 (x10_1 - 1)) false t326 false t330 bt358.1 bt358.2 bt354.1 bt354.2)))))) = some (r1, r2) := by first | (rw [hji36] at H; exact H) | (simp only [hji36] at H ⊢; exact H)
            (try rw [hji36] at A32)
            (try rw [hji36] at A33)
            have hji36_ : (t349 / 2 ^ min (ji34).toNat 64) = ji36 := hji36
            have hji36z : (ji34) ≤ 64 → (t349 / 2 ^ (ji34).toNat) = ji36 := shr_small hji36
            replace H := Option.bind_eq_some_iff.mp H
            obtain ⟨⟨t350, t351⟩, A370, H⟩ := H
            replace H : ((tabardref01_Plus.f k1 t345 t346 t350 t351).bind fun bt354 => ((tabardref01_Plus.f k1 x344000_1 x344001_1 x344000_1 x344001_1).bind fun bt358 => ((tabardref01_Size.f k1 bt354.1 bt354.2 false t330).bind fun t362 => (if t362 ≥ 0 then ((tabardref01_Minus.f k1 false t330).bind fun bt363 => ((tabardref01_Plus.f k1 bt354.1 bt354.2 bt363.1 bt363.2).bind fun bt367 => ((tabardref01_Of.f k1 1).bind fun bt371 => ((tabardref01_Plus.f k1 bt358.1 bt358.2 bt371.1 bt371.2).bind fun bt375 => (tabardref01_Floor.l0 k1 a0 a1 (wrap64 (x10_1 - 1)) false t326 false t330 bt375.1 bt375.2 bt367.1 bt367.2))))) else (tabardref01_Floor.l0 k1 a0 a1 (wrap64 (x10_1 - 1)) false t326 false t330 bt358.1 bt358.2 bt354.1 bt354.2))))) = some (r1, r2) := H
            have A37 := Aside0.mk A370
            clear A370
            replace H := Option.bind_eq_some_iff.mp H
            obtain ⟨⟨t354, t355⟩, A380, H⟩ := H
            replace H : ((tabardref01_Plus.f k1 x344000_1 x344001_1 x344000_1 x344001_1).bind fun bt358 => ((tabardref01_Size.f k1 t354 t355 false t330).bind fun t362 => (if t362 ≥ 0 then ((tabardref01_Minus.f k1 false t330).bind fun bt363 => ((tabardref01_Plus.f k1 t354 t355 bt363.1 bt363.2).bind fun bt367 => ((tabardref01_Of.f k1 1).bind fun bt371 => ((tabardref01_Plus.f k1 bt358.1 bt358.2 bt371.1 bt371.2).bind fun bt375 => (tabardref01_Floor.l0 k1 a0 a1 (wrap64 (x10_1 - 1)) false t326 false t330 bt375.1 bt375.2 bt367.1 bt367.2))))) else (tabardref01_Floor.l0 k1 a0 a1 (wrap64 (x10_1 - 1)) false t326 false t330 bt358.1 bt358.2 t354 t355)))) = some (r1, r2) := H
            have A38 := Aside0.mk A380
            clear A380
            replace H := Option.bind_eq_some_iff.mp H
            obtain ⟨⟨t358, t359⟩, A390, H⟩ := H
            replace H : ((tabardref01_Size.f k1 t354 t355 false t330).bind fun t362 => (if t362 ≥ 0 then ((tabardref01_Minus.f k1 false t330).bind fun bt363 => ((tabardref01_Plus.f k1 t354 t355 bt363.1 bt363.2).bind fun bt367 => ((tabardref01_Of.f k1 1).bind fun bt371 => ((tabardref01_Plus.f k1 t358 t359 bt371.1 bt371.2).bind fun bt375 => (tabardref01_Floor.l0 k1 a0 a1 (wrap64 (x10_1 - 1)) false t326 false t330 bt375.1 bt375.2 bt367.1 bt367.2))))) else (tabardref01_Floor.l0 k1 a0 a1 (wrap64 (x10_1 - 1)) false t326 false t330 t358 t359 t354 t355))) = some (r1, r2) := H
            have A39 := Aside0.mk A390
            clear A390
            replace H := Option.bind_eq_some_iff.mp H
            obtain ⟨t362, A400, H⟩ := H
            replace H : (if t362 ≥ 0 then ((tabardref01_Minus.f k1 false t330).bind fun bt363 => ((tabardref01_Plus.f k1 t354 t355 bt363.1 bt363.2).bind fun bt367 => ((tabardref01_Of.f k1 1).bind fun bt371 => ((tabardref01_Plus.f k1 t358 t359 bt371.1 bt371.2).bind fun bt375 => (tabardref01_Floor.l0 k1 a0 a1 (wrap64 (x10_1 - 1)) false t326 false t330 bt375.1 bt375.2 bt367.1 bt367.2))))) else (tabardref01_Floor.l0 k1 a0 a1 (wrap64 (x10_1 - 1)) false t326 false t330 t358 t359 t354 t355)) = some (r1, r2) := H
            have A40 := Aside0.mk A400
            clear A400
            by_cases c41 : t362 ≥ 0
            · rw [if_pos c41] at H
              have c41b0 : decide (0 ≤ t362) = true := decide_eq_true c41
              clear c41
              replace H := Option.bind_eq_some_iff.mp H
              obtain ⟨⟨t363, t364⟩, A420, H⟩ := H
              replace H : ((tabardref01_Plus.f k1 t354 t355 t363 t364).bind fun bt367 => ((tabardref01_Of.f k1 1).bind fun bt371 => ((tabardref01_Plus.f k1 t358 t359 bt371.1 bt371.2).bind fun bt375 => (tabardref01_Floor.l0 k1 a0 a1 (wrap64 (x10_1 - 1)) false t326 false t330 bt375.1 bt375.2 bt367.1 bt367.2)))) = some (r1, r2) := H
              have A42 := Aside0.mk A420
              clear A420
              replace H := Option.bind_eq_some_iff.mp H
              obtain ⟨⟨t367, t368⟩, A430, H⟩ := H
              replace H : ((tabardref01_Of.f k1 1).bind fun bt371 => ((tabardref01_Plus.f k1 t358 t359 bt371.1 bt371.2).bind fun bt375 => (tabardref01_Floor.l0 k1 a0 a1 (wrap64 (x10_1 - 1)) false t326 false t330 bt375.1 bt375.2 t367 t368))) = some (r1, r2) := H
              have A43 := Aside0.mk A430
              clear A430
              replace H := Option.bind_eq_some_iff.mp H
              obtain ⟨⟨t371, t372⟩, A440, H⟩ := H
              replace H : ((tabardref01_Plus.f k1 t358 t359 t371 t372).bind fun bt375 => (tabardref01_Floor.l0 k1 a0 a1 (wrap64 (x10_1 - 1)) false t326 false t330 bt375.1 bt375.2 t367 t368)) = some (r1, r2) := H
              have A44 := Aside0.mk A440
              clear A440
              replace H := Option.bind_eq_some_iff.mp H
              obtain ⟨⟨t375, t376⟩, A450, H⟩ := H
              replace H : (tabardref01_Floor.l0 k1 a0 a1 (wrap64 (x10_1 - 1)) false t326 false t330 t375 t376 t367 t368) = some (r1, r2) := H
              have A45 := Aside0.mk A450
              clear A450
              have H' := Aside0.mk H
              clear H
              try go_wp2
              have n0_ := Aside0.mk (Kd.V_drew HO_334001.out)
              have n1_ := Aside0.mk (Kd.V_drew HO_335001.out)
              have n2_ := Aside0.mk (Kd.V_drew HO_344001.out)
              have n3_ := Aside0.mk (Kd.V_drew HO_345001.out)
              have n4_ := Aside0.mk (blk_drew BK333.out)
              have n5_ := Aside0.mk (blk_drew BK334.out)
              have n6_ := Aside0.mk (blk_drew BK343.out)
              have n7_ := Aside0.mk (blk_drew BK344.out)
              have n8_ := Aside0.mk (below_drew1 HB.out)
              clear HO_334001
              clear HO_335001
              clear HO_344001
              clear HO_345001
              clear BK333
              clear BK334
              clear BK343
              clear BK344
              clear HB
              have HO_334001 := n0_
              have HO_335001 := n1_
              have HO_344001 := n2_
              have HO_345001 := n3_
              have BK333 := n4_
              have BK334 := n5_
              have BK343 := n6_
              have BK344 := n7_
              have HB := n8_
              clear n0_ n1_ n2_ n3_ n4_ n5_ n6_ n7_ n8_
              obtain ⟨Ao47, co47, eo47⟩ := Kd.V_slice HO_345001.out
              (first | subst eo47 | (injection eo47 with f1_ f2_ f3_; have f4_ := f1_.symm; have f5_ := f3_.symm; clear f1_ f2_ f3_; subst f4_; subst f5_))
              refine start_ (n := 16) (S := fun w' => w'.cell? ⟨gb344, 0, none⟩ = some (.bool x345000_1) ∧ w'.cell? ⟨gb344, 1, none⟩ = some (.slice Ao47 x345001_1.length co47) ∧ w'.cell? ⟨gb333, 0, none⟩ = some (.bool false) ∧ w'.cell? ⟨gb333, 1, none⟩ = some (.slice Ao9 t326.length co9)) (ds := [15]) #[false, false, false, false, false, false, false, false, false, false, false, false, false, false, false, false] (by kernel_rfl) rfl rfl ⟨(blk_cell BK344.out 0).trans rfl, (blk_cell BK344.out 1).trans rfl, (blk_cell BK333.out 0).trans rfl, (blk_cell BK333.out 1).trans rfl⟩ (fun hHeld => ?_); refine with_tabW tabardref01_Floor.tab8 tabardref01_Floor.bits8 (fun HT_ HW_ => ?_)
              generalize wr.drew = w46 at HO_334001 HO_335001 HO_344001 HO_345001 BK333 BK334 BK343 BK344 HB hHeld ⊢
              refine pure_ (i := 4) (N := some 36) (v := ?_) (a' := ?_) #[false, false, false, false, true, false, false, false, false, false, false, false, false, false, false, false] rfl rfl (any_of HT_.out (by kernel_rfl)) (fun _ _ _ h => h) (Or.inl ⟨by rfl, ?_⟩) ?_ ?_
              rotate_left
              · intro w'
                go_simp
                with_reducible rfl
              rotate_left
              · simp only [Act.put, List.setIfInBounds_toArray, List.set_cons_zero, List.set_cons_succ, i64_w, i32_w]
                rfl
              refine pure_ (i := 5) (N := some 37) (v := ?_) (a' := ?_) #[false, false, false, false, true, true, false, false, false, false, false, false, false, false, false, false] rfl rfl (any_of HT_.out (by kernel_rfl)) (fun _ _ _ h => h) (Or.inl ⟨by rfl, ?_⟩) ?_ ?_
              rotate_left
              · intro w'
                go_simp
                with_reducible rfl
              rotate_left
              · simp only [Act.put, List.setIfInBounds_toArray, List.set_cons_zero, List.set_cons_succ, i64_w, i32_w]
                rfl
              refine pure_ (i := 7) (N := some 39) (v := ?_) (a' := ?_) #[false, false, false, false, true, true, false, true, false, false, false, false, false, false, false, false] rfl rfl (any_of HT_.out (by kernel_rfl)) (fun _ _ _ h => h) (Or.inl ⟨by rfl, ?_⟩) ?_ ?_
              rotate_left
              · intro w'
                go_simp
                with_reducible rfl
              rotate_left
              · simp only [Act.put, List.setIfInBounds_toArray, List.set_cons_zero, List.set_cons_succ, i64_w, i32_w]
                rfl
              refine pure_ (i := 8) (N := some 40) (v := ?_) (a' := ?_) #[false, false, false, false, true, true, false, true, true, false, false, false, false, false, false, false] rfl rfl (any_of HT_.out (by kernel_rfl)) (fun _ _ _ h => h) (Or.inl ⟨by rfl, ?_⟩) ?_ ?_
              rotate_left
              · intro w'
                go_simp
                with_reducible rfl
              rotate_left
              · simp only [Act.put, List.setIfInBounds_toArray, List.set_cons_zero, List.set_cons_succ, i64_w, i32_w]
                rfl
              refine pure_ (i := 9) (N := some 41) (v := ?_) (a' := ?_) #[false, false, false, false, true, true, false, true, true, true, false, false, false, false, false, false] rfl rfl (any_of HT_.out (by kernel_rfl)) (fun _ _ _ h => h) (Or.inl ⟨by rfl, ?_⟩) ?_ ?_
              rotate_left
              · intro w'
                go_simp
                with_reducible rfl
              rotate_left
              · simp only [Act.put, List.setIfInBounds_toArray, List.set_cons_zero, List.set_cons_succ, i64_w, i32_w]
                rfl
              refine take_ (i := 0) (N := some 32) (v := ?_) (a' := ?_) #[true, false, false, false, true, true, false, true, true, true, false, false, false, false, false, false] rfl rfl (take_ofW HT_.out HW_.out (by kernel_rfl)) (fun _ _ _ h => h) (Or.inl ⟨by rfl, ?_⟩) hHeld ?_ ?_
              rotate_left
              · rintro w' ⟨s0, s1, s2, s3⟩
                go_simp
                with_reducible rfl
              rotate_left
              · simp only [Act.put, List.setIfInBounds_toArray, List.set_cons_zero, List.set_cons_succ, i64_w, i32_w]
                rfl
              refine take_ (i := 1) (N := some 33) (v := ?_) (a' := ?_) #[true, true, false, false, true, true, false, true, true, true, false, false, false, false, false, false] rfl rfl (take_ofW HT_.out HW_.out (by kernel_rfl)) (fun _ _ _ h => h) (Or.inl ⟨by rfl, ?_⟩) hHeld ?_ ?_
              rotate_left
              · rintro w' ⟨s0, s1, s2, s3⟩
                go_simp
                with_reducible rfl
              rotate_left
              · simp only [Act.put, List.setIfInBounds_toArray, List.set_cons_zero, List.set_cons_succ, i64_w, i32_w]
                rfl
              refine take_ (i := 3) (N := some 35) (v := ?_) (a' := ?_) #[true, true, false, true, true, true, false, true, true, true, false, false, false, false, false, false] rfl rfl (take_ofW HT_.out HW_.out (by kernel_rfl)) (fun _ _ _ h => h) (Or.inl ⟨by rfl, ?_⟩) hHeld ?_ ?_
              rotate_left
              · rintro w' ⟨s0, s1, s2, s3⟩
                go_simp
                with_reducible rfl
              rotate_left
              · simp only [Act.put, List.setIfInBounds_toArray, List.set_cons_zero, List.set_cons_succ, i64_w, i32_w]
                rfl
              refine one_ (i := 2) (N := some 34) #[true, true, true, true, true, true, false, true, true, true, false, false, false, false, false, false] rfl rfl (one_of HT_.out (by kernel_rfl)) (by decide) (fun K hK => ?_)
              refine goes_ Try.func54 (by kernel_rfl) rfl #[.agg #[.bool x345000_1, .slice Ao47 x345001_1.length co47], .agg #[.bool x345000_1, .slice Ao47 x345001_1.length co47]] (by rfl) rfl rfl (by (try simp only [List.map_toArray, List.map_cons, List.map_nil]); first | done | rfl | (simp only [List.length_drop, List.length_take]; rfl)) ?_
              with_reducible refine (tabardref01_Plus.calls k1 x345000_1 _ _ x345001_1 x345000_1 _ _ x345001_1 t345 t346 _ ?side1 ?side2 ?side3 ?side4 A32.out).mono ?_
              (case side1 => repeat (first | exact (Kd.V_reads' HO_345001.out).2.2 | (with_reducible refine Kd.C_alloc ?_ _) | (with_reducible refine Kd.C_drewN ?_ _) | (with_reducible refine Kd.C_drew ?_)))
              (case side2 => exact (Kd.V_reads' HO_345001.out).2.1)
              (case side3 => repeat (first | exact (Kd.V_reads' HO_345001.out).2.2 | (with_reducible refine Kd.C_alloc ?_ _) | (with_reducible refine Kd.C_drewN ?_ _) | (with_reducible refine Kd.C_drew ?_)))
              (case side4 => exact (Kd.V_reads' HO_345001.out).2.1)
              rintro e w48 ⟨v347, rfl, ho0, hb⟩
              refine ⟨_, rfl, ?_⟩
              have n0_ := Aside0.mk (Kd.V_below (by (with_reducible repeat (first | apply Kd.V_alloc | apply Kd.V_drewN | apply Kd.V_drew)); exact HO_334001.out) hb)
              have n1_ := Aside0.mk (Kd.V_below (by (with_reducible repeat (first | apply Kd.V_alloc | apply Kd.V_drewN | apply Kd.V_drew)); exact HO_335001.out) hb)
              have n2_ := Aside0.mk (Kd.V_below (by (with_reducible repeat (first | apply Kd.V_alloc | apply Kd.V_drewN | apply Kd.V_drew)); exact HO_344001.out) hb)
              have n3_ := Aside0.mk (Kd.V_below (by (with_reducible repeat (first | apply Kd.V_alloc | apply Kd.V_drewN | apply Kd.V_drew)); exact HO_345001.out) hb)
              have n4_ := Aside0.mk (Kd.V_lower (Kd.V_mono (ok' := fun k_ => k_ ≠ gb333 ∧ k_ ≠ gb334 ∧ k_ ≠ gb343 ∧ k_ ≠ gb344) ho0 (fun k_ hk_ => ⟨(Kd.freshB (g := gb333) (o := .cells #[.bool false, .slice Ao9 t326.length co9] 63 (0, 0)) (by (with_reducible repeat (first | refine blk_drewN ?_ _ | refine blk_drew ?_ | refine blk_alloc ?_ _)); exact BK333.out) k_ hk_), (Kd.freshB (g := gb334) (o := .cells #[.bool false, .slice Ao11 t330.length co11] 63 (0, 0)) (by (with_reducible repeat (first | refine blk_drewN ?_ _ | refine blk_drew ?_ | refine blk_alloc ?_ _)); exact BK334.out) k_ hk_), (Kd.freshB (g := gb343) (o := .cells #[.bool x344000_1, u344001] 63 (0, 0)) (by (with_reducible repeat (first | refine blk_drewN ?_ _ | refine blk_drew ?_ | refine blk_alloc ?_ _)); exact BK343.out) k_ hk_), (Kd.freshB (g := gb344) (o := .cells #[.bool x345000_1, .slice Ao47 x345001_1.length co47] 63 (0, 0)) (by (with_reducible repeat (first | refine blk_drewN ?_ _ | refine blk_drew ?_ | refine blk_alloc ?_ _)); exact BK344.out) k_ hk_)⟩)) (below_size (by repeat (first | (with_reducible first | exact HB.out | apply below_alloc | apply pw_below_drewN | apply below_drew1 | refine below_set ?_ GE333.out | refine below_set ?_ GE334.out | refine below_set ?_ GE343.out | refine below_set ?_ GE344.out) | exact HB.out))))
              have n5_ := Aside0.mk (blk_below (g := gb333) (o := .cells #[.bool false, .slice Ao9 t326.length co9] 63 (0, 0)) (by (with_reducible repeat (first | refine blk_drewN ?_ _ | refine blk_drew ?_ | refine blk_alloc ?_ _)); exact BK333.out) hb)
              have n6_ := Aside0.mk (blk_below (g := gb334) (o := .cells #[.bool false, .slice Ao11 t330.length co11] 63 (0, 0)) (by (with_reducible repeat (first | refine blk_drewN ?_ _ | refine blk_drew ?_ | refine blk_alloc ?_ _)); exact BK334.out) hb)
              have n7_ := Aside0.mk (blk_below (g := gb343) (o := .cells #[.bool x344000_1, u344001] 63 (0, 0)) (by (with_reducible repeat (first | refine blk_drewN ?_ _ | refine blk_drew ?_ | refine blk_alloc ?_ _)); exact BK343.out) hb)
              have n8_ := Aside0.mk (blk_below (g := gb344) (o := .cells #[.bool x345000_1, .slice Ao47 x345001_1.length co47] 63 (0, 0)) (by (with_reducible repeat (first | refine blk_drewN ?_ _ | refine blk_drew ?_ | refine blk_alloc ?_ _)); exact BK344.out) hb)
              have n9_ := Aside0.mk (below_step (by repeat (first | (with_reducible first | exact HB.out | apply below_alloc | apply pw_below_drewN | apply below_drew1 | refine below_set ?_ GE333.out | refine below_set ?_ GE334.out | refine below_set ?_ GE343.out | refine below_set ?_ GE344.out) | exact HB.out)) hb)
              clear HO_334001
              clear HO_335001
              clear HO_344001
              clear HO_345001
              clear BK333
              clear BK334
              clear BK343
              clear BK344
              clear HB
              have HO_334001 := n0_
              have HO_335001 := n1_
              have HO_344001 := n2_
              have HO_345001 := n3_
              have HO348 := n4_
              have BK333 := n5_
              have BK334 := n6_
              have BK343 := n7_
              have BK344 := n8_
              have HB := n9_
              clear n0_ n1_ n2_ n3_ n4_ n5_ n6_ n7_ n8_ n9_
              (try clear hb)
              (try clear hb2)
              (try clear hk)
              (try clear hi)
              (try clear ho0)
              refine hK.out _ _ ⟨(blk_cell BK344.out 0).trans rfl, (blk_cell BK344.out 1).trans rfl, (blk_cell BK333.out 0).trans rfl, (blk_cell BK333.out 1).trans rfl⟩ (fun hHeld => ?_)
              clear hK K
              refine norm_ (a' := ?_) ?_ ?_
              rotate_left
              · show Act.put _ (some 34) _ = _
                simp only [Act.put, List.setIfInBounds_toArray, List.set_cons_zero, List.set_cons_succ, i64_w, i32_w]
                rfl
              refine one_ (i := 6) (N := some 38) #[true, true, true, true, true, true, true, true, true, true, false, false, false, false, false, false] rfl rfl (one_of HT_.out (by kernel_rfl)) (by decide) (fun K hK => ?_)
              refine goes_ Try.func56 (by kernel_rfl) rfl #[.agg #[.bool false, .slice Ao9 t326.length co9], .int .i64 (wrap64 (Int.tdiv x10_1 16))] (by rfl) rfl rfl (by (try simp only [List.map_toArray, List.map_cons, List.map_nil]); first | done | rfl | (simp only [List.length_drop, List.length_take]; rfl)) ?_
              with_reducible refine (tabardref01_Wide_digit.calls false _ _ t326 (wrap64 (Int.tdiv x10_1 16)) t349 _ ?side1 ?side2 A33.out).mono ?_
              (case side1 => repeat (first | exact (Kd.V_reads' HO_334001.out).2.2 | (with_reducible refine Kd.C_alloc ?_ _) | (with_reducible refine Kd.C_drewN ?_ _) | (with_reducible refine Kd.C_drew ?_)))
              (case side2 => exact (Kd.V_reads' HO_334001.out).2.1)
              rintro e w49 ⟨rfl, hb⟩
              refine ⟨_, rfl, ?_⟩
              have n0_ := Aside0.mk (Kd.V_below (by (with_reducible repeat (first | apply Kd.V_alloc | apply Kd.V_drewN | apply Kd.V_drew)); exact HO_334001.out) hb)
              have n1_ := Aside0.mk (Kd.V_below (by (with_reducible repeat (first | apply Kd.V_alloc | apply Kd.V_drewN | apply Kd.V_drew)); exact HO_335001.out) hb)
              have n2_ := Aside0.mk (Kd.V_below (by (with_reducible repeat (first | apply Kd.V_alloc | apply Kd.V_drewN | apply Kd.V_drew)); exact HO_344001.out) hb)
              have n3_ := Aside0.mk (Kd.V_below (by (with_reducible repeat (first | apply Kd.V_alloc | apply Kd.V_drewN | apply Kd.V_drew)); exact HO_345001.out) hb)
              have n4_ := Aside0.mk (Kd.V_below (by (with_reducible repeat (first | apply Kd.V_alloc | apply Kd.V_drewN | apply Kd.V_drew)); exact HO348.out) hb)
              have n5_ := Aside0.mk (blk_below (g := gb333) (o := .cells #[.bool false, .slice Ao9 t326.length co9] 63 (0, 0)) (by (with_reducible repeat (first | refine blk_drewN ?_ _ | refine blk_drew ?_ | refine blk_alloc ?_ _)); exact BK333.out) hb)
              have n6_ := Aside0.mk (blk_below (g := gb334) (o := .cells #[.bool false, .slice Ao11 t330.length co11] 63 (0, 0)) (by (with_reducible repeat (first | refine blk_drewN ?_ _ | refine blk_drew ?_ | refine blk_alloc ?_ _)); exact BK334.out) hb)
              have n7_ := Aside0.mk (blk_below (g := gb343) (o := .cells #[.bool x344000_1, u344001] 63 (0, 0)) (by (with_reducible repeat (first | refine blk_drewN ?_ _ | refine blk_drew ?_ | refine blk_alloc ?_ _)); exact BK343.out) hb)
              have n8_ := Aside0.mk (blk_below (g := gb344) (o := .cells #[.bool x345000_1, .slice Ao47 x345001_1.length co47] 63 (0, 0)) (by (with_reducible repeat (first | refine blk_drewN ?_ _ | refine blk_drew ?_ | refine blk_alloc ?_ _)); exact BK344.out) hb)
              have n9_ := Aside0.mk (below_step (by repeat (first | (with_reducible first | exact HB.out | apply below_alloc | apply pw_below_drewN | apply below_drew1 | refine below_set ?_ GE333.out | refine below_set ?_ GE334.out | refine below_set ?_ GE343.out | refine below_set ?_ GE344.out) | exact HB.out)) hb)
              clear HO_334001
              clear HO_335001
              clear HO_344001
              clear HO_345001
              clear HO348
              clear BK333
              clear BK334
              clear BK343
              clear BK344
              clear HB
              have HO_334001 := n0_
              have HO_335001 := n1_
              have HO_344001 := n2_
              have HO_345001 := n3_
              have HO348 := n4_
              have BK333 := n5_
              have BK334 := n6_
              have BK343 := n7_
              have BK344 := n8_
              have HB := n9_
              clear n0_ n1_ n2_ n3_ n4_ n5_ n6_ n7_ n8_ n9_
              (try clear hb)
              (try clear hb2)
              (try clear hk)
              (try clear hi)
              refine hK.out _ _ ⟨(blk_cell BK344.out 0).trans rfl, (blk_cell BK344.out 1).trans rfl, (blk_cell BK333.out 0).trans rfl, (blk_cell BK333.out 1).trans rfl⟩ (fun hHeld => ?_)
              clear hK K
              refine norm_ (a' := ?_) ?_ ?_
              rotate_left
              · show Act.put _ (some 38) _ = _
                simp only [Act.put, List.setIfInBounds_toArray, List.set_cons_zero, List.set_cons_succ, i64_w, i32_w]
                rfl
              refine pure_ (i := 10) (N := some 42) (v := ?_) (a' := ?_) #[true, true, true, true, true, true, true, true, true, true, true, false, false, false, false, false] rfl rfl (any_of HT_.out (by kernel_rfl)) (fun _ _ _ h => h) (Or.inl ⟨by rfl, ?_⟩) ?_ ?_
              rotate_left
              · intro w'
                go_simp
                with_reducible rfl
              rotate_left
              · simp only [Act.put, List.setIfInBounds_toArray, List.set_cons_zero, List.set_cons_succ, i64_w, i32_w]
                rfl
              refine pure_ (i := 11) (N := some 43) (v := ?_) (a' := ?_) #[true, true, true, true, true, true, true, true, true, true, true, true, false, false, false, false] rfl rfl (any_of HT_.out (by kernel_rfl)) (fun _ _ _ h => h) (Or.inl ⟨by rfl, ?_⟩) ?_ ?_
              rotate_left
              · intro w'
                go_simp
                with_reducible rfl
              rotate_left
              · simp only [Act.put, List.setIfInBounds_toArray, List.set_cons_zero, List.set_cons_succ, i64_w, i32_w]
                rfl
              refine pure_ (i := 12) (N := some 44) (v := ?_) (a' := ?_) #[true, true, true, true, true, true, true, true, true, true, true, true, true, false, false, false] rfl rfl (any_of HT_.out (by kernel_rfl)) (fun _ _ _ h => h) (Or.inl ⟨by rfl, ?_⟩) ?_ ?_
              rotate_left
              · intro w'
                go_simp
                with_reducible rfl
              rotate_left
              · simp only [Act.put, List.setIfInBounds_toArray, List.set_cons_zero, List.set_cons_succ, i64_w, i32_w]
                rfl
              refine one_ (i := 13) (N := some 45) #[true, true, true, true, true, true, true, true, true, true, true, true, true, true, false, false] rfl rfl (one_of HT_.out (by kernel_rfl)) (by decide) (fun K hK => ?_)
              refine goes_ Try.func53 (by kernel_rfl) rfl #[.int .i64 (wrap64 (Go.bits .and .u64 (ji36) 1))] (by rfl) rfl rfl (by (try simp only [List.map_toArray, List.map_cons, List.map_nil]); first | done | (simp only [hji36]; rfl) | rfl | (simp only [List.length_drop, List.length_take]; rfl)) ?_
              with_reducible refine (tabardref01_Of.calls k1 (wrap64 (Go.bits .and .u64 (ji36) 1)) t350 t351 _ A37.out).mono ?_
              rintro e w50 ⟨v352, rfl, ho0, hb⟩
              refine ⟨_, rfl, ?_⟩
              have n0_ := Aside0.mk (Kd.V_below (by (with_reducible repeat (first | apply Kd.V_alloc | apply Kd.V_drewN | apply Kd.V_drew)); exact HO_334001.out) hb)
              have n1_ := Aside0.mk (Kd.V_below (by (with_reducible repeat (first | apply Kd.V_alloc | apply Kd.V_drewN | apply Kd.V_drew)); exact HO_335001.out) hb)
              have n2_ := Aside0.mk (Kd.V_below (by (with_reducible repeat (first | apply Kd.V_alloc | apply Kd.V_drewN | apply Kd.V_drew)); exact HO_344001.out) hb)
              have n3_ := Aside0.mk (Kd.V_below (by (with_reducible repeat (first | apply Kd.V_alloc | apply Kd.V_drewN | apply Kd.V_drew)); exact HO_345001.out) hb)
              have n4_ := Aside0.mk (Kd.V_below (by (with_reducible repeat (first | apply Kd.V_alloc | apply Kd.V_drewN | apply Kd.V_drew)); exact HO348.out) hb)
              have n5_ := Aside0.mk (Kd.V_lower (Kd.V_mono (ok' := fun k_ => k_ ≠ gb333 ∧ k_ ≠ gb334 ∧ k_ ≠ gb343 ∧ k_ ≠ gb344) ho0 (fun k_ hk_ => ⟨(Kd.freshB (g := gb333) (o := .cells #[.bool false, .slice Ao9 t326.length co9] 63 (0, 0)) (by (with_reducible repeat (first | refine blk_drewN ?_ _ | refine blk_drew ?_ | refine blk_alloc ?_ _)); exact BK333.out) k_ hk_), (Kd.freshB (g := gb334) (o := .cells #[.bool false, .slice Ao11 t330.length co11] 63 (0, 0)) (by (with_reducible repeat (first | refine blk_drewN ?_ _ | refine blk_drew ?_ | refine blk_alloc ?_ _)); exact BK334.out) k_ hk_), (Kd.freshB (g := gb343) (o := .cells #[.bool x344000_1, u344001] 63 (0, 0)) (by (with_reducible repeat (first | refine blk_drewN ?_ _ | refine blk_drew ?_ | refine blk_alloc ?_ _)); exact BK343.out) k_ hk_), (Kd.freshB (g := gb344) (o := .cells #[.bool x345000_1, .slice Ao47 x345001_1.length co47] 63 (0, 0)) (by (with_reducible repeat (first | refine blk_drewN ?_ _ | refine blk_drew ?_ | refine blk_alloc ?_ _)); exact BK344.out) k_ hk_)⟩)) (below_size (by repeat (first | (with_reducible first | exact HB.out | apply below_alloc | apply pw_below_drewN | apply below_drew1 | refine below_set ?_ GE333.out | refine below_set ?_ GE334.out | refine below_set ?_ GE343.out | refine below_set ?_ GE344.out) | exact HB.out))))
              have n6_ := Aside0.mk (blk_below (g := gb333) (o := .cells #[.bool false, .slice Ao9 t326.length co9] 63 (0, 0)) (by (with_reducible repeat (first | refine blk_drewN ?_ _ | refine blk_drew ?_ | refine blk_alloc ?_ _)); exact BK333.out) hb)
              have n7_ := Aside0.mk (blk_below (g := gb334) (o := .cells #[.bool false, .slice Ao11 t330.length co11] 63 (0, 0)) (by (with_reducible repeat (first | refine blk_drewN ?_ _ | refine blk_drew ?_ | refine blk_alloc ?_ _)); exact BK334.out) hb)
              have n8_ := Aside0.mk (blk_below (g := gb343) (o := .cells #[.bool x344000_1, u344001] 63 (0, 0)) (by (with_reducible repeat (first | refine blk_drewN ?_ _ | refine blk_drew ?_ | refine blk_alloc ?_ _)); exact BK343.out) hb)
              have n9_ := Aside0.mk (blk_below (g := gb344) (o := .cells #[.bool x345000_1, .slice Ao47 x345001_1.length co47] 63 (0, 0)) (by (with_reducible repeat (first | refine blk_drewN ?_ _ | refine blk_drew ?_ | refine blk_alloc ?_ _)); exact BK344.out) hb)
              have n10_ := Aside0.mk (below_step (by repeat (first | (with_reducible first | exact HB.out | apply below_alloc | apply pw_below_drewN | apply below_drew1 | refine below_set ?_ GE333.out | refine below_set ?_ GE334.out | refine below_set ?_ GE343.out | refine below_set ?_ GE344.out) | exact HB.out)) hb)
              clear HO_334001
              clear HO_335001
              clear HO_344001
              clear HO_345001
              clear HO348
              clear BK333
              clear BK334
              clear BK343
              clear BK344
              clear HB
              have HO_334001 := n0_
              have HO_335001 := n1_
              have HO_344001 := n2_
              have HO_345001 := n3_
              have HO348 := n4_
              have HO353 := n5_
              have BK333 := n6_
              have BK334 := n7_
              have BK343 := n8_
              have BK344 := n9_
              have HB := n10_
              clear n0_ n1_ n2_ n3_ n4_ n5_ n6_ n7_ n8_ n9_ n10_
              (try clear hb)
              (try clear hb2)
              (try clear hk)
              (try clear hi)
              (try clear ho0)
              obtain ⟨Ao51, co51, eo51⟩ := Kd.V_slice HO348.out
              (first | subst eo51 | (injection eo51 with f1_ f2_ f3_; have f4_ := f1_.symm; have f5_ := f3_.symm; clear f1_ f2_ f3_; subst f4_; subst f5_))
              obtain ⟨Ao52, co52, eo52⟩ := Kd.V_slice HO353.out
              (first | subst eo52 | (injection eo52 with f1_ f2_ f3_; have f4_ := f1_.symm; have f5_ := f3_.symm; clear f1_ f2_ f3_; subst f4_; subst f5_))
              refine hK.out _ _ ⟨(blk_cell BK344.out 0).trans rfl, (blk_cell BK344.out 1).trans rfl, (blk_cell BK333.out 0).trans rfl, (blk_cell BK333.out 1).trans rfl⟩ (fun hHeld => ?_)
              clear hK K
              refine norm_ (a' := ?_) ?_ ?_
              rotate_left
              · show Act.put _ (some 45) _ = _
                simp only [Act.put, List.setIfInBounds_toArray, List.set_cons_zero, List.set_cons_succ, i64_w, i32_w]
                rfl
              refine one_ (i := 14) (N := some 46) #[true, true, true, true, true, true, true, true, true, true, true, true, true, true, true, false] rfl rfl (one_of HT_.out (by kernel_rfl)) (by decide) (fun K hK => ?_)
              refine goes_ Try.func54 (by kernel_rfl) rfl #[.agg #[.bool t345, .slice Ao51 t346.length co51], .agg #[.bool t350, .slice Ao52 t351.length co52]] (by rfl) rfl rfl (by (try simp only [List.map_toArray, List.map_cons, List.map_nil]); first | done | rfl | (simp only [List.length_drop, List.length_take]; rfl)) ?_
              with_reducible refine (tabardref01_Plus.calls k1 t345 _ _ t346 t350 _ _ t351 t354 t355 _ ?side1 ?side2 ?side3 ?side4 A38.out).mono ?_
              (case side1 => repeat (first | exact (Kd.V_reads' HO348.out).2.2 | (with_reducible refine Kd.C_alloc ?_ _) | (with_reducible refine Kd.C_drewN ?_ _) | (with_reducible refine Kd.C_drew ?_)))
              (case side2 => exact (Kd.V_reads' HO348.out).2.1)
              (case side3 => repeat (first | exact (Kd.V_reads' HO353.out).2.2 | (with_reducible refine Kd.C_alloc ?_ _) | (with_reducible refine Kd.C_drewN ?_ _) | (with_reducible refine Kd.C_drew ?_)))
              (case side4 => exact (Kd.V_reads' HO353.out).2.1)
              rintro e w53 ⟨v356, rfl, ho0, hb⟩
              refine ⟨_, rfl, ?_⟩
              have n0_ := Aside0.mk (Kd.V_below (by (with_reducible repeat (first | apply Kd.V_alloc | apply Kd.V_drewN | apply Kd.V_drew)); exact HO_334001.out) hb)
              have n1_ := Aside0.mk (Kd.V_below (by (with_reducible repeat (first | apply Kd.V_alloc | apply Kd.V_drewN | apply Kd.V_drew)); exact HO_335001.out) hb)
              have n2_ := Aside0.mk (Kd.V_below (by (with_reducible repeat (first | apply Kd.V_alloc | apply Kd.V_drewN | apply Kd.V_drew)); exact HO_344001.out) hb)
              have n3_ := Aside0.mk (Kd.V_below (by (with_reducible repeat (first | apply Kd.V_alloc | apply Kd.V_drewN | apply Kd.V_drew)); exact HO_345001.out) hb)
              have n4_ := Aside0.mk (Kd.V_below (by (with_reducible repeat (first | apply Kd.V_alloc | apply Kd.V_drewN | apply Kd.V_drew)); exact HO348.out) hb)
              have n5_ := Aside0.mk (Kd.V_below (by (with_reducible repeat (first | apply Kd.V_alloc | apply Kd.V_drewN | apply Kd.V_drew)); exact HO353.out) hb)
              have n6_ := Aside0.mk (Kd.V_lower (Kd.V_mono (ok' := fun k_ => k_ ≠ gb333 ∧ k_ ≠ gb334 ∧ k_ ≠ gb343 ∧ k_ ≠ gb344) ho0 (fun k_ hk_ => ⟨(Kd.freshB (g := gb333) (o := .cells #[.bool false, .slice Ao9 t326.length co9] 63 (0, 0)) (by (with_reducible repeat (first | refine blk_drewN ?_ _ | refine blk_drew ?_ | refine blk_alloc ?_ _)); exact BK333.out) k_ hk_), (Kd.freshB (g := gb334) (o := .cells #[.bool false, .slice Ao11 t330.length co11] 63 (0, 0)) (by (with_reducible repeat (first | refine blk_drewN ?_ _ | refine blk_drew ?_ | refine blk_alloc ?_ _)); exact BK334.out) k_ hk_), (Kd.freshB (g := gb343) (o := .cells #[.bool x344000_1, u344001] 63 (0, 0)) (by (with_reducible repeat (first | refine blk_drewN ?_ _ | refine blk_drew ?_ | refine blk_alloc ?_ _)); exact BK343.out) k_ hk_), (Kd.freshB (g := gb344) (o := .cells #[.bool x345000_1, .slice Ao47 x345001_1.length co47] 63 (0, 0)) (by (with_reducible repeat (first | refine blk_drewN ?_ _ | refine blk_drew ?_ | refine blk_alloc ?_ _)); exact BK344.out) k_ hk_)⟩)) (below_size (by repeat (first | (with_reducible first | exact HB.out | apply below_alloc | apply pw_below_drewN | apply below_drew1 | refine below_set ?_ GE333.out | refine below_set ?_ GE334.out | refine below_set ?_ GE343.out | refine below_set ?_ GE344.out) | exact HB.out))))
              have n7_ := Aside0.mk (blk_below (g := gb333) (o := .cells #[.bool false, .slice Ao9 t326.length co9] 63 (0, 0)) (by (with_reducible repeat (first | refine blk_drewN ?_ _ | refine blk_drew ?_ | refine blk_alloc ?_ _)); exact BK333.out) hb)
              have n8_ := Aside0.mk (blk_below (g := gb334) (o := .cells #[.bool false, .slice Ao11 t330.length co11] 63 (0, 0)) (by (with_reducible repeat (first | refine blk_drewN ?_ _ | refine blk_drew ?_ | refine blk_alloc ?_ _)); exact BK334.out) hb)
              have n9_ := Aside0.mk (blk_below (g := gb343) (o := .cells #[.bool x344000_1, u344001] 63 (0, 0)) (by (with_reducible repeat (first | refine blk_drewN ?_ _ | refine blk_drew ?_ | refine blk_alloc ?_ _)); exact BK343.out) hb)
              have n10_ := Aside0.mk (blk_below (g := gb344) (o := .cells #[.bool x345000_1, .slice Ao47 x345001_1.length co47] 63 (0, 0)) (by (with_reducible repeat (first | refine blk_drewN ?_ _ | refine blk_drew ?_ | refine blk_alloc ?_ _)); exact BK344.out) hb)
              have n11_ := Aside0.mk (below_step (by repeat (first | (with_reducible first | exact HB.out | apply below_alloc | apply pw_below_drewN | apply below_drew1 | refine below_set ?_ GE333.out | refine below_set ?_ GE334.out | refine below_set ?_ GE343.out | refine below_set ?_ GE344.out) | exact HB.out)) hb)
              clear HO_334001
              clear HO_335001
              clear HO_344001
              clear HO_345001
              clear HO348
              clear HO353
              clear BK333
              clear BK334
              clear BK343
              clear BK344
              clear HB
              have HO_334001 := n0_
              have HO_335001 := n1_
              have HO_344001 := n2_
              have HO_345001 := n3_
              have HO348 := n4_
              have HO353 := n5_
              have HO357 := n6_
              have BK333 := n7_
              have BK334 := n8_
              have BK343 := n9_
              have BK344 := n10_
              have HB := n11_
              clear n0_ n1_ n2_ n3_ n4_ n5_ n6_ n7_ n8_ n9_ n10_ n11_
              (try clear hb)
              (try clear hb2)
              (try clear hk)
              (try clear hi)
              (try clear ho0)
              obtain ⟨Ao55, co55, eo55⟩ := Kd.V_slice HO357.out
              (first | subst eo55 | (injection eo55 with f1_ f2_ f3_; have f4_ := f1_.symm; have f5_ := f3_.symm; clear f1_ f2_ f3_; subst f4_; subst f5_))
              refine hK.out _ _ ⟨(blk_cell BK344.out 0).trans rfl, (blk_cell BK344.out 1).trans rfl, (blk_cell BK333.out 0).trans rfl, (blk_cell BK333.out 1).trans rfl⟩ (fun hHeld => ?_)
              clear hK K
              refine norm_ (a' := ?_) ?_ ?_
              rotate_left
              · show Act.put _ (some 46) _ = _
                simp only [Act.put, List.setIfInBounds_toArray, List.set_cons_zero, List.set_cons_succ, i64_w, i32_w]
                rfl
              refine last_ (i := 15) (N := none) #[true, true, true, true, true, true, true, true, true, true, true, true, true, true, true, true] rfl rfl (one_of HT_.out (by kernel_rfl)) (by decide) (fun K hK => ?_)
              have hs54 : w53.cell? ⟨gb344, 0, none⟩ = some (.bool x345000_1) := (blk_cell BK344.out 0).trans rfl
              have hfs54 := blk_frozen BK344.out 0
              have hns54_0 := NB333_344.out
              have hns54_1 := NB334_344.out
              have hns54_2 := NB343_344.out
              have hms54_0 := NB344_333.out
              have hms54_1 := NB344_334.out
              have hms54_2 := NB344_343.out
              have hs56 : w53.cell? ⟨gb344, 1, none⟩ = some (.slice Ao47 x345001_1.length co47) := (blk_cell BK344.out 1).trans rfl
              have hfs56 := blk_frozen BK344.out 1
              have hns56_0 := NB333_344.out
              have hns56_1 := NB334_344.out
              have hns56_2 := NB343_344.out
              have hms56_0 := NB344_333.out
              have hms56_1 := NB344_334.out
              have hms56_2 := NB344_343.out
              refine skip_ (w1 := ?_) (by rfl) rfl ?_ ?_
              rotate_left
              · go_simp
                rfl
              refine hK.out _ _ ?_
              clear hK K
              refine done_ (done_of HT_.out (by kernel_rfl)) ?_
              have hnb57 := NB343_333.out
              have hnc57 := NB333_343.out
              have hnb58 := NB343_334.out
              have hnc58 := NB334_343.out
              have hnb59 := NB343_344.out
              have hnc59 := NB344_343.out
              have hcz60_0 : w53.cell? ⟨gb343, 0, none⟩ = some (.bool x344000_1) := (blk_cell BK343.out 0).trans rfl
              have hcz60_1 : w53.cell? ⟨gb343, 1, none⟩ = some (u344001) := (blk_cell BK343.out 1).trans rfl
              have hfz60_0 := blk_frozen BK343.out 0
              have hfz60_1 := blk_frozen BK343.out 1
              obtain ⟨Ao61, co61, eo61⟩ := Kd.V_slice HO_344001.out
              subst eo61
              try go_wp2_with (first | ((with_reducible refine gate_callee (f := 54) rfl ?_); refine goesL_ (some 49) rfl rfl Try.func54 (by kernel_rfl) rfl #[.agg #[.bool x344000_1, .slice Ao61 x344001_1.length co61], .agg #[.bool x344000_1, .slice Ao61 x344001_1.length co61]] rfl (by (try simp only [List.map_toArray, List.map_cons, List.map_nil]); first | done | rfl | (simp only [List.length_drop, List.length_take]; rfl)) ?_; (with_reducible refine (tabardref01_Plus.calls k1 x344000_1 _ _ x344001_1 x344000_1 _ _ x344001_1 t358 t359 _ ?side1 ?side2 ?side3 ?side4 A39.out).mono ?_); (case side1 => refine (Kd.V_reads' (e := 67) (base := w.heap.size) (ok := fun k_ => (k_ ≠ gb333 ∧ (k_ ≠ gb334 ∧ (k_ ≠ gb343 ∧ k_ ≠ gb344)))) (n := x344001_1.length) (c := co61) ?_).2.2; exact (by (with_reducible repeat (first | apply Kd.V_alloc | apply Kd.V_drewN | apply Kd.V_drew)); exact (Kd.V_mono (Kd.V_far (p := ⟨gb344, 1, none⟩) (Kd.V_far (p := ⟨gb344, 0, none⟩) (Kd.V_mono HO_344001.out (fun k_ hk => (⟨hk, hk.2.2.2⟩ : _ ∧ k_ ≠ gb344))) (fun _ hk => hk.2) (.bool t354)) (fun _ hk => hk.2) (.slice Ao55 t355.length co55)) (fun _ h_ => h_.1)))); (case side2 => exact (Kd.V_reads' HO_344001.out).2.1); (case side3 => refine (Kd.V_reads' (e := 67) (base := w.heap.size) (ok := fun k_ => (k_ ≠ gb333 ∧ (k_ ≠ gb334 ∧ (k_ ≠ gb343 ∧ k_ ≠ gb344)))) (n := x344001_1.length) (c := co61) ?_).2.2; exact (by (with_reducible repeat (first | apply Kd.V_alloc | apply Kd.V_drewN | apply Kd.V_drew)); exact (Kd.V_mono (Kd.V_far (p := ⟨gb344, 1, none⟩) (Kd.V_far (p := ⟨gb344, 0, none⟩) (Kd.V_mono HO_344001.out (fun k_ hk => (⟨hk, hk.2.2.2⟩ : _ ∧ k_ ≠ gb344))) (fun _ hk => hk.2) (.bool t354)) (fun _ hk => hk.2) (.slice Ao55 t355.length co55)) (fun _ h_ => h_.1)))); (case side4 => exact (Kd.V_reads' HO_344001.out).2.1); rintro e w62 ⟨v360, rfl, ho0, hb⟩; refine ⟨_, rfl, ?_⟩; have n0_ := Aside0.mk (Kd.V_below (by (with_reducible repeat (first | apply Kd.V_alloc | apply Kd.V_drewN | apply Kd.V_drew)); exact (Kd.V_mono (Kd.V_far (p := ⟨gb344, 1, none⟩) (Kd.V_far (p := ⟨gb344, 0, none⟩) (Kd.V_mono HO_334001.out (fun k_ hk => (⟨hk, hk.2.2.2⟩ : _ ∧ k_ ≠ gb344))) (fun _ hk => hk.2) (.bool t354)) (fun _ hk => hk.2) (.slice Ao55 t355.length co55)) (fun _ h_ => h_.1))) hb); have n1_ := Aside0.mk (Kd.V_below (by (with_reducible repeat (first | apply Kd.V_alloc | apply Kd.V_drewN | apply Kd.V_drew)); exact (Kd.V_mono (Kd.V_far (p := ⟨gb344, 1, none⟩) (Kd.V_far (p := ⟨gb344, 0, none⟩) (Kd.V_mono HO_335001.out (fun k_ hk => (⟨hk, hk.2.2.2⟩ : _ ∧ k_ ≠ gb344))) (fun _ hk => hk.2) (.bool t354)) (fun _ hk => hk.2) (.slice Ao55 t355.length co55)) (fun _ h_ => h_.1))) hb); have n2_ := Aside0.mk (Kd.V_below (by (with_reducible repeat (first | apply Kd.V_alloc | apply Kd.V_drewN | apply Kd.V_drew)); exact (Kd.V_mono (Kd.V_far (p := ⟨gb344, 1, none⟩) (Kd.V_far (p := ⟨gb344, 0, none⟩) (Kd.V_mono HO_344001.out (fun k_ hk => (⟨hk, hk.2.2.2⟩ : _ ∧ k_ ≠ gb344))) (fun _ hk => hk.2) (.bool t354)) (fun _ hk => hk.2) (.slice Ao55 t355.length co55)) (fun _ h_ => h_.1))) hb); have n3_ := Aside0.mk (Kd.V_below (by (with_reducible repeat (first | apply Kd.V_alloc | apply Kd.V_drewN | apply Kd.V_drew)); exact (Kd.V_mono (Kd.V_far (p := ⟨gb344, 1, none⟩) (Kd.V_far (p := ⟨gb344, 0, none⟩) (Kd.V_mono HO_345001.out (fun k_ hk => (⟨hk, hk.2.2.2⟩ : _ ∧ k_ ≠ gb344))) (fun _ hk => hk.2) (.bool t354)) (fun _ hk => hk.2) (.slice Ao55 t355.length co55)) (fun _ h_ => h_.1))) hb); have n4_ := Aside0.mk (Kd.V_below (by (with_reducible repeat (first | apply Kd.V_alloc | apply Kd.V_drewN | apply Kd.V_drew)); exact (Kd.V_mono (Kd.V_far (p := ⟨gb344, 1, none⟩) (Kd.V_far (p := ⟨gb344, 0, none⟩) (Kd.V_mono HO348.out (fun k_ hk => (⟨hk, hk.2.2.2⟩ : _ ∧ k_ ≠ gb344))) (fun _ hk => hk.2) (.bool t354)) (fun _ hk => hk.2) (.slice Ao55 t355.length co55)) (fun _ h_ => h_.1))) hb); have n5_ := Aside0.mk (Kd.V_below (by (with_reducible repeat (first | apply Kd.V_alloc | apply Kd.V_drewN | apply Kd.V_drew)); exact (Kd.V_mono (Kd.V_far (p := ⟨gb344, 1, none⟩) (Kd.V_far (p := ⟨gb344, 0, none⟩) (Kd.V_mono HO353.out (fun k_ hk => (⟨hk, hk.2.2.2⟩ : _ ∧ k_ ≠ gb344))) (fun _ hk => hk.2) (.bool t354)) (fun _ hk => hk.2) (.slice Ao55 t355.length co55)) (fun _ h_ => h_.1))) hb); have n6_ := Aside0.mk (Kd.V_below (by (with_reducible repeat (first | apply Kd.V_alloc | apply Kd.V_drewN | apply Kd.V_drew)); exact (Kd.V_mono (Kd.V_far (p := ⟨gb344, 1, none⟩) (Kd.V_far (p := ⟨gb344, 0, none⟩) (Kd.V_mono HO357.out (fun k_ hk => (⟨hk, hk.2.2.2⟩ : _ ∧ k_ ≠ gb344))) (fun _ hk => hk.2) (.bool t354)) (fun _ hk => hk.2) (.slice Ao55 t355.length co55)) (fun _ h_ => h_.1))) hb); have n7_ := Aside0.mk (Kd.V_lower (Kd.V_mono (ok' := fun k_ => k_ ≠ gb333 ∧ k_ ≠ gb334 ∧ k_ ≠ gb343 ∧ k_ ≠ gb344) ho0 (fun k_ hk_ => ⟨(Kd.freshB (g := gb333) (o := .cells #[.bool false, .slice Ao9 t326.length co9] 63 (0, 0)) (by (with_reducible repeat (first | refine blk_drewN ?_ _ | refine blk_drew ?_ | refine blk_alloc ?_ _)); refine blk_far ?_ NB333_344.out _; (with_reducible repeat (first | refine blk_drewN ?_ _ | refine blk_drew ?_ | refine blk_alloc ?_ _)); refine blk_far ?_ NB333_344.out _; (with_reducible repeat (first | refine blk_drewN ?_ _ | refine blk_drew ?_ | refine blk_alloc ?_ _)); exact BK333.out) k_ hk_), (Kd.freshB (g := gb334) (o := .cells #[.bool false, .slice Ao11 t330.length co11] 63 (0, 0)) (by (with_reducible repeat (first | refine blk_drewN ?_ _ | refine blk_drew ?_ | refine blk_alloc ?_ _)); refine blk_far ?_ NB334_344.out _; (with_reducible repeat (first | refine blk_drewN ?_ _ | refine blk_drew ?_ | refine blk_alloc ?_ _)); refine blk_far ?_ NB334_344.out _; (with_reducible repeat (first | refine blk_drewN ?_ _ | refine blk_drew ?_ | refine blk_alloc ?_ _)); exact BK334.out) k_ hk_), (Kd.freshB (g := gb343) (o := .cells #[.bool x344000_1, .slice Ao61 x344001_1.length co61] 63 (0, 0)) (by (with_reducible repeat (first | refine blk_drewN ?_ _ | refine blk_drew ?_ | refine blk_alloc ?_ _)); refine blk_far ?_ NB343_344.out _; (with_reducible repeat (first | refine blk_drewN ?_ _ | refine blk_drew ?_ | refine blk_alloc ?_ _)); refine blk_far ?_ NB343_344.out _; (with_reducible repeat (first | refine blk_drewN ?_ _ | refine blk_drew ?_ | refine blk_alloc ?_ _)); exact BK343.out) k_ hk_), (Kd.freshB (g := gb344) (o := .cells #[.bool t354, .slice Ao55 t355.length co55] 63 (0, 0)) (by (with_reducible repeat (first | refine blk_drewN ?_ _ | refine blk_drew ?_ | refine blk_alloc ?_ _)); refine blk_put (cs := #[.bool t354, .slice Ao47 x345001_1.length co47]) ?_ 1 _ rfl; (with_reducible repeat (first | refine blk_drewN ?_ _ | refine blk_drew ?_ | refine blk_alloc ?_ _)); refine blk_put (cs := #[.bool x345000_1, .slice Ao47 x345001_1.length co47]) ?_ 0 _ rfl; (with_reducible repeat (first | refine blk_drewN ?_ _ | refine blk_drew ?_ | refine blk_alloc ?_ _)); exact BK344.out) k_ hk_)⟩)) (below_size (by repeat (first | (with_reducible first | exact HB.out | apply below_alloc | apply pw_below_drewN | apply below_drew1 | refine below_set ?_ GE333.out | refine below_set ?_ GE334.out | refine below_set ?_ GE343.out | refine below_set ?_ GE344.out) | exact HB.out)))); have n8_ := Aside0.mk (blk_below (g := gb333) (o := .cells #[.bool false, .slice Ao9 t326.length co9] 63 (0, 0)) (by (with_reducible repeat (first | refine blk_drewN ?_ _ | refine blk_drew ?_ | refine blk_alloc ?_ _)); refine blk_far ?_ NB333_344.out _; (with_reducible repeat (first | refine blk_drewN ?_ _ | refine blk_drew ?_ | refine blk_alloc ?_ _)); refine blk_far ?_ NB333_344.out _; (with_reducible repeat (first | refine blk_drewN ?_ _ | refine blk_drew ?_ | refine blk_alloc ?_ _)); exact BK333.out) hb); have n9_ := Aside0.mk (blk_below (g := gb334) (o := .cells #[.bool false, .slice Ao11 t330.length co11] 63 (0, 0)) (by (with_reducible repeat (first | refine blk_drewN ?_ _ | refine blk_drew ?_ | refine blk_alloc ?_ _)); refine blk_far ?_ NB334_344.out _; (with_reducible repeat (first | refine blk_drewN ?_ _ | refine blk_drew ?_ | refine blk_alloc ?_ _)); refine blk_far ?_ NB334_344.out _; (with_reducible repeat (first | refine blk_drewN ?_ _ | refine blk_drew ?_ | refine blk_alloc ?_ _)); exact BK334.out) hb); have n10_ := Aside0.mk (blk_below (g := gb343) (o := .cells #[.bool x344000_1, .slice Ao61 x344001_1.length co61] 63 (0, 0)) (by (with_reducible repeat (first | refine blk_drewN ?_ _ | refine blk_drew ?_ | refine blk_alloc ?_ _)); refine blk_far ?_ NB343_344.out _; (with_reducible repeat (first | refine blk_drewN ?_ _ | refine blk_drew ?_ | refine blk_alloc ?_ _)); refine blk_far ?_ NB343_344.out _; (with_reducible repeat (first | refine blk_drewN ?_ _ | refine blk_drew ?_ | refine blk_alloc ?_ _)); exact BK343.out) hb); have n11_ := Aside0.mk (blk_below (g := gb344) (o := .cells #[.bool t354, .slice Ao55 t355.length co55] 63 (0, 0)) (by (with_reducible repeat (first | refine blk_drewN ?_ _ | refine blk_drew ?_ | refine blk_alloc ?_ _)); refine blk_put (cs := #[.bool t354, .slice Ao47 x345001_1.length co47]) ?_ 1 _ rfl; (with_reducible repeat (first | refine blk_drewN ?_ _ | refine blk_drew ?_ | refine blk_alloc ?_ _)); refine blk_put (cs := #[.bool x345000_1, .slice Ao47 x345001_1.length co47]) ?_ 0 _ rfl; (with_reducible repeat (first | refine blk_drewN ?_ _ | refine blk_drew ?_ | refine blk_alloc ?_ _)); exact BK344.out) hb); have n12_ := Aside0.mk (below_step (by repeat (first | (with_reducible first | exact HB.out | apply below_alloc | apply pw_below_drewN | apply below_drew1 | refine below_set ?_ GE333.out | refine below_set ?_ GE334.out | refine below_set ?_ GE343.out | refine below_set ?_ GE344.out) | exact HB.out)) hb); clear HO_334001; clear HO_335001; clear HO_344001; clear HO_345001; clear HO348; clear HO353; clear HO357; clear BK333; clear BK334; clear BK343; clear BK344; clear HB; have HO_334001 := n0_; have HO_335001 := n1_; have HO_344001 := n2_; have HO_345001 := n3_; have HO348 := n4_; have HO353 := n5_; have HO357 := n6_; have HO361 := n7_; have BK333 := n8_; have BK334 := n9_; have BK343 := n10_; have BK344 := n11_; have HB := n12_; clear n0_ n1_ n2_ n3_ n4_ n5_ n6_ n7_ n8_ n9_ n10_ n11_ n12_; (try clear hb); (try clear hb2); (try clear hk); (try clear hi); (try clear ho0); have hcz63_0 : w62.cell? ⟨gb343, 0, none⟩ = some (.bool x344000_1) := (blk_cell BK343.out 0).trans rfl; have hcz63_1 : w62.cell? ⟨gb343, 1, none⟩ = some (.slice Ao61 x344001_1.length co61) := (blk_cell BK343.out 1).trans rfl; have hfz63_0 := blk_frozen BK343.out 0; have hfz63_1 := blk_frozen BK343.out 1; obtain ⟨Ao64, co64, eo64⟩ := Kd.V_slice HO361.out; subst eo64; have hnb65 := NB344_333.out; have hnc65 := NB333_344.out; have hnb66 := NB344_334.out; have hnc66 := NB334_344.out; have hcz67_0 : w62.cell? ⟨gb344, 0, none⟩ = some (.bool t354) := (blk_cell BK344.out 0).trans rfl; have hcz67_1 : w62.cell? ⟨gb344, 1, none⟩ = some (.slice Ao55 t355.length co55) := (blk_cell BK344.out 1).trans rfl; have hfz67_0 := blk_frozen BK344.out 0; have hfz67_1 := blk_frozen BK344.out 1; have hnb68 := NB334_333.out; have hnc68 := NB333_334.out; have hcz69_0 : w62.cell? ⟨gb334, 0, none⟩ = some (.bool false) := (blk_cell BK334.out 0).trans rfl; have hcz69_1 : w62.cell? ⟨gb334, 1, none⟩ = some (.slice Ao11 t330.length co11) := (blk_cell BK334.out 1).trans rfl; have hfz69_0 := blk_frozen BK334.out 0; have hfz69_1 := blk_frozen BK334.out 1) | ((with_reducible refine gate_callee (f := 57) rfl ?_); refine goesL_ (some 52) rfl rfl Try.func57 (by kernel_rfl) rfl #[.agg #[.bool t354, .slice Ao55 t355.length co55], .agg #[.bool false, .slice Ao11 t330.length co11]] rfl (by (try simp only [List.map_toArray, List.map_cons, List.map_nil]); first | done | rfl | (simp only [List.length_drop, List.length_take]; rfl)) ?_; (with_reducible refine (tabardref01_Size.calls k1 t354 _ _ t355 false _ _ t330 t362 _ ?side1 ?side2 ?side3 ?side4 A40.out).mono ?_); (case side1 => refine (Kd.V_reads' (e := 67) (base := w.heap.size) (ok := fun k_ => (k_ ≠ gb333 ∧ (k_ ≠ gb334 ∧ (k_ ≠ gb343 ∧ k_ ≠ gb344)))) (n := t355.length) (c := co55) ?_).2.2; exact (by (with_reducible repeat (first | apply Kd.V_alloc | apply Kd.V_drewN | apply Kd.V_drew)); exact (Kd.V_mono (Kd.V_far (p := ⟨gb343, 1, none⟩) (Kd.V_far (p := ⟨gb343, 0, none⟩) (Kd.V_mono HO357.out (fun k_ hk => (⟨hk, hk.2.2.1⟩ : _ ∧ k_ ≠ gb343))) (fun _ hk => hk.2) (.bool t358)) (fun _ hk => hk.2) (.slice Ao64 t359.length co64)) (fun _ h_ => h_.1)))); (case side2 => exact (Kd.V_reads' HO357.out).2.1); (case side3 => refine (Kd.V_reads' (e := 67) (base := w.heap.size) (ok := fun k_ => (k_ ≠ gb333 ∧ (k_ ≠ gb334 ∧ (k_ ≠ gb343 ∧ k_ ≠ gb344)))) (n := t330.length) (c := co11) ?_).2.2; exact (by (with_reducible repeat (first | apply Kd.V_alloc | apply Kd.V_drewN | apply Kd.V_drew)); exact (Kd.V_mono (Kd.V_far (p := ⟨gb343, 1, none⟩) (Kd.V_far (p := ⟨gb343, 0, none⟩) (Kd.V_mono HO_335001.out (fun k_ hk => (⟨hk, hk.2.2.1⟩ : _ ∧ k_ ≠ gb343))) (fun _ hk => hk.2) (.bool t358)) (fun _ hk => hk.2) (.slice Ao64 t359.length co64)) (fun _ h_ => h_.1)))); (case side4 => exact (Kd.V_reads' HO_335001.out).2.1); rintro e w70 ⟨rfl, hb⟩; refine ⟨_, rfl, ?_⟩; have n0_ := Aside0.mk (Kd.V_below (by (with_reducible repeat (first | apply Kd.V_alloc | apply Kd.V_drewN | apply Kd.V_drew)); exact (Kd.V_mono (Kd.V_far (p := ⟨gb343, 1, none⟩) (Kd.V_far (p := ⟨gb343, 0, none⟩) (Kd.V_mono HO_334001.out (fun k_ hk => (⟨hk, hk.2.2.1⟩ : _ ∧ k_ ≠ gb343))) (fun _ hk => hk.2) (.bool t358)) (fun _ hk => hk.2) (.slice Ao64 t359.length co64)) (fun _ h_ => h_.1))) hb); have n1_ := Aside0.mk (Kd.V_below (by (with_reducible repeat (first | apply Kd.V_alloc | apply Kd.V_drewN | apply Kd.V_drew)); exact (Kd.V_mono (Kd.V_far (p := ⟨gb343, 1, none⟩) (Kd.V_far (p := ⟨gb343, 0, none⟩) (Kd.V_mono HO_335001.out (fun k_ hk => (⟨hk, hk.2.2.1⟩ : _ ∧ k_ ≠ gb343))) (fun _ hk => hk.2) (.bool t358)) (fun _ hk => hk.2) (.slice Ao64 t359.length co64)) (fun _ h_ => h_.1))) hb); have n2_ := Aside0.mk (Kd.V_below (by (with_reducible repeat (first | apply Kd.V_alloc | apply Kd.V_drewN | apply Kd.V_drew)); exact (Kd.V_mono (Kd.V_far (p := ⟨gb343, 1, none⟩) (Kd.V_far (p := ⟨gb343, 0, none⟩) (Kd.V_mono HO_344001.out (fun k_ hk => (⟨hk, hk.2.2.1⟩ : _ ∧ k_ ≠ gb343))) (fun _ hk => hk.2) (.bool t358)) (fun _ hk => hk.2) (.slice Ao64 t359.length co64)) (fun _ h_ => h_.1))) hb); have n3_ := Aside0.mk (Kd.V_below (by (with_reducible repeat (first | apply Kd.V_alloc | apply Kd.V_drewN | apply Kd.V_drew)); exact (Kd.V_mono (Kd.V_far (p := ⟨gb343, 1, none⟩) (Kd.V_far (p := ⟨gb343, 0, none⟩) (Kd.V_mono HO_345001.out (fun k_ hk => (⟨hk, hk.2.2.1⟩ : _ ∧ k_ ≠ gb343))) (fun _ hk => hk.2) (.bool t358)) (fun _ hk => hk.2) (.slice Ao64 t359.length co64)) (fun _ h_ => h_.1))) hb); have n4_ := Aside0.mk (Kd.V_below (by (with_reducible repeat (first | apply Kd.V_alloc | apply Kd.V_drewN | apply Kd.V_drew)); exact (Kd.V_mono (Kd.V_far (p := ⟨gb343, 1, none⟩) (Kd.V_far (p := ⟨gb343, 0, none⟩) (Kd.V_mono HO348.out (fun k_ hk => (⟨hk, hk.2.2.1⟩ : _ ∧ k_ ≠ gb343))) (fun _ hk => hk.2) (.bool t358)) (fun _ hk => hk.2) (.slice Ao64 t359.length co64)) (fun _ h_ => h_.1))) hb); have n5_ := Aside0.mk (Kd.V_below (by (with_reducible repeat (first | apply Kd.V_alloc | apply Kd.V_drewN | apply Kd.V_drew)); exact (Kd.V_mono (Kd.V_far (p := ⟨gb343, 1, none⟩) (Kd.V_far (p := ⟨gb343, 0, none⟩) (Kd.V_mono HO353.out (fun k_ hk => (⟨hk, hk.2.2.1⟩ : _ ∧ k_ ≠ gb343))) (fun _ hk => hk.2) (.bool t358)) (fun _ hk => hk.2) (.slice Ao64 t359.length co64)) (fun _ h_ => h_.1))) hb); have n6_ := Aside0.mk (Kd.V_below (by (with_reducible repeat (first | apply Kd.V_alloc | apply Kd.V_drewN | apply Kd.V_drew)); exact (Kd.V_mono (Kd.V_far (p := ⟨gb343, 1, none⟩) (Kd.V_far (p := ⟨gb343, 0, none⟩) (Kd.V_mono HO357.out (fun k_ hk => (⟨hk, hk.2.2.1⟩ : _ ∧ k_ ≠ gb343))) (fun _ hk => hk.2) (.bool t358)) (fun _ hk => hk.2) (.slice Ao64 t359.length co64)) (fun _ h_ => h_.1))) hb); have n7_ := Aside0.mk (Kd.V_below (by (with_reducible repeat (first | apply Kd.V_alloc | apply Kd.V_drewN | apply Kd.V_drew)); exact (Kd.V_mono (Kd.V_far (p := ⟨gb343, 1, none⟩) (Kd.V_far (p := ⟨gb343, 0, none⟩) (Kd.V_mono HO361.out (fun k_ hk => (⟨hk, hk.2.2.1⟩ : _ ∧ k_ ≠ gb343))) (fun _ hk => hk.2) (.bool t358)) (fun _ hk => hk.2) (.slice Ao64 t359.length co64)) (fun _ h_ => h_.1))) hb); have n8_ := Aside0.mk (blk_below (g := gb333) (o := .cells #[.bool false, .slice Ao9 t326.length co9] 63 (0, 0)) (by (with_reducible repeat (first | refine blk_drewN ?_ _ | refine blk_drew ?_ | refine blk_alloc ?_ _)); refine blk_far ?_ NB333_343.out _; (with_reducible repeat (first | refine blk_drewN ?_ _ | refine blk_drew ?_ | refine blk_alloc ?_ _)); refine blk_far ?_ NB333_343.out _; (with_reducible repeat (first | refine blk_drewN ?_ _ | refine blk_drew ?_ | refine blk_alloc ?_ _)); exact BK333.out) hb); have n9_ := Aside0.mk (blk_below (g := gb334) (o := .cells #[.bool false, .slice Ao11 t330.length co11] 63 (0, 0)) (by (with_reducible repeat (first | refine blk_drewN ?_ _ | refine blk_drew ?_ | refine blk_alloc ?_ _)); refine blk_far ?_ NB334_343.out _; (with_reducible repeat (first | refine blk_drewN ?_ _ | refine blk_drew ?_ | refine blk_alloc ?_ _)); refine blk_far ?_ NB334_343.out _; (with_reducible repeat (first | refine blk_drewN ?_ _ | refine blk_drew ?_ | refine blk_alloc ?_ _)); exact BK334.out) hb); have n10_ := Aside0.mk (blk_below (g := gb343) (o := .cells #[.bool t358, .slice Ao64 t359.length co64] 63 (0, 0)) (by (with_reducible repeat (first | refine blk_drewN ?_ _ | refine blk_drew ?_ | refine blk_alloc ?_ _)); refine blk_put (cs := #[.bool t358, .slice Ao61 x344001_1.length co61]) ?_ 1 _ rfl; (with_reducible repeat (first | refine blk_drewN ?_ _ | refine blk_drew ?_ | refine blk_alloc ?_ _)); refine blk_put (cs := #[.bool x344000_1, .slice Ao61 x344001_1.length co61]) ?_ 0 _ rfl; (with_reducible repeat (first | refine blk_drewN ?_ _ | refine blk_drew ?_ | refine blk_alloc ?_ _)); exact BK343.out) hb); have n11_ := Aside0.mk (blk_below (g := gb344) (o := .cells #[.bool t354, .slice Ao55 t355.length co55] 63 (0, 0)) (by (with_reducible repeat (first | refine blk_drewN ?_ _ | refine blk_drew ?_ | refine blk_alloc ?_ _)); refine blk_far ?_ NB344_343.out _; (with_reducible repeat (first | refine blk_drewN ?_ _ | refine blk_drew ?_ | refine blk_alloc ?_ _)); refine blk_far ?_ NB344_343.out _; (with_reducible repeat (first | refine blk_drewN ?_ _ | refine blk_drew ?_ | refine blk_alloc ?_ _)); exact BK344.out) hb); have n12_ := Aside0.mk (below_step (by repeat (first | (with_reducible first | exact HB.out | apply below_alloc | apply pw_below_drewN | apply below_drew1 | refine below_set ?_ GE333.out | refine below_set ?_ GE334.out | refine below_set ?_ GE343.out | refine below_set ?_ GE344.out) | exact HB.out)) hb); clear HO_334001; clear HO_335001; clear HO_344001; clear HO_345001; clear HO348; clear HO353; clear HO357; clear HO361; clear BK333; clear BK334; clear BK343; clear BK344; clear HB; have HO_334001 := n0_; have HO_335001 := n1_; have HO_344001 := n2_; have HO_345001 := n3_; have HO348 := n4_; have HO353 := n5_; have HO357 := n6_; have HO361 := n7_; have BK333 := n8_; have BK334 := n9_; have BK343 := n10_; have BK344 := n11_; have HB := n12_; clear n0_ n1_ n2_ n3_ n4_ n5_ n6_ n7_ n8_ n9_ n10_ n11_ n12_; (try clear hb); (try clear hb2); (try clear hk); (try clear hi)))
              have n0_ := Aside0.mk (Kd.V_drew HO_334001.out)
              have n1_ := Aside0.mk (Kd.V_drew HO_335001.out)
              have n2_ := Aside0.mk (Kd.V_drew HO_344001.out)
              have n3_ := Aside0.mk (Kd.V_drew HO_345001.out)
              have n4_ := Aside0.mk (Kd.V_drew HO348.out)
              have n5_ := Aside0.mk (Kd.V_drew HO353.out)
              have n6_ := Aside0.mk (Kd.V_drew HO357.out)
              have n7_ := Aside0.mk (Kd.V_drew HO361.out)
              have n8_ := Aside0.mk (blk_drew BK333.out)
              have n9_ := Aside0.mk (blk_drew BK334.out)
              have n10_ := Aside0.mk (blk_drew BK343.out)
              have n11_ := Aside0.mk (blk_drew BK344.out)
              have n12_ := Aside0.mk (below_drew1 HB.out)
              clear HO_334001
              clear HO_335001
              clear HO_344001
              clear HO_345001
              clear HO348
              clear HO353
              clear HO357
              clear HO361
              clear BK333
              clear BK334
              clear BK343
              clear BK344
              clear HB
              have HO_334001 := n0_
              have HO_335001 := n1_
              have HO_344001 := n2_
              have HO_345001 := n3_
              have HO348 := n4_
              have HO353 := n5_
              have HO357 := n6_
              have HO361 := n7_
              have BK333 := n8_
              have BK334 := n9_
              have BK343 := n10_
              have BK344 := n11_
              have HB := n12_
              clear n0_ n1_ n2_ n3_ n4_ n5_ n6_ n7_ n8_ n9_ n10_ n11_ n12_
              refine start_ (n := 5) (S := fun w' => w'.cell? ⟨gb344, 0, none⟩ = some (.bool t354) ∧ w'.cell? ⟨gb344, 1, none⟩ = some (.slice Ao55 t355.length co55) ∧ w'.cell? ⟨gb334, 0, none⟩ = some (.bool false) ∧ w'.cell? ⟨gb334, 1, none⟩ = some (.slice Ao11 t330.length co11)) (ds := [4]) #[false, false, false, false, false] (by kernel_rfl) rfl rfl ⟨(blk_cell BK344.out 0).trans rfl, (blk_cell BK344.out 1).trans rfl, (blk_cell BK334.out 0).trans rfl, (blk_cell BK334.out 1).trans rfl⟩ (fun hHeld => ?_)
              generalize w70.drew = w71 at HO_334001 HO_335001 HO_344001 HO_345001 HO348 HO353 HO357 HO361 BK333 BK334 BK343 BK344 HB hHeld ⊢
              refine take_ (i := 0) (N := some 54) (v := ?_) (a' := ?_) #[true, false, false, false, false] rfl rfl (by kernel_rfl) (fun _ _ _ h => h) (Or.inl ⟨by rfl, ?_⟩) hHeld ?_ ?_
              rotate_left
              · rintro w' ⟨s0, s1, s2, s3⟩
                go_simp
                with_reducible rfl
              rotate_left
              · simp only [Act.put, List.setIfInBounds_toArray, List.set_cons_zero, List.set_cons_succ, i64_w, i32_w]
                rfl
              refine take_ (i := 1) (N := some 55) (v := ?_) (a' := ?_) #[true, true, false, false, false] rfl rfl (by kernel_rfl) (fun _ _ _ h => h) (Or.inl ⟨by rfl, ?_⟩) hHeld ?_ ?_
              rotate_left
              · rintro w' ⟨s0, s1, s2, s3⟩
                go_simp
                with_reducible rfl
              rotate_left
              · simp only [Act.put, List.setIfInBounds_toArray, List.set_cons_zero, List.set_cons_succ, i64_w, i32_w]
                rfl
              refine one_ (i := 2) (N := some 56) #[true, true, true, false, false] rfl rfl (by kernel_rfl) (by decide) (fun K hK => ?_)
              refine goes_ Try.func55 (by kernel_rfl) rfl #[.agg #[.bool false, .slice Ao11 t330.length co11]] (by rfl) rfl rfl (by (try simp only [List.map_toArray, List.map_cons, List.map_nil]); first | done | rfl | (simp only [List.length_drop, List.length_take]; rfl)) ?_
              with_reducible refine (tabardref01_Minus.calls k1 false (fun k_ => (k_ ≠ gb333 ∧ (k_ ≠ gb334 ∧ (k_ ≠ gb343 ∧ k_ ≠ gb344)))) _ _ t330 t363 t364 _ ?side1 A42.out).mono ?_
              (case side1 => exact HO_335001.out)
              rintro e w72 ⟨v365, rfl, ho0, hb⟩
              refine ⟨_, rfl, ?_⟩
              have n0_ := Aside0.mk (Kd.V_below (by (with_reducible repeat (first | apply Kd.V_alloc | apply Kd.V_drewN | apply Kd.V_drew)); exact HO_334001.out) hb)
              have n1_ := Aside0.mk (Kd.V_below (by (with_reducible repeat (first | apply Kd.V_alloc | apply Kd.V_drewN | apply Kd.V_drew)); exact HO_335001.out) hb)
              have n2_ := Aside0.mk (Kd.V_below (by (with_reducible repeat (first | apply Kd.V_alloc | apply Kd.V_drewN | apply Kd.V_drew)); exact HO_344001.out) hb)
              have n3_ := Aside0.mk (Kd.V_below (by (with_reducible repeat (first | apply Kd.V_alloc | apply Kd.V_drewN | apply Kd.V_drew)); exact HO_345001.out) hb)
              have n4_ := Aside0.mk (Kd.V_below (by (with_reducible repeat (first | apply Kd.V_alloc | apply Kd.V_drewN | apply Kd.V_drew)); exact HO348.out) hb)
              have n5_ := Aside0.mk (Kd.V_below (by (with_reducible repeat (first | apply Kd.V_alloc | apply Kd.V_drewN | apply Kd.V_drew)); exact HO353.out) hb)
              have n6_ := Aside0.mk (Kd.V_below (by (with_reducible repeat (first | apply Kd.V_alloc | apply Kd.V_drewN | apply Kd.V_drew)); exact HO357.out) hb)
              have n7_ := Aside0.mk (Kd.V_below (by (with_reducible repeat (first | apply Kd.V_alloc | apply Kd.V_drewN | apply Kd.V_drew)); exact HO361.out) hb)
              have n8_ := Aside0.mk (Kd.V_lower (Kd.V_mono (ok' := fun k_ => k_ ≠ gb333 ∧ k_ ≠ gb334 ∧ k_ ≠ gb343 ∧ k_ ≠ gb344) ho0 (fun k_ hk_ => ⟨Or.elim hk_ (fun hs_ => hs_.1) (fun hn_ => (Kd.freshB (g := gb333) (o := .cells #[.bool false, .slice Ao9 t326.length co9] 63 (0, 0)) (by (with_reducible repeat (first | refine blk_drewN ?_ _ | refine blk_drew ?_ | refine blk_alloc ?_ _)); exact BK333.out) k_ hn_)), Or.elim hk_ (fun hs_ => hs_.2.1) (fun hn_ => (Kd.freshB (g := gb334) (o := .cells #[.bool false, .slice Ao11 t330.length co11] 63 (0, 0)) (by (with_reducible repeat (first | refine blk_drewN ?_ _ | refine blk_drew ?_ | refine blk_alloc ?_ _)); exact BK334.out) k_ hn_)), Or.elim hk_ (fun hs_ => hs_.2.2.1) (fun hn_ => (Kd.freshB (g := gb343) (o := .cells #[.bool t358, .slice Ao64 t359.length co64] 63 (0, 0)) (by (with_reducible repeat (first | refine blk_drewN ?_ _ | refine blk_drew ?_ | refine blk_alloc ?_ _)); exact BK343.out) k_ hn_)), Or.elim hk_ (fun hs_ => hs_.2.2.2) (fun hn_ => (Kd.freshB (g := gb344) (o := .cells #[.bool t354, .slice Ao55 t355.length co55] 63 (0, 0)) (by (with_reducible repeat (first | refine blk_drewN ?_ _ | refine blk_drew ?_ | refine blk_alloc ?_ _)); exact BK344.out) k_ hn_))⟩)) (below_size (by repeat (first | (with_reducible first | exact HB.out | apply below_alloc | apply pw_below_drewN | apply below_drew1 | refine below_set ?_ GE333.out | refine below_set ?_ GE334.out | refine below_set ?_ GE343.out | refine below_set ?_ GE344.out) | exact HB.out))))
              have n9_ := Aside0.mk (blk_below (g := gb333) (o := .cells #[.bool false, .slice Ao9 t326.length co9] 63 (0, 0)) (by (with_reducible repeat (first | refine blk_drewN ?_ _ | refine blk_drew ?_ | refine blk_alloc ?_ _)); exact BK333.out) hb)
              have n10_ := Aside0.mk (blk_below (g := gb334) (o := .cells #[.bool false, .slice Ao11 t330.length co11] 63 (0, 0)) (by (with_reducible repeat (first | refine blk_drewN ?_ _ | refine blk_drew ?_ | refine blk_alloc ?_ _)); exact BK334.out) hb)
              have n11_ := Aside0.mk (blk_below (g := gb343) (o := .cells #[.bool t358, .slice Ao64 t359.length co64] 63 (0, 0)) (by (with_reducible repeat (first | refine blk_drewN ?_ _ | refine blk_drew ?_ | refine blk_alloc ?_ _)); exact BK343.out) hb)
              have n12_ := Aside0.mk (blk_below (g := gb344) (o := .cells #[.bool t354, .slice Ao55 t355.length co55] 63 (0, 0)) (by (with_reducible repeat (first | refine blk_drewN ?_ _ | refine blk_drew ?_ | refine blk_alloc ?_ _)); exact BK344.out) hb)
              have n13_ := Aside0.mk (below_step (by repeat (first | (with_reducible first | exact HB.out | apply below_alloc | apply pw_below_drewN | apply below_drew1 | refine below_set ?_ GE333.out | refine below_set ?_ GE334.out | refine below_set ?_ GE343.out | refine below_set ?_ GE344.out) | exact HB.out)) hb)
              clear HO_334001
              clear HO_335001
              clear HO_344001
              clear HO_345001
              clear HO348
              clear HO353
              clear HO357
              clear HO361
              clear BK333
              clear BK334
              clear BK343
              clear BK344
              clear HB
              have HO_334001 := n0_
              have HO_335001 := n1_
              have HO_344001 := n2_
              have HO_345001 := n3_
              have HO348 := n4_
              have HO353 := n5_
              have HO357 := n6_
              have HO361 := n7_
              have HO366 := n8_
              have BK333 := n9_
              have BK334 := n10_
              have BK343 := n11_
              have BK344 := n12_
              have HB := n13_
              clear n0_ n1_ n2_ n3_ n4_ n5_ n6_ n7_ n8_ n9_ n10_ n11_ n12_ n13_
              (try clear hb)
              (try clear hb2)
              (try clear hk)
              (try clear hi)
              (try clear ho0)
              obtain ⟨Ao73, co73, eo73⟩ := Kd.V_slice HO366.out
              (first | subst eo73 | (injection eo73 with f1_ f2_ f3_; have f4_ := f1_.symm; have f5_ := f3_.symm; clear f1_ f2_ f3_; subst f4_; subst f5_))
              refine hK.out _ _ ⟨(blk_cell BK344.out 0).trans rfl, (blk_cell BK344.out 1).trans rfl, (blk_cell BK334.out 0).trans rfl, (blk_cell BK334.out 1).trans rfl⟩ (fun hHeld => ?_)
              clear hK K
              refine norm_ (a' := ?_) ?_ ?_
              rotate_left
              · show Act.put _ (some 56) _ = _
                simp only [Act.put, List.setIfInBounds_toArray, List.set_cons_zero, List.set_cons_succ, i64_w, i32_w]
                rfl
              refine one_ (i := 3) (N := some 57) #[true, true, true, true, false] rfl rfl (by kernel_rfl) (by decide) (fun K hK => ?_)
              refine goes_ Try.func54 (by kernel_rfl) rfl #[.agg #[.bool t354, .slice Ao55 t355.length co55], .agg #[.bool t363, .slice Ao73 t364.length co73]] (by rfl) rfl rfl (by (try simp only [List.map_toArray, List.map_cons, List.map_nil]); first | done | rfl | (simp only [List.length_drop, List.length_take]; rfl)) ?_
              with_reducible refine (tabardref01_Plus.calls k1 t354 _ _ t355 t363 _ _ t364 t367 t368 _ ?side1 ?side2 ?side3 ?side4 A43.out).mono ?_
              (case side1 => repeat (first | exact (Kd.V_reads' HO357.out).2.2 | (with_reducible refine Kd.C_alloc ?_ _) | (with_reducible refine Kd.C_drewN ?_ _) | (with_reducible refine Kd.C_drew ?_)))
              (case side2 => exact (Kd.V_reads' HO357.out).2.1)
              (case side3 => repeat (first | exact (Kd.V_reads' HO366.out).2.2 | (with_reducible refine Kd.C_alloc ?_ _) | (with_reducible refine Kd.C_drewN ?_ _) | (with_reducible refine Kd.C_drew ?_)))
              (case side4 => exact (Kd.V_reads' HO366.out).2.1)
              rintro e w74 ⟨v369, rfl, ho0, hb⟩
              refine ⟨_, rfl, ?_⟩
              have n0_ := Aside0.mk (Kd.V_below (by (with_reducible repeat (first | apply Kd.V_alloc | apply Kd.V_drewN | apply Kd.V_drew)); exact HO_334001.out) hb)
              have n1_ := Aside0.mk (Kd.V_below (by (with_reducible repeat (first | apply Kd.V_alloc | apply Kd.V_drewN | apply Kd.V_drew)); exact HO_335001.out) hb)
              have n2_ := Aside0.mk (Kd.V_below (by (with_reducible repeat (first | apply Kd.V_alloc | apply Kd.V_drewN | apply Kd.V_drew)); exact HO_344001.out) hb)
              have n3_ := Aside0.mk (Kd.V_below (by (with_reducible repeat (first | apply Kd.V_alloc | apply Kd.V_drewN | apply Kd.V_drew)); exact HO_345001.out) hb)
              have n4_ := Aside0.mk (Kd.V_below (by (with_reducible repeat (first | apply Kd.V_alloc | apply Kd.V_drewN | apply Kd.V_drew)); exact HO348.out) hb)
              have n5_ := Aside0.mk (Kd.V_below (by (with_reducible repeat (first | apply Kd.V_alloc | apply Kd.V_drewN | apply Kd.V_drew)); exact HO353.out) hb)
              have n6_ := Aside0.mk (Kd.V_below (by (with_reducible repeat (first | apply Kd.V_alloc | apply Kd.V_drewN | apply Kd.V_drew)); exact HO357.out) hb)
              have n7_ := Aside0.mk (Kd.V_below (by (with_reducible repeat (first | apply Kd.V_alloc | apply Kd.V_drewN | apply Kd.V_drew)); exact HO361.out) hb)
              have n8_ := Aside0.mk (Kd.V_below (by (with_reducible repeat (first | apply Kd.V_alloc | apply Kd.V_drewN | apply Kd.V_drew)); exact HO366.out) hb)
              have n9_ := Aside0.mk (Kd.V_lower (Kd.V_mono (ok' := fun k_ => k_ ≠ gb333 ∧ k_ ≠ gb334 ∧ k_ ≠ gb343 ∧ k_ ≠ gb344) ho0 (fun k_ hk_ => ⟨(Kd.freshB (g := gb333) (o := .cells #[.bool false, .slice Ao9 t326.length co9] 63 (0, 0)) (by (with_reducible repeat (first | refine blk_drewN ?_ _ | refine blk_drew ?_ | refine blk_alloc ?_ _)); exact BK333.out) k_ hk_), (Kd.freshB (g := gb334) (o := .cells #[.bool false, .slice Ao11 t330.length co11] 63 (0, 0)) (by (with_reducible repeat (first | refine blk_drewN ?_ _ | refine blk_drew ?_ | refine blk_alloc ?_ _)); exact BK334.out) k_ hk_), (Kd.freshB (g := gb343) (o := .cells #[.bool t358, .slice Ao64 t359.length co64] 63 (0, 0)) (by (with_reducible repeat (first | refine blk_drewN ?_ _ | refine blk_drew ?_ | refine blk_alloc ?_ _)); exact BK343.out) k_ hk_), (Kd.freshB (g := gb344) (o := .cells #[.bool t354, .slice Ao55 t355.length co55] 63 (0, 0)) (by (with_reducible repeat (first | refine blk_drewN ?_ _ | refine blk_drew ?_ | refine blk_alloc ?_ _)); exact BK344.out) k_ hk_)⟩)) (below_size (by repeat (first | (with_reducible first | exact HB.out | apply below_alloc | apply pw_below_drewN | apply below_drew1 | refine below_set ?_ GE333.out | refine below_set ?_ GE334.out | refine below_set ?_ GE343.out | refine below_set ?_ GE344.out) | exact HB.out))))
              have n10_ := Aside0.mk (blk_below (g := gb333) (o := .cells #[.bool false, .slice Ao9 t326.length co9] 63 (0, 0)) (by (with_reducible repeat (first | refine blk_drewN ?_ _ | refine blk_drew ?_ | refine blk_alloc ?_ _)); exact BK333.out) hb)
              have n11_ := Aside0.mk (blk_below (g := gb334) (o := .cells #[.bool false, .slice Ao11 t330.length co11] 63 (0, 0)) (by (with_reducible repeat (first | refine blk_drewN ?_ _ | refine blk_drew ?_ | refine blk_alloc ?_ _)); exact BK334.out) hb)
              have n12_ := Aside0.mk (blk_below (g := gb343) (o := .cells #[.bool t358, .slice Ao64 t359.length co64] 63 (0, 0)) (by (with_reducible repeat (first | refine blk_drewN ?_ _ | refine blk_drew ?_ | refine blk_alloc ?_ _)); exact BK343.out) hb)
              have n13_ := Aside0.mk (blk_below (g := gb344) (o := .cells #[.bool t354, .slice Ao55 t355.length co55] 63 (0, 0)) (by (with_reducible repeat (first | refine blk_drewN ?_ _ | refine blk_drew ?_ | refine blk_alloc ?_ _)); exact BK344.out) hb)
              have n14_ := Aside0.mk (below_step (by repeat (first | (with_reducible first | exact HB.out | apply below_alloc | apply pw_below_drewN | apply below_drew1 | refine below_set ?_ GE333.out | refine below_set ?_ GE334.out | refine below_set ?_ GE343.out | refine below_set ?_ GE344.out) | exact HB.out)) hb)
              clear HO_334001
              clear HO_335001
              clear HO_344001
              clear HO_345001
              clear HO348
              clear HO353
              clear HO357
              clear HO361
              clear HO366
              clear BK333
              clear BK334
              clear BK343
              clear BK344
              clear HB
              have HO_334001 := n0_
              have HO_335001 := n1_
              have HO_344001 := n2_
              have HO_345001 := n3_
              have HO348 := n4_
              have HO353 := n5_
              have HO357 := n6_
              have HO361 := n7_
              have HO366 := n8_
              have HO370 := n9_
              have BK333 := n10_
              have BK334 := n11_
              have BK343 := n12_
              have BK344 := n13_
              have HB := n14_
              clear n0_ n1_ n2_ n3_ n4_ n5_ n6_ n7_ n8_ n9_ n10_ n11_ n12_ n13_ n14_
              (try clear hb)
              (try clear hb2)
              (try clear hk)
              (try clear hi)
              (try clear ho0)
              obtain ⟨Ao76, co76, eo76⟩ := Kd.V_slice HO370.out
              (first | subst eo76 | (injection eo76 with f1_ f2_ f3_; have f4_ := f1_.symm; have f5_ := f3_.symm; clear f1_ f2_ f3_; subst f4_; subst f5_))
              refine hK.out _ _ ⟨(blk_cell BK344.out 0).trans rfl, (blk_cell BK344.out 1).trans rfl, (blk_cell BK334.out 0).trans rfl, (blk_cell BK334.out 1).trans rfl⟩ (fun hHeld => ?_)
              clear hK K
              refine norm_ (a' := ?_) ?_ ?_
              rotate_left
              · show Act.put _ (some 57) _ = _
                simp only [Act.put, List.setIfInBounds_toArray, List.set_cons_zero, List.set_cons_succ, i64_w, i32_w]
                rfl
              refine last_ (i := 4) (N := none) #[true, true, true, true, true] rfl rfl (by kernel_rfl) (by decide) (fun K hK => ?_)
              have hs75 : w74.cell? ⟨gb344, 0, none⟩ = some (.bool t354) := (blk_cell BK344.out 0).trans rfl
              have hfs75 := blk_frozen BK344.out 0
              have hns75_0 := NB333_344.out
              have hns75_1 := NB334_344.out
              have hns75_2 := NB343_344.out
              have hms75_0 := NB344_333.out
              have hms75_1 := NB344_334.out
              have hms75_2 := NB344_343.out
              have hs77 : w74.cell? ⟨gb344, 1, none⟩ = some (.slice Ao55 t355.length co55) := (blk_cell BK344.out 1).trans rfl
              have hfs77 := blk_frozen BK344.out 1
              have hns77_0 := NB333_344.out
              have hns77_1 := NB334_344.out
              have hns77_2 := NB343_344.out
              have hms77_0 := NB344_333.out
              have hms77_1 := NB344_334.out
              have hms77_2 := NB344_343.out
              refine skip_ (w1 := ?_) (by rfl) rfl ?_ ?_
              rotate_left
              · go_simp
                rfl
              refine hK.out _ _ ?_
              clear hK K
              refine done_ (by kernel_rfl) ?_
              try go_wp2
              have n0_ : Aside0 (Kd.V (Kd.int .u64) 67 ((w74.setCell ⟨gb344, 0, none⟩ (.bool t367)).setCell ⟨gb344, 1, none⟩ (.slice Ao76 t368.length co76)) w.heap.size (fun k_ => k_ ≠ gb333 ∧ k_ ≠ gb334 ∧ k_ ≠ gb343 ∧ k_ ≠ gb344) (.slice Ao9 t326.length co9) t326) := ⟨by (with_reducible repeat (first | apply Kd.V_alloc | apply Kd.V_drewN | apply Kd.V_drew)); exact Kd.V_mono (Kd.V_far (p := ⟨gb344, 1, none⟩) (Kd.V_far (p := ⟨gb344, 0, none⟩) (Kd.V_mono HO_334001.out (fun k_ hk => (⟨hk, hk.2.2.2⟩ : _ ∧ k_ ≠ gb344))) (fun _ hk => hk.2) (.bool t367)) (fun _ hk => hk.2) (.slice Ao76 t368.length co76)) (fun _ hk => ⟨hk.1.1, ⟨hk.1.2.1, ⟨hk.1.2.2.1, hk.1.2.2.2⟩⟩⟩)⟩
              have n1_ : Aside0 (Kd.V (Kd.int .u64) 67 ((w74.setCell ⟨gb344, 0, none⟩ (.bool t367)).setCell ⟨gb344, 1, none⟩ (.slice Ao76 t368.length co76)) w.heap.size (fun k_ => k_ ≠ gb333 ∧ k_ ≠ gb334 ∧ k_ ≠ gb343 ∧ k_ ≠ gb344) (.slice Ao11 t330.length co11) t330) := ⟨by (with_reducible repeat (first | apply Kd.V_alloc | apply Kd.V_drewN | apply Kd.V_drew)); exact Kd.V_mono (Kd.V_far (p := ⟨gb344, 1, none⟩) (Kd.V_far (p := ⟨gb344, 0, none⟩) (Kd.V_mono HO_335001.out (fun k_ hk => (⟨hk, hk.2.2.2⟩ : _ ∧ k_ ≠ gb344))) (fun _ hk => hk.2) (.bool t367)) (fun _ hk => hk.2) (.slice Ao76 t368.length co76)) (fun _ hk => ⟨hk.1.1, ⟨hk.1.2.1, ⟨hk.1.2.2.1, hk.1.2.2.2⟩⟩⟩)⟩
              have n2_ : Aside0 (Kd.V (Kd.int .u64) 67 ((w74.setCell ⟨gb344, 0, none⟩ (.bool t367)).setCell ⟨gb344, 1, none⟩ (.slice Ao76 t368.length co76)) w.heap.size (fun k_ => k_ ≠ gb333 ∧ k_ ≠ gb334 ∧ k_ ≠ gb343 ∧ k_ ≠ gb344) (.slice Ao61 x344001_1.length co61) x344001_1) := ⟨by (with_reducible repeat (first | apply Kd.V_alloc | apply Kd.V_drewN | apply Kd.V_drew)); exact Kd.V_mono (Kd.V_far (p := ⟨gb344, 1, none⟩) (Kd.V_far (p := ⟨gb344, 0, none⟩) (Kd.V_mono HO_344001.out (fun k_ hk => (⟨hk, hk.2.2.2⟩ : _ ∧ k_ ≠ gb344))) (fun _ hk => hk.2) (.bool t367)) (fun _ hk => hk.2) (.slice Ao76 t368.length co76)) (fun _ hk => ⟨hk.1.1, ⟨hk.1.2.1, ⟨hk.1.2.2.1, hk.1.2.2.2⟩⟩⟩)⟩
              have n3_ : Aside0 (Kd.V (Kd.int .u64) 67 ((w74.setCell ⟨gb344, 0, none⟩ (.bool t367)).setCell ⟨gb344, 1, none⟩ (.slice Ao76 t368.length co76)) w.heap.size (fun k_ => k_ ≠ gb333 ∧ k_ ≠ gb334 ∧ k_ ≠ gb343 ∧ k_ ≠ gb344) (.slice Ao47 x345001_1.length co47) x345001_1) := ⟨by (with_reducible repeat (first | apply Kd.V_alloc | apply Kd.V_drewN | apply Kd.V_drew)); exact Kd.V_mono (Kd.V_far (p := ⟨gb344, 1, none⟩) (Kd.V_far (p := ⟨gb344, 0, none⟩) (Kd.V_mono HO_345001.out (fun k_ hk => (⟨hk, hk.2.2.2⟩ : _ ∧ k_ ≠ gb344))) (fun _ hk => hk.2) (.bool t367)) (fun _ hk => hk.2) (.slice Ao76 t368.length co76)) (fun _ hk => ⟨hk.1.1, ⟨hk.1.2.1, ⟨hk.1.2.2.1, hk.1.2.2.2⟩⟩⟩)⟩
              have n4_ : Aside0 (Kd.V (Kd.int .u64) 67 ((w74.setCell ⟨gb344, 0, none⟩ (.bool t367)).setCell ⟨gb344, 1, none⟩ (.slice Ao76 t368.length co76)) w.heap.size (fun k_ => k_ ≠ gb333 ∧ k_ ≠ gb334 ∧ k_ ≠ gb343 ∧ k_ ≠ gb344) (.slice Ao51 t346.length co51) t346) := ⟨by (with_reducible repeat (first | apply Kd.V_alloc | apply Kd.V_drewN | apply Kd.V_drew)); exact Kd.V_mono (Kd.V_far (p := ⟨gb344, 1, none⟩) (Kd.V_far (p := ⟨gb344, 0, none⟩) (Kd.V_mono HO348.out (fun k_ hk => (⟨hk, hk.2.2.2⟩ : _ ∧ k_ ≠ gb344))) (fun _ hk => hk.2) (.bool t367)) (fun _ hk => hk.2) (.slice Ao76 t368.length co76)) (fun _ hk => ⟨hk.1.1, ⟨hk.1.2.1, ⟨hk.1.2.2.1, hk.1.2.2.2⟩⟩⟩)⟩
              have n5_ : Aside0 (Kd.V (Kd.int .u64) 67 ((w74.setCell ⟨gb344, 0, none⟩ (.bool t367)).setCell ⟨gb344, 1, none⟩ (.slice Ao76 t368.length co76)) w.heap.size (fun k_ => k_ ≠ gb333 ∧ k_ ≠ gb334 ∧ k_ ≠ gb343 ∧ k_ ≠ gb344) (.slice Ao52 t351.length co52) t351) := ⟨by (with_reducible repeat (first | apply Kd.V_alloc | apply Kd.V_drewN | apply Kd.V_drew)); exact Kd.V_mono (Kd.V_far (p := ⟨gb344, 1, none⟩) (Kd.V_far (p := ⟨gb344, 0, none⟩) (Kd.V_mono HO353.out (fun k_ hk => (⟨hk, hk.2.2.2⟩ : _ ∧ k_ ≠ gb344))) (fun _ hk => hk.2) (.bool t367)) (fun _ hk => hk.2) (.slice Ao76 t368.length co76)) (fun _ hk => ⟨hk.1.1, ⟨hk.1.2.1, ⟨hk.1.2.2.1, hk.1.2.2.2⟩⟩⟩)⟩
              have n6_ : Aside0 (Kd.V (Kd.int .u64) 67 ((w74.setCell ⟨gb344, 0, none⟩ (.bool t367)).setCell ⟨gb344, 1, none⟩ (.slice Ao76 t368.length co76)) w.heap.size (fun k_ => k_ ≠ gb333 ∧ k_ ≠ gb334 ∧ k_ ≠ gb343 ∧ k_ ≠ gb344) (.slice Ao55 t355.length co55) t355) := ⟨by (with_reducible repeat (first | apply Kd.V_alloc | apply Kd.V_drewN | apply Kd.V_drew)); exact Kd.V_mono (Kd.V_far (p := ⟨gb344, 1, none⟩) (Kd.V_far (p := ⟨gb344, 0, none⟩) (Kd.V_mono HO357.out (fun k_ hk => (⟨hk, hk.2.2.2⟩ : _ ∧ k_ ≠ gb344))) (fun _ hk => hk.2) (.bool t367)) (fun _ hk => hk.2) (.slice Ao76 t368.length co76)) (fun _ hk => ⟨hk.1.1, ⟨hk.1.2.1, ⟨hk.1.2.2.1, hk.1.2.2.2⟩⟩⟩)⟩
              have n7_ : Aside0 (Kd.V (Kd.int .u64) 67 ((w74.setCell ⟨gb344, 0, none⟩ (.bool t367)).setCell ⟨gb344, 1, none⟩ (.slice Ao76 t368.length co76)) w.heap.size (fun k_ => k_ ≠ gb333 ∧ k_ ≠ gb334 ∧ k_ ≠ gb343 ∧ k_ ≠ gb344) (.slice Ao64 t359.length co64) t359) := ⟨by (with_reducible repeat (first | apply Kd.V_alloc | apply Kd.V_drewN | apply Kd.V_drew)); exact Kd.V_mono (Kd.V_far (p := ⟨gb344, 1, none⟩) (Kd.V_far (p := ⟨gb344, 0, none⟩) (Kd.V_mono HO361.out (fun k_ hk => (⟨hk, hk.2.2.2⟩ : _ ∧ k_ ≠ gb344))) (fun _ hk => hk.2) (.bool t367)) (fun _ hk => hk.2) (.slice Ao76 t368.length co76)) (fun _ hk => ⟨hk.1.1, ⟨hk.1.2.1, ⟨hk.1.2.2.1, hk.1.2.2.2⟩⟩⟩)⟩
              have n8_ : Aside0 (Kd.V (Kd.int .u64) 67 ((w74.setCell ⟨gb344, 0, none⟩ (.bool t367)).setCell ⟨gb344, 1, none⟩ (.slice Ao76 t368.length co76)) w.heap.size (fun k_ => k_ ≠ gb333 ∧ k_ ≠ gb334 ∧ k_ ≠ gb343 ∧ k_ ≠ gb344) (.slice Ao73 t364.length co73) t364) := ⟨by (with_reducible repeat (first | apply Kd.V_alloc | apply Kd.V_drewN | apply Kd.V_drew)); exact Kd.V_mono (Kd.V_far (p := ⟨gb344, 1, none⟩) (Kd.V_far (p := ⟨gb344, 0, none⟩) (Kd.V_mono HO366.out (fun k_ hk => (⟨hk, hk.2.2.2⟩ : _ ∧ k_ ≠ gb344))) (fun _ hk => hk.2) (.bool t367)) (fun _ hk => hk.2) (.slice Ao76 t368.length co76)) (fun _ hk => ⟨hk.1.1, ⟨hk.1.2.1, ⟨hk.1.2.2.1, hk.1.2.2.2⟩⟩⟩)⟩
              have n9_ : Aside0 (Kd.V (Kd.int .u64) 67 ((w74.setCell ⟨gb344, 0, none⟩ (.bool t367)).setCell ⟨gb344, 1, none⟩ (.slice Ao76 t368.length co76)) w.heap.size (fun k_ => k_ ≠ gb333 ∧ k_ ≠ gb334 ∧ k_ ≠ gb343 ∧ k_ ≠ gb344) (.slice Ao76 t368.length co76) t368) := ⟨by (with_reducible repeat (first | apply Kd.V_alloc | apply Kd.V_drewN | apply Kd.V_drew)); exact Kd.V_mono (Kd.V_far (p := ⟨gb344, 1, none⟩) (Kd.V_far (p := ⟨gb344, 0, none⟩) (Kd.V_mono HO370.out (fun k_ hk => (⟨hk, hk.2.2.2⟩ : _ ∧ k_ ≠ gb344))) (fun _ hk => hk.2) (.bool t367)) (fun _ hk => hk.2) (.slice Ao76 t368.length co76)) (fun _ hk => ⟨hk.1.1, ⟨hk.1.2.1, ⟨hk.1.2.2.1, hk.1.2.2.2⟩⟩⟩)⟩
              have n10_ : Aside0 (((w74.setCell ⟨gb344, 0, none⟩ (.bool t367)).setCell ⟨gb344, 1, none⟩ (.slice Ao76 t368.length co76)).heap[gb333]? = some (.cells #[.bool false, .slice Ao9 t326.length co9] 63 (0, 0))) := ⟨by (with_reducible repeat (first | refine blk_drewN ?_ _ | refine blk_drew ?_ | refine blk_alloc ?_ _)); refine blk_far ?_ NB333_344.out _; (with_reducible repeat (first | refine blk_drewN ?_ _ | refine blk_drew ?_ | refine blk_alloc ?_ _)); refine blk_far ?_ NB333_344.out _; (with_reducible repeat (first | refine blk_drewN ?_ _ | refine blk_drew ?_ | refine blk_alloc ?_ _)); exact BK333.out⟩
              have n11_ : Aside0 (((w74.setCell ⟨gb344, 0, none⟩ (.bool t367)).setCell ⟨gb344, 1, none⟩ (.slice Ao76 t368.length co76)).heap[gb334]? = some (.cells #[.bool false, .slice Ao11 t330.length co11] 63 (0, 0))) := ⟨by (with_reducible repeat (first | refine blk_drewN ?_ _ | refine blk_drew ?_ | refine blk_alloc ?_ _)); refine blk_far ?_ NB334_344.out _; (with_reducible repeat (first | refine blk_drewN ?_ _ | refine blk_drew ?_ | refine blk_alloc ?_ _)); refine blk_far ?_ NB334_344.out _; (with_reducible repeat (first | refine blk_drewN ?_ _ | refine blk_drew ?_ | refine blk_alloc ?_ _)); exact BK334.out⟩
              have n12_ : Aside0 (((w74.setCell ⟨gb344, 0, none⟩ (.bool t367)).setCell ⟨gb344, 1, none⟩ (.slice Ao76 t368.length co76)).heap[gb343]? = some (.cells #[.bool t358, .slice Ao64 t359.length co64] 63 (0, 0))) := ⟨by (with_reducible repeat (first | refine blk_drewN ?_ _ | refine blk_drew ?_ | refine blk_alloc ?_ _)); refine blk_far ?_ NB343_344.out _; (with_reducible repeat (first | refine blk_drewN ?_ _ | refine blk_drew ?_ | refine blk_alloc ?_ _)); refine blk_far ?_ NB343_344.out _; (with_reducible repeat (first | refine blk_drewN ?_ _ | refine blk_drew ?_ | refine blk_alloc ?_ _)); exact BK343.out⟩
              have n13_ : Aside0 (((w74.setCell ⟨gb344, 0, none⟩ (.bool t367)).setCell ⟨gb344, 1, none⟩ (.slice Ao76 t368.length co76)).heap[gb344]? = some (.cells #[.bool t367, .slice Ao76 t368.length co76] 63 (0, 0))) := ⟨by (with_reducible repeat (first | refine blk_drewN ?_ _ | refine blk_drew ?_ | refine blk_alloc ?_ _)); refine blk_put (cs := #[.bool t367, .slice Ao55 t355.length co55]) ?_ 1 _ rfl; (with_reducible repeat (first | refine blk_drewN ?_ _ | refine blk_drew ?_ | refine blk_alloc ?_ _)); refine blk_put (cs := #[.bool t354, .slice Ao55 t355.length co55]) ?_ 0 _ rfl; (with_reducible repeat (first | refine blk_drewN ?_ _ | refine blk_drew ?_ | refine blk_alloc ?_ _)); exact BK344.out⟩
              have n14_ : Aside0 (Below w.heap.size w ((w74.setCell ⟨gb344, 0, none⟩ (.bool t367)).setCell ⟨gb344, 1, none⟩ (.slice Ao76 t368.length co76))) := ⟨by repeat (first | (with_reducible first | exact HB.out | apply below_alloc | apply pw_below_drewN | apply below_drew1 | refine below_set ?_ GE333.out | refine below_set ?_ GE334.out | refine below_set ?_ GE343.out | refine below_set ?_ GE344.out) | exact HB.out)⟩
              (try clear HO_334001)
              (try clear HO_335001)
              (try clear HO_344001)
              (try clear HO_345001)
              (try clear HO348)
              (try clear HO353)
              (try clear HO357)
              (try clear HO361)
              (try clear HO366)
              (try clear HO370)
              (try clear BK333)
              (try clear BK334)
              (try clear BK343)
              (try clear BK344)
              (try clear HB)
              generalize ((w74.setCell ⟨gb344, 0, none⟩ (.bool t367)).setCell ⟨gb344, 1, none⟩ (.slice Ao76 t368.length co76)) = w78 at n0_ n1_ n2_ n3_ n4_ n5_ n6_ n7_ n8_ n9_ n10_ n11_ n12_ n13_ n14_ ⊢
              have HO_334001 := n0_
              have HO_335001 := n1_
              have HO_344001 := n2_
              have HO_345001 := n3_
              have HO348 := n4_
              have HO353 := n5_
              have HO357 := n6_
              have HO361 := n7_
              have HO366 := n8_
              have HO370 := n9_
              have BK333 := n10_
              have BK334 := n11_
              have BK343 := n12_
              have BK344 := n13_
              have HB := n14_
              clear n0_ n1_ n2_ n3_ n4_ n5_ n6_ n7_ n8_ n9_ n10_ n11_ n12_ n13_ n14_
              have n0_ := Aside0.mk (Kd.V_drew HO_334001.out)
              have n1_ := Aside0.mk (Kd.V_drew HO_335001.out)
              have n2_ := Aside0.mk (Kd.V_drew HO_344001.out)
              have n3_ := Aside0.mk (Kd.V_drew HO_345001.out)
              have n4_ := Aside0.mk (Kd.V_drew HO348.out)
              have n5_ := Aside0.mk (Kd.V_drew HO353.out)
              have n6_ := Aside0.mk (Kd.V_drew HO357.out)
              have n7_ := Aside0.mk (Kd.V_drew HO361.out)
              have n8_ := Aside0.mk (Kd.V_drew HO366.out)
              have n9_ := Aside0.mk (Kd.V_drew HO370.out)
              have n10_ := Aside0.mk (blk_drew BK333.out)
              have n11_ := Aside0.mk (blk_drew BK334.out)
              have n12_ := Aside0.mk (blk_drew BK343.out)
              have n13_ := Aside0.mk (blk_drew BK344.out)
              have n14_ := Aside0.mk (below_drew1 HB.out)
              clear HO_334001
              clear HO_335001
              clear HO_344001
              clear HO_345001
              clear HO348
              clear HO353
              clear HO357
              clear HO361
              clear HO366
              clear HO370
              clear BK333
              clear BK334
              clear BK343
              clear BK344
              clear HB
              have HO_334001 := n0_
              have HO_335001 := n1_
              have HO_344001 := n2_
              have HO_345001 := n3_
              have HO348 := n4_
              have HO353 := n5_
              have HO357 := n6_
              have HO361 := n7_
              have HO366 := n8_
              have HO370 := n9_
              have BK333 := n10_
              have BK334 := n11_
              have BK343 := n12_
              have BK344 := n13_
              have HB := n14_
              clear n0_ n1_ n2_ n3_ n4_ n5_ n6_ n7_ n8_ n9_ n10_ n11_ n12_ n13_ n14_
              refine start_ (n := 4) (S := fun w' => w'.cell? ⟨gb343, 0, none⟩ = some (.bool t358) ∧ w'.cell? ⟨gb343, 1, none⟩ = some (.slice Ao64 t359.length co64)) (ds := [3]) #[false, false, false, false] (by kernel_rfl) rfl rfl ⟨(blk_cell BK343.out 0).trans rfl, (blk_cell BK343.out 1).trans rfl⟩ (fun hHeld => ?_)
              generalize w78.drew = w79 at HO_334001 HO_335001 HO_344001 HO_345001 HO348 HO353 HO357 HO361 HO366 HO370 BK333 BK334 BK343 BK344 HB hHeld ⊢
              refine take_ (i := 0) (N := some 58) (v := ?_) (a' := ?_) #[true, false, false, false] rfl rfl (by kernel_rfl) (fun _ _ _ h => h) (Or.inl ⟨by rfl, ?_⟩) hHeld ?_ ?_
              rotate_left
              · rintro w' ⟨s0, s1⟩
                go_simp
                with_reducible rfl
              rotate_left
              · simp only [Act.put, List.setIfInBounds_toArray, List.set_cons_zero, List.set_cons_succ, i64_w, i32_w]
                rfl
              refine one_ (i := 1) (N := some 59) #[true, true, false, false] rfl rfl (by kernel_rfl) (by decide) (fun K hK => ?_)
              refine goes_ Try.func53 (by kernel_rfl) rfl #[.int .i64 1] (by rfl) rfl rfl (by (try simp only [List.map_toArray, List.map_cons, List.map_nil]); first | done | rfl | (simp only [List.length_drop, List.length_take]; rfl)) ?_
              with_reducible refine (tabardref01_Of.calls k1 1 t371 t372 _ A44.out).mono ?_
              rintro e w80 ⟨v373, rfl, ho0, hb⟩
              refine ⟨_, rfl, ?_⟩
              have n0_ := Aside0.mk (Kd.V_below (by (with_reducible repeat (first | apply Kd.V_alloc | apply Kd.V_drewN | apply Kd.V_drew)); exact HO_334001.out) hb)
              have n1_ := Aside0.mk (Kd.V_below (by (with_reducible repeat (first | apply Kd.V_alloc | apply Kd.V_drewN | apply Kd.V_drew)); exact HO_335001.out) hb)
              have n2_ := Aside0.mk (Kd.V_below (by (with_reducible repeat (first | apply Kd.V_alloc | apply Kd.V_drewN | apply Kd.V_drew)); exact HO_344001.out) hb)
              have n3_ := Aside0.mk (Kd.V_below (by (with_reducible repeat (first | apply Kd.V_alloc | apply Kd.V_drewN | apply Kd.V_drew)); exact HO_345001.out) hb)
              have n4_ := Aside0.mk (Kd.V_below (by (with_reducible repeat (first | apply Kd.V_alloc | apply Kd.V_drewN | apply Kd.V_drew)); exact HO348.out) hb)
              have n5_ := Aside0.mk (Kd.V_below (by (with_reducible repeat (first | apply Kd.V_alloc | apply Kd.V_drewN | apply Kd.V_drew)); exact HO353.out) hb)
              have n6_ := Aside0.mk (Kd.V_below (by (with_reducible repeat (first | apply Kd.V_alloc | apply Kd.V_drewN | apply Kd.V_drew)); exact HO357.out) hb)
              have n7_ := Aside0.mk (Kd.V_below (by (with_reducible repeat (first | apply Kd.V_alloc | apply Kd.V_drewN | apply Kd.V_drew)); exact HO361.out) hb)
              have n8_ := Aside0.mk (Kd.V_below (by (with_reducible repeat (first | apply Kd.V_alloc | apply Kd.V_drewN | apply Kd.V_drew)); exact HO366.out) hb)
              have n9_ := Aside0.mk (Kd.V_below (by (with_reducible repeat (first | apply Kd.V_alloc | apply Kd.V_drewN | apply Kd.V_drew)); exact HO370.out) hb)
              have n10_ := Aside0.mk (Kd.V_lower (Kd.V_mono (ok' := fun k_ => k_ ≠ gb333 ∧ k_ ≠ gb334 ∧ k_ ≠ gb343 ∧ k_ ≠ gb344) ho0 (fun k_ hk_ => ⟨(Kd.freshB (g := gb333) (o := .cells #[.bool false, .slice Ao9 t326.length co9] 63 (0, 0)) (by (with_reducible repeat (first | refine blk_drewN ?_ _ | refine blk_drew ?_ | refine blk_alloc ?_ _)); exact BK333.out) k_ hk_), (Kd.freshB (g := gb334) (o := .cells #[.bool false, .slice Ao11 t330.length co11] 63 (0, 0)) (by (with_reducible repeat (first | refine blk_drewN ?_ _ | refine blk_drew ?_ | refine blk_alloc ?_ _)); exact BK334.out) k_ hk_), (Kd.freshB (g := gb343) (o := .cells #[.bool t358, .slice Ao64 t359.length co64] 63 (0, 0)) (by (with_reducible repeat (first | refine blk_drewN ?_ _ | refine blk_drew ?_ | refine blk_alloc ?_ _)); exact BK343.out) k_ hk_), (Kd.freshB (g := gb344) (o := .cells #[.bool t367, .slice Ao76 t368.length co76] 63 (0, 0)) (by (with_reducible repeat (first | refine blk_drewN ?_ _ | refine blk_drew ?_ | refine blk_alloc ?_ _)); exact BK344.out) k_ hk_)⟩)) (below_size (by repeat (first | (with_reducible first | exact HB.out | apply below_alloc | apply pw_below_drewN | apply below_drew1 | refine below_set ?_ GE333.out | refine below_set ?_ GE334.out | refine below_set ?_ GE343.out | refine below_set ?_ GE344.out) | exact HB.out))))
              have n11_ := Aside0.mk (blk_below (g := gb333) (o := .cells #[.bool false, .slice Ao9 t326.length co9] 63 (0, 0)) (by (with_reducible repeat (first | refine blk_drewN ?_ _ | refine blk_drew ?_ | refine blk_alloc ?_ _)); exact BK333.out) hb)
              have n12_ := Aside0.mk (blk_below (g := gb334) (o := .cells #[.bool false, .slice Ao11 t330.length co11] 63 (0, 0)) (by (with_reducible repeat (first | refine blk_drewN ?_ _ | refine blk_drew ?_ | refine blk_alloc ?_ _)); exact BK334.out) hb)
              have n13_ := Aside0.mk (blk_below (g := gb343) (o := .cells #[.bool t358, .slice Ao64 t359.length co64] 63 (0, 0)) (by (with_reducible repeat (first | refine blk_drewN ?_ _ | refine blk_drew ?_ | refine blk_alloc ?_ _)); exact BK343.out) hb)
              have n14_ := Aside0.mk (blk_below (g := gb344) (o := .cells #[.bool t367, .slice Ao76 t368.length co76] 63 (0, 0)) (by (with_reducible repeat (first | refine blk_drewN ?_ _ | refine blk_drew ?_ | refine blk_alloc ?_ _)); exact BK344.out) hb)
              have n15_ := Aside0.mk (below_step (by repeat (first | (with_reducible first | exact HB.out | apply below_alloc | apply pw_below_drewN | apply below_drew1 | refine below_set ?_ GE333.out | refine below_set ?_ GE334.out | refine below_set ?_ GE343.out | refine below_set ?_ GE344.out) | exact HB.out)) hb)
              clear HO_334001
              clear HO_335001
              clear HO_344001
              clear HO_345001
              clear HO348
              clear HO353
              clear HO357
              clear HO361
              clear HO366
              clear HO370
              clear BK333
              clear BK334
              clear BK343
              clear BK344
              clear HB
              have HO_334001 := n0_
              have HO_335001 := n1_
              have HO_344001 := n2_
              have HO_345001 := n3_
              have HO348 := n4_
              have HO353 := n5_
              have HO357 := n6_
              have HO361 := n7_
              have HO366 := n8_
              have HO370 := n9_
              have HO374 := n10_
              have BK333 := n11_
              have BK334 := n12_
              have BK343 := n13_
              have BK344 := n14_
              have HB := n15_
              clear n0_ n1_ n2_ n3_ n4_ n5_ n6_ n7_ n8_ n9_ n10_ n11_ n12_ n13_ n14_ n15_
              (try clear hb)
              (try clear hb2)
              (try clear hk)
              (try clear hi)
              (try clear ho0)
              obtain ⟨Ao81, co81, eo81⟩ := Kd.V_slice HO374.out
              (first | subst eo81 | (injection eo81 with f1_ f2_ f3_; have f4_ := f1_.symm; have f5_ := f3_.symm; clear f1_ f2_ f3_; subst f4_; subst f5_))
              refine hK.out _ _ ⟨(blk_cell BK343.out 0).trans rfl, (blk_cell BK343.out 1).trans rfl⟩ (fun hHeld => ?_)
              clear hK K
              refine norm_ (a' := ?_) ?_ ?_
              rotate_left
              · show Act.put _ (some 59) _ = _
                simp only [Act.put, List.setIfInBounds_toArray, List.set_cons_zero, List.set_cons_succ, i64_w, i32_w]
                rfl
              refine one_ (i := 2) (N := some 60) #[true, true, true, false] rfl rfl (by kernel_rfl) (by decide) (fun K hK => ?_)
              refine goes_ Try.func54 (by kernel_rfl) rfl #[.agg #[.bool t358, .slice Ao64 t359.length co64], .agg #[.bool t371, .slice Ao81 t372.length co81]] (by rfl) rfl rfl (by (try simp only [List.map_toArray, List.map_cons, List.map_nil]); first | done | rfl | (simp only [List.length_drop, List.length_take]; rfl)) ?_
              with_reducible refine (tabardref01_Plus.calls k1 t358 _ _ t359 t371 _ _ t372 t375 t376 _ ?side1 ?side2 ?side3 ?side4 A45.out).mono ?_
              (case side1 => repeat (first | exact (Kd.V_reads' HO361.out).2.2 | (with_reducible refine Kd.C_alloc ?_ _) | (with_reducible refine Kd.C_drewN ?_ _) | (with_reducible refine Kd.C_drew ?_)))
              (case side2 => exact (Kd.V_reads' HO361.out).2.1)
              (case side3 => repeat (first | exact (Kd.V_reads' HO374.out).2.2 | (with_reducible refine Kd.C_alloc ?_ _) | (with_reducible refine Kd.C_drewN ?_ _) | (with_reducible refine Kd.C_drew ?_)))
              (case side4 => exact (Kd.V_reads' HO374.out).2.1)
              rintro e w82 ⟨v377, rfl, ho0, hb⟩
              refine ⟨_, rfl, ?_⟩
              have n0_ := Aside0.mk (Kd.V_below (by (with_reducible repeat (first | apply Kd.V_alloc | apply Kd.V_drewN | apply Kd.V_drew)); exact HO_334001.out) hb)
              have n1_ := Aside0.mk (Kd.V_below (by (with_reducible repeat (first | apply Kd.V_alloc | apply Kd.V_drewN | apply Kd.V_drew)); exact HO_335001.out) hb)
              have n2_ := Aside0.mk (Kd.V_below (by (with_reducible repeat (first | apply Kd.V_alloc | apply Kd.V_drewN | apply Kd.V_drew)); exact HO_344001.out) hb)
              have n3_ := Aside0.mk (Kd.V_below (by (with_reducible repeat (first | apply Kd.V_alloc | apply Kd.V_drewN | apply Kd.V_drew)); exact HO_345001.out) hb)
              have n4_ := Aside0.mk (Kd.V_below (by (with_reducible repeat (first | apply Kd.V_alloc | apply Kd.V_drewN | apply Kd.V_drew)); exact HO348.out) hb)
              have n5_ := Aside0.mk (Kd.V_below (by (with_reducible repeat (first | apply Kd.V_alloc | apply Kd.V_drewN | apply Kd.V_drew)); exact HO353.out) hb)
              have n6_ := Aside0.mk (Kd.V_below (by (with_reducible repeat (first | apply Kd.V_alloc | apply Kd.V_drewN | apply Kd.V_drew)); exact HO357.out) hb)
              have n7_ := Aside0.mk (Kd.V_below (by (with_reducible repeat (first | apply Kd.V_alloc | apply Kd.V_drewN | apply Kd.V_drew)); exact HO361.out) hb)
              have n8_ := Aside0.mk (Kd.V_below (by (with_reducible repeat (first | apply Kd.V_alloc | apply Kd.V_drewN | apply Kd.V_drew)); exact HO366.out) hb)
              have n9_ := Aside0.mk (Kd.V_below (by (with_reducible repeat (first | apply Kd.V_alloc | apply Kd.V_drewN | apply Kd.V_drew)); exact HO370.out) hb)
              have n10_ := Aside0.mk (Kd.V_below (by (with_reducible repeat (first | apply Kd.V_alloc | apply Kd.V_drewN | apply Kd.V_drew)); exact HO374.out) hb)
              have n11_ := Aside0.mk (Kd.V_lower (Kd.V_mono (ok' := fun k_ => k_ ≠ gb333 ∧ k_ ≠ gb334 ∧ k_ ≠ gb343 ∧ k_ ≠ gb344) ho0 (fun k_ hk_ => ⟨(Kd.freshB (g := gb333) (o := .cells #[.bool false, .slice Ao9 t326.length co9] 63 (0, 0)) (by (with_reducible repeat (first | refine blk_drewN ?_ _ | refine blk_drew ?_ | refine blk_alloc ?_ _)); exact BK333.out) k_ hk_), (Kd.freshB (g := gb334) (o := .cells #[.bool false, .slice Ao11 t330.length co11] 63 (0, 0)) (by (with_reducible repeat (first | refine blk_drewN ?_ _ | refine blk_drew ?_ | refine blk_alloc ?_ _)); exact BK334.out) k_ hk_), (Kd.freshB (g := gb343) (o := .cells #[.bool t358, .slice Ao64 t359.length co64] 63 (0, 0)) (by (with_reducible repeat (first | refine blk_drewN ?_ _ | refine blk_drew ?_ | refine blk_alloc ?_ _)); exact BK343.out) k_ hk_), (Kd.freshB (g := gb344) (o := .cells #[.bool t367, .slice Ao76 t368.length co76] 63 (0, 0)) (by (with_reducible repeat (first | refine blk_drewN ?_ _ | refine blk_drew ?_ | refine blk_alloc ?_ _)); exact BK344.out) k_ hk_)⟩)) (below_size (by repeat (first | (with_reducible first | exact HB.out | apply below_alloc | apply pw_below_drewN | apply below_drew1 | refine below_set ?_ GE333.out | refine below_set ?_ GE334.out | refine below_set ?_ GE343.out | refine below_set ?_ GE344.out) | exact HB.out))))
              have n12_ := Aside0.mk (blk_below (g := gb333) (o := .cells #[.bool false, .slice Ao9 t326.length co9] 63 (0, 0)) (by (with_reducible repeat (first | refine blk_drewN ?_ _ | refine blk_drew ?_ | refine blk_alloc ?_ _)); exact BK333.out) hb)
              have n13_ := Aside0.mk (blk_below (g := gb334) (o := .cells #[.bool false, .slice Ao11 t330.length co11] 63 (0, 0)) (by (with_reducible repeat (first | refine blk_drewN ?_ _ | refine blk_drew ?_ | refine blk_alloc ?_ _)); exact BK334.out) hb)
              have n14_ := Aside0.mk (blk_below (g := gb343) (o := .cells #[.bool t358, .slice Ao64 t359.length co64] 63 (0, 0)) (by (with_reducible repeat (first | refine blk_drewN ?_ _ | refine blk_drew ?_ | refine blk_alloc ?_ _)); exact BK343.out) hb)
              have n15_ := Aside0.mk (blk_below (g := gb344) (o := .cells #[.bool t367, .slice Ao76 t368.length co76] 63 (0, 0)) (by (with_reducible repeat (first | refine blk_drewN ?_ _ | refine blk_drew ?_ | refine blk_alloc ?_ _)); exact BK344.out) hb)
              have n16_ := Aside0.mk (below_step (by repeat (first | (with_reducible first | exact HB.out | apply below_alloc | apply pw_below_drewN | apply below_drew1 | refine below_set ?_ GE333.out | refine below_set ?_ GE334.out | refine below_set ?_ GE343.out | refine below_set ?_ GE344.out) | exact HB.out)) hb)
              clear HO_334001
              clear HO_335001
              clear HO_344001
              clear HO_345001
              clear HO348
              clear HO353
              clear HO357
              clear HO361
              clear HO366
              clear HO370
              clear HO374
              clear BK333
              clear BK334
              clear BK343
              clear BK344
              clear HB
              have HO_334001 := n0_
              have HO_335001 := n1_
              have HO_344001 := n2_
              have HO_345001 := n3_
              have HO348 := n4_
              have HO353 := n5_
              have HO357 := n6_
              have HO361 := n7_
              have HO366 := n8_
              have HO370 := n9_
              have HO374 := n10_
              have HO378 := n11_
              have BK333 := n12_
              have BK334 := n13_
              have BK343 := n14_
              have BK344 := n15_
              have HB := n16_
              clear n0_ n1_ n2_ n3_ n4_ n5_ n6_ n7_ n8_ n9_ n10_ n11_ n12_ n13_ n14_ n15_ n16_
              (try clear hb)
              (try clear hb2)
              (try clear hk)
              (try clear hi)
              (try clear ho0)
              obtain ⟨Ao84, co84, eo84⟩ := Kd.V_slice HO378.out
              (first | subst eo84 | (injection eo84 with f1_ f2_ f3_; have f4_ := f1_.symm; have f5_ := f3_.symm; clear f1_ f2_ f3_; subst f4_; subst f5_))
              refine hK.out _ _ ⟨(blk_cell BK343.out 0).trans rfl, (blk_cell BK343.out 1).trans rfl⟩ (fun hHeld => ?_)
              clear hK K
              refine norm_ (a' := ?_) ?_ ?_
              rotate_left
              · show Act.put _ (some 60) _ = _
                simp only [Act.put, List.setIfInBounds_toArray, List.set_cons_zero, List.set_cons_succ, i64_w, i32_w]
                rfl
              refine last_ (i := 3) (N := none) #[true, true, true, true] rfl rfl (by kernel_rfl) (by decide) (fun K hK => ?_)
              have hs83 : w82.cell? ⟨gb343, 0, none⟩ = some (.bool t358) := (blk_cell BK343.out 0).trans rfl
              have hfs83 := blk_frozen BK343.out 0
              have hns83_0 := NB333_343.out
              have hns83_1 := NB334_343.out
              have hns83_3 := NB344_343.out
              have hms83_0 := NB343_333.out
              have hms83_1 := NB343_334.out
              have hms83_3 := NB343_344.out
              have hs85 : w82.cell? ⟨gb343, 1, none⟩ = some (.slice Ao64 t359.length co64) := (blk_cell BK343.out 1).trans rfl
              have hfs85 := blk_frozen BK343.out 1
              have hns85_0 := NB333_343.out
              have hns85_1 := NB334_343.out
              have hns85_3 := NB344_343.out
              have hms85_0 := NB343_333.out
              have hms85_1 := NB343_334.out
              have hms85_3 := NB343_344.out
              refine skip_ (w1 := ?_) (by rfl) rfl ?_ ?_
              rotate_left
              · go_simp
                rfl
              refine hK.out _ _ ?_
              clear hK K
              refine done_ (by kernel_rfl) ?_
              try go_wp2
              go_roundg k1
              case measure => have := HK1.out; omega
              case rel => exact ⟨(wrap64 (x10_1 - 1)), (t375), (t376), (t367), (t368), (.slice Ao84 t376.length co84), (.slice Ao76 t368.length co76), (by first | rfl | (simp; done) | (simp [*]; done)), H', ⟨by have := HK1.out; omega⟩, ⟨by (with_reducible repeat (first | apply Kd.V_alloc | apply Kd.V_drewN | apply Kd.V_drew)); exact Kd.V_mono (Kd.V_far (p := ⟨gb343, 1, none⟩) (Kd.V_far (p := ⟨gb343, 0, none⟩) (Kd.V_mono HO_334001.out (fun k_ hk => (⟨hk, hk.2.2.1⟩ : _ ∧ k_ ≠ gb343))) (fun _ hk => hk.2) (.bool t375)) (fun _ hk => hk.2) (.slice Ao84 t376.length co84)) (fun _ hk => ⟨hk.1.1, ⟨hk.1.2.1, ⟨hk.1.2.2.1, hk.1.2.2.2⟩⟩⟩)⟩, ⟨by (with_reducible repeat (first | apply Kd.V_alloc | apply Kd.V_drewN | apply Kd.V_drew)); exact Kd.V_mono (Kd.V_far (p := ⟨gb343, 1, none⟩) (Kd.V_far (p := ⟨gb343, 0, none⟩) (Kd.V_mono HO_335001.out (fun k_ hk => (⟨hk, hk.2.2.1⟩ : _ ∧ k_ ≠ gb343))) (fun _ hk => hk.2) (.bool t375)) (fun _ hk => hk.2) (.slice Ao84 t376.length co84)) (fun _ hk => ⟨hk.1.1, ⟨hk.1.2.1, ⟨hk.1.2.2.1, hk.1.2.2.2⟩⟩⟩)⟩, ⟨by (with_reducible repeat (first | apply Kd.V_alloc | apply Kd.V_drewN | apply Kd.V_drew)); exact Kd.V_mono (Kd.V_far (p := ⟨gb343, 1, none⟩) (Kd.V_far (p := ⟨gb343, 0, none⟩) (Kd.V_mono HO378.out (fun k_ hk => (⟨hk, hk.2.2.1⟩ : _ ∧ k_ ≠ gb343))) (fun _ hk => hk.2) (.bool t375)) (fun _ hk => hk.2) (.slice Ao84 t376.length co84)) (fun _ hk => ⟨hk.1.1, ⟨hk.1.2.1, ⟨hk.1.2.2.1, hk.1.2.2.2⟩⟩⟩)⟩, ⟨by (with_reducible repeat (first | apply Kd.V_alloc | apply Kd.V_drewN | apply Kd.V_drew)); exact Kd.V_mono (Kd.V_far (p := ⟨gb343, 1, none⟩) (Kd.V_far (p := ⟨gb343, 0, none⟩) (Kd.V_mono HO370.out (fun k_ hk => (⟨hk, hk.2.2.1⟩ : _ ∧ k_ ≠ gb343))) (fun _ hk => hk.2) (.bool t375)) (fun _ hk => hk.2) (.slice Ao84 t376.length co84)) (fun _ hk => ⟨hk.1.1, ⟨hk.1.2.1, ⟨hk.1.2.2.1, hk.1.2.2.2⟩⟩⟩)⟩, ⟨by (with_reducible repeat (first | refine blk_drewN ?_ _ | refine blk_drew ?_ | refine blk_alloc ?_ _)); refine blk_far ?_ NB333_343.out _; (with_reducible repeat (first | refine blk_drewN ?_ _ | refine blk_drew ?_ | refine blk_alloc ?_ _)); refine blk_far ?_ NB333_343.out _; (with_reducible repeat (first | refine blk_drewN ?_ _ | refine blk_drew ?_ | refine blk_alloc ?_ _)); exact BK333.out⟩, ⟨by (with_reducible repeat (first | refine blk_drewN ?_ _ | refine blk_drew ?_ | refine blk_alloc ?_ _)); refine blk_far ?_ NB334_343.out _; (with_reducible repeat (first | refine blk_drewN ?_ _ | refine blk_drew ?_ | refine blk_alloc ?_ _)); refine blk_far ?_ NB334_343.out _; (with_reducible repeat (first | refine blk_drewN ?_ _ | refine blk_drew ?_ | refine blk_alloc ?_ _)); exact BK334.out⟩, ⟨by (with_reducible repeat (first | refine blk_drewN ?_ _ | refine blk_drew ?_ | refine blk_alloc ?_ _)); refine blk_put (cs := #[.bool t375, .slice Ao64 t359.length co64]) ?_ 1 _ rfl; (with_reducible repeat (first | refine blk_drewN ?_ _ | refine blk_drew ?_ | refine blk_alloc ?_ _)); refine blk_put (cs := #[.bool t358, .slice Ao64 t359.length co64]) ?_ 0 _ rfl; (with_reducible repeat (first | refine blk_drewN ?_ _ | refine blk_drew ?_ | refine blk_alloc ?_ _)); exact BK343.out⟩, ⟨by (with_reducible repeat (first | refine blk_drewN ?_ _ | refine blk_drew ?_ | refine blk_alloc ?_ _)); refine blk_far ?_ NB344_343.out _; (with_reducible repeat (first | refine blk_drewN ?_ _ | refine blk_drew ?_ | refine blk_alloc ?_ _)); refine blk_far ?_ NB344_343.out _; (with_reducible repeat (first | refine blk_drewN ?_ _ | refine blk_drew ?_ | refine blk_alloc ?_ _)); exact BK344.out⟩, ⟨by repeat (first | (with_reducible first | exact HB.out | apply below_alloc | apply pw_below_drewN | apply below_drew1 | refine below_set ?_ GE333.out | refine below_set ?_ GE334.out | refine below_set ?_ GE343.out | refine below_set ?_ GE344.out) | exact HB.out)⟩⟩
            · rw [if_neg c41] at H
              have c41b0 : decide (0 ≤ t362) = false := decide_eq_false c41
              clear c41
              have H' := Aside0.mk H
              clear H
              try go_wp2
              have n0_ := Aside0.mk (Kd.V_drew HO_334001.out)
              have n1_ := Aside0.mk (Kd.V_drew HO_335001.out)
              have n2_ := Aside0.mk (Kd.V_drew HO_344001.out)
              have n3_ := Aside0.mk (Kd.V_drew HO_345001.out)
              have n4_ := Aside0.mk (blk_drew BK333.out)
              have n5_ := Aside0.mk (blk_drew BK334.out)
              have n6_ := Aside0.mk (blk_drew BK343.out)
              have n7_ := Aside0.mk (blk_drew BK344.out)
              have n8_ := Aside0.mk (below_drew1 HB.out)
              clear HO_334001
              clear HO_335001
              clear HO_344001
              clear HO_345001
              clear BK333
              clear BK334
              clear BK343
              clear BK344
              clear HB
              have HO_334001 := n0_
              have HO_335001 := n1_
              have HO_344001 := n2_
              have HO_345001 := n3_
              have BK333 := n4_
              have BK334 := n5_
              have BK343 := n6_
              have BK344 := n7_
              have HB := n8_
              clear n0_ n1_ n2_ n3_ n4_ n5_ n6_ n7_ n8_
              obtain ⟨Ao87, co87, eo87⟩ := Kd.V_slice HO_345001.out
              (first | subst eo87 | (injection eo87 with f1_ f2_ f3_; have f4_ := f1_.symm; have f5_ := f3_.symm; clear f1_ f2_ f3_; subst f4_; subst f5_))
              refine start_ (n := 16) (S := fun w' => w'.cell? ⟨gb344, 0, none⟩ = some (.bool x345000_1) ∧ w'.cell? ⟨gb344, 1, none⟩ = some (.slice Ao87 x345001_1.length co87) ∧ w'.cell? ⟨gb333, 0, none⟩ = some (.bool false) ∧ w'.cell? ⟨gb333, 1, none⟩ = some (.slice Ao9 t326.length co9)) (ds := [15]) #[false, false, false, false, false, false, false, false, false, false, false, false, false, false, false, false] (by kernel_rfl) rfl rfl ⟨(blk_cell BK344.out 0).trans rfl, (blk_cell BK344.out 1).trans rfl, (blk_cell BK333.out 0).trans rfl, (blk_cell BK333.out 1).trans rfl⟩ (fun hHeld => ?_); refine with_tabW tabardref01_Floor.tab8 tabardref01_Floor.bits8 (fun HT_ HW_ => ?_)
              generalize wr.drew = w86 at HO_334001 HO_335001 HO_344001 HO_345001 BK333 BK334 BK343 BK344 HB hHeld ⊢
              refine pure_ (i := 4) (N := some 36) (v := ?_) (a' := ?_) #[false, false, false, false, true, false, false, false, false, false, false, false, false, false, false, false] rfl rfl (any_of HT_.out (by kernel_rfl)) (fun _ _ _ h => h) (Or.inl ⟨by rfl, ?_⟩) ?_ ?_
              rotate_left
              · intro w'
                go_simp
                with_reducible rfl
              rotate_left
              · simp only [Act.put, List.setIfInBounds_toArray, List.set_cons_zero, List.set_cons_succ, i64_w, i32_w]
                rfl
              refine pure_ (i := 5) (N := some 37) (v := ?_) (a' := ?_) #[false, false, false, false, true, true, false, false, false, false, false, false, false, false, false, false] rfl rfl (any_of HT_.out (by kernel_rfl)) (fun _ _ _ h => h) (Or.inl ⟨by rfl, ?_⟩) ?_ ?_
              rotate_left
              · intro w'
                go_simp
                with_reducible rfl
              rotate_left
              · simp only [Act.put, List.setIfInBounds_toArray, List.set_cons_zero, List.set_cons_succ, i64_w, i32_w]
                rfl
              refine pure_ (i := 7) (N := some 39) (v := ?_) (a' := ?_) #[false, false, false, false, true, true, false, true, false, false, false, false, false, false, false, false] rfl rfl (any_of HT_.out (by kernel_rfl)) (fun _ _ _ h => h) (Or.inl ⟨by rfl, ?_⟩) ?_ ?_
              rotate_left
              · intro w'
                go_simp
                with_reducible rfl
              rotate_left
              · simp only [Act.put, List.setIfInBounds_toArray, List.set_cons_zero, List.set_cons_succ, i64_w, i32_w]
                rfl
              refine pure_ (i := 8) (N := some 40) (v := ?_) (a' := ?_) #[false, false, false, false, true, true, false, true, true, false, false, false, false, false, false, false] rfl rfl (any_of HT_.out (by kernel_rfl)) (fun _ _ _ h => h) (Or.inl ⟨by rfl, ?_⟩) ?_ ?_
              rotate_left
              · intro w'
                go_simp
                with_reducible rfl
              rotate_left
              · simp only [Act.put, List.setIfInBounds_toArray, List.set_cons_zero, List.set_cons_succ, i64_w, i32_w]
                rfl
              refine pure_ (i := 9) (N := some 41) (v := ?_) (a' := ?_) #[false, false, false, false, true, true, false, true, true, true, false, false, false, false, false, false] rfl rfl (any_of HT_.out (by kernel_rfl)) (fun _ _ _ h => h) (Or.inl ⟨by rfl, ?_⟩) ?_ ?_
              rotate_left
              · intro w'
                go_simp
                with_reducible rfl
              rotate_left
              · simp only [Act.put, List.setIfInBounds_toArray, List.set_cons_zero, List.set_cons_succ, i64_w, i32_w]
                rfl
              refine take_ (i := 0) (N := some 32) (v := ?_) (a' := ?_) #[true, false, false, false, true, true, false, true, true, true, false, false, false, false, false, false] rfl rfl (take_ofW HT_.out HW_.out (by kernel_rfl)) (fun _ _ _ h => h) (Or.inl ⟨by rfl, ?_⟩) hHeld ?_ ?_
              rotate_left
              · rintro w' ⟨s0, s1, s2, s3⟩
                go_simp
                with_reducible rfl
              rotate_left
              · simp only [Act.put, List.setIfInBounds_toArray, List.set_cons_zero, List.set_cons_succ, i64_w, i32_w]
                rfl
              refine take_ (i := 1) (N := some 33) (v := ?_) (a' := ?_) #[true, true, false, false, true, true, false, true, true, true, false, false, false, false, false, false] rfl rfl (take_ofW HT_.out HW_.out (by kernel_rfl)) (fun _ _ _ h => h) (Or.inl ⟨by rfl, ?_⟩) hHeld ?_ ?_
              rotate_left
              · rintro w' ⟨s0, s1, s2, s3⟩
                go_simp
                with_reducible rfl
              rotate_left
              · simp only [Act.put, List.setIfInBounds_toArray, List.set_cons_zero, List.set_cons_succ, i64_w, i32_w]
                rfl
              refine take_ (i := 3) (N := some 35) (v := ?_) (a' := ?_) #[true, true, false, true, true, true, false, true, true, true, false, false, false, false, false, false] rfl rfl (take_ofW HT_.out HW_.out (by kernel_rfl)) (fun _ _ _ h => h) (Or.inl ⟨by rfl, ?_⟩) hHeld ?_ ?_
              rotate_left
              · rintro w' ⟨s0, s1, s2, s3⟩
                go_simp
                with_reducible rfl
              rotate_left
              · simp only [Act.put, List.setIfInBounds_toArray, List.set_cons_zero, List.set_cons_succ, i64_w, i32_w]
                rfl
              refine one_ (i := 2) (N := some 34) #[true, true, true, true, true, true, false, true, true, true, false, false, false, false, false, false] rfl rfl (one_of HT_.out (by kernel_rfl)) (by decide) (fun K hK => ?_)
              refine goes_ Try.func54 (by kernel_rfl) rfl #[.agg #[.bool x345000_1, .slice Ao87 x345001_1.length co87], .agg #[.bool x345000_1, .slice Ao87 x345001_1.length co87]] (by rfl) rfl rfl (by (try simp only [List.map_toArray, List.map_cons, List.map_nil]); first | done | rfl | (simp only [List.length_drop, List.length_take]; rfl)) ?_
              with_reducible refine (tabardref01_Plus.calls k1 x345000_1 _ _ x345001_1 x345000_1 _ _ x345001_1 t345 t346 _ ?side1 ?side2 ?side3 ?side4 A32.out).mono ?_
              (case side1 => repeat (first | exact (Kd.V_reads' HO_345001.out).2.2 | (with_reducible refine Kd.C_alloc ?_ _) | (with_reducible refine Kd.C_drewN ?_ _) | (with_reducible refine Kd.C_drew ?_)))
              (case side2 => exact (Kd.V_reads' HO_345001.out).2.1)
              (case side3 => repeat (first | exact (Kd.V_reads' HO_345001.out).2.2 | (with_reducible refine Kd.C_alloc ?_ _) | (with_reducible refine Kd.C_drewN ?_ _) | (with_reducible refine Kd.C_drew ?_)))
              (case side4 => exact (Kd.V_reads' HO_345001.out).2.1)
              rintro e w88 ⟨v347, rfl, ho0, hb⟩
              refine ⟨_, rfl, ?_⟩
              have n0_ := Aside0.mk (Kd.V_below (by (with_reducible repeat (first | apply Kd.V_alloc | apply Kd.V_drewN | apply Kd.V_drew)); exact HO_334001.out) hb)
              have n1_ := Aside0.mk (Kd.V_below (by (with_reducible repeat (first | apply Kd.V_alloc | apply Kd.V_drewN | apply Kd.V_drew)); exact HO_335001.out) hb)
              have n2_ := Aside0.mk (Kd.V_below (by (with_reducible repeat (first | apply Kd.V_alloc | apply Kd.V_drewN | apply Kd.V_drew)); exact HO_344001.out) hb)
              have n3_ := Aside0.mk (Kd.V_below (by (with_reducible repeat (first | apply Kd.V_alloc | apply Kd.V_drewN | apply Kd.V_drew)); exact HO_345001.out) hb)
              have n4_ := Aside0.mk (Kd.V_lower (Kd.V_mono (ok' := fun k_ => k_ ≠ gb333 ∧ k_ ≠ gb334 ∧ k_ ≠ gb343 ∧ k_ ≠ gb344) ho0 (fun k_ hk_ => ⟨(Kd.freshB (g := gb333) (o := .cells #[.bool false, .slice Ao9 t326.length co9] 63 (0, 0)) (by (with_reducible repeat (first | refine blk_drewN ?_ _ | refine blk_drew ?_ | refine blk_alloc ?_ _)); exact BK333.out) k_ hk_), (Kd.freshB (g := gb334) (o := .cells #[.bool false, .slice Ao11 t330.length co11] 63 (0, 0)) (by (with_reducible repeat (first | refine blk_drewN ?_ _ | refine blk_drew ?_ | refine blk_alloc ?_ _)); exact BK334.out) k_ hk_), (Kd.freshB (g := gb343) (o := .cells #[.bool x344000_1, u344001] 63 (0, 0)) (by (with_reducible repeat (first | refine blk_drewN ?_ _ | refine blk_drew ?_ | refine blk_alloc ?_ _)); exact BK343.out) k_ hk_), (Kd.freshB (g := gb344) (o := .cells #[.bool x345000_1, .slice Ao87 x345001_1.length co87] 63 (0, 0)) (by (with_reducible repeat (first | refine blk_drewN ?_ _ | refine blk_drew ?_ | refine blk_alloc ?_ _)); exact BK344.out) k_ hk_)⟩)) (below_size (by repeat (first | (with_reducible first | exact HB.out | apply below_alloc | apply pw_below_drewN | apply below_drew1 | refine below_set ?_ GE333.out | refine below_set ?_ GE334.out | refine below_set ?_ GE343.out | refine below_set ?_ GE344.out) | exact HB.out))))
              have n5_ := Aside0.mk (blk_below (g := gb333) (o := .cells #[.bool false, .slice Ao9 t326.length co9] 63 (0, 0)) (by (with_reducible repeat (first | refine blk_drewN ?_ _ | refine blk_drew ?_ | refine blk_alloc ?_ _)); exact BK333.out) hb)
              have n6_ := Aside0.mk (blk_below (g := gb334) (o := .cells #[.bool false, .slice Ao11 t330.length co11] 63 (0, 0)) (by (with_reducible repeat (first | refine blk_drewN ?_ _ | refine blk_drew ?_ | refine blk_alloc ?_ _)); exact BK334.out) hb)
              have n7_ := Aside0.mk (blk_below (g := gb343) (o := .cells #[.bool x344000_1, u344001] 63 (0, 0)) (by (with_reducible repeat (first | refine blk_drewN ?_ _ | refine blk_drew ?_ | refine blk_alloc ?_ _)); exact BK343.out) hb)
              have n8_ := Aside0.mk (blk_below (g := gb344) (o := .cells #[.bool x345000_1, .slice Ao87 x345001_1.length co87] 63 (0, 0)) (by (with_reducible repeat (first | refine blk_drewN ?_ _ | refine blk_drew ?_ | refine blk_alloc ?_ _)); exact BK344.out) hb)
              have n9_ := Aside0.mk (below_step (by repeat (first | (with_reducible first | exact HB.out | apply below_alloc | apply pw_below_drewN | apply below_drew1 | refine below_set ?_ GE333.out | refine below_set ?_ GE334.out | refine below_set ?_ GE343.out | refine below_set ?_ GE344.out) | exact HB.out)) hb)
              clear HO_334001
              clear HO_335001
              clear HO_344001
              clear HO_345001
              clear BK333
              clear BK334
              clear BK343
              clear BK344
              clear HB
              have HO_334001 := n0_
              have HO_335001 := n1_
              have HO_344001 := n2_
              have HO_345001 := n3_
              have HO348 := n4_
              have BK333 := n5_
              have BK334 := n6_
              have BK343 := n7_
              have BK344 := n8_
              have HB := n9_
              clear n0_ n1_ n2_ n3_ n4_ n5_ n6_ n7_ n8_ n9_
              (try clear hb)
              (try clear hb2)
              (try clear hk)
              (try clear hi)
              (try clear ho0)
              refine hK.out _ _ ⟨(blk_cell BK344.out 0).trans rfl, (blk_cell BK344.out 1).trans rfl, (blk_cell BK333.out 0).trans rfl, (blk_cell BK333.out 1).trans rfl⟩ (fun hHeld => ?_)
              clear hK K
              refine norm_ (a' := ?_) ?_ ?_
              rotate_left
              · show Act.put _ (some 34) _ = _
                simp only [Act.put, List.setIfInBounds_toArray, List.set_cons_zero, List.set_cons_succ, i64_w, i32_w]
                rfl
              refine one_ (i := 6) (N := some 38) #[true, true, true, true, true, true, true, true, true, true, false, false, false, false, false, false] rfl rfl (one_of HT_.out (by kernel_rfl)) (by decide) (fun K hK => ?_)
              refine goes_ Try.func56 (by kernel_rfl) rfl #[.agg #[.bool false, .slice Ao9 t326.length co9], .int .i64 (wrap64 (Int.tdiv x10_1 16))] (by rfl) rfl rfl (by (try simp only [List.map_toArray, List.map_cons, List.map_nil]); first | done | rfl | (simp only [List.length_drop, List.length_take]; rfl)) ?_
              with_reducible refine (tabardref01_Wide_digit.calls false _ _ t326 (wrap64 (Int.tdiv x10_1 16)) t349 _ ?side1 ?side2 A33.out).mono ?_
              (case side1 => repeat (first | exact (Kd.V_reads' HO_334001.out).2.2 | (with_reducible refine Kd.C_alloc ?_ _) | (with_reducible refine Kd.C_drewN ?_ _) | (with_reducible refine Kd.C_drew ?_)))
              (case side2 => exact (Kd.V_reads' HO_334001.out).2.1)
              rintro e w89 ⟨rfl, hb⟩
              refine ⟨_, rfl, ?_⟩
              have n0_ := Aside0.mk (Kd.V_below (by (with_reducible repeat (first | apply Kd.V_alloc | apply Kd.V_drewN | apply Kd.V_drew)); exact HO_334001.out) hb)
              have n1_ := Aside0.mk (Kd.V_below (by (with_reducible repeat (first | apply Kd.V_alloc | apply Kd.V_drewN | apply Kd.V_drew)); exact HO_335001.out) hb)
              have n2_ := Aside0.mk (Kd.V_below (by (with_reducible repeat (first | apply Kd.V_alloc | apply Kd.V_drewN | apply Kd.V_drew)); exact HO_344001.out) hb)
              have n3_ := Aside0.mk (Kd.V_below (by (with_reducible repeat (first | apply Kd.V_alloc | apply Kd.V_drewN | apply Kd.V_drew)); exact HO_345001.out) hb)
              have n4_ := Aside0.mk (Kd.V_below (by (with_reducible repeat (first | apply Kd.V_alloc | apply Kd.V_drewN | apply Kd.V_drew)); exact HO348.out) hb)
              have n5_ := Aside0.mk (blk_below (g := gb333) (o := .cells #[.bool false, .slice Ao9 t326.length co9] 63 (0, 0)) (by (with_reducible repeat (first | refine blk_drewN ?_ _ | refine blk_drew ?_ | refine blk_alloc ?_ _)); exact BK333.out) hb)
              have n6_ := Aside0.mk (blk_below (g := gb334) (o := .cells #[.bool false, .slice Ao11 t330.length co11] 63 (0, 0)) (by (with_reducible repeat (first | refine blk_drewN ?_ _ | refine blk_drew ?_ | refine blk_alloc ?_ _)); exact BK334.out) hb)
              have n7_ := Aside0.mk (blk_below (g := gb343) (o := .cells #[.bool x344000_1, u344001] 63 (0, 0)) (by (with_reducible repeat (first | refine blk_drewN ?_ _ | refine blk_drew ?_ | refine blk_alloc ?_ _)); exact BK343.out) hb)
              have n8_ := Aside0.mk (blk_below (g := gb344) (o := .cells #[.bool x345000_1, .slice Ao87 x345001_1.length co87] 63 (0, 0)) (by (with_reducible repeat (first | refine blk_drewN ?_ _ | refine blk_drew ?_ | refine blk_alloc ?_ _)); exact BK344.out) hb)
              have n9_ := Aside0.mk (below_step (by repeat (first | (with_reducible first | exact HB.out | apply below_alloc | apply pw_below_drewN | apply below_drew1 | refine below_set ?_ GE333.out | refine below_set ?_ GE334.out | refine below_set ?_ GE343.out | refine below_set ?_ GE344.out) | exact HB.out)) hb)
              clear HO_334001
              clear HO_335001
              clear HO_344001
              clear HO_345001
              clear HO348
              clear BK333
              clear BK334
              clear BK343
              clear BK344
              clear HB
              have HO_334001 := n0_
              have HO_335001 := n1_
              have HO_344001 := n2_
              have HO_345001 := n3_
              have HO348 := n4_
              have BK333 := n5_
              have BK334 := n6_
              have BK343 := n7_
              have BK344 := n8_
              have HB := n9_
              clear n0_ n1_ n2_ n3_ n4_ n5_ n6_ n7_ n8_ n9_
              (try clear hb)
              (try clear hb2)
              (try clear hk)
              (try clear hi)
              refine hK.out _ _ ⟨(blk_cell BK344.out 0).trans rfl, (blk_cell BK344.out 1).trans rfl, (blk_cell BK333.out 0).trans rfl, (blk_cell BK333.out 1).trans rfl⟩ (fun hHeld => ?_)
              clear hK K
              refine norm_ (a' := ?_) ?_ ?_
              rotate_left
              · show Act.put _ (some 38) _ = _
                simp only [Act.put, List.setIfInBounds_toArray, List.set_cons_zero, List.set_cons_succ, i64_w, i32_w]
                rfl
              refine pure_ (i := 10) (N := some 42) (v := ?_) (a' := ?_) #[true, true, true, true, true, true, true, true, true, true, true, false, false, false, false, false] rfl rfl (any_of HT_.out (by kernel_rfl)) (fun _ _ _ h => h) (Or.inl ⟨by rfl, ?_⟩) ?_ ?_
              rotate_left
              · intro w'
                go_simp
                with_reducible rfl
              rotate_left
              · simp only [Act.put, List.setIfInBounds_toArray, List.set_cons_zero, List.set_cons_succ, i64_w, i32_w]
                rfl
              refine pure_ (i := 11) (N := some 43) (v := ?_) (a' := ?_) #[true, true, true, true, true, true, true, true, true, true, true, true, false, false, false, false] rfl rfl (any_of HT_.out (by kernel_rfl)) (fun _ _ _ h => h) (Or.inl ⟨by rfl, ?_⟩) ?_ ?_
              rotate_left
              · intro w'
                go_simp
                with_reducible rfl
              rotate_left
              · simp only [Act.put, List.setIfInBounds_toArray, List.set_cons_zero, List.set_cons_succ, i64_w, i32_w]
                rfl
              refine pure_ (i := 12) (N := some 44) (v := ?_) (a' := ?_) #[true, true, true, true, true, true, true, true, true, true, true, true, true, false, false, false] rfl rfl (any_of HT_.out (by kernel_rfl)) (fun _ _ _ h => h) (Or.inl ⟨by rfl, ?_⟩) ?_ ?_
              rotate_left
              · intro w'
                go_simp
                with_reducible rfl
              rotate_left
              · simp only [Act.put, List.setIfInBounds_toArray, List.set_cons_zero, List.set_cons_succ, i64_w, i32_w]
                rfl
              refine one_ (i := 13) (N := some 45) #[true, true, true, true, true, true, true, true, true, true, true, true, true, true, false, false] rfl rfl (one_of HT_.out (by kernel_rfl)) (by decide) (fun K hK => ?_)
              refine goes_ Try.func53 (by kernel_rfl) rfl #[.int .i64 (wrap64 (Go.bits .and .u64 (ji36) 1))] (by rfl) rfl rfl (by (try simp only [List.map_toArray, List.map_cons, List.map_nil]); first | done | (simp only [hji36]; rfl) | rfl | (simp only [List.length_drop, List.length_take]; rfl)) ?_
              with_reducible refine (tabardref01_Of.calls k1 (wrap64 (Go.bits .and .u64 (ji36) 1)) t350 t351 _ A37.out).mono ?_
              rintro e w90 ⟨v352, rfl, ho0, hb⟩
              refine ⟨_, rfl, ?_⟩
              have n0_ := Aside0.mk (Kd.V_below (by (with_reducible repeat (first | apply Kd.V_alloc | apply Kd.V_drewN | apply Kd.V_drew)); exact HO_334001.out) hb)
              have n1_ := Aside0.mk (Kd.V_below (by (with_reducible repeat (first | apply Kd.V_alloc | apply Kd.V_drewN | apply Kd.V_drew)); exact HO_335001.out) hb)
              have n2_ := Aside0.mk (Kd.V_below (by (with_reducible repeat (first | apply Kd.V_alloc | apply Kd.V_drewN | apply Kd.V_drew)); exact HO_344001.out) hb)
              have n3_ := Aside0.mk (Kd.V_below (by (with_reducible repeat (first | apply Kd.V_alloc | apply Kd.V_drewN | apply Kd.V_drew)); exact HO_345001.out) hb)
              have n4_ := Aside0.mk (Kd.V_below (by (with_reducible repeat (first | apply Kd.V_alloc | apply Kd.V_drewN | apply Kd.V_drew)); exact HO348.out) hb)
              have n5_ := Aside0.mk (Kd.V_lower (Kd.V_mono (ok' := fun k_ => k_ ≠ gb333 ∧ k_ ≠ gb334 ∧ k_ ≠ gb343 ∧ k_ ≠ gb344) ho0 (fun k_ hk_ => ⟨(Kd.freshB (g := gb333) (o := .cells #[.bool false, .slice Ao9 t326.length co9] 63 (0, 0)) (by (with_reducible repeat (first | refine blk_drewN ?_ _ | refine blk_drew ?_ | refine blk_alloc ?_ _)); exact BK333.out) k_ hk_), (Kd.freshB (g := gb334) (o := .cells #[.bool false, .slice Ao11 t330.length co11] 63 (0, 0)) (by (with_reducible repeat (first | refine blk_drewN ?_ _ | refine blk_drew ?_ | refine blk_alloc ?_ _)); exact BK334.out) k_ hk_), (Kd.freshB (g := gb343) (o := .cells #[.bool x344000_1, u344001] 63 (0, 0)) (by (with_reducible repeat (first | refine blk_drewN ?_ _ | refine blk_drew ?_ | refine blk_alloc ?_ _)); exact BK343.out) k_ hk_), (Kd.freshB (g := gb344) (o := .cells #[.bool x345000_1, .slice Ao87 x345001_1.length co87] 63 (0, 0)) (by (with_reducible repeat (first | refine blk_drewN ?_ _ | refine blk_drew ?_ | refine blk_alloc ?_ _)); exact BK344.out) k_ hk_)⟩)) (below_size (by repeat (first | (with_reducible first | exact HB.out | apply below_alloc | apply pw_below_drewN | apply below_drew1 | refine below_set ?_ GE333.out | refine below_set ?_ GE334.out | refine below_set ?_ GE343.out | refine below_set ?_ GE344.out) | exact HB.out))))
              have n6_ := Aside0.mk (blk_below (g := gb333) (o := .cells #[.bool false, .slice Ao9 t326.length co9] 63 (0, 0)) (by (with_reducible repeat (first | refine blk_drewN ?_ _ | refine blk_drew ?_ | refine blk_alloc ?_ _)); exact BK333.out) hb)
              have n7_ := Aside0.mk (blk_below (g := gb334) (o := .cells #[.bool false, .slice Ao11 t330.length co11] 63 (0, 0)) (by (with_reducible repeat (first | refine blk_drewN ?_ _ | refine blk_drew ?_ | refine blk_alloc ?_ _)); exact BK334.out) hb)
              have n8_ := Aside0.mk (blk_below (g := gb343) (o := .cells #[.bool x344000_1, u344001] 63 (0, 0)) (by (with_reducible repeat (first | refine blk_drewN ?_ _ | refine blk_drew ?_ | refine blk_alloc ?_ _)); exact BK343.out) hb)
              have n9_ := Aside0.mk (blk_below (g := gb344) (o := .cells #[.bool x345000_1, .slice Ao87 x345001_1.length co87] 63 (0, 0)) (by (with_reducible repeat (first | refine blk_drewN ?_ _ | refine blk_drew ?_ | refine blk_alloc ?_ _)); exact BK344.out) hb)
              have n10_ := Aside0.mk (below_step (by repeat (first | (with_reducible first | exact HB.out | apply below_alloc | apply pw_below_drewN | apply below_drew1 | refine below_set ?_ GE333.out | refine below_set ?_ GE334.out | refine below_set ?_ GE343.out | refine below_set ?_ GE344.out) | exact HB.out)) hb)
              clear HO_334001
              clear HO_335001
              clear HO_344001
              clear HO_345001
              clear HO348
              clear BK333
              clear BK334
              clear BK343
              clear BK344
              clear HB
              have HO_334001 := n0_
              have HO_335001 := n1_
              have HO_344001 := n2_
              have HO_345001 := n3_
              have HO348 := n4_
              have HO353 := n5_
              have BK333 := n6_
              have BK334 := n7_
              have BK343 := n8_
              have BK344 := n9_
              have HB := n10_
              clear n0_ n1_ n2_ n3_ n4_ n5_ n6_ n7_ n8_ n9_ n10_
              (try clear hb)
              (try clear hb2)
              (try clear hk)
              (try clear hi)
              (try clear ho0)
              obtain ⟨Ao91, co91, eo91⟩ := Kd.V_slice HO348.out
              (first | subst eo91 | (injection eo91 with f1_ f2_ f3_; have f4_ := f1_.symm; have f5_ := f3_.symm; clear f1_ f2_ f3_; subst f4_; subst f5_))
              obtain ⟨Ao92, co92, eo92⟩ := Kd.V_slice HO353.out
              (first | subst eo92 | (injection eo92 with f1_ f2_ f3_; have f4_ := f1_.symm; have f5_ := f3_.symm; clear f1_ f2_ f3_; subst f4_; subst f5_))
              refine hK.out _ _ ⟨(blk_cell BK344.out 0).trans rfl, (blk_cell BK344.out 1).trans rfl, (blk_cell BK333.out 0).trans rfl, (blk_cell BK333.out 1).trans rfl⟩ (fun hHeld => ?_)
              clear hK K
              refine norm_ (a' := ?_) ?_ ?_
              rotate_left
              · show Act.put _ (some 45) _ = _
                simp only [Act.put, List.setIfInBounds_toArray, List.set_cons_zero, List.set_cons_succ, i64_w, i32_w]
                rfl
              refine one_ (i := 14) (N := some 46) #[true, true, true, true, true, true, true, true, true, true, true, true, true, true, true, false] rfl rfl (one_of HT_.out (by kernel_rfl)) (by decide) (fun K hK => ?_)
              refine goes_ Try.func54 (by kernel_rfl) rfl #[.agg #[.bool t345, .slice Ao91 t346.length co91], .agg #[.bool t350, .slice Ao92 t351.length co92]] (by rfl) rfl rfl (by (try simp only [List.map_toArray, List.map_cons, List.map_nil]); first | done | rfl | (simp only [List.length_drop, List.length_take]; rfl)) ?_
              with_reducible refine (tabardref01_Plus.calls k1 t345 _ _ t346 t350 _ _ t351 t354 t355 _ ?side1 ?side2 ?side3 ?side4 A38.out).mono ?_
              (case side1 => repeat (first | exact (Kd.V_reads' HO348.out).2.2 | (with_reducible refine Kd.C_alloc ?_ _) | (with_reducible refine Kd.C_drewN ?_ _) | (with_reducible refine Kd.C_drew ?_)))
              (case side2 => exact (Kd.V_reads' HO348.out).2.1)
              (case side3 => repeat (first | exact (Kd.V_reads' HO353.out).2.2 | (with_reducible refine Kd.C_alloc ?_ _) | (with_reducible refine Kd.C_drewN ?_ _) | (with_reducible refine Kd.C_drew ?_)))
              (case side4 => exact (Kd.V_reads' HO353.out).2.1)
              rintro e w93 ⟨v356, rfl, ho0, hb⟩
              refine ⟨_, rfl, ?_⟩
              have n0_ := Aside0.mk (Kd.V_below (by (with_reducible repeat (first | apply Kd.V_alloc | apply Kd.V_drewN | apply Kd.V_drew)); exact HO_334001.out) hb)
              have n1_ := Aside0.mk (Kd.V_below (by (with_reducible repeat (first | apply Kd.V_alloc | apply Kd.V_drewN | apply Kd.V_drew)); exact HO_335001.out) hb)
              have n2_ := Aside0.mk (Kd.V_below (by (with_reducible repeat (first | apply Kd.V_alloc | apply Kd.V_drewN | apply Kd.V_drew)); exact HO_344001.out) hb)
              have n3_ := Aside0.mk (Kd.V_below (by (with_reducible repeat (first | apply Kd.V_alloc | apply Kd.V_drewN | apply Kd.V_drew)); exact HO_345001.out) hb)
              have n4_ := Aside0.mk (Kd.V_below (by (with_reducible repeat (first | apply Kd.V_alloc | apply Kd.V_drewN | apply Kd.V_drew)); exact HO348.out) hb)
              have n5_ := Aside0.mk (Kd.V_below (by (with_reducible repeat (first | apply Kd.V_alloc | apply Kd.V_drewN | apply Kd.V_drew)); exact HO353.out) hb)
              have n6_ := Aside0.mk (Kd.V_lower (Kd.V_mono (ok' := fun k_ => k_ ≠ gb333 ∧ k_ ≠ gb334 ∧ k_ ≠ gb343 ∧ k_ ≠ gb344) ho0 (fun k_ hk_ => ⟨(Kd.freshB (g := gb333) (o := .cells #[.bool false, .slice Ao9 t326.length co9] 63 (0, 0)) (by (with_reducible repeat (first | refine blk_drewN ?_ _ | refine blk_drew ?_ | refine blk_alloc ?_ _)); exact BK333.out) k_ hk_), (Kd.freshB (g := gb334) (o := .cells #[.bool false, .slice Ao11 t330.length co11] 63 (0, 0)) (by (with_reducible repeat (first | refine blk_drewN ?_ _ | refine blk_drew ?_ | refine blk_alloc ?_ _)); exact BK334.out) k_ hk_), (Kd.freshB (g := gb343) (o := .cells #[.bool x344000_1, u344001] 63 (0, 0)) (by (with_reducible repeat (first | refine blk_drewN ?_ _ | refine blk_drew ?_ | refine blk_alloc ?_ _)); exact BK343.out) k_ hk_), (Kd.freshB (g := gb344) (o := .cells #[.bool x345000_1, .slice Ao87 x345001_1.length co87] 63 (0, 0)) (by (with_reducible repeat (first | refine blk_drewN ?_ _ | refine blk_drew ?_ | refine blk_alloc ?_ _)); exact BK344.out) k_ hk_)⟩)) (below_size (by repeat (first | (with_reducible first | exact HB.out | apply below_alloc | apply pw_below_drewN | apply below_drew1 | refine below_set ?_ GE333.out | refine below_set ?_ GE334.out | refine below_set ?_ GE343.out | refine below_set ?_ GE344.out) | exact HB.out))))
              have n7_ := Aside0.mk (blk_below (g := gb333) (o := .cells #[.bool false, .slice Ao9 t326.length co9] 63 (0, 0)) (by (with_reducible repeat (first | refine blk_drewN ?_ _ | refine blk_drew ?_ | refine blk_alloc ?_ _)); exact BK333.out) hb)
              have n8_ := Aside0.mk (blk_below (g := gb334) (o := .cells #[.bool false, .slice Ao11 t330.length co11] 63 (0, 0)) (by (with_reducible repeat (first | refine blk_drewN ?_ _ | refine blk_drew ?_ | refine blk_alloc ?_ _)); exact BK334.out) hb)
              have n9_ := Aside0.mk (blk_below (g := gb343) (o := .cells #[.bool x344000_1, u344001] 63 (0, 0)) (by (with_reducible repeat (first | refine blk_drewN ?_ _ | refine blk_drew ?_ | refine blk_alloc ?_ _)); exact BK343.out) hb)
              have n10_ := Aside0.mk (blk_below (g := gb344) (o := .cells #[.bool x345000_1, .slice Ao87 x345001_1.length co87] 63 (0, 0)) (by (with_reducible repeat (first | refine blk_drewN ?_ _ | refine blk_drew ?_ | refine blk_alloc ?_ _)); exact BK344.out) hb)
              have n11_ := Aside0.mk (below_step (by repeat (first | (with_reducible first | exact HB.out | apply below_alloc | apply pw_below_drewN | apply below_drew1 | refine below_set ?_ GE333.out | refine below_set ?_ GE334.out | refine below_set ?_ GE343.out | refine below_set ?_ GE344.out) | exact HB.out)) hb)
              clear HO_334001
              clear HO_335001
              clear HO_344001
              clear HO_345001
              clear HO348
              clear HO353
              clear BK333
              clear BK334
              clear BK343
              clear BK344
              clear HB
              have HO_334001 := n0_
              have HO_335001 := n1_
              have HO_344001 := n2_
              have HO_345001 := n3_
              have HO348 := n4_
              have HO353 := n5_
              have HO357 := n6_
              have BK333 := n7_
              have BK334 := n8_
              have BK343 := n9_
              have BK344 := n10_
              have HB := n11_
              clear n0_ n1_ n2_ n3_ n4_ n5_ n6_ n7_ n8_ n9_ n10_ n11_
              (try clear hb)
              (try clear hb2)
              (try clear hk)
              (try clear hi)
              (try clear ho0)
              obtain ⟨Ao95, co95, eo95⟩ := Kd.V_slice HO357.out
              (first | subst eo95 | (injection eo95 with f1_ f2_ f3_; have f4_ := f1_.symm; have f5_ := f3_.symm; clear f1_ f2_ f3_; subst f4_; subst f5_))
              refine hK.out _ _ ⟨(blk_cell BK344.out 0).trans rfl, (blk_cell BK344.out 1).trans rfl, (blk_cell BK333.out 0).trans rfl, (blk_cell BK333.out 1).trans rfl⟩ (fun hHeld => ?_)
              clear hK K
              refine norm_ (a' := ?_) ?_ ?_
              rotate_left
              · show Act.put _ (some 46) _ = _
                simp only [Act.put, List.setIfInBounds_toArray, List.set_cons_zero, List.set_cons_succ, i64_w, i32_w]
                rfl
              refine last_ (i := 15) (N := none) #[true, true, true, true, true, true, true, true, true, true, true, true, true, true, true, true] rfl rfl (one_of HT_.out (by kernel_rfl)) (by decide) (fun K hK => ?_)
              have hs94 : w93.cell? ⟨gb344, 0, none⟩ = some (.bool x345000_1) := (blk_cell BK344.out 0).trans rfl
              have hfs94 := blk_frozen BK344.out 0
              have hns94_0 := NB333_344.out
              have hns94_1 := NB334_344.out
              have hns94_2 := NB343_344.out
              have hms94_0 := NB344_333.out
              have hms94_1 := NB344_334.out
              have hms94_2 := NB344_343.out
              have hs96 : w93.cell? ⟨gb344, 1, none⟩ = some (.slice Ao87 x345001_1.length co87) := (blk_cell BK344.out 1).trans rfl
              have hfs96 := blk_frozen BK344.out 1
              have hns96_0 := NB333_344.out
              have hns96_1 := NB334_344.out
              have hns96_2 := NB343_344.out
              have hms96_0 := NB344_333.out
              have hms96_1 := NB344_334.out
              have hms96_2 := NB344_343.out
              refine skip_ (w1 := ?_) (by rfl) rfl ?_ ?_
              rotate_left
              · go_simp
                rfl
              refine hK.out _ _ ?_
              clear hK K
              refine done_ (done_of HT_.out (by kernel_rfl)) ?_
              have hnb97 := NB343_333.out
              have hnc97 := NB333_343.out
              have hnb98 := NB343_334.out
              have hnc98 := NB334_343.out
              have hnb99 := NB343_344.out
              have hnc99 := NB344_343.out
              have hcz100_0 : w93.cell? ⟨gb343, 0, none⟩ = some (.bool x344000_1) := (blk_cell BK343.out 0).trans rfl
              have hcz100_1 : w93.cell? ⟨gb343, 1, none⟩ = some (u344001) := (blk_cell BK343.out 1).trans rfl
              have hfz100_0 := blk_frozen BK343.out 0
              have hfz100_1 := blk_frozen BK343.out 1
              obtain ⟨Ao101, co101, eo101⟩ := Kd.V_slice HO_344001.out
              subst eo101
              try go_wp2_with (first | ((with_reducible refine gate_callee (f := 54) rfl ?_); refine goesL_ (some 49) rfl rfl Try.func54 (by kernel_rfl) rfl #[.agg #[.bool x344000_1, .slice Ao101 x344001_1.length co101], .agg #[.bool x344000_1, .slice Ao101 x344001_1.length co101]] rfl (by (try simp only [List.map_toArray, List.map_cons, List.map_nil]); first | done | rfl | (simp only [List.length_drop, List.length_take]; rfl)) ?_; (with_reducible refine (tabardref01_Plus.calls k1 x344000_1 _ _ x344001_1 x344000_1 _ _ x344001_1 t358 t359 _ ?side1 ?side2 ?side3 ?side4 A39.out).mono ?_); (case side1 => refine (Kd.V_reads' (e := 67) (base := w.heap.size) (ok := fun k_ => (k_ ≠ gb333 ∧ (k_ ≠ gb334 ∧ (k_ ≠ gb343 ∧ k_ ≠ gb344)))) (n := x344001_1.length) (c := co101) ?_).2.2; exact (by (with_reducible repeat (first | apply Kd.V_alloc | apply Kd.V_drewN | apply Kd.V_drew)); exact (Kd.V_mono (Kd.V_far (p := ⟨gb344, 1, none⟩) (Kd.V_far (p := ⟨gb344, 0, none⟩) (Kd.V_mono HO_344001.out (fun k_ hk => (⟨hk, hk.2.2.2⟩ : _ ∧ k_ ≠ gb344))) (fun _ hk => hk.2) (.bool t354)) (fun _ hk => hk.2) (.slice Ao95 t355.length co95)) (fun _ h_ => h_.1)))); (case side2 => exact (Kd.V_reads' HO_344001.out).2.1); (case side3 => refine (Kd.V_reads' (e := 67) (base := w.heap.size) (ok := fun k_ => (k_ ≠ gb333 ∧ (k_ ≠ gb334 ∧ (k_ ≠ gb343 ∧ k_ ≠ gb344)))) (n := x344001_1.length) (c := co101) ?_).2.2; exact (by (with_reducible repeat (first | apply Kd.V_alloc | apply Kd.V_drewN | apply Kd.V_drew)); exact (Kd.V_mono (Kd.V_far (p := ⟨gb344, 1, none⟩) (Kd.V_far (p := ⟨gb344, 0, none⟩) (Kd.V_mono HO_344001.out (fun k_ hk => (⟨hk, hk.2.2.2⟩ : _ ∧ k_ ≠ gb344))) (fun _ hk => hk.2) (.bool t354)) (fun _ hk => hk.2) (.slice Ao95 t355.length co95)) (fun _ h_ => h_.1)))); (case side4 => exact (Kd.V_reads' HO_344001.out).2.1); rintro e w102 ⟨v360, rfl, ho0, hb⟩; refine ⟨_, rfl, ?_⟩; have n0_ := Aside0.mk (Kd.V_below (by (with_reducible repeat (first | apply Kd.V_alloc | apply Kd.V_drewN | apply Kd.V_drew)); exact (Kd.V_mono (Kd.V_far (p := ⟨gb344, 1, none⟩) (Kd.V_far (p := ⟨gb344, 0, none⟩) (Kd.V_mono HO_334001.out (fun k_ hk => (⟨hk, hk.2.2.2⟩ : _ ∧ k_ ≠ gb344))) (fun _ hk => hk.2) (.bool t354)) (fun _ hk => hk.2) (.slice Ao95 t355.length co95)) (fun _ h_ => h_.1))) hb); have n1_ := Aside0.mk (Kd.V_below (by (with_reducible repeat (first | apply Kd.V_alloc | apply Kd.V_drewN | apply Kd.V_drew)); exact (Kd.V_mono (Kd.V_far (p := ⟨gb344, 1, none⟩) (Kd.V_far (p := ⟨gb344, 0, none⟩) (Kd.V_mono HO_335001.out (fun k_ hk => (⟨hk, hk.2.2.2⟩ : _ ∧ k_ ≠ gb344))) (fun _ hk => hk.2) (.bool t354)) (fun _ hk => hk.2) (.slice Ao95 t355.length co95)) (fun _ h_ => h_.1))) hb); have n2_ := Aside0.mk (Kd.V_below (by (with_reducible repeat (first | apply Kd.V_alloc | apply Kd.V_drewN | apply Kd.V_drew)); exact (Kd.V_mono (Kd.V_far (p := ⟨gb344, 1, none⟩) (Kd.V_far (p := ⟨gb344, 0, none⟩) (Kd.V_mono HO_344001.out (fun k_ hk => (⟨hk, hk.2.2.2⟩ : _ ∧ k_ ≠ gb344))) (fun _ hk => hk.2) (.bool t354)) (fun _ hk => hk.2) (.slice Ao95 t355.length co95)) (fun _ h_ => h_.1))) hb); have n3_ := Aside0.mk (Kd.V_below (by (with_reducible repeat (first | apply Kd.V_alloc | apply Kd.V_drewN | apply Kd.V_drew)); exact (Kd.V_mono (Kd.V_far (p := ⟨gb344, 1, none⟩) (Kd.V_far (p := ⟨gb344, 0, none⟩) (Kd.V_mono HO_345001.out (fun k_ hk => (⟨hk, hk.2.2.2⟩ : _ ∧ k_ ≠ gb344))) (fun _ hk => hk.2) (.bool t354)) (fun _ hk => hk.2) (.slice Ao95 t355.length co95)) (fun _ h_ => h_.1))) hb); have n4_ := Aside0.mk (Kd.V_below (by (with_reducible repeat (first | apply Kd.V_alloc | apply Kd.V_drewN | apply Kd.V_drew)); exact (Kd.V_mono (Kd.V_far (p := ⟨gb344, 1, none⟩) (Kd.V_far (p := ⟨gb344, 0, none⟩) (Kd.V_mono HO348.out (fun k_ hk => (⟨hk, hk.2.2.2⟩ : _ ∧ k_ ≠ gb344))) (fun _ hk => hk.2) (.bool t354)) (fun _ hk => hk.2) (.slice Ao95 t355.length co95)) (fun _ h_ => h_.1))) hb); have n5_ := Aside0.mk (Kd.V_below (by (with_reducible repeat (first | apply Kd.V_alloc | apply Kd.V_drewN | apply Kd.V_drew)); exact (Kd.V_mono (Kd.V_far (p := ⟨gb344, 1, none⟩) (Kd.V_far (p := ⟨gb344, 0, none⟩) (Kd.V_mono HO353.out (fun k_ hk => (⟨hk, hk.2.2.2⟩ : _ ∧ k_ ≠ gb344))) (fun _ hk => hk.2) (.bool t354)) (fun _ hk => hk.2) (.slice Ao95 t355.length co95)) (fun _ h_ => h_.1))) hb); have n6_ := Aside0.mk (Kd.V_below (by (with_reducible repeat (first | apply Kd.V_alloc | apply Kd.V_drewN | apply Kd.V_drew)); exact (Kd.V_mono (Kd.V_far (p := ⟨gb344, 1, none⟩) (Kd.V_far (p := ⟨gb344, 0, none⟩) (Kd.V_mono HO357.out (fun k_ hk => (⟨hk, hk.2.2.2⟩ : _ ∧ k_ ≠ gb344))) (fun _ hk => hk.2) (.bool t354)) (fun _ hk => hk.2) (.slice Ao95 t355.length co95)) (fun _ h_ => h_.1))) hb); have n7_ := Aside0.mk (Kd.V_lower (Kd.V_mono (ok' := fun k_ => k_ ≠ gb333 ∧ k_ ≠ gb334 ∧ k_ ≠ gb343 ∧ k_ ≠ gb344) ho0 (fun k_ hk_ => ⟨(Kd.freshB (g := gb333) (o := .cells #[.bool false, .slice Ao9 t326.length co9] 63 (0, 0)) (by (with_reducible repeat (first | refine blk_drewN ?_ _ | refine blk_drew ?_ | refine blk_alloc ?_ _)); refine blk_far ?_ NB333_344.out _; (with_reducible repeat (first | refine blk_drewN ?_ _ | refine blk_drew ?_ | refine blk_alloc ?_ _)); refine blk_far ?_ NB333_344.out _; (with_reducible repeat (first | refine blk_drewN ?_ _ | refine blk_drew ?_ | refine blk_alloc ?_ _)); exact BK333.out) k_ hk_), (Kd.freshB (g := gb334) (o := .cells #[.bool false, .slice Ao11 t330.length co11] 63 (0, 0)) (by (with_reducible repeat (first | refine blk_drewN ?_ _ | refine blk_drew ?_ | refine blk_alloc ?_ _)); refine blk_far ?_ NB334_344.out _; (with_reducible repeat (first | refine blk_drewN ?_ _ | refine blk_drew ?_ | refine blk_alloc ?_ _)); refine blk_far ?_ NB334_344.out _; (with_reducible repeat (first | refine blk_drewN ?_ _ | refine blk_drew ?_ | refine blk_alloc ?_ _)); exact BK334.out) k_ hk_), (Kd.freshB (g := gb343) (o := .cells #[.bool x344000_1, .slice Ao101 x344001_1.length co101] 63 (0, 0)) (by (with_reducible repeat (first | refine blk_drewN ?_ _ | refine blk_drew ?_ | refine blk_alloc ?_ _)); refine blk_far ?_ NB343_344.out _; (with_reducible repeat (first | refine blk_drewN ?_ _ | refine blk_drew ?_ | refine blk_alloc ?_ _)); refine blk_far ?_ NB343_344.out _; (with_reducible repeat (first | refine blk_drewN ?_ _ | refine blk_drew ?_ | refine blk_alloc ?_ _)); exact BK343.out) k_ hk_), (Kd.freshB (g := gb344) (o := .cells #[.bool t354, .slice Ao95 t355.length co95] 63 (0, 0)) (by (with_reducible repeat (first | refine blk_drewN ?_ _ | refine blk_drew ?_ | refine blk_alloc ?_ _)); refine blk_put (cs := #[.bool t354, .slice Ao87 x345001_1.length co87]) ?_ 1 _ rfl; (with_reducible repeat (first | refine blk_drewN ?_ _ | refine blk_drew ?_ | refine blk_alloc ?_ _)); refine blk_put (cs := #[.bool x345000_1, .slice Ao87 x345001_1.length co87]) ?_ 0 _ rfl; (with_reducible repeat (first | refine blk_drewN ?_ _ | refine blk_drew ?_ | refine blk_alloc ?_ _)); exact BK344.out) k_ hk_)⟩)) (below_size (by repeat (first | (with_reducible first | exact HB.out | apply below_alloc | apply pw_below_drewN | apply below_drew1 | refine below_set ?_ GE333.out | refine below_set ?_ GE334.out | refine below_set ?_ GE343.out | refine below_set ?_ GE344.out) | exact HB.out)))); have n8_ := Aside0.mk (blk_below (g := gb333) (o := .cells #[.bool false, .slice Ao9 t326.length co9] 63 (0, 0)) (by (with_reducible repeat (first | refine blk_drewN ?_ _ | refine blk_drew ?_ | refine blk_alloc ?_ _)); refine blk_far ?_ NB333_344.out _; (with_reducible repeat (first | refine blk_drewN ?_ _ | refine blk_drew ?_ | refine blk_alloc ?_ _)); refine blk_far ?_ NB333_344.out _; (with_reducible repeat (first | refine blk_drewN ?_ _ | refine blk_drew ?_ | refine blk_alloc ?_ _)); exact BK333.out) hb); have n9_ := Aside0.mk (blk_below (g := gb334) (o := .cells #[.bool false, .slice Ao11 t330.length co11] 63 (0, 0)) (by (with_reducible repeat (first | refine blk_drewN ?_ _ | refine blk_drew ?_ | refine blk_alloc ?_ _)); refine blk_far ?_ NB334_344.out _; (with_reducible repeat (first | refine blk_drewN ?_ _ | refine blk_drew ?_ | refine blk_alloc ?_ _)); refine blk_far ?_ NB334_344.out _; (with_reducible repeat (first | refine blk_drewN ?_ _ | refine blk_drew ?_ | refine blk_alloc ?_ _)); exact BK334.out) hb); have n10_ := Aside0.mk (blk_below (g := gb343) (o := .cells #[.bool x344000_1, .slice Ao101 x344001_1.length co101] 63 (0, 0)) (by (with_reducible repeat (first | refine blk_drewN ?_ _ | refine blk_drew ?_ | refine blk_alloc ?_ _)); refine blk_far ?_ NB343_344.out _; (with_reducible repeat (first | refine blk_drewN ?_ _ | refine blk_drew ?_ | refine blk_alloc ?_ _)); refine blk_far ?_ NB343_344.out _; (with_reducible repeat (first | refine blk_drewN ?_ _ | refine blk_drew ?_ | refine blk_alloc ?_ _)); exact BK343.out) hb); have n11_ := Aside0.mk (blk_below (g := gb344) (o := .cells #[.bool t354, .slice Ao95 t355.length co95] 63 (0, 0)) (by (with_reducible repeat (first | refine blk_drewN ?_ _ | refine blk_drew ?_ | refine blk_alloc ?_ _)); refine blk_put (cs := #[.bool t354, .slice Ao87 x345001_1.length co87]) ?_ 1 _ rfl; (with_reducible repeat (first | refine blk_drewN ?_ _ | refine blk_drew ?_ | refine blk_alloc ?_ _)); refine blk_put (cs := #[.bool x345000_1, .slice Ao87 x345001_1.length co87]) ?_ 0 _ rfl; (with_reducible repeat (first | refine blk_drewN ?_ _ | refine blk_drew ?_ | refine blk_alloc ?_ _)); exact BK344.out) hb); have n12_ := Aside0.mk (below_step (by repeat (first | (with_reducible first | exact HB.out | apply below_alloc | apply pw_below_drewN | apply below_drew1 | refine below_set ?_ GE333.out | refine below_set ?_ GE334.out | refine below_set ?_ GE343.out | refine below_set ?_ GE344.out) | exact HB.out)) hb); clear HO_334001; clear HO_335001; clear HO_344001; clear HO_345001; clear HO348; clear HO353; clear HO357; clear BK333; clear BK334; clear BK343; clear BK344; clear HB; have HO_334001 := n0_; have HO_335001 := n1_; have HO_344001 := n2_; have HO_345001 := n3_; have HO348 := n4_; have HO353 := n5_; have HO357 := n6_; have HO361 := n7_; have BK333 := n8_; have BK334 := n9_; have BK343 := n10_; have BK344 := n11_; have HB := n12_; clear n0_ n1_ n2_ n3_ n4_ n5_ n6_ n7_ n8_ n9_ n10_ n11_ n12_; (try clear hb); (try clear hb2); (try clear hk); (try clear hi); (try clear ho0); have hcz103_0 : w102.cell? ⟨gb343, 0, none⟩ = some (.bool x344000_1) := (blk_cell BK343.out 0).trans rfl; have hcz103_1 : w102.cell? ⟨gb343, 1, none⟩ = some (.slice Ao101 x344001_1.length co101) := (blk_cell BK343.out 1).trans rfl; have hfz103_0 := blk_frozen BK343.out 0; have hfz103_1 := blk_frozen BK343.out 1; obtain ⟨Ao104, co104, eo104⟩ := Kd.V_slice HO361.out; subst eo104; have hnb105 := NB344_333.out; have hnc105 := NB333_344.out; have hnb106 := NB344_334.out; have hnc106 := NB334_344.out; have hcz107_0 : w102.cell? ⟨gb344, 0, none⟩ = some (.bool t354) := (blk_cell BK344.out 0).trans rfl; have hcz107_1 : w102.cell? ⟨gb344, 1, none⟩ = some (.slice Ao95 t355.length co95) := (blk_cell BK344.out 1).trans rfl; have hfz107_0 := blk_frozen BK344.out 0; have hfz107_1 := blk_frozen BK344.out 1; have hnb108 := NB334_333.out; have hnc108 := NB333_334.out; have hcz109_0 : w102.cell? ⟨gb334, 0, none⟩ = some (.bool false) := (blk_cell BK334.out 0).trans rfl; have hcz109_1 : w102.cell? ⟨gb334, 1, none⟩ = some (.slice Ao11 t330.length co11) := (blk_cell BK334.out 1).trans rfl; have hfz109_0 := blk_frozen BK334.out 0; have hfz109_1 := blk_frozen BK334.out 1) | ((with_reducible refine gate_callee (f := 57) rfl ?_); refine goesL_ (some 52) rfl rfl Try.func57 (by kernel_rfl) rfl #[.agg #[.bool t354, .slice Ao95 t355.length co95], .agg #[.bool false, .slice Ao11 t330.length co11]] rfl (by (try simp only [List.map_toArray, List.map_cons, List.map_nil]); first | done | rfl | (simp only [List.length_drop, List.length_take]; rfl)) ?_; (with_reducible refine (tabardref01_Size.calls k1 t354 _ _ t355 false _ _ t330 t362 _ ?side1 ?side2 ?side3 ?side4 A40.out).mono ?_); (case side1 => refine (Kd.V_reads' (e := 67) (base := w.heap.size) (ok := fun k_ => (k_ ≠ gb333 ∧ (k_ ≠ gb334 ∧ (k_ ≠ gb343 ∧ k_ ≠ gb344)))) (n := t355.length) (c := co95) ?_).2.2; exact (by (with_reducible repeat (first | apply Kd.V_alloc | apply Kd.V_drewN | apply Kd.V_drew)); exact (Kd.V_mono (Kd.V_far (p := ⟨gb343, 1, none⟩) (Kd.V_far (p := ⟨gb343, 0, none⟩) (Kd.V_mono HO357.out (fun k_ hk => (⟨hk, hk.2.2.1⟩ : _ ∧ k_ ≠ gb343))) (fun _ hk => hk.2) (.bool t358)) (fun _ hk => hk.2) (.slice Ao104 t359.length co104)) (fun _ h_ => h_.1)))); (case side2 => exact (Kd.V_reads' HO357.out).2.1); (case side3 => refine (Kd.V_reads' (e := 67) (base := w.heap.size) (ok := fun k_ => (k_ ≠ gb333 ∧ (k_ ≠ gb334 ∧ (k_ ≠ gb343 ∧ k_ ≠ gb344)))) (n := t330.length) (c := co11) ?_).2.2; exact (by (with_reducible repeat (first | apply Kd.V_alloc | apply Kd.V_drewN | apply Kd.V_drew)); exact (Kd.V_mono (Kd.V_far (p := ⟨gb343, 1, none⟩) (Kd.V_far (p := ⟨gb343, 0, none⟩) (Kd.V_mono HO_335001.out (fun k_ hk => (⟨hk, hk.2.2.1⟩ : _ ∧ k_ ≠ gb343))) (fun _ hk => hk.2) (.bool t358)) (fun _ hk => hk.2) (.slice Ao104 t359.length co104)) (fun _ h_ => h_.1)))); (case side4 => exact (Kd.V_reads' HO_335001.out).2.1); rintro e w110 ⟨rfl, hb⟩; refine ⟨_, rfl, ?_⟩; have n0_ := Aside0.mk (Kd.V_below (by (with_reducible repeat (first | apply Kd.V_alloc | apply Kd.V_drewN | apply Kd.V_drew)); exact (Kd.V_mono (Kd.V_far (p := ⟨gb343, 1, none⟩) (Kd.V_far (p := ⟨gb343, 0, none⟩) (Kd.V_mono HO_334001.out (fun k_ hk => (⟨hk, hk.2.2.1⟩ : _ ∧ k_ ≠ gb343))) (fun _ hk => hk.2) (.bool t358)) (fun _ hk => hk.2) (.slice Ao104 t359.length co104)) (fun _ h_ => h_.1))) hb); have n1_ := Aside0.mk (Kd.V_below (by (with_reducible repeat (first | apply Kd.V_alloc | apply Kd.V_drewN | apply Kd.V_drew)); exact (Kd.V_mono (Kd.V_far (p := ⟨gb343, 1, none⟩) (Kd.V_far (p := ⟨gb343, 0, none⟩) (Kd.V_mono HO_335001.out (fun k_ hk => (⟨hk, hk.2.2.1⟩ : _ ∧ k_ ≠ gb343))) (fun _ hk => hk.2) (.bool t358)) (fun _ hk => hk.2) (.slice Ao104 t359.length co104)) (fun _ h_ => h_.1))) hb); have n2_ := Aside0.mk (Kd.V_below (by (with_reducible repeat (first | apply Kd.V_alloc | apply Kd.V_drewN | apply Kd.V_drew)); exact (Kd.V_mono (Kd.V_far (p := ⟨gb343, 1, none⟩) (Kd.V_far (p := ⟨gb343, 0, none⟩) (Kd.V_mono HO_344001.out (fun k_ hk => (⟨hk, hk.2.2.1⟩ : _ ∧ k_ ≠ gb343))) (fun _ hk => hk.2) (.bool t358)) (fun _ hk => hk.2) (.slice Ao104 t359.length co104)) (fun _ h_ => h_.1))) hb); have n3_ := Aside0.mk (Kd.V_below (by (with_reducible repeat (first | apply Kd.V_alloc | apply Kd.V_drewN | apply Kd.V_drew)); exact (Kd.V_mono (Kd.V_far (p := ⟨gb343, 1, none⟩) (Kd.V_far (p := ⟨gb343, 0, none⟩) (Kd.V_mono HO_345001.out (fun k_ hk => (⟨hk, hk.2.2.1⟩ : _ ∧ k_ ≠ gb343))) (fun _ hk => hk.2) (.bool t358)) (fun _ hk => hk.2) (.slice Ao104 t359.length co104)) (fun _ h_ => h_.1))) hb); have n4_ := Aside0.mk (Kd.V_below (by (with_reducible repeat (first | apply Kd.V_alloc | apply Kd.V_drewN | apply Kd.V_drew)); exact (Kd.V_mono (Kd.V_far (p := ⟨gb343, 1, none⟩) (Kd.V_far (p := ⟨gb343, 0, none⟩) (Kd.V_mono HO348.out (fun k_ hk => (⟨hk, hk.2.2.1⟩ : _ ∧ k_ ≠ gb343))) (fun _ hk => hk.2) (.bool t358)) (fun _ hk => hk.2) (.slice Ao104 t359.length co104)) (fun _ h_ => h_.1))) hb); have n5_ := Aside0.mk (Kd.V_below (by (with_reducible repeat (first | apply Kd.V_alloc | apply Kd.V_drewN | apply Kd.V_drew)); exact (Kd.V_mono (Kd.V_far (p := ⟨gb343, 1, none⟩) (Kd.V_far (p := ⟨gb343, 0, none⟩) (Kd.V_mono HO353.out (fun k_ hk => (⟨hk, hk.2.2.1⟩ : _ ∧ k_ ≠ gb343))) (fun _ hk => hk.2) (.bool t358)) (fun _ hk => hk.2) (.slice Ao104 t359.length co104)) (fun _ h_ => h_.1))) hb); have n6_ := Aside0.mk (Kd.V_below (by (with_reducible repeat (first | apply Kd.V_alloc | apply Kd.V_drewN | apply Kd.V_drew)); exact (Kd.V_mono (Kd.V_far (p := ⟨gb343, 1, none⟩) (Kd.V_far (p := ⟨gb343, 0, none⟩) (Kd.V_mono HO357.out (fun k_ hk => (⟨hk, hk.2.2.1⟩ : _ ∧ k_ ≠ gb343))) (fun _ hk => hk.2) (.bool t358)) (fun _ hk => hk.2) (.slice Ao104 t359.length co104)) (fun _ h_ => h_.1))) hb); have n7_ := Aside0.mk (Kd.V_below (by (with_reducible repeat (first | apply Kd.V_alloc | apply Kd.V_drewN | apply Kd.V_drew)); exact (Kd.V_mono (Kd.V_far (p := ⟨gb343, 1, none⟩) (Kd.V_far (p := ⟨gb343, 0, none⟩) (Kd.V_mono HO361.out (fun k_ hk => (⟨hk, hk.2.2.1⟩ : _ ∧ k_ ≠ gb343))) (fun _ hk => hk.2) (.bool t358)) (fun _ hk => hk.2) (.slice Ao104 t359.length co104)) (fun _ h_ => h_.1))) hb); have n8_ := Aside0.mk (blk_below (g := gb333) (o := .cells #[.bool false, .slice Ao9 t326.length co9] 63 (0, 0)) (by (with_reducible repeat (first | refine blk_drewN ?_ _ | refine blk_drew ?_ | refine blk_alloc ?_ _)); refine blk_far ?_ NB333_343.out _; (with_reducible repeat (first | refine blk_drewN ?_ _ | refine blk_drew ?_ | refine blk_alloc ?_ _)); refine blk_far ?_ NB333_343.out _; (with_reducible repeat (first | refine blk_drewN ?_ _ | refine blk_drew ?_ | refine blk_alloc ?_ _)); exact BK333.out) hb); have n9_ := Aside0.mk (blk_below (g := gb334) (o := .cells #[.bool false, .slice Ao11 t330.length co11] 63 (0, 0)) (by (with_reducible repeat (first | refine blk_drewN ?_ _ | refine blk_drew ?_ | refine blk_alloc ?_ _)); refine blk_far ?_ NB334_343.out _; (with_reducible repeat (first | refine blk_drewN ?_ _ | refine blk_drew ?_ | refine blk_alloc ?_ _)); refine blk_far ?_ NB334_343.out _; (with_reducible repeat (first | refine blk_drewN ?_ _ | refine blk_drew ?_ | refine blk_alloc ?_ _)); exact BK334.out) hb); have n10_ := Aside0.mk (blk_below (g := gb343) (o := .cells #[.bool t358, .slice Ao104 t359.length co104] 63 (0, 0)) (by (with_reducible repeat (first | refine blk_drewN ?_ _ | refine blk_drew ?_ | refine blk_alloc ?_ _)); refine blk_put (cs := #[.bool t358, .slice Ao101 x344001_1.length co101]) ?_ 1 _ rfl; (with_reducible repeat (first | refine blk_drewN ?_ _ | refine blk_drew ?_ | refine blk_alloc ?_ _)); refine blk_put (cs := #[.bool x344000_1, .slice Ao101 x344001_1.length co101]) ?_ 0 _ rfl; (with_reducible repeat (first | refine blk_drewN ?_ _ | refine blk_drew ?_ | refine blk_alloc ?_ _)); exact BK343.out) hb); have n11_ := Aside0.mk (blk_below (g := gb344) (o := .cells #[.bool t354, .slice Ao95 t355.length co95] 63 (0, 0)) (by (with_reducible repeat (first | refine blk_drewN ?_ _ | refine blk_drew ?_ | refine blk_alloc ?_ _)); refine blk_far ?_ NB344_343.out _; (with_reducible repeat (first | refine blk_drewN ?_ _ | refine blk_drew ?_ | refine blk_alloc ?_ _)); refine blk_far ?_ NB344_343.out _; (with_reducible repeat (first | refine blk_drewN ?_ _ | refine blk_drew ?_ | refine blk_alloc ?_ _)); exact BK344.out) hb); have n12_ := Aside0.mk (below_step (by repeat (first | (with_reducible first | exact HB.out | apply below_alloc | apply pw_below_drewN | apply below_drew1 | refine below_set ?_ GE333.out | refine below_set ?_ GE334.out | refine below_set ?_ GE343.out | refine below_set ?_ GE344.out) | exact HB.out)) hb); clear HO_334001; clear HO_335001; clear HO_344001; clear HO_345001; clear HO348; clear HO353; clear HO357; clear HO361; clear BK333; clear BK334; clear BK343; clear BK344; clear HB; have HO_334001 := n0_; have HO_335001 := n1_; have HO_344001 := n2_; have HO_345001 := n3_; have HO348 := n4_; have HO353 := n5_; have HO357 := n6_; have HO361 := n7_; have BK333 := n8_; have BK334 := n9_; have BK343 := n10_; have BK344 := n11_; have HB := n12_; clear n0_ n1_ n2_ n3_ n4_ n5_ n6_ n7_ n8_ n9_ n10_ n11_ n12_; (try clear hb); (try clear hb2); (try clear hk); (try clear hi)))
              go_roundg k1
              case measure => have := HK1.out; omega
              case rel => exact ⟨(wrap64 (x10_1 - 1)), (t358), (t359), (t354), (t355), (.slice Ao104 t359.length co104), (.slice Ao95 t355.length co95), (by first | rfl | (simp; done) | (simp [*]; done)), H', ⟨by have := HK1.out; omega⟩, ⟨by (with_reducible repeat (first | apply Kd.V_alloc | apply Kd.V_drewN | apply Kd.V_drew)); exact HO_334001.out⟩, ⟨by (with_reducible repeat (first | apply Kd.V_alloc | apply Kd.V_drewN | apply Kd.V_drew)); exact HO_335001.out⟩, ⟨by (with_reducible repeat (first | apply Kd.V_alloc | apply Kd.V_drewN | apply Kd.V_drew)); exact HO361.out⟩, ⟨by (with_reducible repeat (first | apply Kd.V_alloc | apply Kd.V_drewN | apply Kd.V_drew)); exact HO357.out⟩, ⟨by (with_reducible repeat (first | refine blk_drewN ?_ _ | refine blk_drew ?_ | refine blk_alloc ?_ _)); exact BK333.out⟩, ⟨by (with_reducible repeat (first | refine blk_drewN ?_ _ | refine blk_drew ?_ | refine blk_alloc ?_ _)); exact BK334.out⟩, ⟨by (with_reducible repeat (first | refine blk_drewN ?_ _ | refine blk_drew ?_ | refine blk_alloc ?_ _)); exact BK343.out⟩, ⟨by (with_reducible repeat (first | refine blk_drewN ?_ _ | refine blk_drew ?_ | refine blk_alloc ?_ _)); exact BK344.out⟩, ⟨by repeat (first | (with_reducible first | exact HB.out | apply below_alloc | apply pw_below_drewN | apply below_drew1 | refine below_set ?_ GE333.out | refine below_set ?_ GE334.out | refine below_set ?_ GE343.out | refine below_set ?_ GE344.out) | exact HB.out)⟩⟩
          · rw [if_neg c35] at H
            exact absurd H (by simp)
        · rw [if_neg c31] at H
          have c31b0 : decide (0 ≤ x10_1) = false := decide_eq_false c31
          clear c31
          by_cases c111 : ((decide (a0 < 0)) != (decide (a1 < 0))) = true
          · rw [if_pos c111] at H
            have c111b0 : ((decide (a0 < 0)) != (decide (a1 < 0))) = true := c111
            (try (have c111b1 : decide ((decide (a0 < 0)) = (decide (a1 < 0))) = false := by simpa using c111))
            (try (have c111b2 : ((decide (a0 < 0)) == (decide (a1 < 0))) = false := by simpa using c111))
            (try (have c111b3 : ¬ ((decide (a0 < 0)) = (decide (a1 < 0))) := by simpa using c111))
            clear c111
            replace H := Option.bind_eq_some_iff.mp H
            obtain ⟨⟨t379, t380⟩, A1120, H⟩ := H
            replace H : (if (x345001_1.length : Int) > 0 then ((tabardref01_Of.f k1 (-1)).bind fun bt383 => ((tabardref01_Plus.f k1 t379 t380 bt383.1 bt383.2).bind fun bt387 => ((tabardref01_told.f k1 bt387.1 bt387.2).bind fun bt391 => (some (bt391.1, bt391.2))))) else ((tabardref01_told.f k1 t379 t380).bind fun bt393 => (some (bt393.1, bt393.2)))) = some (r1, r2) := H
            have A112 := Aside0.mk A1120
            clear A1120
            by_cases c113 : (x345001_1.length : Int) > 0
            · rw [if_pos c113] at H
              have c113b0 : decide (0 < (x345001_1.length : Int)) = true := decide_eq_true c113
              have c113b1 : decide (0 < x345001_1.length) = true := decide_eq_true (by omega)
              clear c113
              replace H := Option.bind_eq_some_iff.mp H
              obtain ⟨⟨t383, t384⟩, A1140, H⟩ := H
              replace H : ((tabardref01_Plus.f k1 t379 t380 t383 t384).bind fun bt387 => ((tabardref01_told.f k1 bt387.1 bt387.2).bind fun bt391 => (some (bt391.1, bt391.2)))) = some (r1, r2) := H
              have A114 := Aside0.mk A1140
              clear A1140
              replace H := Option.bind_eq_some_iff.mp H
              obtain ⟨⟨t387, t388⟩, A1150, H⟩ := H
              replace H : ((tabardref01_told.f k1 t387 t388).bind fun bt391 => (some (bt391.1, bt391.2))) = some (r1, r2) := H
              have A115 := Aside0.mk A1150
              clear A1150
              replace H := Option.bind_eq_some_iff.mp H
              obtain ⟨⟨t391, t392⟩, A1160, H⟩ := H
              replace H : (some (t391, t392)) = some (r1, r2) := H
              have A116 := Aside0.mk A1160
              clear A1160
              simp only [Option.some.injEq, Prod.mk.injEq] at H
              obtain ⟨rfl, rfl⟩ := H
              have hnb117 := NB343_333.out
              have hnc117 := NB333_343.out
              have hnb118 := NB343_334.out
              have hnc118 := NB334_343.out
              have hnb119 := NB343_344.out
              have hnc119 := NB344_343.out
              have hcz120_0 : wr.cell? ⟨gb343, 0, none⟩ = some (.bool x344000_1) := (blk_cell BK343.out 0).trans rfl
              have hcz120_1 : wr.cell? ⟨gb343, 1, none⟩ = some (u344001) := (blk_cell BK343.out 1).trans rfl
              have hfz120_0 := blk_frozen BK343.out 0
              have hfz120_1 := blk_frozen BK343.out 1
              obtain ⟨Ao121, co121, eo121⟩ := Kd.V_slice HO_344001.out
              subst eo121
              try go_wp2_with (first | ((with_reducible refine gate_callee (f := 55) rfl ?_); refine goesL_ (some 67) rfl rfl Try.func55 (by kernel_rfl) rfl #[.agg #[.bool x344000_1, .slice Ao121 x344001_1.length co121]] rfl (by (try simp only [List.map_toArray, List.map_cons, List.map_nil]); first | done | rfl | (simp only [List.length_drop, List.length_take]; rfl)) ?_; (with_reducible refine (tabardref01_Minus.calls k1 x344000_1 (fun k_ => (k_ ≠ gb333 ∧ (k_ ≠ gb334 ∧ (k_ ≠ gb343 ∧ k_ ≠ gb344)))) _ _ x344001_1 t379 t380 _ ?side1 A112.out).mono ?_); (case side1 => exact HO_344001.out); rintro e w122 ⟨v381, rfl, ho0, hb⟩; refine ⟨_, rfl, ?_⟩; have n0_ := Aside0.mk (Kd.V_below (by (with_reducible repeat (first | apply Kd.V_alloc | apply Kd.V_drewN | apply Kd.V_drew)); exact HO_334001.out) hb); have n1_ := Aside0.mk (Kd.V_below (by (with_reducible repeat (first | apply Kd.V_alloc | apply Kd.V_drewN | apply Kd.V_drew)); exact HO_335001.out) hb); have n2_ := Aside0.mk (Kd.V_below (by (with_reducible repeat (first | apply Kd.V_alloc | apply Kd.V_drewN | apply Kd.V_drew)); exact HO_344001.out) hb); have n3_ := Aside0.mk (Kd.V_below (by (with_reducible repeat (first | apply Kd.V_alloc | apply Kd.V_drewN | apply Kd.V_drew)); exact HO_345001.out) hb); have n4_ := Aside0.mk (Kd.V_lower (Kd.V_mono (ok' := fun k_ => k_ ≠ gb333 ∧ k_ ≠ gb334 ∧ k_ ≠ gb343 ∧ k_ ≠ gb344) ho0 (fun k_ hk_ => ⟨Or.elim hk_ (fun hs_ => hs_.1) (fun hn_ => (Kd.freshB (g := gb333) (o := .cells #[.bool false, .slice Ao9 t326.length co9] 63 (0, 0)) (by (with_reducible repeat (first | refine blk_drewN ?_ _ | refine blk_drew ?_ | refine blk_alloc ?_ _)); exact BK333.out) k_ hn_)), Or.elim hk_ (fun hs_ => hs_.2.1) (fun hn_ => (Kd.freshB (g := gb334) (o := .cells #[.bool false, .slice Ao11 t330.length co11] 63 (0, 0)) (by (with_reducible repeat (first | refine blk_drewN ?_ _ | refine blk_drew ?_ | refine blk_alloc ?_ _)); exact BK334.out) k_ hn_)), Or.elim hk_ (fun hs_ => hs_.2.2.1) (fun hn_ => (Kd.freshB (g := gb343) (o := .cells #[.bool x344000_1, .slice Ao121 x344001_1.length co121] 63 (0, 0)) (by (with_reducible repeat (first | refine blk_drewN ?_ _ | refine blk_drew ?_ | refine blk_alloc ?_ _)); exact BK343.out) k_ hn_)), Or.elim hk_ (fun hs_ => hs_.2.2.2) (fun hn_ => (Kd.freshB (g := gb344) (o := .cells #[.bool x345000_1, u345001] 63 (0, 0)) (by (with_reducible repeat (first | refine blk_drewN ?_ _ | refine blk_drew ?_ | refine blk_alloc ?_ _)); exact BK344.out) k_ hn_))⟩)) (below_size (by repeat (first | (with_reducible first | exact HB.out | apply below_alloc | apply pw_below_drewN | apply below_drew1 | refine below_set ?_ GE333.out | refine below_set ?_ GE334.out | refine below_set ?_ GE343.out | refine below_set ?_ GE344.out) | exact HB.out)))); have n5_ := Aside0.mk (blk_below (g := gb333) (o := .cells #[.bool false, .slice Ao9 t326.length co9] 63 (0, 0)) (by (with_reducible repeat (first | refine blk_drewN ?_ _ | refine blk_drew ?_ | refine blk_alloc ?_ _)); exact BK333.out) hb); have n6_ := Aside0.mk (blk_below (g := gb334) (o := .cells #[.bool false, .slice Ao11 t330.length co11] 63 (0, 0)) (by (with_reducible repeat (first | refine blk_drewN ?_ _ | refine blk_drew ?_ | refine blk_alloc ?_ _)); exact BK334.out) hb); have n7_ := Aside0.mk (blk_below (g := gb343) (o := .cells #[.bool x344000_1, .slice Ao121 x344001_1.length co121] 63 (0, 0)) (by (with_reducible repeat (first | refine blk_drewN ?_ _ | refine blk_drew ?_ | refine blk_alloc ?_ _)); exact BK343.out) hb); have n8_ := Aside0.mk (blk_below (g := gb344) (o := .cells #[.bool x345000_1, u345001] 63 (0, 0)) (by (with_reducible repeat (first | refine blk_drewN ?_ _ | refine blk_drew ?_ | refine blk_alloc ?_ _)); exact BK344.out) hb); have n9_ := Aside0.mk (below_step (by repeat (first | (with_reducible first | exact HB.out | apply below_alloc | apply pw_below_drewN | apply below_drew1 | refine below_set ?_ GE333.out | refine below_set ?_ GE334.out | refine below_set ?_ GE343.out | refine below_set ?_ GE344.out) | exact HB.out)) hb); clear HO_334001; clear HO_335001; clear HO_344001; clear HO_345001; clear BK333; clear BK334; clear BK343; clear BK344; clear HB; have HO_334001 := n0_; have HO_335001 := n1_; have HO_344001 := n2_; have HO_345001 := n3_; have HO382 := n4_; have BK333 := n5_; have BK334 := n6_; have BK343 := n7_; have BK344 := n8_; have HB := n9_; clear n0_ n1_ n2_ n3_ n4_ n5_ n6_ n7_ n8_ n9_; (try clear hb); (try clear hb2); (try clear hk); (try clear hi); (try clear ho0); have hcz123_0 : w122.cell? ⟨gb343, 0, none⟩ = some (.bool x344000_1) := (blk_cell BK343.out 0).trans rfl; have hcz123_1 : w122.cell? ⟨gb343, 1, none⟩ = some (.slice Ao121 x344001_1.length co121) := (blk_cell BK343.out 1).trans rfl; have hfz123_0 := blk_frozen BK343.out 0; have hfz123_1 := blk_frozen BK343.out 1; obtain ⟨Ao124, co124, eo124⟩ := Kd.V_slice HO382.out; subst eo124; have hnb125 := NB344_333.out; have hnc125 := NB333_344.out; have hnb126 := NB344_334.out; have hnc126 := NB334_344.out; have hcz127_0 : w122.cell? ⟨gb344, 0, none⟩ = some (.bool x345000_1) := (blk_cell BK344.out 0).trans rfl; have hcz127_1 : w122.cell? ⟨gb344, 1, none⟩ = some (u345001) := (blk_cell BK344.out 1).trans rfl; have hfz127_0 := blk_frozen BK344.out 0; have hfz127_1 := blk_frozen BK344.out 1; obtain ⟨Ao128, co128, eo128⟩ := Kd.V_slice HO_345001.out; subst eo128))
              have n0_ : Aside0 (Kd.V (Kd.int .u64) 67 ((w122.setCell ⟨gb343, 0, none⟩ (.bool t379)).setCell ⟨gb343, 1, none⟩ (.slice Ao124 t380.length co124)) w.heap.size (fun k_ => k_ ≠ gb333 ∧ k_ ≠ gb334 ∧ k_ ≠ gb343 ∧ k_ ≠ gb344) (.slice Ao9 t326.length co9) t326) := ⟨by (with_reducible repeat (first | apply Kd.V_alloc | apply Kd.V_drewN | apply Kd.V_drew)); exact Kd.V_mono (Kd.V_far (p := ⟨gb343, 1, none⟩) (Kd.V_far (p := ⟨gb343, 0, none⟩) (Kd.V_mono HO_334001.out (fun k_ hk => (⟨hk, hk.2.2.1⟩ : _ ∧ k_ ≠ gb343))) (fun _ hk => hk.2) (.bool t379)) (fun _ hk => hk.2) (.slice Ao124 t380.length co124)) (fun _ hk => ⟨hk.1.1, ⟨hk.1.2.1, ⟨hk.1.2.2.1, hk.1.2.2.2⟩⟩⟩)⟩
              have n1_ : Aside0 (Kd.V (Kd.int .u64) 67 ((w122.setCell ⟨gb343, 0, none⟩ (.bool t379)).setCell ⟨gb343, 1, none⟩ (.slice Ao124 t380.length co124)) w.heap.size (fun k_ => k_ ≠ gb333 ∧ k_ ≠ gb334 ∧ k_ ≠ gb343 ∧ k_ ≠ gb344) (.slice Ao11 t330.length co11) t330) := ⟨by (with_reducible repeat (first | apply Kd.V_alloc | apply Kd.V_drewN | apply Kd.V_drew)); exact Kd.V_mono (Kd.V_far (p := ⟨gb343, 1, none⟩) (Kd.V_far (p := ⟨gb343, 0, none⟩) (Kd.V_mono HO_335001.out (fun k_ hk => (⟨hk, hk.2.2.1⟩ : _ ∧ k_ ≠ gb343))) (fun _ hk => hk.2) (.bool t379)) (fun _ hk => hk.2) (.slice Ao124 t380.length co124)) (fun _ hk => ⟨hk.1.1, ⟨hk.1.2.1, ⟨hk.1.2.2.1, hk.1.2.2.2⟩⟩⟩)⟩
              have n2_ : Aside0 (Kd.V (Kd.int .u64) 67 ((w122.setCell ⟨gb343, 0, none⟩ (.bool t379)).setCell ⟨gb343, 1, none⟩ (.slice Ao124 t380.length co124)) w.heap.size (fun k_ => k_ ≠ gb333 ∧ k_ ≠ gb334 ∧ k_ ≠ gb343 ∧ k_ ≠ gb344) (.slice Ao121 x344001_1.length co121) x344001_1) := ⟨by (with_reducible repeat (first | apply Kd.V_alloc | apply Kd.V_drewN | apply Kd.V_drew)); exact Kd.V_mono (Kd.V_far (p := ⟨gb343, 1, none⟩) (Kd.V_far (p := ⟨gb343, 0, none⟩) (Kd.V_mono HO_344001.out (fun k_ hk => (⟨hk, hk.2.2.1⟩ : _ ∧ k_ ≠ gb343))) (fun _ hk => hk.2) (.bool t379)) (fun _ hk => hk.2) (.slice Ao124 t380.length co124)) (fun _ hk => ⟨hk.1.1, ⟨hk.1.2.1, ⟨hk.1.2.2.1, hk.1.2.2.2⟩⟩⟩)⟩
              have n3_ : Aside0 (Kd.V (Kd.int .u64) 67 ((w122.setCell ⟨gb343, 0, none⟩ (.bool t379)).setCell ⟨gb343, 1, none⟩ (.slice Ao124 t380.length co124)) w.heap.size (fun k_ => k_ ≠ gb333 ∧ k_ ≠ gb334 ∧ k_ ≠ gb343 ∧ k_ ≠ gb344) (.slice Ao128 x345001_1.length co128) x345001_1) := ⟨by (with_reducible repeat (first | apply Kd.V_alloc | apply Kd.V_drewN | apply Kd.V_drew)); exact Kd.V_mono (Kd.V_far (p := ⟨gb343, 1, none⟩) (Kd.V_far (p := ⟨gb343, 0, none⟩) (Kd.V_mono HO_345001.out (fun k_ hk => (⟨hk, hk.2.2.1⟩ : _ ∧ k_ ≠ gb343))) (fun _ hk => hk.2) (.bool t379)) (fun _ hk => hk.2) (.slice Ao124 t380.length co124)) (fun _ hk => ⟨hk.1.1, ⟨hk.1.2.1, ⟨hk.1.2.2.1, hk.1.2.2.2⟩⟩⟩)⟩
              have n4_ : Aside0 (Kd.V (Kd.int .u64) 67 ((w122.setCell ⟨gb343, 0, none⟩ (.bool t379)).setCell ⟨gb343, 1, none⟩ (.slice Ao124 t380.length co124)) w.heap.size (fun k_ => k_ ≠ gb333 ∧ k_ ≠ gb334 ∧ k_ ≠ gb343 ∧ k_ ≠ gb344) (.slice Ao124 t380.length co124) t380) := ⟨by (with_reducible repeat (first | apply Kd.V_alloc | apply Kd.V_drewN | apply Kd.V_drew)); exact Kd.V_mono (Kd.V_far (p := ⟨gb343, 1, none⟩) (Kd.V_far (p := ⟨gb343, 0, none⟩) (Kd.V_mono HO382.out (fun k_ hk => (⟨hk, hk.2.2.1⟩ : _ ∧ k_ ≠ gb343))) (fun _ hk => hk.2) (.bool t379)) (fun _ hk => hk.2) (.slice Ao124 t380.length co124)) (fun _ hk => ⟨hk.1.1, ⟨hk.1.2.1, ⟨hk.1.2.2.1, hk.1.2.2.2⟩⟩⟩)⟩
              have n5_ : Aside0 (((w122.setCell ⟨gb343, 0, none⟩ (.bool t379)).setCell ⟨gb343, 1, none⟩ (.slice Ao124 t380.length co124)).heap[gb333]? = some (.cells #[.bool false, .slice Ao9 t326.length co9] 63 (0, 0))) := ⟨by (with_reducible repeat (first | refine blk_drewN ?_ _ | refine blk_drew ?_ | refine blk_alloc ?_ _)); refine blk_far ?_ NB333_343.out _; (with_reducible repeat (first | refine blk_drewN ?_ _ | refine blk_drew ?_ | refine blk_alloc ?_ _)); refine blk_far ?_ NB333_343.out _; (with_reducible repeat (first | refine blk_drewN ?_ _ | refine blk_drew ?_ | refine blk_alloc ?_ _)); exact BK333.out⟩
              have n6_ : Aside0 (((w122.setCell ⟨gb343, 0, none⟩ (.bool t379)).setCell ⟨gb343, 1, none⟩ (.slice Ao124 t380.length co124)).heap[gb334]? = some (.cells #[.bool false, .slice Ao11 t330.length co11] 63 (0, 0))) := ⟨by (with_reducible repeat (first | refine blk_drewN ?_ _ | refine blk_drew ?_ | refine blk_alloc ?_ _)); refine blk_far ?_ NB334_343.out _; (with_reducible repeat (first | refine blk_drewN ?_ _ | refine blk_drew ?_ | refine blk_alloc ?_ _)); refine blk_far ?_ NB334_343.out _; (with_reducible repeat (first | refine blk_drewN ?_ _ | refine blk_drew ?_ | refine blk_alloc ?_ _)); exact BK334.out⟩
              have n7_ : Aside0 (((w122.setCell ⟨gb343, 0, none⟩ (.bool t379)).setCell ⟨gb343, 1, none⟩ (.slice Ao124 t380.length co124)).heap[gb343]? = some (.cells #[.bool t379, .slice Ao124 t380.length co124] 63 (0, 0))) := ⟨by (with_reducible repeat (first | refine blk_drewN ?_ _ | refine blk_drew ?_ | refine blk_alloc ?_ _)); refine blk_put (cs := #[.bool t379, .slice Ao121 x344001_1.length co121]) ?_ 1 _ rfl; (with_reducible repeat (first | refine blk_drewN ?_ _ | refine blk_drew ?_ | refine blk_alloc ?_ _)); refine blk_put (cs := #[.bool x344000_1, .slice Ao121 x344001_1.length co121]) ?_ 0 _ rfl; (with_reducible repeat (first | refine blk_drewN ?_ _ | refine blk_drew ?_ | refine blk_alloc ?_ _)); exact BK343.out⟩
              have n8_ : Aside0 (((w122.setCell ⟨gb343, 0, none⟩ (.bool t379)).setCell ⟨gb343, 1, none⟩ (.slice Ao124 t380.length co124)).heap[gb344]? = some (.cells #[.bool x345000_1, .slice Ao128 x345001_1.length co128] 63 (0, 0))) := ⟨by (with_reducible repeat (first | refine blk_drewN ?_ _ | refine blk_drew ?_ | refine blk_alloc ?_ _)); refine blk_far ?_ NB344_343.out _; (with_reducible repeat (first | refine blk_drewN ?_ _ | refine blk_drew ?_ | refine blk_alloc ?_ _)); refine blk_far ?_ NB344_343.out _; (with_reducible repeat (first | refine blk_drewN ?_ _ | refine blk_drew ?_ | refine blk_alloc ?_ _)); exact BK344.out⟩
              have n9_ : Aside0 (Below w.heap.size w ((w122.setCell ⟨gb343, 0, none⟩ (.bool t379)).setCell ⟨gb343, 1, none⟩ (.slice Ao124 t380.length co124))) := ⟨by repeat (first | (with_reducible first | exact HB.out | apply below_alloc | apply pw_below_drewN | apply below_drew1 | refine below_set ?_ GE333.out | refine below_set ?_ GE334.out | refine below_set ?_ GE343.out | refine below_set ?_ GE344.out) | exact HB.out)⟩
              (try clear HO_334001)
              (try clear HO_335001)
              (try clear HO_344001)
              (try clear HO_345001)
              (try clear HO382)
              (try clear BK333)
              (try clear BK334)
              (try clear BK343)
              (try clear BK344)
              (try clear HB)
              generalize ((w122.setCell ⟨gb343, 0, none⟩ (.bool t379)).setCell ⟨gb343, 1, none⟩ (.slice Ao124 t380.length co124)) = w129 at n0_ n1_ n2_ n3_ n4_ n5_ n6_ n7_ n8_ n9_ ⊢
              have HO_334001 := n0_
              have HO_335001 := n1_
              have HO_344001 := n2_
              have HO_345001 := n3_
              have HO382 := n4_
              have BK333 := n5_
              have BK334 := n6_
              have BK343 := n7_
              have BK344 := n8_
              have HB := n9_
              clear n0_ n1_ n2_ n3_ n4_ n5_ n6_ n7_ n8_ n9_
              have n0_ := Aside0.mk (Kd.V_drew HO_334001.out)
              have n1_ := Aside0.mk (Kd.V_drew HO_335001.out)
              have n2_ := Aside0.mk (Kd.V_drew HO_344001.out)
              have n3_ := Aside0.mk (Kd.V_drew HO_345001.out)
              have n4_ := Aside0.mk (Kd.V_drew HO382.out)
              have n5_ := Aside0.mk (blk_drew BK333.out)
              have n6_ := Aside0.mk (blk_drew BK334.out)
              have n7_ := Aside0.mk (blk_drew BK343.out)
              have n8_ := Aside0.mk (blk_drew BK344.out)
              have n9_ := Aside0.mk (below_drew1 HB.out)
              clear HO_334001
              clear HO_335001
              clear HO_344001
              clear HO_345001
              clear HO382
              clear BK333
              clear BK334
              clear BK343
              clear BK344
              clear HB
              have HO_334001 := n0_
              have HO_335001 := n1_
              have HO_344001 := n2_
              have HO_345001 := n3_
              have HO382 := n4_
              have BK333 := n5_
              have BK334 := n6_
              have BK343 := n7_
              have BK344 := n8_
              have HB := n9_
              clear n0_ n1_ n2_ n3_ n4_ n5_ n6_ n7_ n8_ n9_
              refine start_ (n := 4) (S := fun w' => w'.cell? ⟨gb343, 0, none⟩ = some (.bool t379) ∧ w'.cell? ⟨gb343, 1, none⟩ = some (.slice Ao124 t380.length co124)) (ds := [3]) #[false, false, false, false] (by kernel_rfl) rfl rfl ⟨(blk_cell BK343.out 0).trans rfl, (blk_cell BK343.out 1).trans rfl⟩ (fun hHeld => ?_)
              generalize w129.drew = w130 at HO_334001 HO_335001 HO_344001 HO_345001 HO382 BK333 BK334 BK343 BK344 HB hHeld ⊢
              refine take_ (i := 0) (N := some 72) (v := ?_) (a' := ?_) #[true, false, false, false] rfl rfl (by kernel_rfl) (fun _ _ _ h => h) (Or.inl ⟨by rfl, ?_⟩) hHeld ?_ ?_
              rotate_left
              · rintro w' ⟨s0, s1⟩
                go_simp
                with_reducible rfl
              rotate_left
              · simp only [Act.put, List.setIfInBounds_toArray, List.set_cons_zero, List.set_cons_succ, i64_w, i32_w]
                rfl
              refine one_ (i := 1) (N := some 73) #[true, true, false, false] rfl rfl (by kernel_rfl) (by decide) (fun K hK => ?_)
              refine goes_ Try.func53 (by kernel_rfl) rfl #[.int .i64 (-1)] (by rfl) rfl rfl (by (try simp only [List.map_toArray, List.map_cons, List.map_nil]); first | done | rfl | (simp only [List.length_drop, List.length_take]; rfl)) ?_
              with_reducible refine (tabardref01_Of.calls k1 (-1) t383 t384 _ A114.out).mono ?_
              rintro e w131 ⟨v385, rfl, ho0, hb⟩
              refine ⟨_, rfl, ?_⟩
              have n0_ := Aside0.mk (Kd.V_below (by (with_reducible repeat (first | apply Kd.V_alloc | apply Kd.V_drewN | apply Kd.V_drew)); exact HO_334001.out) hb)
              have n1_ := Aside0.mk (Kd.V_below (by (with_reducible repeat (first | apply Kd.V_alloc | apply Kd.V_drewN | apply Kd.V_drew)); exact HO_335001.out) hb)
              have n2_ := Aside0.mk (Kd.V_below (by (with_reducible repeat (first | apply Kd.V_alloc | apply Kd.V_drewN | apply Kd.V_drew)); exact HO_344001.out) hb)
              have n3_ := Aside0.mk (Kd.V_below (by (with_reducible repeat (first | apply Kd.V_alloc | apply Kd.V_drewN | apply Kd.V_drew)); exact HO_345001.out) hb)
              have n4_ := Aside0.mk (Kd.V_below (by (with_reducible repeat (first | apply Kd.V_alloc | apply Kd.V_drewN | apply Kd.V_drew)); exact HO382.out) hb)
              have n5_ := Aside0.mk (Kd.V_lower (Kd.V_mono (ok' := fun k_ => k_ ≠ gb333 ∧ k_ ≠ gb334 ∧ k_ ≠ gb343 ∧ k_ ≠ gb344) ho0 (fun k_ hk_ => ⟨(Kd.freshB (g := gb333) (o := .cells #[.bool false, .slice Ao9 t326.length co9] 63 (0, 0)) (by (with_reducible repeat (first | refine blk_drewN ?_ _ | refine blk_drew ?_ | refine blk_alloc ?_ _)); exact BK333.out) k_ hk_), (Kd.freshB (g := gb334) (o := .cells #[.bool false, .slice Ao11 t330.length co11] 63 (0, 0)) (by (with_reducible repeat (first | refine blk_drewN ?_ _ | refine blk_drew ?_ | refine blk_alloc ?_ _)); exact BK334.out) k_ hk_), (Kd.freshB (g := gb343) (o := .cells #[.bool t379, .slice Ao124 t380.length co124] 63 (0, 0)) (by (with_reducible repeat (first | refine blk_drewN ?_ _ | refine blk_drew ?_ | refine blk_alloc ?_ _)); exact BK343.out) k_ hk_), (Kd.freshB (g := gb344) (o := .cells #[.bool x345000_1, .slice Ao128 x345001_1.length co128] 63 (0, 0)) (by (with_reducible repeat (first | refine blk_drewN ?_ _ | refine blk_drew ?_ | refine blk_alloc ?_ _)); exact BK344.out) k_ hk_)⟩)) (below_size (by repeat (first | (with_reducible first | exact HB.out | apply below_alloc | apply pw_below_drewN | apply below_drew1 | refine below_set ?_ GE333.out | refine below_set ?_ GE334.out | refine below_set ?_ GE343.out | refine below_set ?_ GE344.out) | exact HB.out))))
              have n6_ := Aside0.mk (blk_below (g := gb333) (o := .cells #[.bool false, .slice Ao9 t326.length co9] 63 (0, 0)) (by (with_reducible repeat (first | refine blk_drewN ?_ _ | refine blk_drew ?_ | refine blk_alloc ?_ _)); exact BK333.out) hb)
              have n7_ := Aside0.mk (blk_below (g := gb334) (o := .cells #[.bool false, .slice Ao11 t330.length co11] 63 (0, 0)) (by (with_reducible repeat (first | refine blk_drewN ?_ _ | refine blk_drew ?_ | refine blk_alloc ?_ _)); exact BK334.out) hb)
              have n8_ := Aside0.mk (blk_below (g := gb343) (o := .cells #[.bool t379, .slice Ao124 t380.length co124] 63 (0, 0)) (by (with_reducible repeat (first | refine blk_drewN ?_ _ | refine blk_drew ?_ | refine blk_alloc ?_ _)); exact BK343.out) hb)
              have n9_ := Aside0.mk (blk_below (g := gb344) (o := .cells #[.bool x345000_1, .slice Ao128 x345001_1.length co128] 63 (0, 0)) (by (with_reducible repeat (first | refine blk_drewN ?_ _ | refine blk_drew ?_ | refine blk_alloc ?_ _)); exact BK344.out) hb)
              have n10_ := Aside0.mk (below_step (by repeat (first | (with_reducible first | exact HB.out | apply below_alloc | apply pw_below_drewN | apply below_drew1 | refine below_set ?_ GE333.out | refine below_set ?_ GE334.out | refine below_set ?_ GE343.out | refine below_set ?_ GE344.out) | exact HB.out)) hb)
              clear HO_334001
              clear HO_335001
              clear HO_344001
              clear HO_345001
              clear HO382
              clear BK333
              clear BK334
              clear BK343
              clear BK344
              clear HB
              have HO_334001 := n0_
              have HO_335001 := n1_
              have HO_344001 := n2_
              have HO_345001 := n3_
              have HO382 := n4_
              have HO386 := n5_
              have BK333 := n6_
              have BK334 := n7_
              have BK343 := n8_
              have BK344 := n9_
              have HB := n10_
              clear n0_ n1_ n2_ n3_ n4_ n5_ n6_ n7_ n8_ n9_ n10_
              (try clear hb)
              (try clear hb2)
              (try clear hk)
              (try clear hi)
              (try clear ho0)
              obtain ⟨Ao132, co132, eo132⟩ := Kd.V_slice HO386.out
              (first | subst eo132 | (injection eo132 with f1_ f2_ f3_; have f4_ := f1_.symm; have f5_ := f3_.symm; clear f1_ f2_ f3_; subst f4_; subst f5_))
              refine hK.out _ _ ⟨(blk_cell BK343.out 0).trans rfl, (blk_cell BK343.out 1).trans rfl⟩ (fun hHeld => ?_)
              clear hK K
              refine norm_ (a' := ?_) ?_ ?_
              rotate_left
              · show Act.put _ (some 73) _ = _
                simp only [Act.put, List.setIfInBounds_toArray, List.set_cons_zero, List.set_cons_succ, i64_w, i32_w]
                rfl
              refine one_ (i := 2) (N := some 74) #[true, true, true, false] rfl rfl (by kernel_rfl) (by decide) (fun K hK => ?_)
              refine goes_ Try.func54 (by kernel_rfl) rfl #[.agg #[.bool t379, .slice Ao124 t380.length co124], .agg #[.bool t383, .slice Ao132 t384.length co132]] (by rfl) rfl rfl (by (try simp only [List.map_toArray, List.map_cons, List.map_nil]); first | done | rfl | (simp only [List.length_drop, List.length_take]; rfl)) ?_
              with_reducible refine (tabardref01_Plus.calls k1 t379 _ _ t380 t383 _ _ t384 t387 t388 _ ?side1 ?side2 ?side3 ?side4 A115.out).mono ?_
              (case side1 => repeat (first | exact (Kd.V_reads' HO382.out).2.2 | (with_reducible refine Kd.C_alloc ?_ _) | (with_reducible refine Kd.C_drewN ?_ _) | (with_reducible refine Kd.C_drew ?_)))
              (case side2 => exact (Kd.V_reads' HO382.out).2.1)
              (case side3 => repeat (first | exact (Kd.V_reads' HO386.out).2.2 | (with_reducible refine Kd.C_alloc ?_ _) | (with_reducible refine Kd.C_drewN ?_ _) | (with_reducible refine Kd.C_drew ?_)))
              (case side4 => exact (Kd.V_reads' HO386.out).2.1)
              rintro e w133 ⟨v389, rfl, ho0, hb⟩
              refine ⟨_, rfl, ?_⟩
              have n0_ := Aside0.mk (Kd.V_below (by (with_reducible repeat (first | apply Kd.V_alloc | apply Kd.V_drewN | apply Kd.V_drew)); exact HO_334001.out) hb)
              have n1_ := Aside0.mk (Kd.V_below (by (with_reducible repeat (first | apply Kd.V_alloc | apply Kd.V_drewN | apply Kd.V_drew)); exact HO_335001.out) hb)
              have n2_ := Aside0.mk (Kd.V_below (by (with_reducible repeat (first | apply Kd.V_alloc | apply Kd.V_drewN | apply Kd.V_drew)); exact HO_344001.out) hb)
              have n3_ := Aside0.mk (Kd.V_below (by (with_reducible repeat (first | apply Kd.V_alloc | apply Kd.V_drewN | apply Kd.V_drew)); exact HO_345001.out) hb)
              have n4_ := Aside0.mk (Kd.V_below (by (with_reducible repeat (first | apply Kd.V_alloc | apply Kd.V_drewN | apply Kd.V_drew)); exact HO382.out) hb)
              have n5_ := Aside0.mk (Kd.V_below (by (with_reducible repeat (first | apply Kd.V_alloc | apply Kd.V_drewN | apply Kd.V_drew)); exact HO386.out) hb)
              have n6_ := Aside0.mk (Kd.V_lower (Kd.V_mono (ok' := fun k_ => k_ ≠ gb333 ∧ k_ ≠ gb334 ∧ k_ ≠ gb343 ∧ k_ ≠ gb344) ho0 (fun k_ hk_ => ⟨(Kd.freshB (g := gb333) (o := .cells #[.bool false, .slice Ao9 t326.length co9] 63 (0, 0)) (by (with_reducible repeat (first | refine blk_drewN ?_ _ | refine blk_drew ?_ | refine blk_alloc ?_ _)); exact BK333.out) k_ hk_), (Kd.freshB (g := gb334) (o := .cells #[.bool false, .slice Ao11 t330.length co11] 63 (0, 0)) (by (with_reducible repeat (first | refine blk_drewN ?_ _ | refine blk_drew ?_ | refine blk_alloc ?_ _)); exact BK334.out) k_ hk_), (Kd.freshB (g := gb343) (o := .cells #[.bool t379, .slice Ao124 t380.length co124] 63 (0, 0)) (by (with_reducible repeat (first | refine blk_drewN ?_ _ | refine blk_drew ?_ | refine blk_alloc ?_ _)); exact BK343.out) k_ hk_), (Kd.freshB (g := gb344) (o := .cells #[.bool x345000_1, .slice Ao128 x345001_1.length co128] 63 (0, 0)) (by (with_reducible repeat (first | refine blk_drewN ?_ _ | refine blk_drew ?_ | refine blk_alloc ?_ _)); exact BK344.out) k_ hk_)⟩)) (below_size (by repeat (first | (with_reducible first | exact HB.out | apply below_alloc | apply pw_below_drewN | apply below_drew1 | refine below_set ?_ GE333.out | refine below_set ?_ GE334.out | refine below_set ?_ GE343.out | refine below_set ?_ GE344.out) | exact HB.out))))
              have n7_ := Aside0.mk (blk_below (g := gb333) (o := .cells #[.bool false, .slice Ao9 t326.length co9] 63 (0, 0)) (by (with_reducible repeat (first | refine blk_drewN ?_ _ | refine blk_drew ?_ | refine blk_alloc ?_ _)); exact BK333.out) hb)
              have n8_ := Aside0.mk (blk_below (g := gb334) (o := .cells #[.bool false, .slice Ao11 t330.length co11] 63 (0, 0)) (by (with_reducible repeat (first | refine blk_drewN ?_ _ | refine blk_drew ?_ | refine blk_alloc ?_ _)); exact BK334.out) hb)
              have n9_ := Aside0.mk (blk_below (g := gb343) (o := .cells #[.bool t379, .slice Ao124 t380.length co124] 63 (0, 0)) (by (with_reducible repeat (first | refine blk_drewN ?_ _ | refine blk_drew ?_ | refine blk_alloc ?_ _)); exact BK343.out) hb)
              have n10_ := Aside0.mk (blk_below (g := gb344) (o := .cells #[.bool x345000_1, .slice Ao128 x345001_1.length co128] 63 (0, 0)) (by (with_reducible repeat (first | refine blk_drewN ?_ _ | refine blk_drew ?_ | refine blk_alloc ?_ _)); exact BK344.out) hb)
              have n11_ := Aside0.mk (below_step (by repeat (first | (with_reducible first | exact HB.out | apply below_alloc | apply pw_below_drewN | apply below_drew1 | refine below_set ?_ GE333.out | refine below_set ?_ GE334.out | refine below_set ?_ GE343.out | refine below_set ?_ GE344.out) | exact HB.out)) hb)
              clear HO_334001
              clear HO_335001
              clear HO_344001
              clear HO_345001
              clear HO382
              clear HO386
              clear BK333
              clear BK334
              clear BK343
              clear BK344
              clear HB
              have HO_334001 := n0_
              have HO_335001 := n1_
              have HO_344001 := n2_
              have HO_345001 := n3_
              have HO382 := n4_
              have HO386 := n5_
              have HO390 := n6_
              have BK333 := n7_
              have BK334 := n8_
              have BK343 := n9_
              have BK344 := n10_
              have HB := n11_
              clear n0_ n1_ n2_ n3_ n4_ n5_ n6_ n7_ n8_ n9_ n10_ n11_
              (try clear hb)
              (try clear hb2)
              (try clear hk)
              (try clear hi)
              (try clear ho0)
              obtain ⟨Ao135, co135, eo135⟩ := Kd.V_slice HO390.out
              (first | subst eo135 | (injection eo135 with f1_ f2_ f3_; have f4_ := f1_.symm; have f5_ := f3_.symm; clear f1_ f2_ f3_; subst f4_; subst f5_))
              refine hK.out _ _ ⟨(blk_cell BK343.out 0).trans rfl, (blk_cell BK343.out 1).trans rfl⟩ (fun hHeld => ?_)
              clear hK K
              refine norm_ (a' := ?_) ?_ ?_
              rotate_left
              · show Act.put _ (some 74) _ = _
                simp only [Act.put, List.setIfInBounds_toArray, List.set_cons_zero, List.set_cons_succ, i64_w, i32_w]
                rfl
              refine last_ (i := 3) (N := none) #[true, true, true, true] rfl rfl (by kernel_rfl) (by decide) (fun K hK => ?_)
              have hs134 : w133.cell? ⟨gb343, 0, none⟩ = some (.bool t379) := (blk_cell BK343.out 0).trans rfl
              have hfs134 := blk_frozen BK343.out 0
              have hns134_0 := NB333_343.out
              have hns134_1 := NB334_343.out
              have hns134_3 := NB344_343.out
              have hms134_0 := NB343_333.out
              have hms134_1 := NB343_334.out
              have hms134_3 := NB343_344.out
              have hs136 : w133.cell? ⟨gb343, 1, none⟩ = some (.slice Ao124 t380.length co124) := (blk_cell BK343.out 1).trans rfl
              have hfs136 := blk_frozen BK343.out 1
              have hns136_0 := NB333_343.out
              have hns136_1 := NB334_343.out
              have hns136_3 := NB344_343.out
              have hms136_0 := NB343_333.out
              have hms136_1 := NB343_334.out
              have hms136_3 := NB343_344.out
              refine skip_ (w1 := ?_) (by rfl) rfl ?_ ?_
              rotate_left
              · go_simp
                rfl
              refine hK.out _ _ ?_
              clear hK K
              refine done_ (by kernel_rfl) ?_
              have hcz137_0 : w133.cell? ⟨gb343, 0, none⟩ = some (.bool t379) := (blk_cell BK343.out 0).trans rfl
              have hcz137_1 : w133.cell? ⟨gb343, 1, none⟩ = some (.slice Ao124 t380.length co124) := (blk_cell BK343.out 1).trans rfl
              have hfz137_0 := blk_frozen BK343.out 0
              have hfz137_1 := blk_frozen BK343.out 1
              try go_wp2_with (first | ((with_reducible refine gate_callee (f := 51) rfl ?_); refine goesL_ (some 76) rfl rfl Try.func51 (by kernel_rfl) rfl #[.agg #[.bool t387, .slice Ao135 t388.length co135]] rfl (by (try simp only [List.map_toArray, List.map_cons, List.map_nil]); first | done | rfl | (simp only [List.length_drop, List.length_take]; rfl)) ?_; (with_reducible refine (tabardref01_told.calls k1 t387 _ _ t388 t391 t392 _ ?side1 ?side2 A116.out).mono ?_); (case side1 => refine (Kd.V_reads' (e := 67) (base := w.heap.size) (ok := fun k_ => (k_ ≠ gb333 ∧ (k_ ≠ gb334 ∧ (k_ ≠ gb343 ∧ k_ ≠ gb344)))) (n := t388.length) (c := co135) ?_).2.2; exact (by (with_reducible repeat (first | apply Kd.V_alloc | apply Kd.V_drewN | apply Kd.V_drew)); exact (Kd.V_mono (Kd.V_far (p := ⟨gb343, 1, none⟩) (Kd.V_far (p := ⟨gb343, 0, none⟩) (Kd.V_mono HO390.out (fun k_ hk => (⟨hk, hk.2.2.1⟩ : _ ∧ k_ ≠ gb343))) (fun _ hk => hk.2) (.bool t387)) (fun _ hk => hk.2) (.slice Ao135 t388.length co135)) (fun _ h_ => h_.1)))); (case side2 => exact (Kd.V_reads' HO390.out).2.1); rintro e w138 ⟨rfl, hb⟩; refine ⟨_, rfl, ?_⟩; have n0_ := Aside0.mk (Kd.V_below (by (with_reducible repeat (first | apply Kd.V_alloc | apply Kd.V_drewN | apply Kd.V_drew)); exact (Kd.V_mono (Kd.V_far (p := ⟨gb343, 1, none⟩) (Kd.V_far (p := ⟨gb343, 0, none⟩) (Kd.V_mono HO_334001.out (fun k_ hk => (⟨hk, hk.2.2.1⟩ : _ ∧ k_ ≠ gb343))) (fun _ hk => hk.2) (.bool t387)) (fun _ hk => hk.2) (.slice Ao135 t388.length co135)) (fun _ h_ => h_.1))) hb); have n1_ := Aside0.mk (Kd.V_below (by (with_reducible repeat (first | apply Kd.V_alloc | apply Kd.V_drewN | apply Kd.V_drew)); exact (Kd.V_mono (Kd.V_far (p := ⟨gb343, 1, none⟩) (Kd.V_far (p := ⟨gb343, 0, none⟩) (Kd.V_mono HO_335001.out (fun k_ hk => (⟨hk, hk.2.2.1⟩ : _ ∧ k_ ≠ gb343))) (fun _ hk => hk.2) (.bool t387)) (fun _ hk => hk.2) (.slice Ao135 t388.length co135)) (fun _ h_ => h_.1))) hb); have n2_ := Aside0.mk (Kd.V_below (by (with_reducible repeat (first | apply Kd.V_alloc | apply Kd.V_drewN | apply Kd.V_drew)); exact (Kd.V_mono (Kd.V_far (p := ⟨gb343, 1, none⟩) (Kd.V_far (p := ⟨gb343, 0, none⟩) (Kd.V_mono HO_344001.out (fun k_ hk => (⟨hk, hk.2.2.1⟩ : _ ∧ k_ ≠ gb343))) (fun _ hk => hk.2) (.bool t387)) (fun _ hk => hk.2) (.slice Ao135 t388.length co135)) (fun _ h_ => h_.1))) hb); have n3_ := Aside0.mk (Kd.V_below (by (with_reducible repeat (first | apply Kd.V_alloc | apply Kd.V_drewN | apply Kd.V_drew)); exact (Kd.V_mono (Kd.V_far (p := ⟨gb343, 1, none⟩) (Kd.V_far (p := ⟨gb343, 0, none⟩) (Kd.V_mono HO_345001.out (fun k_ hk => (⟨hk, hk.2.2.1⟩ : _ ∧ k_ ≠ gb343))) (fun _ hk => hk.2) (.bool t387)) (fun _ hk => hk.2) (.slice Ao135 t388.length co135)) (fun _ h_ => h_.1))) hb); have n4_ := Aside0.mk (Kd.V_below (by (with_reducible repeat (first | apply Kd.V_alloc | apply Kd.V_drewN | apply Kd.V_drew)); exact (Kd.V_mono (Kd.V_far (p := ⟨gb343, 1, none⟩) (Kd.V_far (p := ⟨gb343, 0, none⟩) (Kd.V_mono HO382.out (fun k_ hk => (⟨hk, hk.2.2.1⟩ : _ ∧ k_ ≠ gb343))) (fun _ hk => hk.2) (.bool t387)) (fun _ hk => hk.2) (.slice Ao135 t388.length co135)) (fun _ h_ => h_.1))) hb); have n5_ := Aside0.mk (Kd.V_below (by (with_reducible repeat (first | apply Kd.V_alloc | apply Kd.V_drewN | apply Kd.V_drew)); exact (Kd.V_mono (Kd.V_far (p := ⟨gb343, 1, none⟩) (Kd.V_far (p := ⟨gb343, 0, none⟩) (Kd.V_mono HO386.out (fun k_ hk => (⟨hk, hk.2.2.1⟩ : _ ∧ k_ ≠ gb343))) (fun _ hk => hk.2) (.bool t387)) (fun _ hk => hk.2) (.slice Ao135 t388.length co135)) (fun _ h_ => h_.1))) hb); have n6_ := Aside0.mk (Kd.V_below (by (with_reducible repeat (first | apply Kd.V_alloc | apply Kd.V_drewN | apply Kd.V_drew)); exact (Kd.V_mono (Kd.V_far (p := ⟨gb343, 1, none⟩) (Kd.V_far (p := ⟨gb343, 0, none⟩) (Kd.V_mono HO390.out (fun k_ hk => (⟨hk, hk.2.2.1⟩ : _ ∧ k_ ≠ gb343))) (fun _ hk => hk.2) (.bool t387)) (fun _ hk => hk.2) (.slice Ao135 t388.length co135)) (fun _ h_ => h_.1))) hb); have n7_ := Aside0.mk (blk_below (g := gb333) (o := .cells #[.bool false, .slice Ao9 t326.length co9] 63 (0, 0)) (by (with_reducible repeat (first | refine blk_drewN ?_ _ | refine blk_drew ?_ | refine blk_alloc ?_ _)); refine blk_far ?_ NB333_343.out _; (with_reducible repeat (first | refine blk_drewN ?_ _ | refine blk_drew ?_ | refine blk_alloc ?_ _)); refine blk_far ?_ NB333_343.out _; (with_reducible repeat (first | refine blk_drewN ?_ _ | refine blk_drew ?_ | refine blk_alloc ?_ _)); exact BK333.out) hb); have n8_ := Aside0.mk (blk_below (g := gb334) (o := .cells #[.bool false, .slice Ao11 t330.length co11] 63 (0, 0)) (by (with_reducible repeat (first | refine blk_drewN ?_ _ | refine blk_drew ?_ | refine blk_alloc ?_ _)); refine blk_far ?_ NB334_343.out _; (with_reducible repeat (first | refine blk_drewN ?_ _ | refine blk_drew ?_ | refine blk_alloc ?_ _)); refine blk_far ?_ NB334_343.out _; (with_reducible repeat (first | refine blk_drewN ?_ _ | refine blk_drew ?_ | refine blk_alloc ?_ _)); exact BK334.out) hb); have n9_ := Aside0.mk (blk_below (g := gb343) (o := .cells #[.bool t387, .slice Ao135 t388.length co135] 63 (0, 0)) (by (with_reducible repeat (first | refine blk_drewN ?_ _ | refine blk_drew ?_ | refine blk_alloc ?_ _)); refine blk_put (cs := #[.bool t387, .slice Ao124 t380.length co124]) ?_ 1 _ rfl; (with_reducible repeat (first | refine blk_drewN ?_ _ | refine blk_drew ?_ | refine blk_alloc ?_ _)); refine blk_put (cs := #[.bool t379, .slice Ao124 t380.length co124]) ?_ 0 _ rfl; (with_reducible repeat (first | refine blk_drewN ?_ _ | refine blk_drew ?_ | refine blk_alloc ?_ _)); exact BK343.out) hb); have n10_ := Aside0.mk (blk_below (g := gb344) (o := .cells #[.bool x345000_1, .slice Ao128 x345001_1.length co128] 63 (0, 0)) (by (with_reducible repeat (first | refine blk_drewN ?_ _ | refine blk_drew ?_ | refine blk_alloc ?_ _)); refine blk_far ?_ NB344_343.out _; (with_reducible repeat (first | refine blk_drewN ?_ _ | refine blk_drew ?_ | refine blk_alloc ?_ _)); refine blk_far ?_ NB344_343.out _; (with_reducible repeat (first | refine blk_drewN ?_ _ | refine blk_drew ?_ | refine blk_alloc ?_ _)); exact BK344.out) hb); have n11_ := Aside0.mk (below_step (by repeat (first | (with_reducible first | exact HB.out | apply below_alloc | apply pw_below_drewN | apply below_drew1 | refine below_set ?_ GE333.out | refine below_set ?_ GE334.out | refine below_set ?_ GE343.out | refine below_set ?_ GE344.out) | exact HB.out)) hb); clear HO_334001; clear HO_335001; clear HO_344001; clear HO_345001; clear HO382; clear HO386; clear HO390; clear BK333; clear BK334; clear BK343; clear BK344; clear HB; have HO_334001 := n0_; have HO_335001 := n1_; have HO_344001 := n2_; have HO_345001 := n3_; have HO382 := n4_; have HO386 := n5_; have HO390 := n6_; have BK333 := n7_; have BK334 := n8_; have BK343 := n9_; have BK344 := n10_; have HB := n11_; clear n0_ n1_ n2_ n3_ n4_ n5_ n6_ n7_ n8_ n9_ n10_ n11_; (try clear hb); (try clear hb2); (try clear hk); (try clear hi)))
              go_ret2
              exact ⟨by first | rfl | (simp [errW_none, errW_some] <;> rfl) | (simp [*, errW_none, errW_some] <;> rfl), by repeat (first | (with_reducible first | exact HB.out | apply below_alloc | apply pw_below_drewN | apply below_drew1 | refine below_set ?_ GE333.out | refine below_set ?_ GE334.out | refine below_set ?_ GE343.out | refine below_set ?_ GE344.out) | exact HB.out)⟩
            · rw [if_neg c113] at H
              have c113b0 : decide (0 < (x345001_1.length : Int)) = false := decide_eq_false c113
              have c113b1 : decide (0 < x345001_1.length) = false := decide_eq_false (by omega)
              clear c113
              replace H := Option.bind_eq_some_iff.mp H
              obtain ⟨⟨t393, t394⟩, A1390, H⟩ := H
              replace H : (some (t393, t394)) = some (r1, r2) := H
              have A139 := Aside0.mk A1390
              clear A1390
              simp only [Option.some.injEq, Prod.mk.injEq] at H
              obtain ⟨rfl, rfl⟩ := H
              have hnb140 := NB343_333.out
              have hnc140 := NB333_343.out
              have hnb141 := NB343_334.out
              have hnc141 := NB334_343.out
              have hnb142 := NB343_344.out
              have hnc142 := NB344_343.out
              have hcz143_0 : wr.cell? ⟨gb343, 0, none⟩ = some (.bool x344000_1) := (blk_cell BK343.out 0).trans rfl
              have hcz143_1 : wr.cell? ⟨gb343, 1, none⟩ = some (u344001) := (blk_cell BK343.out 1).trans rfl
              have hfz143_0 := blk_frozen BK343.out 0
              have hfz143_1 := blk_frozen BK343.out 1
              obtain ⟨Ao144, co144, eo144⟩ := Kd.V_slice HO_344001.out
              subst eo144
              go_wp2_with (first | ((with_reducible refine gate_callee (f := 55) rfl ?_); refine goesL_ (some 67) rfl rfl Try.func55 (by kernel_rfl) rfl #[.agg #[.bool x344000_1, .slice Ao144 x344001_1.length co144]] rfl (by (try simp only [List.map_toArray, List.map_cons, List.map_nil]); first | done | rfl | (simp only [List.length_drop, List.length_take]; rfl)) ?_; (with_reducible refine (tabardref01_Minus.calls k1 x344000_1 (fun k_ => (k_ ≠ gb333 ∧ (k_ ≠ gb334 ∧ (k_ ≠ gb343 ∧ k_ ≠ gb344)))) _ _ x344001_1 t379 t380 _ ?side1 A112.out).mono ?_); (case side1 => exact HO_344001.out); rintro e w145 ⟨v381, rfl, ho0, hb⟩; refine ⟨_, rfl, ?_⟩; have n0_ := Aside0.mk (Kd.V_below (by (with_reducible repeat (first | apply Kd.V_alloc | apply Kd.V_drewN | apply Kd.V_drew)); exact HO_334001.out) hb); have n1_ := Aside0.mk (Kd.V_below (by (with_reducible repeat (first | apply Kd.V_alloc | apply Kd.V_drewN | apply Kd.V_drew)); exact HO_335001.out) hb); have n2_ := Aside0.mk (Kd.V_below (by (with_reducible repeat (first | apply Kd.V_alloc | apply Kd.V_drewN | apply Kd.V_drew)); exact HO_344001.out) hb); have n3_ := Aside0.mk (Kd.V_below (by (with_reducible repeat (first | apply Kd.V_alloc | apply Kd.V_drewN | apply Kd.V_drew)); exact HO_345001.out) hb); have n4_ := Aside0.mk (Kd.V_lower (Kd.V_mono (ok' := fun k_ => k_ ≠ gb333 ∧ k_ ≠ gb334 ∧ k_ ≠ gb343 ∧ k_ ≠ gb344) ho0 (fun k_ hk_ => ⟨Or.elim hk_ (fun hs_ => hs_.1) (fun hn_ => (Kd.freshB (g := gb333) (o := .cells #[.bool false, .slice Ao9 t326.length co9] 63 (0, 0)) (by (with_reducible repeat (first | refine blk_drewN ?_ _ | refine blk_drew ?_ | refine blk_alloc ?_ _)); exact BK333.out) k_ hn_)), Or.elim hk_ (fun hs_ => hs_.2.1) (fun hn_ => (Kd.freshB (g := gb334) (o := .cells #[.bool false, .slice Ao11 t330.length co11] 63 (0, 0)) (by (with_reducible repeat (first | refine blk_drewN ?_ _ | refine blk_drew ?_ | refine blk_alloc ?_ _)); exact BK334.out) k_ hn_)), Or.elim hk_ (fun hs_ => hs_.2.2.1) (fun hn_ => (Kd.freshB (g := gb343) (o := .cells #[.bool x344000_1, .slice Ao144 x344001_1.length co144] 63 (0, 0)) (by (with_reducible repeat (first | refine blk_drewN ?_ _ | refine blk_drew ?_ | refine blk_alloc ?_ _)); exact BK343.out) k_ hn_)), Or.elim hk_ (fun hs_ => hs_.2.2.2) (fun hn_ => (Kd.freshB (g := gb344) (o := .cells #[.bool x345000_1, u345001] 63 (0, 0)) (by (with_reducible repeat (first | refine blk_drewN ?_ _ | refine blk_drew ?_ | refine blk_alloc ?_ _)); exact BK344.out) k_ hn_))⟩)) (below_size (by repeat (first | (with_reducible first | exact HB.out | apply below_alloc | apply pw_below_drewN | apply below_drew1 | refine below_set ?_ GE333.out | refine below_set ?_ GE334.out | refine below_set ?_ GE343.out | refine below_set ?_ GE344.out) | exact HB.out)))); have n5_ := Aside0.mk (blk_below (g := gb333) (o := .cells #[.bool false, .slice Ao9 t326.length co9] 63 (0, 0)) (by (with_reducible repeat (first | refine blk_drewN ?_ _ | refine blk_drew ?_ | refine blk_alloc ?_ _)); exact BK333.out) hb); have n6_ := Aside0.mk (blk_below (g := gb334) (o := .cells #[.bool false, .slice Ao11 t330.length co11] 63 (0, 0)) (by (with_reducible repeat (first | refine blk_drewN ?_ _ | refine blk_drew ?_ | refine blk_alloc ?_ _)); exact BK334.out) hb); have n7_ := Aside0.mk (blk_below (g := gb343) (o := .cells #[.bool x344000_1, .slice Ao144 x344001_1.length co144] 63 (0, 0)) (by (with_reducible repeat (first | refine blk_drewN ?_ _ | refine blk_drew ?_ | refine blk_alloc ?_ _)); exact BK343.out) hb); have n8_ := Aside0.mk (blk_below (g := gb344) (o := .cells #[.bool x345000_1, u345001] 63 (0, 0)) (by (with_reducible repeat (first | refine blk_drewN ?_ _ | refine blk_drew ?_ | refine blk_alloc ?_ _)); exact BK344.out) hb); have n9_ := Aside0.mk (below_step (by repeat (first | (with_reducible first | exact HB.out | apply below_alloc | apply pw_below_drewN | apply below_drew1 | refine below_set ?_ GE333.out | refine below_set ?_ GE334.out | refine below_set ?_ GE343.out | refine below_set ?_ GE344.out) | exact HB.out)) hb); clear HO_334001; clear HO_335001; clear HO_344001; clear HO_345001; clear BK333; clear BK334; clear BK343; clear BK344; clear HB; have HO_334001 := n0_; have HO_335001 := n1_; have HO_344001 := n2_; have HO_345001 := n3_; have HO382 := n4_; have BK333 := n5_; have BK334 := n6_; have BK343 := n7_; have BK344 := n8_; have HB := n9_; clear n0_ n1_ n2_ n3_ n4_ n5_ n6_ n7_ n8_ n9_; (try clear hb); (try clear hb2); (try clear hk); (try clear hi); (try clear ho0); have hcz146_0 : w145.cell? ⟨gb343, 0, none⟩ = some (.bool x344000_1) := (blk_cell BK343.out 0).trans rfl; have hcz146_1 : w145.cell? ⟨gb343, 1, none⟩ = some (.slice Ao144 x344001_1.length co144) := (blk_cell BK343.out 1).trans rfl; have hfz146_0 := blk_frozen BK343.out 0; have hfz146_1 := blk_frozen BK343.out 1; obtain ⟨Ao147, co147, eo147⟩ := Kd.V_slice HO382.out; subst eo147; have hnb148 := NB344_333.out; have hnc148 := NB333_344.out; have hnb149 := NB344_334.out; have hnc149 := NB334_344.out; have hcz150_0 : w145.cell? ⟨gb344, 0, none⟩ = some (.bool x345000_1) := (blk_cell BK344.out 0).trans rfl; have hcz150_1 : w145.cell? ⟨gb344, 1, none⟩ = some (u345001) := (blk_cell BK344.out 1).trans rfl; have hfz150_0 := blk_frozen BK344.out 0; have hfz150_1 := blk_frozen BK344.out 1; obtain ⟨Ao151, co151, eo151⟩ := Kd.V_slice HO_345001.out; subst eo151) | ((with_reducible refine gate_callee (f := 51) rfl ?_); refine goesL_ (some 76) rfl rfl Try.func51 (by kernel_rfl) rfl #[.agg #[.bool t379, .slice Ao147 t380.length co147]] rfl (by (try simp only [List.map_toArray, List.map_cons, List.map_nil]); first | done | rfl | (simp only [List.length_drop, List.length_take]; rfl)) ?_; (with_reducible refine (tabardref01_told.calls k1 t379 _ _ t380 t393 t394 _ ?side1 ?side2 A139.out).mono ?_); (case side1 => refine (Kd.V_reads' (e := 67) (base := w.heap.size) (ok := fun k_ => (k_ ≠ gb333 ∧ (k_ ≠ gb334 ∧ (k_ ≠ gb343 ∧ k_ ≠ gb344)))) (n := t380.length) (c := co147) ?_).2.2; exact (by (with_reducible repeat (first | apply Kd.V_alloc | apply Kd.V_drewN | apply Kd.V_drew)); exact (Kd.V_mono (Kd.V_far (p := ⟨gb343, 1, none⟩) (Kd.V_far (p := ⟨gb343, 0, none⟩) (Kd.V_mono HO382.out (fun k_ hk => (⟨hk, hk.2.2.1⟩ : _ ∧ k_ ≠ gb343))) (fun _ hk => hk.2) (.bool t379)) (fun _ hk => hk.2) (.slice Ao147 t380.length co147)) (fun _ h_ => h_.1)))); (case side2 => exact (Kd.V_reads' HO382.out).2.1); rintro e w152 ⟨rfl, hb⟩; refine ⟨_, rfl, ?_⟩; have n0_ := Aside0.mk (Kd.V_below (by (with_reducible repeat (first | apply Kd.V_alloc | apply Kd.V_drewN | apply Kd.V_drew)); exact (Kd.V_mono (Kd.V_far (p := ⟨gb343, 1, none⟩) (Kd.V_far (p := ⟨gb343, 0, none⟩) (Kd.V_mono HO_334001.out (fun k_ hk => (⟨hk, hk.2.2.1⟩ : _ ∧ k_ ≠ gb343))) (fun _ hk => hk.2) (.bool t379)) (fun _ hk => hk.2) (.slice Ao147 t380.length co147)) (fun _ h_ => h_.1))) hb); have n1_ := Aside0.mk (Kd.V_below (by (with_reducible repeat (first | apply Kd.V_alloc | apply Kd.V_drewN | apply Kd.V_drew)); exact (Kd.V_mono (Kd.V_far (p := ⟨gb343, 1, none⟩) (Kd.V_far (p := ⟨gb343, 0, none⟩) (Kd.V_mono HO_335001.out (fun k_ hk => (⟨hk, hk.2.2.1⟩ : _ ∧ k_ ≠ gb343))) (fun _ hk => hk.2) (.bool t379)) (fun _ hk => hk.2) (.slice Ao147 t380.length co147)) (fun _ h_ => h_.1))) hb); have n2_ := Aside0.mk (Kd.V_below (by (with_reducible repeat (first | apply Kd.V_alloc | apply Kd.V_drewN | apply Kd.V_drew)); exact (Kd.V_mono (Kd.V_far (p := ⟨gb343, 1, none⟩) (Kd.V_far (p := ⟨gb343, 0, none⟩) (Kd.V_mono HO_344001.out (fun k_ hk => (⟨hk, hk.2.2.1⟩ : _ ∧ k_ ≠ gb343))) (fun _ hk => hk.2) (.bool t379)) (fun _ hk => hk.2) (.slice Ao147 t380.length co147)) (fun _ h_ => h_.1))) hb); have n3_ := Aside0.mk (Kd.V_below (by (with_reducible repeat (first | apply Kd.V_alloc | apply Kd.V_drewN | apply Kd.V_drew)); exact (Kd.V_mono (Kd.V_far (p := ⟨gb343, 1, none⟩) (Kd.V_far (p := ⟨gb343, 0, none⟩) (Kd.V_mono HO_345001.out (fun k_ hk => (⟨hk, hk.2.2.1⟩ : _ ∧ k_ ≠ gb343))) (fun _ hk => hk.2) (.bool t379)) (fun _ hk => hk.2) (.slice Ao147 t380.length co147)) (fun _ h_ => h_.1))) hb); have n4_ := Aside0.mk (Kd.V_below (by (with_reducible repeat (first | apply Kd.V_alloc | apply Kd.V_drewN | apply Kd.V_drew)); exact (Kd.V_mono (Kd.V_far (p := ⟨gb343, 1, none⟩) (Kd.V_far (p := ⟨gb343, 0, none⟩) (Kd.V_mono HO382.out (fun k_ hk => (⟨hk, hk.2.2.1⟩ : _ ∧ k_ ≠ gb343))) (fun _ hk => hk.2) (.bool t379)) (fun _ hk => hk.2) (.slice Ao147 t380.length co147)) (fun _ h_ => h_.1))) hb); have n5_ := Aside0.mk (blk_below (g := gb333) (o := .cells #[.bool false, .slice Ao9 t326.length co9] 63 (0, 0)) (by (with_reducible repeat (first | refine blk_drewN ?_ _ | refine blk_drew ?_ | refine blk_alloc ?_ _)); refine blk_far ?_ NB333_343.out _; (with_reducible repeat (first | refine blk_drewN ?_ _ | refine blk_drew ?_ | refine blk_alloc ?_ _)); refine blk_far ?_ NB333_343.out _; (with_reducible repeat (first | refine blk_drewN ?_ _ | refine blk_drew ?_ | refine blk_alloc ?_ _)); exact BK333.out) hb); have n6_ := Aside0.mk (blk_below (g := gb334) (o := .cells #[.bool false, .slice Ao11 t330.length co11] 63 (0, 0)) (by (with_reducible repeat (first | refine blk_drewN ?_ _ | refine blk_drew ?_ | refine blk_alloc ?_ _)); refine blk_far ?_ NB334_343.out _; (with_reducible repeat (first | refine blk_drewN ?_ _ | refine blk_drew ?_ | refine blk_alloc ?_ _)); refine blk_far ?_ NB334_343.out _; (with_reducible repeat (first | refine blk_drewN ?_ _ | refine blk_drew ?_ | refine blk_alloc ?_ _)); exact BK334.out) hb); have n7_ := Aside0.mk (blk_below (g := gb343) (o := .cells #[.bool t379, .slice Ao147 t380.length co147] 63 (0, 0)) (by (with_reducible repeat (first | refine blk_drewN ?_ _ | refine blk_drew ?_ | refine blk_alloc ?_ _)); refine blk_put (cs := #[.bool t379, .slice Ao144 x344001_1.length co144]) ?_ 1 _ rfl; (with_reducible repeat (first | refine blk_drewN ?_ _ | refine blk_drew ?_ | refine blk_alloc ?_ _)); refine blk_put (cs := #[.bool x344000_1, .slice Ao144 x344001_1.length co144]) ?_ 0 _ rfl; (with_reducible repeat (first | refine blk_drewN ?_ _ | refine blk_drew ?_ | refine blk_alloc ?_ _)); exact BK343.out) hb); have n8_ := Aside0.mk (blk_below (g := gb344) (o := .cells #[.bool x345000_1, .slice Ao151 x345001_1.length co151] 63 (0, 0)) (by (with_reducible repeat (first | refine blk_drewN ?_ _ | refine blk_drew ?_ | refine blk_alloc ?_ _)); refine blk_far ?_ NB344_343.out _; (with_reducible repeat (first | refine blk_drewN ?_ _ | refine blk_drew ?_ | refine blk_alloc ?_ _)); refine blk_far ?_ NB344_343.out _; (with_reducible repeat (first | refine blk_drewN ?_ _ | refine blk_drew ?_ | refine blk_alloc ?_ _)); exact BK344.out) hb); have n9_ := Aside0.mk (below_step (by repeat (first | (with_reducible first | exact HB.out | apply below_alloc | apply pw_below_drewN | apply below_drew1 | refine below_set ?_ GE333.out | refine below_set ?_ GE334.out | refine below_set ?_ GE343.out | refine below_set ?_ GE344.out) | exact HB.out)) hb); clear HO_334001; clear HO_335001; clear HO_344001; clear HO_345001; clear HO382; clear BK333; clear BK334; clear BK343; clear BK344; clear HB; have HO_334001 := n0_; have HO_335001 := n1_; have HO_344001 := n2_; have HO_345001 := n3_; have HO382 := n4_; have BK333 := n5_; have BK334 := n6_; have BK343 := n7_; have BK344 := n8_; have HB := n9_; clear n0_ n1_ n2_ n3_ n4_ n5_ n6_ n7_ n8_ n9_; (try clear hb); (try clear hb2); (try clear hk); (try clear hi)))
              go_ret2
              exact ⟨by first | rfl | (simp [errW_none, errW_some] <;> rfl) | (simp [*, errW_none, errW_some] <;> rfl), by repeat (first | (with_reducible first | exact HB.out | apply below_alloc | apply pw_below_drewN | apply below_drew1 | refine below_set ?_ GE333.out | refine below_set ?_ GE334.out | refine below_set ?_ GE343.out | refine below_set ?_ GE344.out) | exact HB.out)⟩
          · rw [if_neg c111] at H
            have c111b0 : ((decide (a0 < 0)) != (decide (a1 < 0))) = false := by simpa using c111
            (try (have c111b1 : decide ((decide (a0 < 0)) = (decide (a1 < 0))) = true := by simpa using c111))
            (try (have c111b2 : ((decide (a0 < 0)) == (decide (a1 < 0))) = true := by simpa using c111))
            clear c111
            replace H := Option.bind_eq_some_iff.mp H
            obtain ⟨⟨t395, t396⟩, A1530, H⟩ := H
            replace H : (some (t395, t396)) = some (r1, r2) := H
            have A153 := Aside0.mk A1530
            clear A1530
            simp only [Option.some.injEq, Prod.mk.injEq] at H
            obtain ⟨rfl, rfl⟩ := H
            have hnb154 := NB343_333.out
            have hnc154 := NB333_343.out
            have hnb155 := NB343_334.out
            have hnc155 := NB334_343.out
            have hnb156 := NB343_344.out
            have hnc156 := NB344_343.out
            have hcz157_0 : wr.cell? ⟨gb343, 0, none⟩ = some (.bool x344000_1) := (blk_cell BK343.out 0).trans rfl
            have hcz157_1 : wr.cell? ⟨gb343, 1, none⟩ = some (u344001) := (blk_cell BK343.out 1).trans rfl
            have hfz157_0 := blk_frozen BK343.out 0
            have hfz157_1 := blk_frozen BK343.out 1
            obtain ⟨Ao158, co158, eo158⟩ := Kd.V_slice HO_344001.out
            subst eo158
            go_wp2_with (first | ((with_reducible refine gate_callee (f := 51) rfl ?_); refine goesL_ (some 76) rfl rfl Try.func51 (by kernel_rfl) rfl #[.agg #[.bool x344000_1, .slice Ao158 x344001_1.length co158]] rfl (by (try simp only [List.map_toArray, List.map_cons, List.map_nil]); first | done | rfl | (simp only [List.length_drop, List.length_take]; rfl)) ?_; (with_reducible refine (tabardref01_told.calls k1 x344000_1 _ _ x344001_1 t395 t396 _ ?side1 ?side2 A153.out).mono ?_); (case side1 => repeat (first | exact (Kd.V_reads' HO_344001.out).2.2 | (with_reducible refine Kd.C_alloc ?_ _) | (with_reducible refine Kd.C_drewN ?_ _) | (with_reducible refine Kd.C_drew ?_))); (case side2 => exact (Kd.V_reads' HO_344001.out).2.1); rintro e w159 ⟨rfl, hb⟩; refine ⟨_, rfl, ?_⟩; have n0_ := Aside0.mk (Kd.V_below (by (with_reducible repeat (first | apply Kd.V_alloc | apply Kd.V_drewN | apply Kd.V_drew)); exact HO_334001.out) hb); have n1_ := Aside0.mk (Kd.V_below (by (with_reducible repeat (first | apply Kd.V_alloc | apply Kd.V_drewN | apply Kd.V_drew)); exact HO_335001.out) hb); have n2_ := Aside0.mk (Kd.V_below (by (with_reducible repeat (first | apply Kd.V_alloc | apply Kd.V_drewN | apply Kd.V_drew)); exact HO_344001.out) hb); have n3_ := Aside0.mk (Kd.V_below (by (with_reducible repeat (first | apply Kd.V_alloc | apply Kd.V_drewN | apply Kd.V_drew)); exact HO_345001.out) hb); have n4_ := Aside0.mk (blk_below (g := gb333) (o := .cells #[.bool false, .slice Ao9 t326.length co9] 63 (0, 0)) (by (with_reducible repeat (first | refine blk_drewN ?_ _ | refine blk_drew ?_ | refine blk_alloc ?_ _)); exact BK333.out) hb); have n5_ := Aside0.mk (blk_below (g := gb334) (o := .cells #[.bool false, .slice Ao11 t330.length co11] 63 (0, 0)) (by (with_reducible repeat (first | refine blk_drewN ?_ _ | refine blk_drew ?_ | refine blk_alloc ?_ _)); exact BK334.out) hb); have n6_ := Aside0.mk (blk_below (g := gb343) (o := .cells #[.bool x344000_1, .slice Ao158 x344001_1.length co158] 63 (0, 0)) (by (with_reducible repeat (first | refine blk_drewN ?_ _ | refine blk_drew ?_ | refine blk_alloc ?_ _)); exact BK343.out) hb); have n7_ := Aside0.mk (blk_below (g := gb344) (o := .cells #[.bool x345000_1, u345001] 63 (0, 0)) (by (with_reducible repeat (first | refine blk_drewN ?_ _ | refine blk_drew ?_ | refine blk_alloc ?_ _)); exact BK344.out) hb); have n8_ := Aside0.mk (below_step (by repeat (first | (with_reducible first | exact HB.out | apply below_alloc | apply pw_below_drewN | apply below_drew1 | refine below_set ?_ GE333.out | refine below_set ?_ GE334.out | refine below_set ?_ GE343.out | refine below_set ?_ GE344.out) | exact HB.out)) hb); clear HO_334001; clear HO_335001; clear HO_344001; clear HO_345001; clear BK333; clear BK334; clear BK343; clear BK344; clear HB; have HO_334001 := n0_; have HO_335001 := n1_; have HO_344001 := n2_; have HO_345001 := n3_; have BK333 := n4_; have BK334 := n5_; have BK343 := n6_; have BK344 := n7_; have HB := n8_; clear n0_ n1_ n2_ n3_ n4_ n5_ n6_ n7_ n8_; (try clear hb); (try clear hb2); (try clear hk); (try clear hi)))
            go_ret2
            exact ⟨by first | rfl | (simp [errW_none, errW_some] <;> rfl) | (simp [*, errW_none, errW_some] <;> rfl), by repeat (first | (with_reducible first | exact HB.out | apply below_alloc | apply pw_below_drewN | apply below_drew1 | refine below_set ?_ GE333.out | refine below_set ?_ GE334.out | refine below_set ?_ GE343.out | refine below_set ?_ GE344.out) | exact HB.out)⟩

end Go.Proofs.Ytcphnnopjfogdaa.Q
