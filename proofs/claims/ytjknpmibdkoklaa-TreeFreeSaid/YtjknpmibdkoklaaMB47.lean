/- Functions of the given program as Lean functions, each with its contract, and what they answer; words for it. No condition but those of each. -/
import Derived.Test.YtjknpmibdkoklaaMB5
import Derived.Test.YtjknpmibdkoklaaMB41
import Derived.Test.YtjknpmibdkoklaaMB42
import Derived.Test.YtjknpmibdkoklaaMB46
import Derived.Test.YtjknpmibdkoklaaMB24
namespace Go.Proofs.Ytjknpmibdkoklaa.Q
open Go.RowKit Go.Proofs.YtjknpmibdkoklaaW.PrintWords Go.Proofs.YtjknpmibdkoklaaW.PrintLast Go.Proofs.YtjknpmibdkoklaaW.PrintMore
attribute [local go_sem] max2_int min2_int max_two min_two max_three min_three max_four min_four   -- for this text's walks alone
set_option linter.unusedVariables false
set_option linter.unusedSimpArgs false
attribute [local go_sem] fld99_2 fld103_2 fld160_0 fld160_1
def tabardlaw06_TreeFree.j0 : Nat → List ByteArray → Int → Bool → Int → ByteArray → Int → List (S66) → List (S39) → Option (Bool)
  | 0, _, _, _, _, _, _, _, _ => none
  | k + 1, x3, x4, x17, x457000, x457001, x457002, x457003, x457004 => if x17 = true then (some false) else (if x4 = 0 then ((tabardref06_Free.f k x457000 x457001 x457002 x457003 x457004).bind fun t463 => ((tabardlaw06_same.f k x3 t463).bind fun t466 => (some t466))) else (some ((x3.length : Int) == 0)))
def tabardlaw06_TreeFree.f (k : Nat) (a0_0 : Int) (a0_1 : ByteArray) (a0_2 : Int) (l0_3 : List (S66)) (l0_4 : List (S39)) : Option (Bool) := (tree_Free.f k a0_0 a0_1 a0_2 l0_3 l0_4).bind fun bt457 => ((tabardlaw06_fixed.f k).bind fun t461 => (if t461 = true then ((tabardref06_Check.f a0_0 a0_1 a0_2 l0_3 l0_4).bind fun t462 => (tabardlaw06_TreeFree.j0 k bt457.1 bt457.2 (bt457.2 != t462) a0_0 a0_1 a0_2 l0_3 l0_4)) else (tabardlaw06_TreeFree.j0 k bt457.1 bt457.2 true a0_0 a0_1 a0_2 l0_3 l0_4)))
theorem tabardlaw06_TreeFree.mono_l : ∀ k, (∀ y0 y1 y2 y3 y4 y5 y6 y7, LeO (tabardlaw06_TreeFree.j0 k y0 y1 y2 y3 y4 y5 y6 y7) (tabardlaw06_TreeFree.j0 (k + 1) y0 y1 y2 y3 y4 y5 y6 y7))
  | 0 => fun _ _ _ _ _ _ _ _ r h => by simp [tabardlaw06_TreeFree.j0] at h
  | k + 1 => by
    have ih0 := tabardlaw06_TreeFree.mono_l k
    · intro y0 y1 y2 y3 y4 y5 y6 y7; (unfold tabardlaw06_TreeFree.j0)
      repeat' first
      | (with_reducible exact ih0 _ _ _ _ _ _ _ _)
      | (with_reducible exact tabardlaw06_fixed.mono _)
      | (with_reducible exact tabardlaw06_same.mono _ _ _)
      | (with_reducible exact tabardref06_Free.mono _ _ _ _ _ _)
      | (with_reducible exact tree_Free.mono _ _ _ _ _ _)
      | (with_reducible exact LeO.refl _)
      | (with_reducible exact LeO.none _)
      | (with_reducible refine LeO.ite ?_ ?_)
      | (with_reducible refine LeO.bind ?_ (fun _ => ?_))
      | exact ih0 _ _ _ _ _ _ _ _
      | exact tabardlaw06_fixed.mono _
      | exact tabardlaw06_same.mono _ _ _
      | exact tabardref06_Free.mono _ _ _ _ _ _
      | exact tree_Free.mono _ _ _ _ _ _
      | exact LeO.none _
      | refine LeO.ite ?_ ?_
      | refine LeO.bind ?_ (fun _ => ?_)
theorem tabardlaw06_TreeFree.mono : ∀ a0 a1 a2 a3 a4 k, LeO (tabardlaw06_TreeFree.f k a0 a1 a2 a3 a4) (tabardlaw06_TreeFree.f (k + 1) a0 a1 a2 a3 a4) := by
  intro a0 a1 a2 a3 a4 k
  have ih0 := tabardlaw06_TreeFree.mono_l k
  unfold tabardlaw06_TreeFree.f
  repeat' first
      | (with_reducible exact ih0 _ _ _ _ _ _ _ _)
      | (with_reducible exact tabardlaw06_fixed.mono _)
      | (with_reducible exact tabardlaw06_same.mono _ _ _)
      | (with_reducible exact tabardref06_Free.mono _ _ _ _ _ _)
      | (with_reducible exact tree_Free.mono _ _ _ _ _ _)
      | (with_reducible exact LeO.refl _)
      | (with_reducible exact LeO.none _)
      | (with_reducible refine LeO.ite ?_ ?_)
      | (with_reducible refine LeO.bind ?_ (fun _ => ?_))
      | exact ih0 _ _ _ _ _ _ _ _
      | exact tabardlaw06_fixed.mono _
      | exact tabardlaw06_same.mono _ _ _
      | exact tabardref06_Free.mono _ _ _ _ _ _
      | exact tree_Free.mono _ _ _ _ _ _
      | exact LeO.none _
      | refine LeO.ite ?_ ?_
      | refine LeO.bind ?_ (fun _ => ?_)
set_option maxHeartbeats 8000000 in
set_option maxRecDepth 100000 in
theorem tabardlaw06_TreeFree.calls (k : Nat) (a0_0 : Int) (a0_1 : ByteArray) (a0_2 : Int) (A0_3 : Option Addr) (c0_3 : Nat) (l0_3 : List (S66)) (A0_4 : Option Addr) (c0_4 : Nat) (l0_4 : List (S39)) (r : Bool) (w : World) (hr0_3 : Kd.C k66 w A0_3 l0_3.length l0_3) (hc0_3 : l0_3.length ≤ c0_3) (hr0_4 : Kd.C k39 w A0_4 l0_4.length l0_4) (hc0_4 : l0_4.length ≤ c0_4) (h : tabardlaw06_TreeFree.f k a0_0 a0_1 a0_2 l0_3 l0_4 = some r) (hr : r = true) :
    Calls Try.prog 6 #[.agg #[.int .i64 a0_0, .string a0_1, .int .i64 a0_2, .slice A0_3 l0_3.length c0_3, .slice A0_4 l0_4.length c0_4]] w fun e w' => e = .returned (.bool r) ∧ Below w.heap.size w w' := by
  subst hr
  have hu39 := Try.underlying39
  have HR0_3 := Aside0.mk hr0_3
  have HC0_3 := Aside0.mk hc0_3
  clear hr0_3 hc0_3
  have HR0_4 := Aside0.mk hr0_4
  have HC0_4 := Aside0.mk hc0_4
  clear hr0_4 hc0_4
  have HB := Aside0.mk (Below.refl w.heap.size w)
  have H : ((tree_Free.f k a0_0 a0_1 a0_2 l0_3 l0_4).bind fun bt457 => ((tabardlaw06_fixed.f k).bind fun t461 => (if t461 = true then ((tabardref06_Check.f a0_0 a0_1 a0_2 l0_3 l0_4).bind fun t462 => (tabardlaw06_TreeFree.j0 k bt457.1 bt457.2 (bt457.2 != t462) a0_0 a0_1 a0_2 l0_3 l0_4)) else (tabardlaw06_TreeFree.j0 k bt457.1 bt457.2 true a0_0 a0_1 a0_2 l0_3 l0_4)))) = some true := h
  clear h
  replace H := Option.bind_eq_some_iff.mp H
  obtain ⟨⟨t457, t460⟩, A20, H⟩ := H
  replace H : ((tabardlaw06_fixed.f k).bind fun t461 => (if t461 = true then ((tabardref06_Check.f a0_0 a0_1 a0_2 l0_3 l0_4).bind fun t462 => (tabardlaw06_TreeFree.j0 k t457 t460 (t460 != t462) a0_0 a0_1 a0_2 l0_3 l0_4)) else (tabardlaw06_TreeFree.j0 k t457 t460 true a0_0 a0_1 a0_2 l0_3 l0_4))) = some true := H
  have A2 := Aside0.mk A20
  clear A20
  have HC3 := Aside0.mk H
  clear H
  go_enter Try.func6, Try.ntmps6
  go_upto_region 2 with (first | ((with_reducible refine gate_dst (N := 1) rfl ?_); refine box_event ?hg (N := 1) ?hd (cs := #[.int .i64 a0_0, .string a0_1, .int .i64 a0_2, .slice A0_3 l0_3.length c0_3, .slice A0_4 l0_4.length c0_4]) (t := 39) ?hr ?_; (case hd => rfl); (case hg => rfl); (case hr => first | (go_simp; done) | (go_simp; rfl)); intro gb456 hg w4 hbox hb; have n0_ := Aside0.mk (below_step (by repeat (first | (with_reducible first | exact HB.out | apply below_alloc | apply pw_below_drewN | apply below_drew1) | exact HB.out)) hb); have n1_ := Aside0.mk (hbox); have n2_ := Aside0.mk ((by rw [hg]; exact (below_size (by repeat (first | (with_reducible first | exact HB.out | apply below_alloc | apply pw_below_drewN | apply below_drew1) | exact HB.out))) : w.heap.size ≤ gb456)); have n3_ := Aside0.mk ((by rw [hg]; exact (below_size (by repeat (first | (with_reducible first | exact HB.out | apply below_alloc | apply pw_below_drewN | apply below_drew1) | exact HB.out))) : w.heap.size ≤ gb456)); clear HB; have HB := n0_; have BK456 := n1_; have GW456 := n2_; have GE456 := n3_; clear n0_ n1_ n2_ n3_; clear hb hbox hg; have hcz5_0 : w4.cell? ⟨gb456, 0, none⟩ = some (.int .i64 a0_0) := (blk_cell BK456.out 0).trans rfl; have hcz5_1 : w4.cell? ⟨gb456, 1, none⟩ = some (.string a0_1) := (blk_cell BK456.out 1).trans rfl; have hcz5_2 : w4.cell? ⟨gb456, 2, none⟩ = some (.int .i64 a0_2) := (blk_cell BK456.out 2).trans rfl; have hcz5_3 : w4.cell? ⟨gb456, 3, none⟩ = some (.slice A0_3 l0_3.length c0_3) := (blk_cell BK456.out 3).trans rfl; have hcz5_4 : w4.cell? ⟨gb456, 4, none⟩ = some (.slice A0_4 l0_4.length c0_4) := (blk_cell BK456.out 4).trans rfl; have hfz5_0 := blk_frozen BK456.out 0; have hfz5_1 := blk_frozen BK456.out 1; have hfz5_2 := blk_frozen BK456.out 2; have hfz5_3 := blk_frozen BK456.out 3; have hfz5_4 := blk_frozen BK456.out 4) | ((with_reducible refine gate_callee (f := 30) rfl ?_); refine goesL_ (some 7) rfl rfl Try.func30 (by kernel_rfl) rfl #[.agg #[.int .i64 a0_0, .string a0_1, .int .i64 a0_2, .slice A0_3 l0_3.length c0_3, .slice A0_4 l0_4.length c0_4]] rfl (by (try simp only [List.map_toArray, List.map_cons, List.map_nil]); first | done | rfl | (simp only [List.length_drop, List.length_take]; rfl)) ?_; (with_reducible refine (tree_Free.calls k a0_0 a0_1 a0_2 _ _ l0_3 _ _ l0_4 t457 t460 _ ?side1 ?side2 ?side3 ?side4 A2.out).mono ?_); (case side1 => repeat (first | exact (Kd.C_below HR0_3.out HB.out) | (with_reducible refine Kd.C_alloc ?_ _) | (with_reducible refine Kd.C_drewN ?_ _) | (with_reducible refine Kd.C_drew ?_))); (case side2 => exact HC0_3.out); (case side3 => repeat (first | exact (Kd.C_below HR0_4.out HB.out) | (with_reducible refine Kd.C_alloc ?_ _) | (with_reducible refine Kd.C_drewN ?_ _) | (with_reducible refine Kd.C_drew ?_))); (case side4 => exact HC0_4.out); rintro e w6 ⟨v458, rfl, ho0, hb⟩; refine ⟨_, rfl, ?_⟩; have n0_ := Aside0.mk (Kd.R_lower ho0 (below_size (by repeat (first | (with_reducible first | exact HB.out | apply below_alloc | apply pw_below_drewN | apply below_drew1 | refine below_set ?_ GE456.out) | exact HB.out)))); have n1_ := Aside0.mk (blk_below (g := gb456) (o := .cells #[.int .i64 a0_0, .string a0_1, .int .i64 a0_2, .slice A0_3 l0_3.length c0_3, .slice A0_4 l0_4.length c0_4] 39 (0, 0)) (by (with_reducible repeat (first | refine blk_drewN ?_ _ | refine blk_drew ?_ | refine blk_alloc ?_ _)); exact BK456.out) hb); have n2_ := Aside0.mk (below_step (by repeat (first | (with_reducible first | exact HB.out | apply below_alloc | apply pw_below_drewN | apply below_drew1 | refine below_set ?_ GE456.out) | exact HB.out)) hb); clear BK456; clear HB; have HO459 := n0_; have BK456 := n1_; have HB := n2_; clear n0_ n1_ n2_; (try clear hb); (try clear hb2); (try clear hk); (try clear hi); (try clear ho0)))
  (try simp only [Act.put, List.setIfInBounds_toArray, List.set_cons_zero, List.set_cons_succ])
  go_cut [17] (fun v17 wc => ∃ (kq : Nat) (x17_2 : Bool), v17 = .bool x17_2 ∧ Aside0 (tabardlaw06_TreeFree.j0 kq t457 t460 x17_2 a0_0 a0_1 a0_2 l0_3 l0_4 = some true) ∧ Aside0 (kq ≤ k) ∧ Aside0 (Kd.R Kd.string 9 wc w.heap.size (fun _ => True) v458 t457) ∧ Aside0 (wc.heap[gb456]? = some (.cells #[.int .i64 a0_0, .string a0_1, .int .i64 a0_2, (.slice A0_3 l0_3.length c0_3), (.slice A0_4 l0_4.length c0_4)] 39 (0, 0))) ∧ Aside0 (Below w.heap.size w wc))
  case first =>
    have H := HC3.out
    clear HC3
    replace H := Option.bind_eq_some_iff.mp H
    obtain ⟨t461, A70, H⟩ := H
    replace H : (if t461 = true then ((tabardref06_Check.f a0_0 a0_1 a0_2 l0_3 l0_4).bind fun t462 => (tabardlaw06_TreeFree.j0 k t457 t460 (t460 != t462) a0_0 a0_1 a0_2 l0_3 l0_4)) else (tabardlaw06_TreeFree.j0 k t457 t460 true a0_0 a0_1 a0_2 l0_3 l0_4)) = some true := H
    have A7 := Aside0.mk A70
    clear A70
    by_cases c8 : t461 = true
    · subst c8; (have H1 : ((tabardref06_Check.f a0_0 a0_1 a0_2 l0_3 l0_4).bind fun t462 => (tabardlaw06_TreeFree.j0 k t457 t460 (t460 != t462) a0_0 a0_1 a0_2 l0_3 l0_4)) = some true := by rw [if_pos rfl] at H; exact H); clear H; (have H := H1); clear H1; (replace H := Option.bind_eq_some_iff.mp H); (obtain ⟨t462, A90, H⟩ := H); (replace H : (tabardlaw06_TreeFree.j0 k t457 t460 (t460 != t462) a0_0 a0_1 a0_2 l0_3 l0_4) = some true := H); (have A9 := Aside0.mk A90); clear A90; (have H' := Aside0.mk H); clear H; (go_wp2_with (first | ((with_reducible refine gate_callee (f := 29) rfl ?_); refine goesL_ (some 10) rfl rfl Try.func29 (by kernel_rfl) rfl #[] rfl (by (try simp only [List.map_toArray, List.map_cons, List.map_nil]); first | done | rfl | (simp only [List.length_drop, List.length_take]; rfl)) ?_; (with_reducible refine (tabardlaw06_fixed.calls k  true _ A7.out).mono ?_); rintro e w10 ⟨rfl, hb⟩; refine ⟨_, rfl, ?_⟩; have n0_ := Aside0.mk (Kd.R_below (by (with_reducible repeat (first | apply Kd.R_alloc | apply Kd.R_drewN | apply Kd.R_drew)); exact HO459.out) hb); have n1_ := Aside0.mk (blk_below (g := gb456) (o := .cells #[.int .i64 a0_0, .string a0_1, .int .i64 a0_2, .slice A0_3 l0_3.length c0_3, .slice A0_4 l0_4.length c0_4] 39 (0, 0)) (by (with_reducible repeat (first | refine blk_drewN ?_ _ | refine blk_drew ?_ | refine blk_alloc ?_ _)); exact BK456.out) hb); have n2_ := Aside0.mk (below_step (by repeat (first | (with_reducible first | exact HB.out | apply below_alloc | apply pw_below_drewN | apply below_drew1 | refine below_set ?_ GE456.out) | exact HB.out)) hb); clear HO459; clear BK456; clear HB; have HO459 := n0_; have BK456 := n1_; have HB := n2_; clear n0_ n1_ n2_; (try clear hb); (try clear hb2); (try clear hk); (try clear hi); have hcz11_0 : w10.cell? ⟨gb456, 0, none⟩ = some (.int .i64 a0_0) := (blk_cell BK456.out 0).trans rfl; have hcz11_1 : w10.cell? ⟨gb456, 1, none⟩ = some (.string a0_1) := (blk_cell BK456.out 1).trans rfl; have hcz11_2 : w10.cell? ⟨gb456, 2, none⟩ = some (.int .i64 a0_2) := (blk_cell BK456.out 2).trans rfl; have hcz11_3 : w10.cell? ⟨gb456, 3, none⟩ = some (.slice A0_3 l0_3.length c0_3) := (blk_cell BK456.out 3).trans rfl; have hcz11_4 : w10.cell? ⟨gb456, 4, none⟩ = some (.slice A0_4 l0_4.length c0_4) := (blk_cell BK456.out 4).trans rfl; have hfz11_0 := blk_frozen BK456.out 0; have hfz11_1 := blk_frozen BK456.out 1; have hfz11_2 := blk_frozen BK456.out 2; have hfz11_3 := blk_frozen BK456.out 3; have hfz11_4 := blk_frozen BK456.out 4) | (go_at_call 31; (with_reducible refine (tabardref06_Check.calls a0_0 a0_1 a0_2 _ _ l0_3 _ _ l0_4 t462 _ ?side1 ?side2 ?side3 ?side4 A9.out).mono ?_); (case side1 => repeat (first | exact (Kd.C_below HR0_3.out HB.out) | (with_reducible refine Kd.C_alloc ?_ _) | (with_reducible refine Kd.C_drewN ?_ _) | (with_reducible refine Kd.C_drew ?_))); (case side2 => exact HC0_3.out); (case side3 => repeat (first | exact (Kd.C_below HR0_4.out HB.out) | (with_reducible refine Kd.C_alloc ?_ _) | (with_reducible refine Kd.C_drewN ?_ _) | (with_reducible refine Kd.C_drew ?_))); (case side4 => exact HC0_4.out); rintro e w12 ⟨rfl, hb⟩; have n0_ := Aside0.mk (Kd.R_below (by (with_reducible repeat (first | apply Kd.R_alloc | apply Kd.R_drewN | apply Kd.R_drew)); exact HO459.out) hb); have n1_ := Aside0.mk (blk_below (g := gb456) (o := .cells #[.int .i64 a0_0, .string a0_1, .int .i64 a0_2, .slice A0_3 l0_3.length c0_3, .slice A0_4 l0_4.length c0_4] 39 (0, 0)) (by (with_reducible repeat (first | refine blk_drewN ?_ _ | refine blk_drew ?_ | refine blk_alloc ?_ _)); exact BK456.out) hb); have n2_ := Aside0.mk (below_step (by repeat (first | (with_reducible first | exact HB.out | apply below_alloc | apply pw_below_drewN | apply below_drew1 | refine below_set ?_ GE456.out) | exact HB.out)) hb); clear HO459; clear BK456; clear HB; have HO459 := n0_; have BK456 := n1_; have HB := n2_; clear n0_ n1_ n2_; (try clear hb); (try clear hb2); (try clear hk); (try clear hi)))); (go_meet)
      case rel => exact ⟨_, ((t460 != t462)), (by first | rfl | (simp; done) | (simp [*]; done)), H', ⟨by first | omega | exact Nat.le_refl _⟩, ⟨by (with_reducible repeat (first | apply Kd.R_alloc | apply Kd.R_drewN | apply Kd.R_drew)); exact HO459.out⟩, ⟨by (with_reducible repeat (first | refine blk_drewN ?_ _ | refine blk_drew ?_ | refine blk_alloc ?_ _)); exact BK456.out⟩, ⟨by repeat (first | (with_reducible first | exact HB.out | apply below_alloc | apply pw_below_drewN | apply below_drew1 | refine below_set ?_ GE456.out) | exact HB.out)⟩⟩
    · (replace c8 := Bool.eq_false_iff.mpr c8); subst c8; (have H1 : (tabardlaw06_TreeFree.j0 k t457 t460 true a0_0 a0_1 a0_2 l0_3 l0_4) = some true := by rw [if_neg (show ¬ (false = true) by decide)] at H; exact H); clear H; (have H := H1); clear H1; (have H' := Aside0.mk H); clear H; (go_wp2_with (first | ((with_reducible refine gate_callee (f := 29) rfl ?_); refine goesL_ (some 10) rfl rfl Try.func29 (by kernel_rfl) rfl #[] rfl (by (try simp only [List.map_toArray, List.map_cons, List.map_nil]); first | done | rfl | (simp only [List.length_drop, List.length_take]; rfl)) ?_; (with_reducible refine (tabardlaw06_fixed.calls k  false _ A7.out).mono ?_); rintro e w13 ⟨rfl, hb⟩; refine ⟨_, rfl, ?_⟩; have n0_ := Aside0.mk (Kd.R_below (by (with_reducible repeat (first | apply Kd.R_alloc | apply Kd.R_drewN | apply Kd.R_drew)); exact HO459.out) hb); have n1_ := Aside0.mk (blk_below (g := gb456) (o := .cells #[.int .i64 a0_0, .string a0_1, .int .i64 a0_2, .slice A0_3 l0_3.length c0_3, .slice A0_4 l0_4.length c0_4] 39 (0, 0)) (by (with_reducible repeat (first | refine blk_drewN ?_ _ | refine blk_drew ?_ | refine blk_alloc ?_ _)); exact BK456.out) hb); have n2_ := Aside0.mk (below_step (by repeat (first | (with_reducible first | exact HB.out | apply below_alloc | apply pw_below_drewN | apply below_drew1 | refine below_set ?_ GE456.out) | exact HB.out)) hb); clear HO459; clear BK456; clear HB; have HO459 := n0_; have BK456 := n1_; have HB := n2_; clear n0_ n1_ n2_; (try clear hb); (try clear hb2); (try clear hk); (try clear hi)))); (go_meet)
      case rel => exact ⟨_, (true), (by first | rfl | (simp; done) | (simp [*]; done)), H', ⟨by first | omega | exact Nat.le_refl _⟩, ⟨by (with_reducible repeat (first | apply Kd.R_alloc | apply Kd.R_drewN | apply Kd.R_drew)); exact HO459.out⟩, ⟨by (with_reducible repeat (first | refine blk_drewN ?_ _ | refine blk_drew ?_ | refine blk_alloc ?_ _)); exact BK456.out⟩, ⟨by repeat (first | (with_reducible first | exact HB.out | apply below_alloc | apply pw_below_drewN | apply below_drew1 | refine below_set ?_ GE456.out) | exact HB.out)⟩⟩
  case rest =>
    clear HC3
    try clear c2
    try clear p2
    try clear c3
    try clear c6
    try clear c8
    try clear hcz11_0
    try clear hcz11_1
    try clear hcz11_2
    try clear hcz11_3
    try clear hcz11_4
    try clear hcz5_0
    try clear hcz5_1
    try clear hcz5_2
    try clear hcz5_3
    try clear hcz5_4
    try clear hfz11_0
    try clear hfz11_1
    try clear hfz11_2
    try clear hfz11_3
    try clear hfz11_4
    try clear hfz5_0
    try clear hfz5_1
    try clear hfz5_2
    try clear hfz5_3
    try clear hfz5_4
    obtain ⟨kq, x17_2, rfl, HA, HJ2, HO_3, BK456, HB⟩ := hcut
    cases kq with
    | zero => exact absurd HA.out (by simp [tabardlaw06_TreeFree.j0])
    | succ kj2 =>
      (have H := HA.out); clear HA; (simp only [tabardlaw06_TreeFree.j0] at H); (by_cases c14 : x17_2 = true)
      · subst c14; (have H1 : (some false) = some true := by rw [if_pos rfl] at H; exact H); clear H; (have H := H1); clear H1; cases H
      · (replace c14 := Bool.eq_false_iff.mpr c14); subst c14; (have H1 : (if t460 = 0 then ((tabardref06_Free.f kj2 a0_0 a0_1 a0_2 l0_3 l0_4).bind fun t463 => ((tabardlaw06_same.f kj2 t457 t463).bind fun t466 => (some t466))) else (some ((t457.length : Int) == 0))) = some true := by rw [if_neg (show ¬ (false = true) by decide)] at H; exact H); clear H; (have H := H1); clear H1; (by_cases c15 : t460 = 0)
        · (rw [if_pos c15] at H); (have c15b0 : (t460 == 0) = true := beq_iff_eq.mpr c15); (have c15b1 : (t460 != 0) = false := bne_eq_false_iff_eq.mpr c15); clear c15; (replace H := Option.bind_eq_some_iff.mp H); (obtain ⟨t463, A160, H⟩ := H); (replace H : ((tabardlaw06_same.f kj2 t457 t463).bind fun t466 => (some t466)) = some true := H); (have A16 := Aside0.mk A160); clear A160; (replace H := Option.bind_eq_some_iff.mp H); (obtain ⟨t466, A170, H⟩ := H); (replace H : (some t466) = some true := H); (have A17 := Aside0.mk A170); clear A170; (have hq_ := Option.some.inj H); (have hcz18_0 : wc.cell? ⟨gb456, 0, none⟩ = some (.int .i64 a0_0) := (blk_cell BK456.out 0).trans rfl); (have hcz18_1 : wc.cell? ⟨gb456, 1, none⟩ = some (.string a0_1) := (blk_cell BK456.out 1).trans rfl); (have hcz18_2 : wc.cell? ⟨gb456, 2, none⟩ = some (.int .i64 a0_2) := (blk_cell BK456.out 2).trans rfl); (have hcz18_3 : wc.cell? ⟨gb456, 3, none⟩ = some (.slice A0_3 l0_3.length c0_3) := (blk_cell BK456.out 3).trans rfl); (have hcz18_4 : wc.cell? ⟨gb456, 4, none⟩ = some (.slice A0_4 l0_4.length c0_4) := (blk_cell BK456.out 4).trans rfl); (have hfz18_0 := blk_frozen BK456.out 0); (have hfz18_1 := blk_frozen BK456.out 1); (have hfz18_2 := blk_frozen BK456.out 2); (have hfz18_3 := blk_frozen BK456.out 3); (have hfz18_4 := blk_frozen BK456.out 4); (go_wp2_with (first | ((with_reducible refine gate_callee (f := 33) rfl ?_); refine goesL_ (some 25) rfl rfl Try.func33 (by kernel_rfl) rfl #[.agg #[.int .i64 a0_0, .string a0_1, .int .i64 a0_2, .slice A0_3 l0_3.length c0_3, .slice A0_4 l0_4.length c0_4]] rfl (by (try simp only [List.map_toArray, List.map_cons, List.map_nil]); first | done | rfl | (simp only [List.length_drop, List.length_take]; rfl)) ?_; (with_reducible refine (tabardref06_Free.calls kj2 a0_0 a0_1 a0_2 _ _ l0_3 _ _ l0_4 t463 _ ?side1 ?side2 ?side3 ?side4 A16.out).mono ?_); (case side1 => repeat (first | exact (Kd.C_below HR0_3.out HB.out) | (with_reducible refine Kd.C_alloc ?_ _) | (with_reducible refine Kd.C_drewN ?_ _) | (with_reducible refine Kd.C_drew ?_))); (case side2 => exact HC0_3.out); (case side3 => repeat (first | exact (Kd.C_below HR0_4.out HB.out) | (with_reducible refine Kd.C_alloc ?_ _) | (with_reducible refine Kd.C_drewN ?_ _) | (with_reducible refine Kd.C_drew ?_))); (case side4 => exact HC0_4.out); rintro e w19 ⟨v464, rfl, ho0, hb⟩; refine ⟨_, rfl, ?_⟩; have n0_ := Aside0.mk (Kd.R_elder' (by (with_reducible repeat (first | apply Kd.R_alloc | apply Kd.R_drewN | apply Kd.R_drew)); exact HO_3.out) (Kd.R_base ho0) hb); have n1_ := Aside0.mk (Kd.R_lower (Kd.R_new' ho0 (Kd.R_lt (by (with_reducible repeat (first | apply Kd.R_alloc | apply Kd.R_drewN | apply Kd.R_drew)); exact HO_3.out))) (below_size (by repeat (first | (with_reducible first | exact HB.out | apply below_alloc | apply pw_below_drewN | apply below_drew1 | refine below_set ?_ GE456.out) | exact HB.out)))); have n2_ := Aside0.mk (blk_below (g := gb456) (o := .cells #[.int .i64 a0_0, .string a0_1, .int .i64 a0_2, .slice A0_3 l0_3.length c0_3, .slice A0_4 l0_4.length c0_4] 39 (0, 0)) (by (with_reducible repeat (first | refine blk_drewN ?_ _ | refine blk_drew ?_ | refine blk_alloc ?_ _)); exact BK456.out) hb); have n3_ := Aside0.mk (below_step (by repeat (first | (with_reducible first | exact HB.out | apply below_alloc | apply pw_below_drewN | apply below_drew1 | refine below_set ?_ GE456.out) | exact HB.out)) hb); clear HO_3; clear BK456; clear HB; have HO_3 := n0_; have HO465 := n1_; have BK456 := n2_; have HB := n3_; clear n0_ n1_ n2_ n3_; (try clear hb); (try clear hb2); (try clear hk); (try clear hi); (try clear ho0); obtain ⟨Ao20, co20, eo20⟩ := Kd.R_slice HO_3.out; subst eo20; obtain ⟨Ao21, co21, eo21⟩ := Kd.R_slice HO465.out; subst eo21) | ((with_reducible refine gate_callee (f := 32) rfl ?_); refine goesL_ (some 26) rfl rfl Try.func32 (by kernel_rfl) rfl #[.slice Ao20 t457.length co20, .slice Ao21 t463.length co21] rfl (by (try simp only [List.map_toArray, List.map_cons, List.map_nil]); first | done | rfl | (simp only [List.length_drop, List.length_take]; rfl)) ?_; (with_reducible refine (tabardlaw06_same.calls kj2 _ _ t457 _ _ t463 t466 _ ?side1 ?side2 ?side3 ?side4 A17.out).mono ?_); (case side1 => repeat (first | exact (Kd.R_reads' HO_3.out).2.2 | (with_reducible refine Kd.C_alloc ?_ _) | (with_reducible refine Kd.C_drewN ?_ _) | (with_reducible refine Kd.C_drew ?_))); (case side2 => exact (Kd.R_reads' HO_3.out).2.1); (case side3 => repeat (first | exact (Kd.R_reads' HO465.out).2.2 | (with_reducible refine Kd.C_alloc ?_ _) | (with_reducible refine Kd.C_drewN ?_ _) | (with_reducible refine Kd.C_drew ?_))); (case side4 => exact (Kd.R_reads' HO465.out).2.1); rintro e w' ⟨rfl, ⟨nd, rfl⟩⟩; refine ⟨_, rfl, ?_⟩))); go_ret; (exact ⟨by first | rfl | (simp [errW_none, errW_some] <;> rfl) | (simp [*, errW_none, errW_some] <;> rfl), by repeat (first | (with_reducible first | exact HB.out | apply below_alloc | apply pw_below_drewN | apply below_drew1 | refine below_set ?_ GE456.out) | exact HB.out)⟩)
        · (rw [if_neg c15] at H); (have c15b0 : (t460 == 0) = false := beq_eq_false_iff_ne.mpr c15); (have c15b1 : (t460 != 0) = true := bne_iff_ne.mpr c15); (have hq_ := Option.some.inj H); (obtain ⟨Ao22, co22, eo22⟩ := Kd.R_slice HO_3.out); subst eo22; go_wp2; go_ret; (exact ⟨by first | rfl | (simp [errW_none, errW_some] <;> rfl) | (simp [*, errW_none, errW_some] <;> rfl), by repeat (first | (with_reducible first | exact HB.out | apply below_alloc | apply pw_below_drewN | apply below_drew1 | refine below_set ?_ GE456.out) | exact HB.out)⟩)
end Go.Proofs.Ytjknpmibdkoklaa.Q
