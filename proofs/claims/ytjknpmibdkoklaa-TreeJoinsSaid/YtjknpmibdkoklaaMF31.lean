/- Functions of the given program as Lean functions, each with its contract, and what they answer; words for it. No condition but those of each. -/
import Derived.Test.YtjknpmibdkoklaaMF5
import Derived.Test.YtjknpmibdkoklaaMF21
import Derived.Test.YtjknpmibdkoklaaMF18
namespace Go.Proofs.Ytjknpmibdkoklaa.Q
open Go.RowKit Go.Proofs.YtjknpmibdkoklaaW.PrintWords Go.Proofs.YtjknpmibdkoklaaW.PrintLast Go.Proofs.YtjknpmibdkoklaaW.PrintMore
open Aside0 (mk)
open List (setIfInBounds_toArray set_cons_zero set_cons_succ)
attribute [local go_sem] max2_int min2_int max_two min_two max_three min_three max_four min_four
set_option linter.unusedVariables false
set_option linter.unusedSimpArgs false
attribute [local go_sem] fld99_2 fld103_2 fld160_0 fld160_1
def tree_Widest.f (k : Nat) (a0_0 : Int) (a0_1 : ByteArray) (a0_2 : Int) (l0_3 : List (S66)) (l0_4 : List (S39)) : Option (Int × Int) := (tree_Check.f a0_0 a0_1 a0_2 l0_3 l0_4).bind fun t563 => (if t563 = 0 then ((tree_free.f k a0_0 a0_1 a0_2 l0_3 l0_4).bind fun bt564 => (some (bt564.2, 0))) else (some (0, t563)))
theorem tree_Widest.mono : ∀ a0 a1 a2 a3 a4 k, LeO (tree_Widest.f k a0 a1 a2 a3 a4) (tree_Widest.f (k + 1) a0 a1 a2 a3 a4) := by
  intro a0 a1 a2 a3 a4 k
  unfold tree_Widest.f
  repeat' first
      | (with_reducible exact tree_free.mono _ _ _ _ _ _)
      | (with_reducible exact LeO.refl _)
      | (with_reducible exact LeO.none _)
      | (with_reducible refine LeO.ite ?_ ?_)
      | (with_reducible refine LeO.bind ?_ (fun _ => ?_))
      | exact tree_free.mono _ _ _ _ _ _
      | exact LeO.none _
      | refine LeO.ite ?_ ?_
      | refine LeO.bind ?_ (fun _ => ?_)
set_option maxHeartbeats 8000000 in
set_option maxRecDepth 100000 in
theorem tree_Widest.calls (k : Nat) (a0_0 : Int) (a0_1 : ByteArray) (a0_2 : Int) (A0_3 : Option Addr) (c0_3 : Nat) (l0_3 : List (S66)) (A0_4 : Option Addr) (c0_4 : Nat) (l0_4 : List (S39)) (r1 : Int) (r2 : Int) (w : World) (hr0_3 : Kd.C k66 w A0_3 l0_3.length l0_3) (hc0_3 : l0_3.length ≤ c0_3) (hr0_4 : Kd.C k39 w A0_4 l0_4.length l0_4) (hc0_4 : l0_4.length ≤ c0_4) (h : tree_Widest.f k a0_0 a0_1 a0_2 l0_3 l0_4 = some (r1, r2)) :
    Calls Try.prog 40 #[.agg #[.int .i64 a0_0, .string a0_1, .int .i64 a0_2, .slice A0_3 l0_3.length c0_3, .slice A0_4 l0_4.length c0_4]] w fun e w' => e = .returned (.tuple #[.int .i64 r1, .int .i64 r2]) ∧ Below w.heap.size w w' := by
  have hu39 := Try.underlying39
  have HR0_3 := mk hr0_3
  have HC0_3 := mk hc0_3
  clear hr0_3 hc0_3
  have HR0_4 := mk hr0_4
  have HC0_4 := mk hc0_4
  clear hr0_4 hc0_4
  have HB := mk (Below.refl w.heap.size w)
  have H : ((tree_Check.f a0_0 a0_1 a0_2 l0_3 l0_4).bind fun t563 => (if t563 = 0 then ((tree_free.f k a0_0 a0_1 a0_2 l0_3 l0_4).bind fun bt564 => (some (bt564.2, 0))) else (some (0, t563)))) = some (r1, r2) := h
  clear h
  replace H := Option.bind_eq_some_iff.mp H
  obtain ⟨t563, A20, H⟩ := H
  replace H : (if t563 = 0 then ((tree_free.f k a0_0 a0_1 a0_2 l0_3 l0_4).bind fun bt564 => (some (bt564.2, 0))) else (some (0, t563))) = some (r1, r2) := H
  have A2 := mk A20
  clear A20
  by_cases c3 : t563 = 0
  · rw [if_pos c3] at H
    have c3b0 : (t563 == 0) = true := beq_iff_eq.mpr c3
    have c3b1 : (t563 != 0) = false := bne_eq_false_iff_eq.mpr c3
    clear c3
    replace H := Option.bind_eq_some_iff.mp H
    obtain ⟨⟨t564, t567⟩, A40, H⟩ := H
    replace H : (some (t567, 0)) = some (r1, r2) := H
    have A4 := mk A40
    clear A40
    simp only [Option.some.injEq, Prod.mk.injEq] at H
    obtain ⟨rfl, rfl⟩ := H
    go_enter Try.func40, Try.ntmps40
    go_wp2_with (first | ((with_reducible refine gate_dst (N := 1) rfl ?_); refine box_event ?hg (N := 1) ?hd (cs := #[.int .i64 a0_0, .string a0_1, .int .i64 a0_2, .slice A0_3 l0_3.length c0_3, .slice A0_4 l0_4.length c0_4]) (t := 39) ?hr ?_; (case hd => rfl); (case hg => rfl); (case hr => first | (go_simp; done) | (go_simp; rfl)); intro gb562 hg w5 hbox hb; have n0_ := mk (below_step (by repeat (first | (with_reducible first | exact HB.out | apply bA_ | apply bN_ | apply b1_) | exact HB.out)) hb); have n1_ := mk (hbox); have n2_ := mk ((by rw [hg]; exact (below_size (by repeat (first | (with_reducible first | exact HB.out | apply bA_ | apply bN_ | apply b1_) | exact HB.out))) : w.heap.size ≤ gb562)); have n3_ := n2_; clear HB; have HB := n0_; have BK562 := n1_; have GW562 := n2_; have GE562 := n3_; clear n0_ n1_ n2_ n3_; clear hb hbox hg; have hcz6_0 : w5.cell? ⟨gb562, 0, none⟩ = some (.int .i64 a0_0) := (blk_cell BK562.out 0).trans rfl; have hcz6_1 : w5.cell? ⟨gb562, 1, none⟩ = some (.string a0_1) := (blk_cell BK562.out 1).trans rfl; have hcz6_2 : w5.cell? ⟨gb562, 2, none⟩ = some (.int .i64 a0_2) := (blk_cell BK562.out 2).trans rfl; have hcz6_3 : w5.cell? ⟨gb562, 3, none⟩ = some (.slice A0_3 l0_3.length c0_3) := (blk_cell BK562.out 3).trans rfl; have hcz6_4 : w5.cell? ⟨gb562, 4, none⟩ = some (.slice A0_4 l0_4.length c0_4) := (blk_cell BK562.out 4).trans rfl; have hfz6_0 := blk_frozen BK562.out 0; have hfz6_1 := blk_frozen BK562.out 1; have hfz6_2 := blk_frozen BK562.out 2; have hfz6_3 := blk_frozen BK562.out 3; have hfz6_4 := blk_frozen BK562.out 4) | ((with_reducible refine gate_callee (f := 36) rfl ?_); refine goesL_ (some 8) rfl rfl Try.func36 (by kernel_rfl) rfl #[.agg #[.int .i64 a0_0, .string a0_1, .int .i64 a0_2, .slice A0_3 l0_3.length c0_3, .slice A0_4 l0_4.length c0_4]] rfl (by (try simp only [List.map_toArray, List.map_cons, List.map_nil]); first | done | rfl | (simp only [List.length_drop, List.length_take]; rfl)) ?_; (with_reducible refine (tree_Check.calls a0_0 a0_1 a0_2 _ _ l0_3 _ _ l0_4 t563 _ ?side1 ?side2 ?side3 ?side4 A2.out).mono ?_); (case side1 => repeat (first | exact (Kd.C_below HR0_3.out HB.out) | (with_reducible refine Kd.C_alloc ?_ _) | (with_reducible refine Kd.C_drewN ?_ _) | (with_reducible refine Kd.C_drew ?_))); (case side2 => exact HC0_3.out); (case side3 => repeat (first | exact (Kd.C_below HR0_4.out HB.out) | (with_reducible refine Kd.C_alloc ?_ _) | (with_reducible refine Kd.C_drewN ?_ _) | (with_reducible refine Kd.C_drew ?_))); (case side4 => exact HC0_4.out); rintro e w7 ⟨rfl, hb⟩; refine ⟨_, rfl, ?_⟩; have n0_ := mk (blk_below (g := gb562) (o := .cells #[.int .i64 a0_0, .string a0_1, .int .i64 a0_2, .slice A0_3 l0_3.length c0_3, .slice A0_4 l0_4.length c0_4] 39 (0, 0)) (by (with_reducible repeat (first | refine blk_drewN ?_ _ | refine blk_drew ?_ | refine blk_alloc ?_ _)); exact BK562.out) hb); have n1_ := mk (below_step (by repeat (first | (with_reducible first | exact HB.out | apply bA_ | apply bN_ | apply b1_ | refine below_set ?_ GE562.out) | exact HB.out)) hb); clear BK562; clear HB; have BK562 := n0_; have HB := n1_; clear n0_ n1_; (try clear hb); (try clear hb2); (try clear hk); (try clear hi); have hcz8_0 : w7.cell? ⟨gb562, 0, none⟩ = some (.int .i64 a0_0) := (blk_cell BK562.out 0).trans rfl; have hcz8_1 : w7.cell? ⟨gb562, 1, none⟩ = some (.string a0_1) := (blk_cell BK562.out 1).trans rfl; have hcz8_2 : w7.cell? ⟨gb562, 2, none⟩ = some (.int .i64 a0_2) := (blk_cell BK562.out 2).trans rfl; have hcz8_3 : w7.cell? ⟨gb562, 3, none⟩ = some (.slice A0_3 l0_3.length c0_3) := (blk_cell BK562.out 3).trans rfl; have hcz8_4 : w7.cell? ⟨gb562, 4, none⟩ = some (.slice A0_4 l0_4.length c0_4) := (blk_cell BK562.out 4).trans rfl; have hfz8_0 := blk_frozen BK562.out 0; have hfz8_1 := blk_frozen BK562.out 1; have hfz8_2 := blk_frozen BK562.out 2; have hfz8_3 := blk_frozen BK562.out 3; have hfz8_4 := blk_frozen BK562.out 4) | ((with_reducible refine gate_callee (f := 71) rfl ?_); refine goesL_ (some 14) rfl rfl Try.func71 (by kernel_rfl) rfl #[.agg #[.int .i64 a0_0, .string a0_1, .int .i64 a0_2, .slice A0_3 l0_3.length c0_3, .slice A0_4 l0_4.length c0_4]] rfl (by (try simp only [List.map_toArray, List.map_cons, List.map_nil]); first | done | rfl | (simp only [List.length_drop, List.length_take]; rfl)) ?_; (with_reducible refine (tree_free.calls k a0_0 a0_1 a0_2 _ _ l0_3 _ _ l0_4 t564 t567 _ ?side1 ?side2 ?side3 ?side4 A4.out).mono ?_); (case side1 => repeat (first | exact (Kd.C_below HR0_3.out HB.out) | (with_reducible refine Kd.C_alloc ?_ _) | (with_reducible refine Kd.C_drewN ?_ _) | (with_reducible refine Kd.C_drew ?_))); (case side2 => exact HC0_3.out); (case side3 => repeat (first | exact (Kd.C_below HR0_4.out HB.out) | (with_reducible refine Kd.C_alloc ?_ _) | (with_reducible refine Kd.C_drewN ?_ _) | (with_reducible refine Kd.C_drew ?_))); (case side4 => exact HC0_4.out); rintro e w9 ⟨v565, rfl, ho0, hb⟩; refine ⟨_, rfl, ?_⟩; have n0_ := mk (Kd.R_lower ho0 (below_size (by repeat (first | (with_reducible first | exact HB.out | apply bA_ | apply bN_ | apply b1_ | refine below_set ?_ GE562.out) | exact HB.out)))); have n1_ := mk (blk_below (g := gb562) (o := .cells #[.int .i64 a0_0, .string a0_1, .int .i64 a0_2, .slice A0_3 l0_3.length c0_3, .slice A0_4 l0_4.length c0_4] 39 (0, 0)) (by (with_reducible repeat (first | refine blk_drewN ?_ _ | refine blk_drew ?_ | refine blk_alloc ?_ _)); exact BK562.out) hb); have n2_ := mk (below_step (by repeat (first | (with_reducible first | exact HB.out | apply bA_ | apply bN_ | apply b1_ | refine below_set ?_ GE562.out) | exact HB.out)) hb); clear BK562; clear HB; have HO566 := n0_; have BK562 := n1_; have HB := n2_; clear n0_ n1_ n2_; (try clear hb); (try clear hb2); (try clear hk); (try clear hi); (try clear ho0)))
    go_ret2
    exact ⟨by first | rfl | (simp [*, errW_none, errW_some] <;> rfl), by repeat (first | (with_reducible first | exact HB.out | apply bA_ | apply bN_ | apply b1_ | refine below_set ?_ GE562.out) | exact HB.out)⟩
  · rw [if_neg c3] at H
    have c3b0 : (t563 == 0) = false := beq_eq_false_iff_ne.mpr c3
    have c3b1 : (t563 != 0) = true := bne_iff_ne.mpr c3
    simp only [Option.some.injEq, Prod.mk.injEq] at H
    obtain ⟨rfl, rfl⟩ := H
    go_enter Try.func40, Try.ntmps40
    go_wp2_with (first | ((with_reducible refine gate_dst (N := 1) rfl ?_); refine box_event ?hg (N := 1) ?hd (cs := #[.int .i64 a0_0, .string a0_1, .int .i64 a0_2, .slice A0_3 l0_3.length c0_3, .slice A0_4 l0_4.length c0_4]) (t := 39) ?hr ?_; (case hd => rfl); (case hg => rfl); (case hr => first | (go_simp; done) | (go_simp; rfl)); intro gb562 hg w10 hbox hb; have n0_ := mk (below_step (by repeat (first | (with_reducible first | exact HB.out | apply bA_ | apply bN_ | apply b1_) | exact HB.out)) hb); have n1_ := mk (hbox); have n2_ := mk ((by rw [hg]; exact (below_size (by repeat (first | (with_reducible first | exact HB.out | apply bA_ | apply bN_ | apply b1_) | exact HB.out))) : w.heap.size ≤ gb562)); have n3_ := n2_; clear HB; have HB := n0_; have BK562 := n1_; have GW562 := n2_; have GE562 := n3_; clear n0_ n1_ n2_ n3_; clear hb hbox hg; have hcz11_0 : w10.cell? ⟨gb562, 0, none⟩ = some (.int .i64 a0_0) := (blk_cell BK562.out 0).trans rfl; have hcz11_1 : w10.cell? ⟨gb562, 1, none⟩ = some (.string a0_1) := (blk_cell BK562.out 1).trans rfl; have hcz11_2 : w10.cell? ⟨gb562, 2, none⟩ = some (.int .i64 a0_2) := (blk_cell BK562.out 2).trans rfl; have hcz11_3 : w10.cell? ⟨gb562, 3, none⟩ = some (.slice A0_3 l0_3.length c0_3) := (blk_cell BK562.out 3).trans rfl; have hcz11_4 : w10.cell? ⟨gb562, 4, none⟩ = some (.slice A0_4 l0_4.length c0_4) := (blk_cell BK562.out 4).trans rfl; have hfz11_0 := blk_frozen BK562.out 0; have hfz11_1 := blk_frozen BK562.out 1; have hfz11_2 := blk_frozen BK562.out 2; have hfz11_3 := blk_frozen BK562.out 3; have hfz11_4 := blk_frozen BK562.out 4) | ((with_reducible refine gate_callee (f := 36) rfl ?_); refine goesL_ (some 8) rfl rfl Try.func36 (by kernel_rfl) rfl #[.agg #[.int .i64 a0_0, .string a0_1, .int .i64 a0_2, .slice A0_3 l0_3.length c0_3, .slice A0_4 l0_4.length c0_4]] rfl (by (try simp only [List.map_toArray, List.map_cons, List.map_nil]); first | done | rfl | (simp only [List.length_drop, List.length_take]; rfl)) ?_; (with_reducible refine (tree_Check.calls a0_0 a0_1 a0_2 _ _ l0_3 _ _ l0_4 t563 _ ?side1 ?side2 ?side3 ?side4 A2.out).mono ?_); (case side1 => repeat (first | exact (Kd.C_below HR0_3.out HB.out) | (with_reducible refine Kd.C_alloc ?_ _) | (with_reducible refine Kd.C_drewN ?_ _) | (with_reducible refine Kd.C_drew ?_))); (case side2 => exact HC0_3.out); (case side3 => repeat (first | exact (Kd.C_below HR0_4.out HB.out) | (with_reducible refine Kd.C_alloc ?_ _) | (with_reducible refine Kd.C_drewN ?_ _) | (with_reducible refine Kd.C_drew ?_))); (case side4 => exact HC0_4.out); rintro e w12 ⟨rfl, hb⟩; refine ⟨_, rfl, ?_⟩; have n0_ := mk (blk_below (g := gb562) (o := .cells #[.int .i64 a0_0, .string a0_1, .int .i64 a0_2, .slice A0_3 l0_3.length c0_3, .slice A0_4 l0_4.length c0_4] 39 (0, 0)) (by (with_reducible repeat (first | refine blk_drewN ?_ _ | refine blk_drew ?_ | refine blk_alloc ?_ _)); exact BK562.out) hb); have n1_ := mk (below_step (by repeat (first | (with_reducible first | exact HB.out | apply bA_ | apply bN_ | apply b1_ | refine below_set ?_ GE562.out) | exact HB.out)) hb); clear BK562; clear HB; have BK562 := n0_; have HB := n1_; clear n0_ n1_; (try clear hb); (try clear hb2); (try clear hk); (try clear hi)))
    go_ret2
    exact ⟨by first | rfl | (simp [*, errW_none, errW_some] <;> rfl), by repeat (first | (with_reducible first | exact HB.out | apply bA_ | apply bN_ | apply b1_ | refine below_set ?_ GE562.out) | exact HB.out)⟩
end Go.Proofs.Ytjknpmibdkoklaa.Q
