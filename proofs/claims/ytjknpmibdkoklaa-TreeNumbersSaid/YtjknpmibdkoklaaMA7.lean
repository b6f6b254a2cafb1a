/- Functions of the given program as Lean functions, each with its contract, and what they answer; words for it. No condition but those of each. -/
import Derived.Test.YtjknpmibdkoklaaMA1
import Derived.Test.YtjknpmibdkoklaaMA5
import Derived.Test.YtjknpmibdkoklaaMA6
namespace Go.Proofs.Ytjknpmibdkoklaa.Q
open Go.RowKit Go.Proofs.YtjknpmibdkoklaaW.PrintWords Go.Proofs.YtjknpmibdkoklaaW.PrintLast Go.Proofs.YtjknpmibdkoklaaW.PrintMore
attribute [local go_sem] max2_int min2_int max_two min_two max_three min_three max_four min_four   -- for this text's walks alone
set_option linter.unusedVariables false
set_option linter.unusedSimpArgs false
attribute [local go_sem] fld99_2 fld103_2 fld160_0 fld160_1
mutual
def tree_free.l0 : Nat → List ByteArray → Int → List (S66) → Int → Int → Int → ByteArray → Int → List (S66) → List (S39) → Option (List ByteArray × Int)
  | 0, _, _, _, _, _, _, _, _, _, _ => none
  | k + 1, x4, x5, x13, x14, x15, x249000, x249001, x249002, x249003, x249004 => if x15 < x14 then (if 0 ≤ x15 then (if x15 < (x13.length : Int) then ((tree_named.f k ((rd_T66 x13 x15).f0) ((rd_T66 x13 x15).f1) ((rd_T66 x13 x15).f2) ((rd_T66 x13 x15).f3)).bind fun t251 => (if x4.length + t251.length < 8796093022208 then (tree_free.l0 k (x4 ++ t251) x5 x13 x14 (wrap64 (x15 + 1)) x249000 x249001 x249002 x249003 x249004) else (none))) else (none)) else (none)) else (tree_free.l1 k x4 x5 x249004 (x249004.length : Int) 0 x249000 x249001 x249002 x249003 x249004)
def tree_free.l1 : Nat → List ByteArray → Int → List (S39) → Int → Int → Int → ByteArray → Int → List (S66) → List (S39) → Option (List ByteArray × Int)
  | 0, _, _, _, _, _, _, _, _, _, _ => none
  | k + 1, x4, x5, x25, x26, x27, x249000, x249001, x249002, x249003, x249004 => if x27 < x26 then (if 0 ≤ x27 then (if x27 < (x25.length : Int) then ((tree_free.f k ((rd_T39 x25 x27).f0) ((rd_T39 x25 x27).f1) ((rd_T39 x25 x27).f2) ((rd_T39 x25 x27).f3) ((rd_T39 x25 x27).f4)).bind fun bt259 => (if x4.length + bt259.1.length < 8796093022208 then (tree_free.l1 k (x4 ++ bt259.1) (mx x5 bt259.2) x25 x26 (wrap64 (x27 + 1)) x249000 x249001 x249002 x249003 x249004) else (none))) else (none)) else (none)) else (if x249000 = 7 then (tree_free.j2 k x4 x5 true x249000 x249001 x249002 x249003 x249004) else (tree_free.j2 k x4 x5 (x249000 == 8) x249000 x249001 x249002 x249003 x249004))
def tree_free.j2 : Nat → List ByteArray → Int → Bool → Int → ByteArray → Int → List (S66) → List (S39) → Option (List ByteArray × Int)
  | 0, _, _, _, _, _, _, _, _ => none
  | k + 1, x4, x5, x50, x249000, x249001, x249002, x249003, x249004 => if x50 = true then ((slices_DeleteFunc_string_string.f x4 x249001).bind fun t266 => ((tree_sorted.f t266).bind fun t269 => (some (t269, mx x5 (t269.length : Int))))) else ((tree_sorted.f x4).bind fun t272 => (some (t272, mx x5 (t272.length : Int))))
def tree_free.f : Nat → Int → ByteArray → Int → List (S66) → List (S39) → Option (List ByteArray × Int)
  | 0, _, _, _, _, _ => none
  | k + 1, a0_0, a0_1, a0_2, l0_3, l0_4 => tree_free.l0 k ([] : List ByteArray) 0 l0_3 (l0_3.length : Int) 0 a0_0 a0_1 a0_2 l0_3 l0_4
end
theorem tree_free.mono_l : ∀ k, (∀ y0 y1 y2 y3 y4, LeO (tree_free.f k y0 y1 y2 y3 y4) (tree_free.f (k + 1) y0 y1 y2 y3 y4)) ∧ (∀ y0 y1 y2 y3 y4 y5 y6 y7 y8 y9, LeO (tree_free.l0 k y0 y1 y2 y3 y4 y5 y6 y7 y8 y9) (tree_free.l0 (k + 1) y0 y1 y2 y3 y4 y5 y6 y7 y8 y9)) ∧ (∀ y0 y1 y2 y3 y4 y5 y6 y7 y8 y9, LeO (tree_free.l1 k y0 y1 y2 y3 y4 y5 y6 y7 y8 y9) (tree_free.l1 (k + 1) y0 y1 y2 y3 y4 y5 y6 y7 y8 y9)) ∧ (∀ y0 y1 y2 y3 y4 y5 y6 y7, LeO (tree_free.j2 k y0 y1 y2 y3 y4 y5 y6 y7) (tree_free.j2 (k + 1) y0 y1 y2 y3 y4 y5 y6 y7))
  | 0 => ⟨fun _ _ _ _ _ r h => by simp [tree_free.f] at h, fun _ _ _ _ _ _ _ _ _ _ r h => by simp [tree_free.l0] at h, fun _ _ _ _ _ _ _ _ _ _ r h => by simp [tree_free.l1] at h, fun _ _ _ _ _ _ _ _ r h => by simp [tree_free.j2] at h⟩
  | k + 1 => by
    obtain ⟨ih0, ih1, ih2, ih3⟩ := tree_free.mono_l k
    refine ⟨?_, ?_, ?_, ?_⟩
    · intro y0 y1 y2 y3 y4
      unfold tree_free.f
      repeat' first
      | (with_reducible exact ih0 _ _ _ _ _)
      | (with_reducible exact ih1 _ _ _ _ _ _ _ _ _ _)
      | (with_reducible exact ih2 _ _ _ _ _ _ _ _ _ _)
      | (with_reducible exact ih3 _ _ _ _ _ _ _ _)
      | (with_reducible exact tree_named.mono _ _ _ _ _)
      | (with_reducible exact LeO.refl _)
      | (with_reducible exact LeO.none _)
      | (with_reducible refine LeO.ite ?_ ?_)
      | (with_reducible refine LeO.bind ?_ (fun _ => ?_))
      | exact ih0 _ _ _ _ _
      | exact ih1 _ _ _ _ _ _ _ _ _ _
      | exact ih2 _ _ _ _ _ _ _ _ _ _
      | exact ih3 _ _ _ _ _ _ _ _
      | exact tree_named.mono _ _ _ _ _
      | exact LeO.none _
      | refine LeO.ite ?_ ?_
      | refine LeO.bind ?_ (fun _ => ?_)
    · intro y0 y1 y2 y3 y4 y5 y6 y7 y8 y9
      unfold tree_free.l0
      repeat' first
      | (with_reducible exact ih0 _ _ _ _ _)
      | (with_reducible exact ih1 _ _ _ _ _ _ _ _ _ _)
      | (with_reducible exact ih2 _ _ _ _ _ _ _ _ _ _)
      | (with_reducible exact ih3 _ _ _ _ _ _ _ _)
      | (with_reducible exact tree_named.mono _ _ _ _ _)
      | (with_reducible exact LeO.refl _)
      | (with_reducible exact LeO.none _)
      | (with_reducible refine LeO.ite ?_ ?_)
      | (with_reducible refine LeO.bind ?_ (fun _ => ?_))
      | exact ih0 _ _ _ _ _
      | exact ih1 _ _ _ _ _ _ _ _ _ _
      | exact ih2 _ _ _ _ _ _ _ _ _ _
      | exact ih3 _ _ _ _ _ _ _ _
      | exact tree_named.mono _ _ _ _ _
      | exact LeO.none _
      | refine LeO.ite ?_ ?_
      | refine LeO.bind ?_ (fun _ => ?_)
    · intro y0 y1 y2 y3 y4 y5 y6 y7 y8 y9
      unfold tree_free.l1
      repeat' first
      | (with_reducible exact ih0 _ _ _ _ _)
      | (with_reducible exact ih1 _ _ _ _ _ _ _ _ _ _)
      | (with_reducible exact ih2 _ _ _ _ _ _ _ _ _ _)
      | (with_reducible exact ih3 _ _ _ _ _ _ _ _)
      | (with_reducible exact tree_named.mono _ _ _ _ _)
      | (with_reducible exact LeO.refl _)
      | (with_reducible exact LeO.none _)
      | (with_reducible refine LeO.ite ?_ ?_)
      | (with_reducible refine LeO.bind ?_ (fun _ => ?_))
      | exact ih0 _ _ _ _ _
      | exact ih1 _ _ _ _ _ _ _ _ _ _
      | exact ih2 _ _ _ _ _ _ _ _ _ _
      | exact ih3 _ _ _ _ _ _ _ _
      | exact tree_named.mono _ _ _ _ _
      | exact LeO.none _
      | refine LeO.ite ?_ ?_
      | refine LeO.bind ?_ (fun _ => ?_)
    · intro y0 y1 y2 y3 y4 y5 y6 y7
      unfold tree_free.j2
      repeat' first
      | (with_reducible exact ih0 _ _ _ _ _)
      | (with_reducible exact ih1 _ _ _ _ _ _ _ _ _ _)
      | (with_reducible exact ih2 _ _ _ _ _ _ _ _ _ _)
      | (with_reducible exact ih3 _ _ _ _ _ _ _ _)
      | (with_reducible exact tree_named.mono _ _ _ _ _)
      | (with_reducible exact LeO.refl _)
      | (with_reducible exact LeO.none _)
      | (with_reducible refine LeO.ite ?_ ?_)
      | (with_reducible refine LeO.bind ?_ (fun _ => ?_))
      | exact ih0 _ _ _ _ _
      | exact ih1 _ _ _ _ _ _ _ _ _ _
      | exact ih2 _ _ _ _ _ _ _ _ _ _
      | exact ih3 _ _ _ _ _ _ _ _
      | exact tree_named.mono _ _ _ _ _
      | exact LeO.none _
      | refine LeO.ite ?_ ?_
      | refine LeO.bind ?_ (fun _ => ?_)
theorem tree_free.mono : ∀ a0 a1 a2 a3 a4 k, LeO (tree_free.f k a0 a1 a2 a3 a4) (tree_free.f (k + 1) a0 a1 a2 a3 a4) := by
  intro a0 a1 a2 a3 a4 k
  obtain ⟨ih0, ih1, ih2, ih3⟩ := tree_free.mono_l k
  exact ih0 a0 a1 a2 a3 a4
set_option maxHeartbeats 8000000 in
set_option maxRecDepth 100000 in
theorem tree_free.calls (k : Nat) : ∀ (a0_0 : Int) (a0_1 : ByteArray) (a0_2 : Int) (A0_3 : Option Addr) (c0_3 : Nat) (l0_3 : List (S66)) (A0_4 : Option Addr) (c0_4 : Nat) (l0_4 : List (S39)) (r1 : List ByteArray) (r2 : Int) (w : World) (hr0_3 : Kd.C k66 w A0_3 l0_3.length l0_3) (hc0_3 : l0_3.length ≤ c0_3) (hr0_4 : Kd.C k39 w A0_4 l0_4.length l0_4) (hc0_4 : l0_4.length ≤ c0_4) (h : tree_free.f k a0_0 a0_1 a0_2 l0_3 l0_4 = some (r1, r2)),
    Calls Try.prog 71 #[.agg #[.int .i64 a0_0, .string a0_1, .int .i64 a0_2, .slice A0_3 l0_3.length c0_3, .slice A0_4 l0_4.length c0_4]] w fun e w' => ∃ v0_ : Value, e = .returned (.tuple #[v0_, .int .i64 r2]) ∧ Kd.R Kd.string 9 w' w.heap.size (fun _ => True) v0_ r1 ∧ Below w.heap.size w w' := by
  induction k using Nat.strongRecOn with
  | _ k ih =>
  intro a0_0 a0_1 a0_2 A0_3 c0_3 l0_3 A0_4 c0_4 l0_4 r1 r2 w hr0_3 hc0_3 hr0_4 hc0_4 h
  cases k with
  | zero => exact absurd h (by simp [tree_free.f])
  | succ k =>
  simp only [tree_free.f] at h
  have hu39 := Try.underlying39
  have hu66 := Try.underlying66
  have HR0_3 := Aside0.mk hr0_3
  have HC0_3 := Aside0.mk hc0_3
  clear hr0_3 hc0_3
  have HR0_4 := Aside0.mk hr0_4
  have HC0_4 := Aside0.mk hc0_4
  clear hr0_4 hc0_4
  have HB := Aside0.mk (Below.refl w.heap.size w)
  have H : (tree_free.l0 k ([] : List ByteArray) 0 l0_3 (l0_3.length : Int) 0 a0_0 a0_1 a0_2 l0_3 l0_4) = some (r1, r2) := h
  clear h
  have H' := Aside0.mk H
  clear H
  go_enter Try.func71, Try.ntmps71
  go_wp2_with (first | ((with_reducible refine gate_dst (N := 1) rfl ?_); refine box_event ?hg (N := 1) ?hd (cs := #[.int .i64 a0_0, .string a0_1, .int .i64 a0_2, .slice A0_3 l0_3.length c0_3, .slice A0_4 l0_4.length c0_4]) (t := 39) ?hr ?_; (case hd => rfl); (case hg => rfl); (case hr => first | (go_simp; done) | (go_simp; rfl)); intro gb248 hg w2 hbox hb; have n0_ := Aside0.mk (below_step (by repeat (first | (with_reducible first | exact HB.out | apply below_alloc | apply pw_below_drewN | apply below_drew1) | exact HB.out)) hb); have n1_ := Aside0.mk (hbox); have n2_ := Aside0.mk ((by rw [hg]; exact (below_size (by repeat (first | (with_reducible first | exact HB.out | apply below_alloc | apply pw_below_drewN | apply below_drew1) | exact HB.out))) : w.heap.size ≤ gb248)); have n3_ := Aside0.mk ((by rw [hg]; exact (below_size (by repeat (first | (with_reducible first | exact HB.out | apply below_alloc | apply pw_below_drewN | apply below_drew1) | exact HB.out))) : w.heap.size ≤ gb248)); clear HB; have HB := n0_; have BK248 := n1_; have GW248 := n2_; have GE248 := n3_; clear n0_ n1_ n2_ n3_; clear hb hbox hg; have hcz3_0 : w2.cell? ⟨gb248, 0, none⟩ = some (.int .i64 a0_0) := (blk_cell BK248.out 0).trans rfl; have hcz3_1 : w2.cell? ⟨gb248, 1, none⟩ = some (.string a0_1) := (blk_cell BK248.out 1).trans rfl; have hcz3_2 : w2.cell? ⟨gb248, 2, none⟩ = some (.int .i64 a0_2) := (blk_cell BK248.out 2).trans rfl; have hcz3_3 : w2.cell? ⟨gb248, 3, none⟩ = some (.slice A0_3 l0_3.length c0_3) := (blk_cell BK248.out 3).trans rfl; have hcz3_4 : w2.cell? ⟨gb248, 4, none⟩ = some (.slice A0_4 l0_4.length c0_4) := (blk_cell BK248.out 4).trans rfl; have hfz3_0 := blk_frozen BK248.out 0; have hfz3_1 := blk_frozen BK248.out 1; have hfz3_2 := blk_frozen BK248.out 2; have hfz3_3 := blk_frozen BK248.out 3; have hfz3_4 := blk_frozen BK248.out 4))
  go_loopg [4, 15] k (fun kq v4 v15 w' => ∃ (x4_1 : List ByteArray) (x15_1 : Int), v15 = .int .i64 x15_1 ∧ Aside0 (tree_free.l0 kq x4_1 0 l0_3 (l0_3.length : Int) x15_1 a0_0 a0_1 a0_2 l0_3 l0_4 = some (r1, r2)) ∧ Aside0 (kq ≤ k) ∧ Aside0 (Kd.R Kd.string 9 w' w.heap.size (fun _ => True) v4 x4_1) ∧ Aside0 (w'.heap[gb248]? = some (.cells #[.int .i64 a0_0, .string a0_1, .int .i64 a0_2, (.slice A0_3 l0_3.length c0_3), (.slice A0_4 l0_4.length c0_4)] 39 (0, 0))) ∧ Aside0 (Below w.heap.size w w'))
  case atStart => exact ⟨(([] : List ByteArray)), (0), (by first | rfl | (simp; done) | (simp [*]; done)), H', ⟨Nat.le_refl _⟩, ⟨by first | exact Kd.R_nil _ _ _ _ _ | exact Kd.N_nil _ _ _ _ _ | exact Kd.V_nil _ _ _ _ _ | exact Kd.Q_nil _ _ _ _ _ | exact Kd.S_nil _ _ _ _ _⟩, ⟨by (with_reducible repeat (first | refine blk_drewN ?_ _ | refine blk_drew ?_ | refine blk_alloc ?_ _)); exact BK248.out⟩, ⟨by repeat (first | (with_reducible first | exact HB.out | apply below_alloc | apply pw_below_drewN | apply below_drew1 | refine below_set ?_ GE248.out) | exact HB.out)⟩⟩
  case round =>
    clear H'
    try clear p2
    try clear hcz3_0
    try clear hcz3_1
    try clear hcz3_2
    try clear hcz3_3
    try clear hcz3_4
    try clear hfz3_0
    try clear hfz3_1
    try clear hfz3_2
    try clear hfz3_3
    try clear hfz3_4
    obtain ⟨x4_1, x15_1, rfl, HA, HK1, HO_4, BK248, HB⟩ := hrel
    cases gk with
    | zero => exact absurd HA.out (by simp [tree_free.l0])
    | succ k1 =>
      have H := HA.out
      clear HA
      simp only [tree_free.l0] at H
      by_cases c4 : x15_1 < (l0_3.length : Int)
      · rw [if_pos c4] at H
        have c4b0 : decide (x15_1 < (l0_3.length : Int)) = true := decide_eq_true c4
        clear c4
        by_cases c5 : 0 ≤ x15_1
        · rw [if_pos c5] at H
          have c5b0 : decide (0 ≤ x15_1) = true := decide_eq_true c5
          clear c5
          by_cases c6 : x15_1 < (l0_3.length : Int)
          · rw [if_pos c6] at H
            have c6b0 : decide (x15_1 < (l0_3.length : Int)) = true := decide_eq_true c6
            clear c6
            replace H := Option.bind_eq_some_iff.mp H
            obtain ⟨t251, A70, H⟩ := H
            replace H : (if x4_1.length + t251.length < 8796093022208 then (tree_free.l0 k1 (x4_1 ++ t251) 0 l0_3 (l0_3.length : Int) (wrap64 (x15_1 + 1)) a0_0 a0_1 a0_2 l0_3 l0_4) else (none)) = some (r1, r2) := H
            have A7 := Aside0.mk A70
            clear A70
            by_cases c8 : x4_1.length + t251.length < 8796093022208
            · rw [if_pos c8] at H
              have LMc8 := Aside0.mk c8
              clear c8
              obtain ⟨y254, hy254⟩ : ∃ y_ : List ByteArray, y_ = (x4_1 ++ t251) := ⟨_, rfl⟩
              replace H : (tree_free.l0 k1 y254 0 l0_3 (l0_3.length : Int) (wrap64 (x15_1 + 1)) a0_0 a0_1 a0_2 l0_3 l0_4) = some (r1, r2) := by first | (rw [hy254]; with_reducible exact H) | (have H2_ := (Option.bind_some _ _).symm.trans H; rw [hy254]; with_reducible exact H2_) | (have H2_ := (Option.bind_some _ _).symm.trans H; with_reducible exact H2_) | with_reducible exact H | (rw [hy254]; exact H) | exact H
              have Ny254 := Aside0.mk hy254
              clear hy254
              have H' := Aside0.mk H
              clear H
              have p249 : 0 ≤ (x15_1 : Int) := of_decide_eq_true (by first | (with_reducible assumption) | assumption)
              have q249 : x15_1 < (l0_3.length : Int) := of_decide_eq_true (by first | (with_reducible assumption) | assumption)
              obtain ⟨ad249, A249_3, c249_3, e249, hx249_0, hx249_1, hx249_2, hx249_3, hl249_3, hi249_3⟩ := at_T66 HR0_3.out x15_1 p249 q249
              cases e249
              replace hx249_0 := (HB.out.cell (World.block_lt_of_cell? w _ hx249_0)).trans hx249_0
              replace hx249_1 := (HB.out.cell (World.block_lt_of_cell? w _ hx249_1)).trans hx249_1
              replace hx249_2 := (HB.out.cell (World.block_lt_of_cell? w _ hx249_2)).trans hx249_2
              replace hx249_3 := (HB.out.cell (World.block_lt_of_cell? w _ hx249_3)).trans hx249_3
              have HR249_3 := Aside0.mk hi249_3
              have HC249_3 := Aside0.mk hl249_3
              clear hi249_3 hl249_3
              replace p249 := eq_true p249
              replace q249 := eq_true q249
              go_wp2_with (first | ((with_reducible refine gate_dst (N := 7) rfl ?_); refine box_event ?hg (N := 7) ?hd (cs := #[.int .i64 0, .int .i64 0, .string (⟨#[]⟩ : ByteArray), .slice none 0 0]) (t := 66) ?hr ?_; (case hd => rfl); (case hg => rfl); (case hr => first | (go_simp; done) | (go_simp; rfl)); intro gb250 hg w9 hbox hb; have n0_ := Aside0.mk (Kd.R_below (by (with_reducible repeat (first | apply Kd.R_alloc | apply Kd.R_drewN | apply Kd.R_drew)); exact HO_4.out) hb); have n1_ := Aside0.mk (blk_below (g := gb248) (o := .cells #[.int .i64 a0_0, .string a0_1, .int .i64 a0_2, .slice (some ad249) l0_3.length c0_3, .slice A0_4 l0_4.length c0_4] 39 (0, 0)) (by (with_reducible repeat (first | refine blk_drewN ?_ _ | refine blk_drew ?_ | refine blk_alloc ?_ _)); exact BK248.out) hb); have n2_ := Aside0.mk (below_step (by repeat (first | (with_reducible first | exact HB.out | apply below_alloc | apply pw_below_drewN | apply below_drew1 | refine below_set ?_ GE248.out) | exact HB.out)) hb); have n3_ := Aside0.mk (hbox); have n4_ := Aside0.mk ((by rw [hg]; exact (below_size (by repeat (first | (with_reducible first | exact HB.out | apply below_alloc | apply pw_below_drewN | apply below_drew1 | refine below_set ?_ GE248.out) | exact HB.out))) : w.heap.size ≤ gb250)); have n5_ := Aside0.mk ((by rw [hg]; exact (below_size (by repeat (first | (with_reducible first | exact HB.out | apply below_alloc | apply pw_below_drewN | apply below_drew1 | refine below_set ?_ GE248.out) | exact HB.out))) : w.heap.size ≤ gb250)); have n6_ := Aside0.mk ((by rw [hg]; exact Nat.ne_of_lt (blk_lt (g := gb248) (o := .cells #[.int .i64 a0_0, .string a0_1, .int .i64 a0_2, .slice (some ad249) l0_3.length c0_3, .slice A0_4 l0_4.length c0_4] 39 (0, 0)) (by (with_reducible repeat (first | refine blk_drewN ?_ _ | refine blk_drew ?_ | refine blk_alloc ?_ _)); exact BK248.out)) : gb248 ≠ gb250)); have n7_ := Aside0.mk ((by rw [hg]; exact Nat.ne_of_gt (blk_lt (g := gb248) (o := .cells #[.int .i64 a0_0, .string a0_1, .int .i64 a0_2, .slice (some ad249) l0_3.length c0_3, .slice A0_4 l0_4.length c0_4] 39 (0, 0)) (by (with_reducible repeat (first | refine blk_drewN ?_ _ | refine blk_drew ?_ | refine blk_alloc ?_ _)); exact BK248.out)) : gb250 ≠ gb248)); clear HO_4; clear BK248; clear HB; have HO_4 := n0_; have BK248 := n1_; have HB := n2_; have BK250 := n3_; have GW250 := n4_; have GE250 := n5_; have NB248_250 := n6_; have NB250_248 := n7_; clear n0_ n1_ n2_ n3_ n4_ n5_ n6_ n7_; clear hb hbox hg; have hnb10 := NB250_248.out; have hnc10 := NB248_250.out; have hcz11_0 : w9.cell? ⟨gb250, 0, none⟩ = some (.int .i64 0) := (blk_cell BK250.out 0).trans rfl; have hcz11_1 : w9.cell? ⟨gb250, 1, none⟩ = some (.int .i64 0) := (blk_cell BK250.out 1).trans rfl; have hcz11_2 : w9.cell? ⟨gb250, 2, none⟩ = some (.string (⟨#[]⟩ : ByteArray)) := (blk_cell BK250.out 2).trans rfl; have hcz11_3 : w9.cell? ⟨gb250, 3, none⟩ = some (.slice none 0 0) := (blk_cell BK250.out 3).trans rfl; have hfz11_0 := blk_frozen BK250.out 0; have hfz11_1 := blk_frozen BK250.out 1; have hfz11_2 := blk_frozen BK250.out 2; have hfz11_3 := blk_frozen BK250.out 3) | ((with_reducible refine gate_callee (f := 97) rfl ?_); refine goesL_ (some 21) rfl rfl Try.func97 (by kernel_rfl) rfl #[.agg #[.int .i64 ((rd_T66 l0_3 x15_1).f0), .int .i64 ((rd_T66 l0_3 x15_1).f1), .string ((rd_T66 l0_3 x15_1).f2), .slice A249_3 ((rd_T66 l0_3 x15_1).f3).length c249_3]] rfl (by (try simp only [List.map_toArray, List.map_cons, List.map_nil]); first | done | rfl | (simp only [List.length_drop, List.length_take]; rfl)) ?_; (with_reducible refine (tree_named.calls k1 ((rd_T66 l0_3 x15_1).f0) ((rd_T66 l0_3 x15_1).f1) ((rd_T66 l0_3 x15_1).f2) _ _ ((rd_T66 l0_3 x15_1).f3) t251 _ ?side1 ?side2 A7.out).mono ?_); (case side1 => exact Kd.C_below HR249_3.out (by repeat (first | (with_reducible first | exact HB.out | apply below_alloc | apply pw_below_drewN | apply below_drew1 | refine below_set ?_ GE248.out | refine below_set ?_ GE250.out) | exact HB.out))); (case side2 => exact HC249_3.out); rintro e w12 ⟨v252, rfl, ho0, hb⟩; refine ⟨_, rfl, ?_⟩; have n0_ := Aside0.mk (Kd.R_elder' (by (with_reducible repeat (first | apply Kd.R_alloc | apply Kd.R_drewN | apply Kd.R_drew)); exact (Kd.R_mono (Kd.R_far (p := ⟨gb250, 3, none⟩) (Kd.R_far (p := ⟨gb250, 2, none⟩) (Kd.R_far (p := ⟨gb250, 1, none⟩) (Kd.R_far (p := ⟨gb250, 0, none⟩) (Kd.R_types HO_4.out BK250.out (by decide)) (fun _ hk => hk.2) (.int .i64 ((rd_T66 l0_3 x15_1).f0))) (fun _ hk => hk.2) (.int .i64 ((rd_T66 l0_3 x15_1).f1))) (fun _ hk => hk.2) (.string ((rd_T66 l0_3 x15_1).f2))) (fun _ hk => hk.2) (.slice A249_3 ((rd_T66 l0_3 x15_1).f3).length c249_3)) (fun _ h_ => h_.1))) (Kd.R_base ho0) hb); have n1_ := Aside0.mk (Kd.R_lower (Kd.R_new' ho0 (Kd.R_lt (by (with_reducible repeat (first | apply Kd.R_alloc | apply Kd.R_drewN | apply Kd.R_drew)); exact (Kd.R_mono (Kd.R_far (p := ⟨gb250, 3, none⟩) (Kd.R_far (p := ⟨gb250, 2, none⟩) (Kd.R_far (p := ⟨gb250, 1, none⟩) (Kd.R_far (p := ⟨gb250, 0, none⟩) (Kd.R_types HO_4.out BK250.out (by decide)) (fun _ hk => hk.2) (.int .i64 ((rd_T66 l0_3 x15_1).f0))) (fun _ hk => hk.2) (.int .i64 ((rd_T66 l0_3 x15_1).f1))) (fun _ hk => hk.2) (.string ((rd_T66 l0_3 x15_1).f2))) (fun _ hk => hk.2) (.slice A249_3 ((rd_T66 l0_3 x15_1).f3).length c249_3)) (fun _ h_ => h_.1))))) (below_size (by repeat (first | (with_reducible first | exact HB.out | apply below_alloc | apply pw_below_drewN | apply below_drew1 | refine below_set ?_ GE248.out | refine below_set ?_ GE250.out) | exact HB.out)))); have n2_ := Aside0.mk (blk_below (g := gb248) (o := .cells #[.int .i64 a0_0, .string a0_1, .int .i64 a0_2, .slice (some ad249) l0_3.length c0_3, .slice A0_4 l0_4.length c0_4] 39 (0, 0)) (by (with_reducible repeat (first | refine blk_drewN ?_ _ | refine blk_drew ?_ | refine blk_alloc ?_ _)); refine blk_far ?_ NB248_250.out _; (with_reducible repeat (first | refine blk_drewN ?_ _ | refine blk_drew ?_ | refine blk_alloc ?_ _)); refine blk_far ?_ NB248_250.out _; (with_reducible repeat (first | refine blk_drewN ?_ _ | refine blk_drew ?_ | refine blk_alloc ?_ _)); refine blk_far ?_ NB248_250.out _; (with_reducible repeat (first | refine blk_drewN ?_ _ | refine blk_drew ?_ | refine blk_alloc ?_ _)); refine blk_far ?_ NB248_250.out _; (with_reducible repeat (first | refine blk_drewN ?_ _ | refine blk_drew ?_ | refine blk_alloc ?_ _)); exact BK248.out) hb); have n3_ := Aside0.mk (blk_below (g := gb250) (o := .cells #[.int .i64 ((rd_T66 l0_3 x15_1).f0), .int .i64 ((rd_T66 l0_3 x15_1).f1), .string ((rd_T66 l0_3 x15_1).f2), .slice A249_3 ((rd_T66 l0_3 x15_1).f3).length c249_3] 66 (0, 0)) (by (with_reducible repeat (first | refine blk_drewN ?_ _ | refine blk_drew ?_ | refine blk_alloc ?_ _)); refine blk_put (cs := #[.int .i64 ((rd_T66 l0_3 x15_1).f0), .int .i64 ((rd_T66 l0_3 x15_1).f1), .string ((rd_T66 l0_3 x15_1).f2), .slice none 0 0]) ?_ 3 _ rfl; (with_reducible repeat (first | refine blk_drewN ?_ _ | refine blk_drew ?_ | refine blk_alloc ?_ _)); refine blk_put (cs := #[.int .i64 ((rd_T66 l0_3 x15_1).f0), .int .i64 ((rd_T66 l0_3 x15_1).f1), .string (⟨#[]⟩ : ByteArray), .slice none 0 0]) ?_ 2 _ rfl; (with_reducible repeat (first | refine blk_drewN ?_ _ | refine blk_drew ?_ | refine blk_alloc ?_ _)); refine blk_put (cs := #[.int .i64 ((rd_T66 l0_3 x15_1).f0), .int .i64 0, .string (⟨#[]⟩ : ByteArray), .slice none 0 0]) ?_ 1 _ rfl; (with_reducible repeat (first | refine blk_drewN ?_ _ | refine blk_drew ?_ | refine blk_alloc ?_ _)); refine blk_put (cs := #[.int .i64 0, .int .i64 0, .string (⟨#[]⟩ : ByteArray), .slice none 0 0]) ?_ 0 _ rfl; (with_reducible repeat (first | refine blk_drewN ?_ _ | refine blk_drew ?_ | refine blk_alloc ?_ _)); exact BK250.out) hb); have n4_ := Aside0.mk (below_step (by repeat (first | (with_reducible first | exact HB.out | apply below_alloc | apply pw_below_drewN | apply below_drew1 | refine below_set ?_ GE248.out | refine below_set ?_ GE250.out) | exact HB.out)) hb); clear HO_4; clear BK248; clear BK250; clear HB; have HO_4 := n0_; have HO253 := n1_; have BK248 := n2_; have BK250 := n3_; have HB := n4_; clear n0_ n1_ n2_ n3_ n4_; (try clear hb); (try clear hb2); (try clear hk); (try clear hi); (try clear ho0); obtain ⟨Ao14, co14, eo14⟩ := Kd.R_slice HO253.out; subst eo14) | ((with_reducible refine gate_builtin (b := .append) (xs := #[.tmp 19, .tmp 21]) rfl ?_); at_builtin; refine Kd.R_append_rows Kd.string (w0 := w) w.heap.size rfl (.tmp 19) (.tmp 21) 22 9 (.string ⟨#[]⟩) 16 rfl Try.underlying22 info9 rfl (by decide) (by omega) u4 x4_1 t251 _ _ _ (fun k_ => some k_ ≠ (.slice Ao14 t251.length co14 : Value).ownBlock) (fun _ => False) rfl rfl ?aO ?aR (fun _ _ h => h) (fun _ h => h.elim) ?aF ?aB ?aS ?aL ?_; (case aR => repeat (first | exact (Kd.R_reads' HO253.out).2.2 | (with_reducible refine Kd.C_alloc ?_ _) | (with_reducible refine Kd.C_drewN ?_ _) | (with_reducible refine Kd.C_drew ?_))); (case aB => exact (by repeat (first | (with_reducible first | exact HB.out | apply below_alloc | apply pw_below_drewN | apply below_drew1 | refine below_set ?_ GE248.out | refine below_set ?_ GE250.out) | exact HB.out))); (case aF => exact (fun k_ hk => Kd.fresh' (Kd.R_lt (by (with_reducible repeat (first | apply Kd.R_alloc | apply Kd.R_drewN | apply Kd.R_drew)); exact HO253.out)) k_ hk)); (case aO => exact (by (with_reducible repeat (first | apply Kd.R_alloc | apply Kd.R_drewN | apply Kd.R_drew)); exact Kd.R_mono HO_4.out (fun _ hk => hk.2))); (case aS => exact (below_size (by repeat (first | (with_reducible first | exact HB.out | apply below_alloc | apply pw_below_drewN | apply below_drew1 | refine below_set ?_ GE248.out | refine below_set ?_ GE250.out) | exact HB.out)))); (case aL => have := LMc8.out; omega); intro v255 w13 ho hb hg hat; rw [← Ny254.out] at ho; have n0_ := Aside0.mk (blk_grown (g := gb248) (o := .cells #[.int .i64 a0_0, .string a0_1, .int .i64 a0_2, .slice (some ad249) l0_3.length c0_3, .slice A0_4 l0_4.length c0_4] 39 (0, 0)) (by (with_reducible repeat (first | refine blk_drewN ?_ _ | refine blk_drew ?_ | refine blk_alloc ?_ _)); exact BK248.out) hg (Kd.R_ne HO_4.out BK248.out (by decide))); have n1_ := Aside0.mk (blk_grown (g := gb250) (o := .cells #[.int .i64 ((rd_T66 l0_3 x15_1).f0), .int .i64 ((rd_T66 l0_3 x15_1).f1), .string ((rd_T66 l0_3 x15_1).f2), .slice A249_3 ((rd_T66 l0_3 x15_1).f3).length c249_3] 66 (0, 0)) (by (with_reducible repeat (first | refine blk_drewN ?_ _ | refine blk_drew ?_ | refine blk_alloc ?_ _)); exact BK250.out) hg (Kd.R_ne HO_4.out BK250.out (by decide))); have n2_ := Aside0.mk (Kd.R_after (ok := (fun _ => True)) (by (with_reducible repeat (first | apply Kd.R_alloc | apply Kd.R_drewN | apply Kd.R_drew)); exact HO253.out) hg hat); have n3_ := Aside0.mk (hb); have n4_ := Aside0.mk (ho); clear BK248; clear BK250; clear HO253; clear HB; clear HO_4; have BK248 := n0_; have BK250 := n1_; have HO253 := n2_; have HB := n3_; have HO256 := n4_; clear n0_ n1_ n2_ n3_ n4_; clear ho hb hg hat))
              go_roundg k1
              case measure => have := HK1.out; omega
              case rel => exact ⟨(y254), (wrap64 (x15_1 + 1)), (by first | rfl | (simp; done) | (simp [*]; done)), H', ⟨by have := HK1.out; omega⟩, ⟨by (with_reducible repeat (first | apply Kd.R_alloc | apply Kd.R_drewN | apply Kd.R_drew)); exact Kd.R_mono HO256.out (fun _ hk => trivial)⟩, ⟨by (with_reducible repeat (first | refine blk_drewN ?_ _ | refine blk_drew ?_ | refine blk_alloc ?_ _)); exact BK248.out⟩, ⟨by repeat (first | (with_reducible first | exact HB.out | apply below_alloc | apply pw_below_drewN | apply below_drew1 | refine below_set ?_ GE248.out | refine below_set ?_ GE250.out) | exact HB.out)⟩⟩
            · rw [if_neg c8] at H
              exact absurd H (by simp)
          · rw [if_neg c6] at H
            exact absurd H (by simp)
        · rw [if_neg c5] at H
          exact absurd H (by simp)
      · rw [if_neg c4] at H
        have c4b0 : decide (x15_1 < (l0_3.length : Int)) = false := decide_eq_false c4
        clear c4
        have H' := Aside0.mk H
        clear H
        have hcz15_0 : wr.cell? ⟨gb248, 0, none⟩ = some (.int .i64 a0_0) := (blk_cell BK248.out 0).trans rfl
        have hcz15_1 : wr.cell? ⟨gb248, 1, none⟩ = some (.string a0_1) := (blk_cell BK248.out 1).trans rfl
        have hcz15_2 : wr.cell? ⟨gb248, 2, none⟩ = some (.int .i64 a0_2) := (blk_cell BK248.out 2).trans rfl
        have hcz15_3 : wr.cell? ⟨gb248, 3, none⟩ = some (.slice A0_3 l0_3.length c0_3) := (blk_cell BK248.out 3).trans rfl
        have hcz15_4 : wr.cell? ⟨gb248, 4, none⟩ = some (.slice A0_4 l0_4.length c0_4) := (blk_cell BK248.out 4).trans rfl
        have hfz15_0 := blk_frozen BK248.out 0
        have hfz15_1 := blk_frozen BK248.out 1
        have hfz15_2 := blk_frozen BK248.out 2
        have hfz15_3 := blk_frozen BK248.out 3
        have hfz15_4 := blk_frozen BK248.out 4
        go_wp2
        go_loopg [4, 5, 27] k1 (fun kq v4 v5 v27 w' => ∃ (x4_2 : List ByteArray) (x5_2 : Int) (x27_2 : Int), v5 = .int .i64 x5_2 ∧ v27 = .int .i64 x27_2 ∧ Aside0 (tree_free.l1 kq x4_2 x5_2 l0_4 (l0_4.length : Int) x27_2 a0_0 a0_1 a0_2 l0_3 l0_4 = some (r1, r2)) ∧ Aside0 (kq ≤ k1) ∧ Aside0 (Kd.R Kd.string 9 w' w.heap.size (fun _ => True) v4 x4_2) ∧ Aside0 (w'.heap[gb248]? = some (.cells #[.int .i64 a0_0, .string a0_1, .int .i64 a0_2, (.slice A0_3 l0_3.length c0_3), (.slice A0_4 l0_4.length c0_4)] 39 (0, 0))) ∧ Aside0 (Below w.heap.size w w'))
        case atStart => exact ⟨(x4_1), (0), (0), (by first | rfl | (simp; done) | (simp [*]; done)), (by first | rfl | (simp; done) | (simp [*]; done)), H', ⟨Nat.le_refl _⟩, ⟨by (with_reducible repeat (first | apply Kd.R_alloc | apply Kd.R_drewN | apply Kd.R_drew)); exact HO_4.out⟩, ⟨by (with_reducible repeat (first | refine blk_drewN ?_ _ | refine blk_drew ?_ | refine blk_alloc ?_ _)); exact BK248.out⟩, ⟨by repeat (first | (with_reducible first | exact HB.out | apply below_alloc | apply pw_below_drewN | apply below_drew1 | refine below_set ?_ GE248.out) | exact HB.out)⟩⟩
        case round =>
          clear H'
          try clear c1
          try clear c2
          try clear p2
          try clear q2
          try clear hx2
          try clear c4
          try clear c4b0
          try clear c5
          try clear c5b0
          try clear c6
          try clear c6b0
          try clear p6
          try clear c7
          try clear c8
          try clear c9
          try clear c10
          try clear hcz11_0
          try clear hcz11_1
          try clear hcz11_2
          try clear hcz11_3
          try clear hcz15_0
          try clear hcz15_1
          try clear hcz15_2
          try clear hcz15_3
          try clear hcz15_4
          try clear hcz3_0
          try clear hcz3_1
          try clear hcz3_2
          try clear hcz3_3
          try clear hcz3_4
          try clear hfz11_0
          try clear hfz11_1
          try clear hfz11_2
          try clear hfz11_3
          try clear hfz15_0
          try clear hfz15_1
          try clear hfz15_2
          try clear hfz15_3
          try clear hfz15_4
          try clear hfz3_0
          try clear hfz3_1
          try clear hfz3_2
          try clear hfz3_3
          try clear hfz3_4
          try clear hx249_0
          try clear hx249_1
          try clear hx249_2
          try clear hx249_3
          try clear p2
          try clear p249
          try clear q249
          obtain ⟨x4_2, x5_2, x27_2, rfl, rfl, HA, HK2, HO_4, BK248, HB⟩ := hrel
          cases gk with
          | zero => exact absurd HA.out (by simp [tree_free.l1])
          | succ k2 =>
            have H := HA.out
            clear HA
            simp only [tree_free.l1] at H
            by_cases c16 : x27_2 < (l0_4.length : Int)
            · rw [if_pos c16] at H
              have c16b0 : decide (x27_2 < (l0_4.length : Int)) = true := decide_eq_true c16
              clear c16
              by_cases c17 : 0 ≤ x27_2
              · rw [if_pos c17] at H
                have c17b0 : decide (0 ≤ x27_2) = true := decide_eq_true c17
                clear c17
                by_cases c18 : x27_2 < (l0_4.length : Int)
                · rw [if_pos c18] at H
                  have c18b0 : decide (x27_2 < (l0_4.length : Int)) = true := decide_eq_true c18
                  clear c18
                  replace H := Option.bind_eq_some_iff.mp H
                  obtain ⟨⟨t259, t262⟩, A190, H⟩ := H
                  replace H : (if x4_2.length + t259.length < 8796093022208 then (tree_free.l1 k2 (x4_2 ++ t259) (mx x5_2 t262) l0_4 (l0_4.length : Int) (wrap64 (x27_2 + 1)) a0_0 a0_1 a0_2 l0_3 l0_4) else (none)) = some (r1, r2) := H
                  have A19 := Aside0.mk A190
                  clear A190
                  by_cases c20 : x4_2.length + t259.length < 8796093022208
                  · rw [if_pos c20] at H
                    have LMc20 := Aside0.mk c20
                    clear c20
                    obtain ⟨y263, hy263⟩ : ∃ y_ : List ByteArray, y_ = (x4_2 ++ t259) := ⟨_, rfl⟩
                    replace H : (tree_free.l1 k2 y263 (mx x5_2 t262) l0_4 (l0_4.length : Int) (wrap64 (x27_2 + 1)) a0_0 a0_1 a0_2 l0_3 l0_4) = some (r1, r2) := by first | (rw [hy263]; with_reducible exact H) | (have H2_ := (Option.bind_some _ _).symm.trans H; rw [hy263]; with_reducible exact H2_) | (have H2_ := (Option.bind_some _ _).symm.trans H; with_reducible exact H2_) | with_reducible exact H | (rw [hy263]; exact H) | exact H
                    have Ny263 := Aside0.mk hy263
                    clear hy263
                    obtain ⟨ji21, hji21⟩ : ∃ j_ : Int, (mx x5_2 t262) = j_ := ⟨_, rfl⟩
                    replace H : (tree_free.l1 k2 y263 ji21 l0_4 (l0_4.length : Int) (wrap64 (x27_2 + 1)) a0_0 a0_1 a0_2 l0_3 l0_4) = some (r1, r2) := by first | (rw [hji21] at H; exact H) | (simp only [hji21] at H ⊢; exact H)
                    (try rw [hji21] at A19)
                    have hji21_ : (if x5_2 < t262 then t262 else x5_2) = ji21 := hji21
                    have H' := Aside0.mk H
                    clear H
                    have p257 : 0 ≤ (x27_2 : Int) := of_decide_eq_true (by first | (with_reducible assumption) | assumption)
                    have q257 : x27_2 < (l0_4.length : Int) := of_decide_eq_true (by first | (with_reducible assumption) | assumption)
                    obtain ⟨ad257, A257_3, c257_3, A257_4, c257_4, e257, hx257_0, hx257_1, hx257_2, hx257_3, hx257_4, hl257_3, hi257_3, hl257_4, hi257_4⟩ := at_T39 HR0_4.out x27_2 p257 q257
                    cases e257
                    replace hx257_0 := (HB.out.cell (World.block_lt_of_cell? w _ hx257_0)).trans hx257_0
                    replace hx257_1 := (HB.out.cell (World.block_lt_of_cell? w _ hx257_1)).trans hx257_1
                    replace hx257_2 := (HB.out.cell (World.block_lt_of_cell? w _ hx257_2)).trans hx257_2
                    replace hx257_3 := (HB.out.cell (World.block_lt_of_cell? w _ hx257_3)).trans hx257_3
                    replace hx257_4 := (HB.out.cell (World.block_lt_of_cell? w _ hx257_4)).trans hx257_4
                    have HR257_3 := Aside0.mk hi257_3
                    have HC257_3 := Aside0.mk hl257_3
                    clear hi257_3 hl257_3
                    have HR257_4 := Aside0.mk hi257_4
                    have HC257_4 := Aside0.mk hl257_4
                    clear hi257_4 hl257_4
                    replace p257 := eq_true p257
                    replace q257 := eq_true q257
                    go_wp2_with (first | ((with_reducible refine gate_dst (N := 9) rfl ?_); refine box_event ?hg (N := 9) ?hd (cs := #[.int .i64 0, .string (⟨#[]⟩ : ByteArray), .int .i64 0, .slice none 0 0, .slice none 0 0]) (t := 39) ?hr ?_; (case hd => rfl); (case hg => rfl); (case hr => first | (go_simp; done) | (go_simp; rfl)); intro gb258 hg w22 hbox hb; have n0_ := Aside0.mk (Kd.R_below (by (with_reducible repeat (first | apply Kd.R_alloc | apply Kd.R_drewN | apply Kd.R_drew)); exact HO_4.out) hb); have n1_ := Aside0.mk (blk_below (g := gb248) (o := .cells #[.int .i64 a0_0, .string a0_1, .int .i64 a0_2, .slice A0_3 l0_3.length c0_3, .slice (some ad257) l0_4.length c0_4] 39 (0, 0)) (by (with_reducible repeat (first | refine blk_drewN ?_ _ | refine blk_drew ?_ | refine blk_alloc ?_ _)); exact BK248.out) hb); have n2_ := Aside0.mk (below_step (by repeat (first | (with_reducible first | exact HB.out | apply below_alloc | apply pw_below_drewN | apply below_drew1 | refine below_set ?_ GE248.out) | exact HB.out)) hb); have n3_ := Aside0.mk (hbox); have n4_ := Aside0.mk ((by rw [hg]; exact (below_size (by repeat (first | (with_reducible first | exact HB.out | apply below_alloc | apply pw_below_drewN | apply below_drew1 | refine below_set ?_ GE248.out) | exact HB.out))) : w.heap.size ≤ gb258)); have n5_ := Aside0.mk ((by rw [hg]; exact (below_size (by repeat (first | (with_reducible first | exact HB.out | apply below_alloc | apply pw_below_drewN | apply below_drew1 | refine below_set ?_ GE248.out) | exact HB.out))) : w.heap.size ≤ gb258)); have n6_ := Aside0.mk ((by rw [hg]; exact Nat.ne_of_lt (blk_lt (g := gb248) (o := .cells #[.int .i64 a0_0, .string a0_1, .int .i64 a0_2, .slice A0_3 l0_3.length c0_3, .slice (some ad257) l0_4.length c0_4] 39 (0, 0)) (by (with_reducible repeat (first | refine blk_drewN ?_ _ | refine blk_drew ?_ | refine blk_alloc ?_ _)); exact BK248.out)) : gb248 ≠ gb258)); have n7_ := Aside0.mk ((by rw [hg]; exact Nat.ne_of_gt (blk_lt (g := gb248) (o := .cells #[.int .i64 a0_0, .string a0_1, .int .i64 a0_2, .slice A0_3 l0_3.length c0_3, .slice (some ad257) l0_4.length c0_4] 39 (0, 0)) (by (with_reducible repeat (first | refine blk_drewN ?_ _ | refine blk_drew ?_ | refine blk_alloc ?_ _)); exact BK248.out)) : gb258 ≠ gb248)); clear HO_4; clear BK248; clear HB; have HO_4 := n0_; have BK248 := n1_; have HB := n2_; have BK258 := n3_; have GW258 := n4_; have GE258 := n5_; have NB248_258 := n6_; have NB258_248 := n7_; clear n0_ n1_ n2_ n3_ n4_ n5_ n6_ n7_; clear hb hbox hg; have hnb23 := NB258_248.out; have hnc23 := NB248_258.out; have hcz24_0 : w22.cell? ⟨gb258, 0, none⟩ = some (.int .i64 0) := (blk_cell BK258.out 0).trans rfl; have hcz24_1 : w22.cell? ⟨gb258, 1, none⟩ = some (.string (⟨#[]⟩ : ByteArray)) := (blk_cell BK258.out 1).trans rfl; have hcz24_2 : w22.cell? ⟨gb258, 2, none⟩ = some (.int .i64 0) := (blk_cell BK258.out 2).trans rfl; have hcz24_3 : w22.cell? ⟨gb258, 3, none⟩ = some (.slice none 0 0) := (blk_cell BK258.out 3).trans rfl; have hcz24_4 : w22.cell? ⟨gb258, 4, none⟩ = some (.slice none 0 0) := (blk_cell BK258.out 4).trans rfl; have hfz24_0 := blk_frozen BK258.out 0; have hfz24_1 := blk_frozen BK258.out 1; have hfz24_2 := blk_frozen BK258.out 2; have hfz24_3 := blk_frozen BK258.out 3; have hfz24_4 := blk_frozen BK258.out 4) | ((with_reducible refine gate_callee (f := 71) rfl ?_); refine goesL_ (some 33) rfl rfl Try.func71 (by kernel_rfl) rfl #[.agg #[.int .i64 ((rd_T39 l0_4 x27_2).f0), .string ((rd_T39 l0_4 x27_2).f1), .int .i64 ((rd_T39 l0_4 x27_2).f2), .slice A257_3 ((rd_T39 l0_4 x27_2).f3).length c257_3, .slice A257_4 ((rd_T39 l0_4 x27_2).f4).length c257_4]] rfl (by (try simp only [List.map_toArray, List.map_cons, List.map_nil]); first | done | rfl | (simp only [List.length_drop, List.length_take]; rfl)) ?_; (with_reducible refine (ih k2 (by have := HK1.out; have := HK2.out; omega) ((rd_T39 l0_4 x27_2).f0) ((rd_T39 l0_4 x27_2).f1) ((rd_T39 l0_4 x27_2).f2) _ _ ((rd_T39 l0_4 x27_2).f3) _ _ ((rd_T39 l0_4 x27_2).f4) t259 t262 _ ?side1 ?side2 ?side3 ?side4 A19.out).mono ?_); (case side1 => exact Kd.C_below HR257_3.out (by repeat (first | (with_reducible first | exact HB.out | apply below_alloc | apply pw_below_drewN | apply below_drew1 | refine below_set ?_ GE248.out | refine below_set ?_ GE258.out) | exact HB.out))); (case side2 => exact HC257_3.out); (case side3 => exact Kd.C_below HR257_4.out (by repeat (first | (with_reducible first | exact HB.out | apply below_alloc | apply pw_below_drewN | apply below_drew1 | refine below_set ?_ GE248.out | refine below_set ?_ GE258.out) | exact HB.out))); (case side4 => exact HC257_4.out); rintro e w25 ⟨v260, rfl, ho0, hb⟩; refine ⟨_, rfl, ?_⟩; have n0_ := Aside0.mk (Kd.R_elder' (by (with_reducible repeat (first | apply Kd.R_alloc | apply Kd.R_drewN | apply Kd.R_drew)); exact (Kd.R_mono (Kd.R_far (p := ⟨gb258, 4, none⟩) (Kd.R_far (p := ⟨gb258, 3, none⟩) (Kd.R_far (p := ⟨gb258, 2, none⟩) (Kd.R_far (p := ⟨gb258, 1, none⟩) (Kd.R_far (p := ⟨gb258, 0, none⟩) (Kd.R_types HO_4.out BK258.out (by decide)) (fun _ hk => hk.2) (.int .i64 ((rd_T39 l0_4 x27_2).f0))) (fun _ hk => hk.2) (.string ((rd_T39 l0_4 x27_2).f1))) (fun _ hk => hk.2) (.int .i64 ((rd_T39 l0_4 x27_2).f2))) (fun _ hk => hk.2) (.slice A257_3 ((rd_T39 l0_4 x27_2).f3).length c257_3)) (fun _ hk => hk.2) (.slice A257_4 ((rd_T39 l0_4 x27_2).f4).length c257_4)) (fun _ h_ => h_.1))) (Kd.R_base ho0) hb); have n1_ := Aside0.mk (Kd.R_lower (Kd.R_new' ho0 (Kd.R_lt (by (with_reducible repeat (first | apply Kd.R_alloc | apply Kd.R_drewN | apply Kd.R_drew)); exact (Kd.R_mono (Kd.R_far (p := ⟨gb258, 4, none⟩) (Kd.R_far (p := ⟨gb258, 3, none⟩) (Kd.R_far (p := ⟨gb258, 2, none⟩) (Kd.R_far (p := ⟨gb258, 1, none⟩) (Kd.R_far (p := ⟨gb258, 0, none⟩) (Kd.R_types HO_4.out BK258.out (by decide)) (fun _ hk => hk.2) (.int .i64 ((rd_T39 l0_4 x27_2).f0))) (fun _ hk => hk.2) (.string ((rd_T39 l0_4 x27_2).f1))) (fun _ hk => hk.2) (.int .i64 ((rd_T39 l0_4 x27_2).f2))) (fun _ hk => hk.2) (.slice A257_3 ((rd_T39 l0_4 x27_2).f3).length c257_3)) (fun _ hk => hk.2) (.slice A257_4 ((rd_T39 l0_4 x27_2).f4).length c257_4)) (fun _ h_ => h_.1))))) (below_size (by repeat (first | (with_reducible first | exact HB.out | apply below_alloc | apply pw_below_drewN | apply below_drew1 | refine below_set ?_ GE248.out | refine below_set ?_ GE258.out) | exact HB.out)))); have n2_ := Aside0.mk (blk_below (g := gb248) (o := .cells #[.int .i64 a0_0, .string a0_1, .int .i64 a0_2, .slice A0_3 l0_3.length c0_3, .slice (some ad257) l0_4.length c0_4] 39 (0, 0)) (by (with_reducible repeat (first | refine blk_drewN ?_ _ | refine blk_drew ?_ | refine blk_alloc ?_ _)); refine blk_far ?_ NB248_258.out _; (with_reducible repeat (first | refine blk_drewN ?_ _ | refine blk_drew ?_ | refine blk_alloc ?_ _)); refine blk_far ?_ NB248_258.out _; (with_reducible repeat (first | refine blk_drewN ?_ _ | refine blk_drew ?_ | refine blk_alloc ?_ _)); refine blk_far ?_ NB248_258.out _; (with_reducible repeat (first | refine blk_drewN ?_ _ | refine blk_drew ?_ | refine blk_alloc ?_ _)); refine blk_far ?_ NB248_258.out _; (with_reducible repeat (first | refine blk_drewN ?_ _ | refine blk_drew ?_ | refine blk_alloc ?_ _)); refine blk_far ?_ NB248_258.out _; (with_reducible repeat (first | refine blk_drewN ?_ _ | refine blk_drew ?_ | refine blk_alloc ?_ _)); exact BK248.out) hb); have n3_ := Aside0.mk (blk_below (g := gb258) (o := .cells #[.int .i64 ((rd_T39 l0_4 x27_2).f0), .string ((rd_T39 l0_4 x27_2).f1), .int .i64 ((rd_T39 l0_4 x27_2).f2), .slice A257_3 ((rd_T39 l0_4 x27_2).f3).length c257_3, .slice A257_4 ((rd_T39 l0_4 x27_2).f4).length c257_4] 39 (0, 0)) (by (with_reducible repeat (first | refine blk_drewN ?_ _ | refine blk_drew ?_ | refine blk_alloc ?_ _)); refine blk_put (cs := #[.int .i64 ((rd_T39 l0_4 x27_2).f0), .string ((rd_T39 l0_4 x27_2).f1), .int .i64 ((rd_T39 l0_4 x27_2).f2), .slice A257_3 ((rd_T39 l0_4 x27_2).f3).length c257_3, .slice none 0 0]) ?_ 4 _ rfl; (with_reducible repeat (first | refine blk_drewN ?_ _ | refine blk_drew ?_ | refine blk_alloc ?_ _)); refine blk_put (cs := #[.int .i64 ((rd_T39 l0_4 x27_2).f0), .string ((rd_T39 l0_4 x27_2).f1), .int .i64 ((rd_T39 l0_4 x27_2).f2), .slice none 0 0, .slice none 0 0]) ?_ 3 _ rfl; (with_reducible repeat (first | refine blk_drewN ?_ _ | refine blk_drew ?_ | refine blk_alloc ?_ _)); refine blk_put (cs := #[.int .i64 ((rd_T39 l0_4 x27_2).f0), .string ((rd_T39 l0_4 x27_2).f1), .int .i64 0, .slice none 0 0, .slice none 0 0]) ?_ 2 _ rfl; (with_reducible repeat (first | refine blk_drewN ?_ _ | refine blk_drew ?_ | refine blk_alloc ?_ _)); refine blk_put (cs := #[.int .i64 ((rd_T39 l0_4 x27_2).f0), .string (⟨#[]⟩ : ByteArray), .int .i64 0, .slice none 0 0, .slice none 0 0]) ?_ 1 _ rfl; (with_reducible repeat (first | refine blk_drewN ?_ _ | refine blk_drew ?_ | refine blk_alloc ?_ _)); refine blk_put (cs := #[.int .i64 0, .string (⟨#[]⟩ : ByteArray), .int .i64 0, .slice none 0 0, .slice none 0 0]) ?_ 0 _ rfl; (with_reducible repeat (first | refine blk_drewN ?_ _ | refine blk_drew ?_ | refine blk_alloc ?_ _)); exact BK258.out) hb); have n4_ := Aside0.mk (below_step (by repeat (first | (with_reducible first | exact HB.out | apply below_alloc | apply pw_below_drewN | apply below_drew1 | refine below_set ?_ GE248.out | refine below_set ?_ GE258.out) | exact HB.out)) hb); clear HO_4; clear BK248; clear BK258; clear HB; have HO_4 := n0_; have HO261 := n1_; have BK248 := n2_; have BK258 := n3_; have HB := n4_; clear n0_ n1_ n2_ n3_ n4_; (try clear hb); (try clear hb2); (try clear hk); (try clear hi); (try clear ho0); obtain ⟨Ao27, co27, eo27⟩ := Kd.R_slice HO261.out; subst eo27) | ((with_reducible refine gate_builtin (b := .append) (xs := #[.tmp 36, .tmp 37]) rfl ?_); at_builtin; refine Kd.R_append_rows Kd.string (w0 := w) w.heap.size rfl (.tmp 36) (.tmp 37) 22 9 (.string ⟨#[]⟩) 16 rfl Try.underlying22 info9 rfl (by decide) (by omega) u4 x4_2 t259 _ _ _ (fun k_ => some k_ ≠ (.slice Ao27 t259.length co27 : Value).ownBlock) (fun _ => False) rfl rfl ?aO ?aR (fun _ _ h => h) (fun _ h => h.elim) ?aF ?aB ?aS ?aL ?_; (case aR => repeat (first | exact (Kd.R_reads' HO261.out).2.2 | (with_reducible refine Kd.C_alloc ?_ _) | (with_reducible refine Kd.C_drewN ?_ _) | (with_reducible refine Kd.C_drew ?_))); (case aB => exact (by repeat (first | (with_reducible first | exact HB.out | apply below_alloc | apply pw_below_drewN | apply below_drew1 | refine below_set ?_ GE248.out | refine below_set ?_ GE258.out) | exact HB.out))); (case aF => exact (fun k_ hk => Kd.fresh' (Kd.R_lt (by (with_reducible repeat (first | apply Kd.R_alloc | apply Kd.R_drewN | apply Kd.R_drew)); exact HO261.out)) k_ hk)); (case aO => exact (by (with_reducible repeat (first | apply Kd.R_alloc | apply Kd.R_drewN | apply Kd.R_drew)); exact Kd.R_mono HO_4.out (fun _ hk => hk.2))); (case aS => exact (below_size (by repeat (first | (with_reducible first | exact HB.out | apply below_alloc | apply pw_below_drewN | apply below_drew1 | refine below_set ?_ GE248.out | refine below_set ?_ GE258.out) | exact HB.out)))); (case aL => have := LMc20.out; omega); intro v264 w26 ho hb hg hat; rw [← Ny263.out] at ho; have n0_ := Aside0.mk (blk_grown (g := gb248) (o := .cells #[.int .i64 a0_0, .string a0_1, .int .i64 a0_2, .slice A0_3 l0_3.length c0_3, .slice (some ad257) l0_4.length c0_4] 39 (0, 0)) (by (with_reducible repeat (first | refine blk_drewN ?_ _ | refine blk_drew ?_ | refine blk_alloc ?_ _)); exact BK248.out) hg (Kd.R_ne HO_4.out BK248.out (by decide))); have n1_ := Aside0.mk (blk_grown (g := gb258) (o := .cells #[.int .i64 ((rd_T39 l0_4 x27_2).f0), .string ((rd_T39 l0_4 x27_2).f1), .int .i64 ((rd_T39 l0_4 x27_2).f2), .slice A257_3 ((rd_T39 l0_4 x27_2).f3).length c257_3, .slice A257_4 ((rd_T39 l0_4 x27_2).f4).length c257_4] 39 (0, 0)) (by (with_reducible repeat (first | refine blk_drewN ?_ _ | refine blk_drew ?_ | refine blk_alloc ?_ _)); exact BK258.out) hg (Kd.R_ne HO_4.out BK258.out (by decide))); have n2_ := Aside0.mk (Kd.R_after (ok := (fun _ => True)) (by (with_reducible repeat (first | apply Kd.R_alloc | apply Kd.R_drewN | apply Kd.R_drew)); exact HO261.out) hg hat); have n3_ := Aside0.mk (hb); have n4_ := Aside0.mk (ho); clear BK248; clear BK258; clear HO261; clear HB; clear HO_4; have BK248 := n0_; have BK258 := n1_; have HO261 := n2_; have HB := n3_; have HO265 := n4_; clear n0_ n1_ n2_ n3_ n4_; clear ho hb hg hat))
                    go_roundg k2
                    case measure => have := HK1.out; have := HK2.out; omega
                    case rel => exact ⟨(y263), (ji21), (wrap64 (x27_2 + 1)), (by first | rfl | (simp; done) | (simp only [← hji21] <;> (first | rfl | simp)) | (simp [*]; done)), (by first | rfl | (simp; done) | (simp [*]; done)), H', ⟨by have := HK1.out; have := HK2.out; omega⟩, ⟨by (with_reducible repeat (first | apply Kd.R_alloc | apply Kd.R_drewN | apply Kd.R_drew)); exact Kd.R_mono HO265.out (fun _ hk => trivial)⟩, ⟨by (with_reducible repeat (first | refine blk_drewN ?_ _ | refine blk_drew ?_ | refine blk_alloc ?_ _)); exact BK248.out⟩, ⟨by repeat (first | (with_reducible first | exact HB.out | apply below_alloc | apply pw_below_drewN | apply below_drew1 | refine below_set ?_ GE248.out | refine below_set ?_ GE258.out) | exact HB.out)⟩⟩
                  · rw [if_neg c20] at H
                    exact absurd H (by simp)
                · rw [if_neg c18] at H
                  exact absurd H (by simp)
              · rw [if_neg c17] at H
                exact absurd H (by simp)
            · rw [if_neg c16] at H
              have c16b0 : decide (x27_2 < (l0_4.length : Int)) = false := decide_eq_false c16
              clear c16
              have HC28 := Aside0.mk H
              clear H
              go_upto_region 15 with (fail)
              go_cut [50] (fun v50 wc => ∃ (kq : Nat) (x50_27 : Bool), v50 = .bool x50_27 ∧ Aside0 (tree_free.j2 kq x4_2 x5_2 x50_27 a0_0 a0_1 a0_2 l0_3 l0_4 = some (r1, r2)) ∧ Aside0 (kq ≤ k2) ∧ Aside0 (Kd.R Kd.string 9 wc w.heap.size (fun _ => True) u4 x4_2) ∧ Aside0 (wc.heap[gb248]? = some (.cells #[.int .i64 a0_0, .string a0_1, .int .i64 a0_2, (.slice A0_3 l0_3.length c0_3), (.slice A0_4 l0_4.length c0_4)] 39 (0, 0))) ∧ Aside0 (Below w.heap.size w wc))
              case first =>
                have H := HC28.out
                clear HC28
                by_cases c29 : a0_0 = 7
                · rw [if_pos c29] at H
                  have c29b0 : (a0_0 == 7) = true := beq_iff_eq.mpr c29
                  have c29b1 : (a0_0 != 7) = false := bne_eq_false_iff_eq.mpr c29
                  clear c29
                  (first | rw [c29b0] | (simp only [i64_w, i32_w]; rw [c29b0]) | skip)
                  have H' := Aside0.mk H
                  clear H
                  have hcz30_0 : wr.cell? ⟨gb248, 0, none⟩ = some (.int .i64 a0_0) := (blk_cell BK248.out 0).trans rfl
                  have hcz30_1 : wr.cell? ⟨gb248, 1, none⟩ = some (.string a0_1) := (blk_cell BK248.out 1).trans rfl
                  have hcz30_2 : wr.cell? ⟨gb248, 2, none⟩ = some (.int .i64 a0_2) := (blk_cell BK248.out 2).trans rfl
                  have hcz30_3 : wr.cell? ⟨gb248, 3, none⟩ = some (.slice A0_3 l0_3.length c0_3) := (blk_cell BK248.out 3).trans rfl
                  have hcz30_4 : wr.cell? ⟨gb248, 4, none⟩ = some (.slice A0_4 l0_4.length c0_4) := (blk_cell BK248.out 4).trans rfl
                  have hfz30_0 := blk_frozen BK248.out 0
                  have hfz30_1 := blk_frozen BK248.out 1
                  have hfz30_2 := blk_frozen BK248.out 2
                  have hfz30_3 := blk_frozen BK248.out 3
                  have hfz30_4 := blk_frozen BK248.out 4
                  go_wp2
                  go_meet
                  case rel => exact ⟨_, (true), (by first | rfl | (simp; done) | (simp [*]; done)), H', ⟨by have := HK1.out; have := HK2.out; first | omega | exact Nat.le_refl _⟩, ⟨by (with_reducible repeat (first | apply Kd.R_alloc | apply Kd.R_drewN | apply Kd.R_drew)); exact HO_4.out⟩, ⟨by (with_reducible repeat (first | refine blk_drewN ?_ _ | refine blk_drew ?_ | refine blk_alloc ?_ _)); exact BK248.out⟩, ⟨by repeat (first | (with_reducible first | exact HB.out | apply below_alloc | apply pw_below_drewN | apply below_drew1 | refine below_set ?_ GE248.out) | exact HB.out)⟩⟩
                · rw [if_neg c29] at H
                  have c29b0 : (a0_0 == 7) = false := beq_eq_false_iff_ne.mpr c29
                  have c29b1 : (a0_0 != 7) = true := bne_iff_ne.mpr c29
                  (first | rw [c29b0] | (simp only [i64_w, i32_w]; rw [c29b0]) | skip)
                  have H' := Aside0.mk H
                  clear H
                  have hcz31_0 : wr.cell? ⟨gb248, 0, none⟩ = some (.int .i64 a0_0) := (blk_cell BK248.out 0).trans rfl
                  have hcz31_1 : wr.cell? ⟨gb248, 1, none⟩ = some (.string a0_1) := (blk_cell BK248.out 1).trans rfl
                  have hcz31_2 : wr.cell? ⟨gb248, 2, none⟩ = some (.int .i64 a0_2) := (blk_cell BK248.out 2).trans rfl
                  have hcz31_3 : wr.cell? ⟨gb248, 3, none⟩ = some (.slice A0_3 l0_3.length c0_3) := (blk_cell BK248.out 3).trans rfl
                  have hcz31_4 : wr.cell? ⟨gb248, 4, none⟩ = some (.slice A0_4 l0_4.length c0_4) := (blk_cell BK248.out 4).trans rfl
                  have hfz31_0 := blk_frozen BK248.out 0
                  have hfz31_1 := blk_frozen BK248.out 1
                  have hfz31_2 := blk_frozen BK248.out 2
                  have hfz31_3 := blk_frozen BK248.out 3
                  have hfz31_4 := blk_frozen BK248.out 4
                  go_wp2
                  go_meet
                  case rel => exact ⟨_, ((a0_0 == 8)), (by first | rfl | (simp; done) | (simp [*]; done)), H', ⟨by have := HK1.out; have := HK2.out; first | omega | exact Nat.le_refl _⟩, ⟨by (with_reducible repeat (first | apply Kd.R_alloc | apply Kd.R_drewN | apply Kd.R_drew)); exact HO_4.out⟩, ⟨by (with_reducible repeat (first | refine blk_drewN ?_ _ | refine blk_drew ?_ | refine blk_alloc ?_ _)); exact BK248.out⟩, ⟨by repeat (first | (with_reducible first | exact HB.out | apply below_alloc | apply pw_below_drewN | apply below_drew1 | refine below_set ?_ GE248.out) | exact HB.out)⟩⟩
              case rest =>
                clear HC28
                try clear c1
                try clear c2
                try clear p2
                try clear q2
                try clear hx2
                try clear c4
                try clear c4b0
                try clear c5
                try clear c5b0
                try clear c6
                try clear c6b0
                try clear p6
                try clear c7
                try clear c8
                try clear c9
                try clear c10
                try clear c16
                try clear c16b0
                try clear c17
                try clear c17b0
                try clear c18
                try clear c18b0
                try clear c20
                try clear c23
                try clear c24
                try clear p24
                try clear q24
                try clear hx24
                try clear c25
                try clear p25
                try clear q25
                try clear hx25
                try clear c29
                try clear c29b0
                try clear c29b1
                try clear hcz11_0
                try clear hcz11_1
                try clear hcz11_2
                try clear hcz11_3
                try clear hcz15_0
                try clear hcz15_1
                try clear hcz15_2
                try clear hcz15_3
                try clear hcz15_4
                try clear hcz24_0
                try clear hcz24_1
                try clear hcz24_2
                try clear hcz24_3
                try clear hcz24_4
                try clear hcz30_0
                try clear hcz30_1
                try clear hcz30_2
                try clear hcz30_3
                try clear hcz30_4
                try clear hcz31_0
                try clear hcz31_1
                try clear hcz31_2
                try clear hcz31_3
                try clear hcz31_4
                try clear hcz3_0
                try clear hcz3_1
                try clear hcz3_2
                try clear hcz3_3
                try clear hcz3_4
                try clear hfz11_0
                try clear hfz11_1
                try clear hfz11_2
                try clear hfz11_3
                try clear hfz15_0
                try clear hfz15_1
                try clear hfz15_2
                try clear hfz15_3
                try clear hfz15_4
                try clear hfz24_0
                try clear hfz24_1
                try clear hfz24_2
                try clear hfz24_3
                try clear hfz24_4
                try clear hfz30_0
                try clear hfz30_1
                try clear hfz30_2
                try clear hfz30_3
                try clear hfz30_4
                try clear hfz31_0
                try clear hfz31_1
                try clear hfz31_2
                try clear hfz31_3
                try clear hfz31_4
                try clear hfz3_0
                try clear hfz3_1
                try clear hfz3_2
                try clear hfz3_3
                try clear hfz3_4
                try clear hx249_0
                try clear hx249_1
                try clear hx249_2
                try clear hx249_3
                try clear hx257_0
                try clear hx257_1
                try clear hx257_2
                try clear hx257_3
                try clear hx257_4
                try clear p2
                try clear p249
                try clear p257
                try clear p6
                try clear q2
                try clear q249
                try clear q257
                obtain ⟨kq, x50_27, rfl, HA, HJ27, HO_4, BK248, HB⟩ := hcut
                cases kq with
                | zero => exact absurd HA.out (by simp [tree_free.j2])
                | succ kj27 =>
                  have H := HA.out
                  clear HA
                  simp only [tree_free.j2] at H
                  by_cases c32 : x50_27 = true
                  · subst c32
                    have H1 : ((slices_DeleteFunc_string_string.f x4_2 a0_1).bind fun t266 => ((tree_sorted.f t266).bind fun t269 => (some (t269, mx x5_2 (t269.length : Int))))) = some (r1, r2) := by rw [if_pos rfl] at H; exact H
                    clear H
                    have H := H1
                    clear H1
                    replace H := Option.bind_eq_some_iff.mp H
                    obtain ⟨t266, A330, H⟩ := H
                    replace H : ((tree_sorted.f t266).bind fun t269 => (some (t269, mx x5_2 (t269.length : Int)))) = some (r1, r2) := H
                    have A33 := Aside0.mk A330
                    clear A330
                    replace H := Option.bind_eq_some_iff.mp H
                    obtain ⟨t269, A340, H⟩ := H
                    replace H : (some (t269, mx x5_2 (t269.length : Int))) = some (r1, r2) := H
                    have A34 := Aside0.mk A340
                    clear A340
                    obtain ⟨ji35, hji35⟩ : ∃ j_ : Int, (mx x5_2 (t269.length : Int)) = j_ := ⟨_, rfl⟩
                    replace H : (some (t269, ji35)) = some (r1, r2) := by first | (rw [hji35] at H; exact H) | (simp only [hji35] at H ⊢; exact H)
                    (try rw [hji35] at A33)
                    (try rw [hji35] at A34)
                    have hji35_ : (if x5_2 < (t269.length : Int) then (t269.length : Int) else x5_2) = ji35 := hji35
                    simp only [Option.some.injEq, Prod.mk.injEq] at H
                    obtain ⟨rfl, rfl⟩ := H
                    have hcz36_0 : wc.cell? ⟨gb248, 0, none⟩ = some (.int .i64 a0_0) := (blk_cell BK248.out 0).trans rfl
                    have hcz36_1 : wc.cell? ⟨gb248, 1, none⟩ = some (.string a0_1) := (blk_cell BK248.out 1).trans rfl
                    have hcz36_2 : wc.cell? ⟨gb248, 2, none⟩ = some (.int .i64 a0_2) := (blk_cell BK248.out 2).trans rfl
                    have hcz36_3 : wc.cell? ⟨gb248, 3, none⟩ = some (.slice A0_3 l0_3.length c0_3) := (blk_cell BK248.out 3).trans rfl
                    have hcz36_4 : wc.cell? ⟨gb248, 4, none⟩ = some (.slice A0_4 l0_4.length c0_4) := (blk_cell BK248.out 4).trans rfl
                    have hfz36_0 := blk_frozen BK248.out 0
                    have hfz36_1 := blk_frozen BK248.out 1
                    have hfz36_2 := blk_frozen BK248.out 2
                    have hfz36_3 := blk_frozen BK248.out 3
                    have hfz36_4 := blk_frozen BK248.out 4
                    obtain ⟨Ao37, co37, eo37⟩ := Kd.R_slice HO_4.out
                    subst eo37
                    go_wp2_with (first | ((with_reducible refine gate_callee (f := 110) rfl ?_); refine goesL_ (some 53) rfl rfl Try.func110 (by kernel_rfl) rfl #[.slice Ao37 x4_2.length co37, .func (.func 111) #[] #[.pointer (some ⟨gb248, 0, none⟩)]] rfl (by (try simp only [List.map_toArray, List.map_cons, List.map_nil]); first | done | rfl | (simp only [List.length_drop, List.length_take]; rfl)) ?_; (with_reducible refine (slices_DeleteFunc_string_string.calls gb248 (.int .i64 a0_0) (.int .i64 a0_2) (.slice A0_3 l0_3.length c0_3) (.slice A0_4 l0_4.length c0_4) (fun k_ => some k_ = (.slice Ao37 x4_2.length co37 : Value).ownBlock) (.slice Ao37 x4_2.length co37) x4_2 a0_1 t266 w _ ?side0 ?side1 ?side2 A33.out).mono ?_); (case side0 => (with_reducible repeat (first | refine blk_drewN ?_ _ | refine blk_drew ?_ | refine blk_alloc ?_ _)); exact BK248.out); (case side1 => repeat (first | (with_reducible first | exact HB.out | apply below_alloc | apply pw_below_drewN | apply below_drew1 | refine below_set ?_ GE248.out) | exact HB.out)); (case side2 => exact Kd.R_tight rfl HO_4.out); rintro e w38 ⟨v267, rfl, ho0, hb, hkp⟩; refine ⟨_, rfl, ?_⟩; have n0_ := Aside0.mk (blk_kept (by (with_reducible repeat (first | refine blk_drewN ?_ _ | refine blk_drew ?_ | refine blk_alloc ?_ _)); exact BK248.out) hkp (fun hs_ => (fun e_ => (Kd.R_ne HO_4.out BK248.out (by decide)) e_) hs_)); have n1_ := Aside0.mk (Kd.R_mono (ok' := fun k_ => True) ho0 (fun k_ hk_ => trivial)); have n2_ := Aside0.mk (hb); clear BK248; clear HB; clear HO_4; have BK248 := n0_; have HO268 := n1_; have HB := n2_; clear n0_ n1_ n2_; (try clear hb); (try clear hkp); (try clear ho0); obtain ⟨Ao39, co39, eo39⟩ := Kd.R_slice HO268.out; subst eo39) | ((with_reducible refine gate_callee (f := 112) rfl ?_); refine goesL_ (some 55) rfl rfl Try.func112 (by kernel_rfl) rfl #[.slice Ao39 t266.length co39] rfl (by (try simp only [List.map_toArray, List.map_cons, List.map_nil]); first | done | rfl | (simp only [List.length_drop, List.length_take]; rfl)) ?_; (with_reducible refine (tree_sorted.calls (fun k_ => some k_ = (.slice Ao39 t266.length co39 : Value).ownBlock) (.slice Ao39 t266.length co39) t266 t269 w _ ?side1 ?side2 A34.out).mono ?_); (case side1 => repeat (first | (with_reducible first | exact HB.out | apply below_alloc | apply pw_below_drewN | apply below_drew1 | refine below_set ?_ GE248.out) | exact HB.out)); (case side2 => exact Kd.R_tight rfl HO268.out); rintro e w40 ⟨v270, rfl, ho0, hb, hkp⟩; refine ⟨_, rfl, ?_⟩; have n0_ := Aside0.mk (blk_kept (by (with_reducible repeat (first | refine blk_drewN ?_ _ | refine blk_drew ?_ | refine blk_alloc ?_ _)); exact BK248.out) hkp (fun hs_ => (fun e_ => (Kd.R_ne HO268.out BK248.out (by decide)) e_) hs_)); have n1_ := Aside0.mk (Kd.R_mono (ok' := fun k_ => True) ho0 (fun k_ hk_ => trivial)); have n2_ := Aside0.mk (hb); clear BK248; clear HB; clear HO268; have BK248 := n0_; have HO271 := n1_; have HB := n2_; clear n0_ n1_ n2_; (try clear hb); (try clear hkp); (try clear ho0); obtain ⟨Ao41, co41, eo41⟩ := Kd.R_slice HO271.out; subst eo41))
                    go_ret2
                    exact ⟨_, by first | rfl | (simp [errW_none, errW_some] <;> rfl) | (simp only [← hji35]; first | rfl | (simp [errW_none, errW_some] <;> rfl)) | (simp [*, errW_none, errW_some] <;> rfl), by (with_reducible repeat (first | apply Kd.R_alloc | apply Kd.R_drewN | apply Kd.R_drew)); exact HO271.out, by repeat (first | (with_reducible first | exact HB.out | apply below_alloc | apply pw_below_drewN | apply below_drew1 | refine below_set ?_ GE248.out) | exact HB.out)⟩
                  · replace c32 := Bool.eq_false_iff.mpr c32
                    subst c32
                    have H1 : ((tree_sorted.f x4_2).bind fun t272 => (some (t272, mx x5_2 (t272.length : Int)))) = some (r1, r2) := by rw [if_neg (show ¬ (false = true) by decide)] at H; exact H
                    clear H
                    have H := H1
                    clear H1
                    replace H := Option.bind_eq_some_iff.mp H
                    obtain ⟨t272, A420, H⟩ := H
                    replace H : (some (t272, mx x5_2 (t272.length : Int))) = some (r1, r2) := H
                    have A42 := Aside0.mk A420
                    clear A420
                    obtain ⟨ji43, hji43⟩ : ∃ j_ : Int, (mx x5_2 (t272.length : Int)) = j_ := ⟨_, rfl⟩
                    replace H : (some (t272, ji43)) = some (r1, r2) := by first | (rw [hji43] at H; exact H) | (simp only [hji43] at H ⊢; exact H)
                    (try rw [hji43] at A42)
                    have hji43_ : (if x5_2 < (t272.length : Int) then (t272.length : Int) else x5_2) = ji43 := hji43
                    simp only [Option.some.injEq, Prod.mk.injEq] at H
                    obtain ⟨rfl, rfl⟩ := H
                    obtain ⟨Ao44, co44, eo44⟩ := Kd.R_slice HO_4.out
                    subst eo44
                    go_wp2_with (first | ((with_reducible refine gate_callee (f := 112) rfl ?_); refine goesL_ (some 55) rfl rfl Try.func112 (by kernel_rfl) rfl #[.slice Ao44 x4_2.length co44] rfl (by (try simp only [List.map_toArray, List.map_cons, List.map_nil]); first | done | rfl | (simp only [List.length_drop, List.length_take]; rfl)) ?_; (with_reducible refine (tree_sorted.calls (fun k_ => some k_ = (.slice Ao44 x4_2.length co44 : Value).ownBlock) (.slice Ao44 x4_2.length co44) x4_2 t272 w _ ?side1 ?side2 A42.out).mono ?_); (case side1 => repeat (first | (with_reducible first | exact HB.out | apply below_alloc | apply pw_below_drewN | apply below_drew1 | refine below_set ?_ GE248.out) | exact HB.out)); (case side2 => exact Kd.R_tight rfl HO_4.out); rintro e w45 ⟨v273, rfl, ho0, hb, hkp⟩; refine ⟨_, rfl, ?_⟩; have n0_ := Aside0.mk (blk_kept (by (with_reducible repeat (first | refine blk_drewN ?_ _ | refine blk_drew ?_ | refine blk_alloc ?_ _)); exact BK248.out) hkp (fun hs_ => (fun e_ => (Kd.R_ne HO_4.out BK248.out (by decide)) e_) hs_)); have n1_ := Aside0.mk (Kd.R_mono (ok' := fun k_ => True) ho0 (fun k_ hk_ => trivial)); have n2_ := Aside0.mk (hb); clear BK248; clear HB; clear HO_4; have BK248 := n0_; have HO274 := n1_; have HB := n2_; clear n0_ n1_ n2_; (try clear hb); (try clear hkp); (try clear ho0); obtain ⟨Ao46, co46, eo46⟩ := Kd.R_slice HO274.out; subst eo46))
                    go_ret2
                    exact ⟨_, by first | rfl | (simp [errW_none, errW_some] <;> rfl) | (simp only [← hji43]; first | rfl | (simp [errW_none, errW_some] <;> rfl)) | (simp [*, errW_none, errW_some] <;> rfl), by (with_reducible repeat (first | apply Kd.R_alloc | apply Kd.R_drewN | apply Kd.R_drew)); exact HO274.out, by repeat (first | (with_reducible first | exact HB.out | apply below_alloc | apply pw_below_drewN | apply below_drew1 | refine below_set ?_ GE248.out) | exact HB.out)⟩
end Go.Proofs.Ytjknpmibdkoklaa.Q
