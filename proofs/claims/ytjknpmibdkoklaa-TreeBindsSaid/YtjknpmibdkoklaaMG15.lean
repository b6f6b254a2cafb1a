/- Functions of the given program as Lean functions, each with its contract, and what they answer; words for it. No condition but those of each. -/
import Derived.Test.YtjknpmibdkoklaaMG4
import Derived.Test.YtjknpmibdkoklaaMG5
namespace Go.Proofs.Ytjknpmibdkoklaa.Q
open Go.RowKit Go.Proofs.YtjknpmibdkoklaaW.PrintWords Go.Proofs.YtjknpmibdkoklaaW.PrintLast Go.Proofs.YtjknpmibdkoklaaW.PrintMore
open Aside0 (mk)
open List (setIfInBounds_toArray set_cons_zero set_cons_succ)
attribute [local go_sem] max2_int min2_int max_two min_two max_three min_three max_four min_four
set_option linter.unusedVariables false
set_option linter.unusedSimpArgs false
attribute [local go_sem] fld99_2 fld103_2 fld160_0 fld160_1
mutual
def tree_named.j0 : Nat → List ByteArray → Int → Int → ByteArray → List (S66) → Option (List ByteArray)
  | 0, _, _, _, _, _ => none
  | k + 1, x3, x234000, x234001, x234002, x234003 => tree_named.l0 k x3 x234003 (x234003.length : Int) 0
def tree_named.l0 : Nat → List ByteArray → List (S66) → Int → Int → Option (List ByteArray)
  | 0, _, _, _, _ => none
  | k + 1, x3, x15, x16, x17 => if x17 < x16 then (if 0 ≤ x17 then (if x17 < (x15.length : Int) then ((tree_named.f k ((rd_T66 x15 x17).f0) ((rd_T66 x15 x17).f1) ((rd_T66 x15 x17).f2) ((rd_T66 x15 x17).f3)).bind fun t239 => (if x3.length + t239.length < 8796093022208 then (tree_named.l0 k (x3 ++ t239) x15 x16 (wrap64 (x17 + 1))) else (none))) else (none)) else (none)) else ((tree_sorted.f x3).bind fun t245 => (some t245))
def tree_named.f : Nat → Int → Int → ByteArray → List (S66) → Option (List ByteArray)
  | 0, _, _, _, _ => none
  | k + 1, a0_0, a0_1, a0_2, l0_3 => if a0_0 = 1 then (if ([] : List ByteArray).length < 8796093022208 then (tree_named.j0 k (([] : List ByteArray) ++ [a0_2]) a0_0 a0_1 a0_2 l0_3) else (none)) else (tree_named.j0 k ([] : List ByteArray) a0_0 a0_1 a0_2 l0_3)
end
theorem tree_named.mono_l : ∀ k, (∀ y0 y1 y2 y3, LeO (tree_named.f k y0 y1 y2 y3) (tree_named.f (k + 1) y0 y1 y2 y3)) ∧ (∀ y0 y1 y2 y3 y4, LeO (tree_named.j0 k y0 y1 y2 y3 y4) (tree_named.j0 (k + 1) y0 y1 y2 y3 y4)) ∧ (∀ y0 y1 y2 y3, LeO (tree_named.l0 k y0 y1 y2 y3) (tree_named.l0 (k + 1) y0 y1 y2 y3))
  | 0 => ⟨fun _ _ _ _ r h => by simp [tree_named.f] at h, fun _ _ _ _ _ r h => by simp [tree_named.j0] at h, fun _ _ _ _ r h => by simp [tree_named.l0] at h⟩
  | k + 1 => by
    obtain ⟨ih0, ih1, ih2⟩ := tree_named.mono_l k
    refine ⟨?_, ?_, ?_⟩
    · intro y0 y1 y2 y3; (unfold tree_named.f)
      repeat' first
      | (with_reducible exact ih0 _ _ _ _)
      | (with_reducible exact ih1 _ _ _ _ _)
      | (with_reducible exact ih2 _ _ _ _)
      | (with_reducible exact LeO.refl _)
      | (with_reducible exact LeO.none _)
      | (with_reducible refine LeO.ite ?_ ?_)
      | (with_reducible refine LeO.bind ?_ (fun _ => ?_))
      | exact ih0 _ _ _ _
      | exact ih1 _ _ _ _ _
      | exact ih2 _ _ _ _
      | exact LeO.none _
      | refine LeO.ite ?_ ?_
      | refine LeO.bind ?_ (fun _ => ?_)
    · intro y0 y1 y2 y3 y4; (unfold tree_named.j0)
      repeat' first
      | (with_reducible exact ih0 _ _ _ _)
      | (with_reducible exact ih1 _ _ _ _ _)
      | (with_reducible exact ih2 _ _ _ _)
      | (with_reducible exact LeO.refl _)
      | (with_reducible exact LeO.none _)
      | (with_reducible refine LeO.ite ?_ ?_)
      | (with_reducible refine LeO.bind ?_ (fun _ => ?_))
      | exact ih0 _ _ _ _
      | exact ih1 _ _ _ _ _
      | exact ih2 _ _ _ _
      | exact LeO.none _
      | refine LeO.ite ?_ ?_
      | refine LeO.bind ?_ (fun _ => ?_)
    · intro y0 y1 y2 y3; (unfold tree_named.l0)
      repeat' first
      | (with_reducible exact ih0 _ _ _ _)
      | (with_reducible exact ih1 _ _ _ _ _)
      | (with_reducible exact ih2 _ _ _ _)
      | (with_reducible exact LeO.refl _)
      | (with_reducible exact LeO.none _)
      | (with_reducible refine LeO.ite ?_ ?_)
      | (with_reducible refine LeO.bind ?_ (fun _ => ?_))
      | exact ih0 _ _ _ _
      | exact ih1 _ _ _ _ _
      | exact ih2 _ _ _ _
      | exact LeO.none _
      | refine LeO.ite ?_ ?_
      | refine LeO.bind ?_ (fun _ => ?_)
theorem tree_named.mono : ∀ a0 a1 a2 a3 k, LeO (tree_named.f k a0 a1 a2 a3) (tree_named.f (k + 1) a0 a1 a2 a3) := by
  intro a0 a1 a2 a3 k
  obtain ⟨ih0, ih1, ih2⟩ := tree_named.mono_l k
  exact ih0 a0 a1 a2 a3
set_option maxHeartbeats 8000000 in
set_option maxRecDepth 100000 in
theorem tree_named.calls (k : Nat) : ∀ (a0_0 : Int) (a0_1 : Int) (a0_2 : ByteArray) (A0_3 : Option Addr) (c0_3 : Nat) (l0_3 : List (S66)) (r : List ByteArray) (w : World) (hr0_3 : Kd.C k66 w A0_3 l0_3.length l0_3) (hc0_3 : l0_3.length ≤ c0_3) (h : tree_named.f k a0_0 a0_1 a0_2 l0_3 = some r),
    Calls Try.prog 97 #[.agg #[.int .i64 a0_0, .int .i64 a0_1, .string a0_2, .slice A0_3 l0_3.length c0_3]] w fun e w' => ∃ v0_ : Value, e = .returned (v0_) ∧ Kd.R Kd.string 9 w' w.heap.size (fun _ => True) v0_ r ∧ Below w.heap.size w w' := by
  induction k using Nat.strongRecOn with
  | _ k ih =>
  intro a0_0 a0_1 a0_2 A0_3 c0_3 l0_3 r w hr0_3 hc0_3 h
  cases k with
  | zero => exact absurd h (by simp [tree_named.f])
  | succ k =>
  simp only [tree_named.f] at h
  have hu66 := Try.underlying66
  have HR0_3 := mk hr0_3
  have HC0_3 := mk hc0_3
  clear hr0_3 hc0_3
  have HB := mk (Below.refl w.heap.size w)
  have H : (if a0_0 = 1 then (if ([] : List ByteArray).length < 8796093022208 then (tree_named.j0 k (([] : List ByteArray) ++ [a0_2]) a0_0 a0_1 a0_2 l0_3) else (none)) else (tree_named.j0 k ([] : List ByteArray) a0_0 a0_1 a0_2 l0_3)) = some r := h
  clear h
  have HC2 := mk H
  clear H
  go_enter Try.func97, Try.ntmps97
  go_upto_if 8 with (first | ((with_reducible refine gate_dst (N := 1) rfl ?_); refine box_event ?hg (N := 1) ?hd (cs := #[.int .i64 a0_0, .int .i64 a0_1, .string a0_2, .slice A0_3 l0_3.length c0_3]) (t := 66) ?hr ?_; (case hd => rfl); (case hg => rfl); (case hr => first | (go_simp; done) | (go_simp; rfl)); intro gb233 hg w3 hbox hb; have n0_ := mk (below_step (by repeat (first | (with_reducible first | exact HB.out | apply bA_ | apply bN_ | apply b1_) | exact HB.out)) hb); have n1_ := mk (hbox); have n2_ := mk ((by rw [hg]; exact (below_size (by repeat (first | (with_reducible first | exact HB.out | apply bA_ | apply bN_ | apply b1_) | exact HB.out))) : w.heap.size ≤ gb233)); have n3_ := n2_; clear HB; have HB := n0_; have BK233 := n1_; have GW233 := n2_; have GE233 := n3_; clear n0_ n1_ n2_ n3_; clear hb hbox hg; have hcz4_0 : w3.cell? ⟨gb233, 0, none⟩ = some (.int .i64 a0_0) := (blk_cell BK233.out 0).trans rfl; have hcz4_1 : w3.cell? ⟨gb233, 1, none⟩ = some (.int .i64 a0_1) := (blk_cell BK233.out 1).trans rfl; have hcz4_2 : w3.cell? ⟨gb233, 2, none⟩ = some (.string a0_2) := (blk_cell BK233.out 2).trans rfl; have hcz4_3 : w3.cell? ⟨gb233, 3, none⟩ = some (.slice A0_3 l0_3.length c0_3) := (blk_cell BK233.out 3).trans rfl; have hfz4_0 := blk_frozen BK233.out 0; have hfz4_1 := blk_frozen BK233.out 1; have hfz4_2 := blk_frozen BK233.out 2; have hfz4_3 := blk_frozen BK233.out 3))
  (try simp only [Act.put, setIfInBounds_toArray, set_cons_zero, set_cons_succ])
  go_cut [3] (fun v3 wc => ∃ (kq : Nat) (x3_1 : List ByteArray), Aside0 (tree_named.j0 kq x3_1 a0_0 a0_1 a0_2 l0_3 = some r) ∧ Aside0 (kq ≤ k) ∧ Aside0 (Kd.R Kd.string 9 wc w.heap.size (fun _ => True) v3 x3_1) ∧ Aside0 (wc.heap[gb233]? = some (.cells #[.int .i64 a0_0, .int .i64 a0_1, .string a0_2, (.slice A0_3 l0_3.length c0_3)] 66 (0, 0))) ∧ Aside0 (Below w.heap.size w wc))
  case first =>
    have H := HC2.out
    clear HC2
    by_cases c5 : a0_0 = 1
    · (rw [if_pos c5] at H); (have c5b0 : (a0_0 == 1) = true := beq_iff_eq.mpr c5); (have c5b1 : (a0_0 != 1) = false := bne_eq_false_iff_eq.mpr c5); clear c5; ((first | rw [c5b0] | (simp only [i64_w, i32_w]; rw [c5b0]) | skip)); (by_cases c6 : ([] : List ByteArray).length < 8796093022208)
      · (rw [if_pos c6] at H); (have LMc6 := mk c6); clear c6; (obtain ⟨y234, hy234⟩ : ∃ y_ : List ByteArray, y_ = (([] : List ByteArray) ++ [a0_2]) := ⟨_, rfl⟩); (replace H : (tree_named.j0 k y234 a0_0 a0_1 a0_2 l0_3) = some r := by first | (rw [hy234]; with_reducible exact H) | (have H2_ := (Option.bind_some _ _).symm.trans H; rw [hy234]; with_reducible exact H2_) | (have H2_ := (Option.bind_some _ _).symm.trans H; with_reducible exact H2_) | with_reducible exact H | (rw [hy234]; exact H) | exact H); (have Ny234 := mk hy234); clear hy234; (have H' := mk H); clear H; (have hcz7_0 : w3.cell? ⟨gb233, 0, none⟩ = some (.int .i64 a0_0) := (blk_cell BK233.out 0).trans rfl); (have hcz7_1 : w3.cell? ⟨gb233, 1, none⟩ = some (.int .i64 a0_1) := (blk_cell BK233.out 1).trans rfl); (have hcz7_2 : w3.cell? ⟨gb233, 2, none⟩ = some (.string a0_2) := (blk_cell BK233.out 2).trans rfl); (have hcz7_3 : w3.cell? ⟨gb233, 3, none⟩ = some (.slice A0_3 l0_3.length c0_3) := (blk_cell BK233.out 3).trans rfl); (have hfz7_0 := blk_frozen BK233.out 0); (have hfz7_1 := blk_frozen BK233.out 1); (have hfz7_2 := blk_frozen BK233.out 2); (have hfz7_3 := blk_frozen BK233.out 3); (go_wp2_with (first | ((with_reducible refine gate_builtin (b := .append) (xs := #[.tmp 9, .tmp 12]) rfl ?_); at_builtin; refine Kd.R_append Kd.string (w0 := w) w.heap.size rfl (.tmp 9) (.tmp 12) 22 9 (.string ⟨#[]⟩) 16 rfl Try.underlying22 info9 rfl (by decide) (by omega) (.slice none 0 0) ([] : List ByteArray) a0_2 [.string a0_2] (fun _ => True) (fun _ => False) rfl rfl ?aP (fun _ hk => hk.elim) ?aF ?aO ?aB ?aS ?aL ?_; (case aP => exact rfl); (case aB => exact (by repeat (first | (with_reducible first | exact HB.out | apply bA_ | apply bN_ | apply b1_ | refine below_set ?_ GE233.out) | exact HB.out))); (case aF => exact (fun _ _ => trivial)); (case aO => exact ((Kd.R_nil _ _ _ _ (fun _ => True)))); (case aS => exact (below_size (by repeat (first | (with_reducible first | exact HB.out | apply bA_ | apply bN_ | apply b1_ | refine below_set ?_ GE233.out) | exact HB.out)))); (case aL => have := LMc6.out; omega); intro v235 w8 ho hb hg hat; rw [← Ny234.out] at ho; have n0_ := mk (blk_grown (g := gb233) (o := .cells #[.int .i64 a0_0, .int .i64 a0_1, .string a0_2, .slice A0_3 l0_3.length c0_3] 66 (0, 0)) (by (with_reducible repeat (first | refine blk_drewN ?_ _ | refine blk_drew ?_ | refine blk_alloc ?_ _)); exact BK233.out) hg (by simp [Value.ownBlock])); have n1_ := mk (hb); have n2_ := mk (ho); clear BK233; clear HB; have BK233 := n0_; have HB := n1_; have HO236 := n2_; clear n0_ n1_ n2_; clear ho hb hg hat))); (go_meet)
        case rel => exact ⟨_, (y234), H', ⟨by first | omega | exact Nat.le_refl _⟩, ⟨by (with_reducible repeat (first | apply Kd.R_alloc | apply Kd.R_drewN | apply Kd.R_drew)); exact HO236.out⟩, ⟨by (with_reducible repeat (first | refine blk_drewN ?_ _ | refine blk_drew ?_ | refine blk_alloc ?_ _)); exact BK233.out⟩, ⟨by repeat (first | (with_reducible first | exact HB.out | apply bA_ | apply bN_ | apply b1_ | refine below_set ?_ GE233.out) | exact HB.out)⟩⟩
      · (rw [if_neg c6] at H); (exact absurd H (by simp))
    · (rw [if_neg c5] at H); (have c5b0 : (a0_0 == 1) = false := beq_eq_false_iff_ne.mpr c5); (have c5b1 : (a0_0 != 1) = true := bne_iff_ne.mpr c5); ((first | rw [c5b0] | (simp only [i64_w, i32_w]; rw [c5b0]) | skip)); (have H' := mk H); clear H; go_wp2; (go_meet)
      case rel => exact ⟨_, (([] : List ByteArray)), H', ⟨by first | omega | exact Nat.le_refl _⟩, ⟨by first | exact Kd.R_nil _ _ _ _ _ | exact Kd.N_nil _ _ _ _ _ | exact Kd.V_nil _ _ _ _ _ | exact Kd.Q_nil _ _ _ _ _ | exact Kd.S_nil _ _ _ _ _⟩, ⟨by (with_reducible repeat (first | refine blk_drewN ?_ _ | refine blk_drew ?_ | refine blk_alloc ?_ _)); exact BK233.out⟩, ⟨by repeat (first | (with_reducible first | exact HB.out | apply bA_ | apply bN_ | apply b1_ | refine below_set ?_ GE233.out) | exact HB.out)⟩⟩
  case rest =>
    clear HC2
    try clear p2
    try clear c5
    try clear c5b0
    try clear c5b1
    try clear c6
    try clear hcz4_0
    try clear hcz4_1
    try clear hcz4_2
    try clear hcz4_3
    try clear hcz7_0
    try clear hcz7_1
    try clear hcz7_2
    try clear hcz7_3
    try clear hfz4_0
    try clear hfz4_1
    try clear hfz4_2
    try clear hfz4_3
    try clear hfz7_0
    try clear hfz7_1
    try clear hfz7_2
    try clear hfz7_3
    obtain ⟨kq, x3_1, HA, HJ1, HO_3, BK233, HB⟩ := hcut
    cases kq with
    | zero => exact absurd HA.out (by simp [tree_named.j0])
    | succ kj1 =>
      (have H := HA.out); clear HA; (simp only [tree_named.j0] at H); (have H' := mk H); clear H; (have hcz9_0 : wc.cell? ⟨gb233, 0, none⟩ = some (.int .i64 a0_0) := (blk_cell BK233.out 0).trans rfl); (have hcz9_1 : wc.cell? ⟨gb233, 1, none⟩ = some (.int .i64 a0_1) := (blk_cell BK233.out 1).trans rfl); (have hcz9_2 : wc.cell? ⟨gb233, 2, none⟩ = some (.string a0_2) := (blk_cell BK233.out 2).trans rfl); (have hcz9_3 : wc.cell? ⟨gb233, 3, none⟩ = some (.slice A0_3 l0_3.length c0_3) := (blk_cell BK233.out 3).trans rfl); (have hfz9_0 := blk_frozen BK233.out 0); (have hfz9_1 := blk_frozen BK233.out 1); (have hfz9_2 := blk_frozen BK233.out 2); (have hfz9_3 := blk_frozen BK233.out 3); go_wp2; (go_loopg [3, 17] kj1 (fun kq v3 v17 w' => ∃ (x3_2 : List ByteArray) (x17_2 : Int), v17 = .int .i64 x17_2 ∧ Aside0 (tree_named.l0 kq x3_2 l0_3 (l0_3.length : Int) x17_2 = some r) ∧ Aside0 (kq ≤ kj1) ∧ Aside0 (Kd.R Kd.string 9 w' w.heap.size (fun _ => True) v3 x3_2) ∧ Aside0 (w'.heap[gb233]? = some (.cells #[.int .i64 a0_0, .int .i64 a0_1, .string a0_2, (.slice A0_3 l0_3.length c0_3)] 66 (0, 0))) ∧ Aside0 (Below w.heap.size w w')))
      case atStart => exact ⟨(x3_1), (0), (by first | rfl | (simp; done) | (simp [*]; done)), H', ⟨Nat.le_refl _⟩, ⟨by (with_reducible repeat (first | apply Kd.R_alloc | apply Kd.R_drewN | apply Kd.R_drew)); exact HO_3.out⟩, ⟨by (with_reducible repeat (first | refine blk_drewN ?_ _ | refine blk_drew ?_ | refine blk_alloc ?_ _)); exact BK233.out⟩, ⟨by repeat (first | (with_reducible first | exact HB.out | apply bA_ | apply bN_ | apply b1_ | refine below_set ?_ GE233.out) | exact HB.out)⟩⟩
      case round =>
        clear H'; (try clear p2); (try clear c5); (try clear c5b0); (try clear c5b1); (try clear c6); (try clear c9); (try clear hcz4_0); (try clear hcz4_1); (try clear hcz4_2); (try clear hcz4_3); (try clear hcz7_0); (try clear hcz7_1); (try clear hcz7_2); (try clear hcz7_3); (try clear hcz9_0); (try clear hcz9_1); (try clear hcz9_2); (try clear hcz9_3); (try clear hfz4_0); (try clear hfz4_1); (try clear hfz4_2); (try clear hfz4_3); (try clear hfz7_0); (try clear hfz7_1); (try clear hfz7_2); (try clear hfz7_3); (try clear hfz9_0); (try clear hfz9_1); (try clear hfz9_2); (try clear hfz9_3); (try clear p2); (obtain ⟨x3_2, x17_2, rfl, HA, HK2, HO_3, BK233, HB⟩ := hrel)
        cases gk with
        | zero => exact absurd HA.out (by simp [tree_named.l0])
        | succ k2 =>
          (have H := HA.out); clear HA; (simp only [tree_named.l0] at H); (by_cases c10 : x17_2 < (l0_3.length : Int))
          · (rw [if_pos c10] at H); (have c10b0 : decide (x17_2 < (l0_3.length : Int)) = true := decide_eq_true c10); clear c10; (by_cases c11 : 0 ≤ x17_2)
            · (rw [if_pos c11] at H); (have c11b0 : decide (0 ≤ x17_2) = true := decide_eq_true c11); clear c11; (by_cases c12 : x17_2 < (l0_3.length : Int))
              · (rw [if_pos c12] at H); (have c12b0 : decide (x17_2 < (l0_3.length : Int)) = true := decide_eq_true c12); clear c12; (replace H := Option.bind_eq_some_iff.mp H); (obtain ⟨t239, A130, H⟩ := H); (replace H : (if x3_2.length + t239.length < 8796093022208 then (tree_named.l0 k2 (x3_2 ++ t239) l0_3 (l0_3.length : Int) (wrap64 (x17_2 + 1))) else (none)) = some r := H); (have A13 := mk A130); clear A130; (by_cases c14 : x3_2.length + t239.length < 8796093022208)
                · (rw [if_pos c14] at H); (have LMc14 := mk c14); clear c14; (obtain ⟨y242, hy242⟩ : ∃ y_ : List ByteArray, y_ = (x3_2 ++ t239) := ⟨_, rfl⟩); (replace H : (tree_named.l0 k2 y242 l0_3 (l0_3.length : Int) (wrap64 (x17_2 + 1))) = some r := by first | (rw [hy242]; with_reducible exact H) | (have H2_ := (Option.bind_some _ _).symm.trans H; rw [hy242]; with_reducible exact H2_) | (have H2_ := (Option.bind_some _ _).symm.trans H; with_reducible exact H2_) | with_reducible exact H | (rw [hy242]; exact H) | exact H); (have Ny242 := mk hy242); clear hy242; (have H' := mk H); clear H; (have p237 : 0 ≤ (x17_2 : Int) := of_decide_eq_true (by first | (with_reducible assumption) | assumption)); (have q237 : x17_2 < (l0_3.length : Int) := of_decide_eq_true (by first | (with_reducible assumption) | assumption)); (obtain ⟨ad237, A237_3, c237_3, e237, hx237_0, hx237_1, hx237_2, hx237_3, hl237_3, hi237_3⟩ := at_T66 HR0_3.out x17_2 p237 q237); cases e237; (replace hx237_0 := (HB.out.cell (World.block_lt_of_cell? w _ hx237_0)).trans hx237_0); (replace hx237_1 := (HB.out.cell (World.block_lt_of_cell? w _ hx237_1)).trans hx237_1); (replace hx237_2 := (HB.out.cell (World.block_lt_of_cell? w _ hx237_2)).trans hx237_2); (replace hx237_3 := (HB.out.cell (World.block_lt_of_cell? w _ hx237_3)).trans hx237_3); (have HR237_3 := mk hi237_3); (have HC237_3 := mk hl237_3); clear hi237_3 hl237_3; replace p237 := eq_true p237; replace q237 := eq_true q237; (go_wp2_with (first | ((with_reducible refine gate_dst (N := 5) rfl ?_); refine box_event ?hg (N := 5) ?hd (cs := #[.int .i64 0, .int .i64 0, .string (⟨#[]⟩ : ByteArray), .slice none 0 0]) (t := 66) ?hr ?_; (case hd => rfl); (case hg => rfl); (case hr => first | (go_simp; done) | (go_simp; rfl)); intro gb238 hg w15 hbox hb; have n0_ := mk (Kd.R_below (by (with_reducible repeat (first | apply Kd.R_alloc | apply Kd.R_drewN | apply Kd.R_drew)); exact HO_3.out) hb); have n1_ := mk (blk_below (g := gb233) (o := .cells #[.int .i64 a0_0, .int .i64 a0_1, .string a0_2, .slice (some ad237) l0_3.length c0_3] 66 (0, 0)) (by (with_reducible repeat (first | refine blk_drewN ?_ _ | refine blk_drew ?_ | refine blk_alloc ?_ _)); exact BK233.out) hb); have n2_ := mk (below_step (by repeat (first | (with_reducible first | exact HB.out | apply bA_ | apply bN_ | apply b1_ | refine below_set ?_ GE233.out) | exact HB.out)) hb); have n3_ := mk (hbox); have n4_ := mk ((by rw [hg]; exact (below_size (by repeat (first | (with_reducible first | exact HB.out | apply bA_ | apply bN_ | apply b1_ | refine below_set ?_ GE233.out) | exact HB.out))) : w.heap.size ≤ gb238)); have n5_ := n4_; have n6_ := mk ((by rw [hg]; exact Nat.ne_of_lt (blk_lt (g := gb233) (o := .cells #[.int .i64 a0_0, .int .i64 a0_1, .string a0_2, .slice (some ad237) l0_3.length c0_3] 66 (0, 0)) (by (with_reducible repeat (first | refine blk_drewN ?_ _ | refine blk_drew ?_ | refine blk_alloc ?_ _)); exact BK233.out)) : gb233 ≠ gb238)); have n7_ := mk ((by rw [hg]; exact Nat.ne_of_gt (blk_lt (g := gb233) (o := .cells #[.int .i64 a0_0, .int .i64 a0_1, .string a0_2, .slice (some ad237) l0_3.length c0_3] 66 (0, 0)) (by (with_reducible repeat (first | refine blk_drewN ?_ _ | refine blk_drew ?_ | refine blk_alloc ?_ _)); exact BK233.out)) : gb238 ≠ gb233)); clear HO_3; clear BK233; clear HB; have HO_3 := n0_; have BK233 := n1_; have HB := n2_; have BK238 := n3_; have GW238 := n4_; have GE238 := n5_; have NB233_238 := n6_; have NB238_233 := n7_; clear n0_ n1_ n2_ n3_ n4_ n5_ n6_ n7_; clear hb hbox hg; have hnb16 := NB238_233.out; have hnc16 := NB233_238.out; have hcz17_0 : w15.cell? ⟨gb238, 0, none⟩ = some (.int .i64 0) := (blk_cell BK238.out 0).trans rfl; have hcz17_1 : w15.cell? ⟨gb238, 1, none⟩ = some (.int .i64 0) := (blk_cell BK238.out 1).trans rfl; have hcz17_2 : w15.cell? ⟨gb238, 2, none⟩ = some (.string (⟨#[]⟩ : ByteArray)) := (blk_cell BK238.out 2).trans rfl; have hcz17_3 : w15.cell? ⟨gb238, 3, none⟩ = some (.slice none 0 0) := (blk_cell BK238.out 3).trans rfl; have hfz17_0 := blk_frozen BK238.out 0; have hfz17_1 := blk_frozen BK238.out 1; have hfz17_2 := blk_frozen BK238.out 2; have hfz17_3 := blk_frozen BK238.out 3) | ((with_reducible refine gate_callee (f := 97) rfl ?_); refine goesL_ (some 23) rfl rfl Try.func97 (by kernel_rfl) rfl #[.agg #[.int .i64 ((rd_T66 l0_3 x17_2).f0), .int .i64 ((rd_T66 l0_3 x17_2).f1), .string ((rd_T66 l0_3 x17_2).f2), .slice A237_3 ((rd_T66 l0_3 x17_2).f3).length c237_3]] rfl (by (try simp only [List.map_toArray, List.map_cons, List.map_nil]); first | done | rfl | (simp only [List.length_drop, List.length_take]; rfl)) ?_; (with_reducible refine (ih k2 (by have := HJ1.out; have := HK2.out; omega) ((rd_T66 l0_3 x17_2).f0) ((rd_T66 l0_3 x17_2).f1) ((rd_T66 l0_3 x17_2).f2) _ _ ((rd_T66 l0_3 x17_2).f3) t239 _ ?side1 ?side2 A13.out).mono ?_); (case side1 => exact Kd.C_below HR237_3.out (by repeat (first | (with_reducible first | exact HB.out | apply bA_ | apply bN_ | apply b1_ | refine below_set ?_ GE233.out | refine below_set ?_ GE238.out) | exact HB.out))); (case side2 => exact HC237_3.out); rintro e w18 ⟨v240, rfl, ho0, hb⟩; refine ⟨_, rfl, ?_⟩; have n0_ := mk (Kd.R_elder' (by (with_reducible repeat (first | apply Kd.R_alloc | apply Kd.R_drewN | apply Kd.R_drew)); exact (Kd.R_mono (Kd.R_far (p := ⟨gb238, 3, none⟩) (Kd.R_far (p := ⟨gb238, 2, none⟩) (Kd.R_far (p := ⟨gb238, 1, none⟩) (Kd.R_far (p := ⟨gb238, 0, none⟩) (Kd.R_types HO_3.out BK238.out (by decide)) (fun _ hk => hk.2) (.int .i64 ((rd_T66 l0_3 x17_2).f0))) (fun _ hk => hk.2) (.int .i64 ((rd_T66 l0_3 x17_2).f1))) (fun _ hk => hk.2) (.string ((rd_T66 l0_3 x17_2).f2))) (fun _ hk => hk.2) (.slice A237_3 ((rd_T66 l0_3 x17_2).f3).length c237_3)) (fun _ h_ => h_.1))) (Kd.R_base ho0) hb); have n1_ := mk (Kd.R_lower (Kd.R_new' ho0 (Kd.R_lt (by (with_reducible repeat (first | apply Kd.R_alloc | apply Kd.R_drewN | apply Kd.R_drew)); exact (Kd.R_mono (Kd.R_far (p := ⟨gb238, 3, none⟩) (Kd.R_far (p := ⟨gb238, 2, none⟩) (Kd.R_far (p := ⟨gb238, 1, none⟩) (Kd.R_far (p := ⟨gb238, 0, none⟩) (Kd.R_types HO_3.out BK238.out (by decide)) (fun _ hk => hk.2) (.int .i64 ((rd_T66 l0_3 x17_2).f0))) (fun _ hk => hk.2) (.int .i64 ((rd_T66 l0_3 x17_2).f1))) (fun _ hk => hk.2) (.string ((rd_T66 l0_3 x17_2).f2))) (fun _ hk => hk.2) (.slice A237_3 ((rd_T66 l0_3 x17_2).f3).length c237_3)) (fun _ h_ => h_.1))))) (below_size (by repeat (first | (with_reducible first | exact HB.out | apply bA_ | apply bN_ | apply b1_ | refine below_set ?_ GE233.out | refine below_set ?_ GE238.out) | exact HB.out)))); have n2_ := mk (blk_below (g := gb233) (o := .cells #[.int .i64 a0_0, .int .i64 a0_1, .string a0_2, .slice (some ad237) l0_3.length c0_3] 66 (0, 0)) (by (with_reducible repeat (first | refine blk_drewN ?_ _ | refine blk_drew ?_ | refine blk_alloc ?_ _)); refine blk_far ?_ NB233_238.out _; (with_reducible repeat (first | refine blk_drewN ?_ _ | refine blk_drew ?_ | refine blk_alloc ?_ _)); refine blk_far ?_ NB233_238.out _; (with_reducible repeat (first | refine blk_drewN ?_ _ | refine blk_drew ?_ | refine blk_alloc ?_ _)); refine blk_far ?_ NB233_238.out _; (with_reducible repeat (first | refine blk_drewN ?_ _ | refine blk_drew ?_ | refine blk_alloc ?_ _)); refine blk_far ?_ NB233_238.out _; (with_reducible repeat (first | refine blk_drewN ?_ _ | refine blk_drew ?_ | refine blk_alloc ?_ _)); exact BK233.out) hb); have n3_ := mk (blk_below (g := gb238) (o := .cells #[.int .i64 ((rd_T66 l0_3 x17_2).f0), .int .i64 ((rd_T66 l0_3 x17_2).f1), .string ((rd_T66 l0_3 x17_2).f2), .slice A237_3 ((rd_T66 l0_3 x17_2).f3).length c237_3] 66 (0, 0)) (by (with_reducible repeat (first | refine blk_drewN ?_ _ | refine blk_drew ?_ | refine blk_alloc ?_ _)); refine blk_put (cs := #[.int .i64 ((rd_T66 l0_3 x17_2).f0), .int .i64 ((rd_T66 l0_3 x17_2).f1), .string ((rd_T66 l0_3 x17_2).f2), .slice none 0 0]) ?_ 3 _ rfl; (with_reducible repeat (first | refine blk_drewN ?_ _ | refine blk_drew ?_ | refine blk_alloc ?_ _)); refine blk_put (cs := #[.int .i64 ((rd_T66 l0_3 x17_2).f0), .int .i64 ((rd_T66 l0_3 x17_2).f1), .string (⟨#[]⟩ : ByteArray), .slice none 0 0]) ?_ 2 _ rfl; (with_reducible repeat (first | refine blk_drewN ?_ _ | refine blk_drew ?_ | refine blk_alloc ?_ _)); refine blk_put (cs := #[.int .i64 ((rd_T66 l0_3 x17_2).f0), .int .i64 0, .string (⟨#[]⟩ : ByteArray), .slice none 0 0]) ?_ 1 _ rfl; (with_reducible repeat (first | refine blk_drewN ?_ _ | refine blk_drew ?_ | refine blk_alloc ?_ _)); refine blk_put (cs := #[.int .i64 0, .int .i64 0, .string (⟨#[]⟩ : ByteArray), .slice none 0 0]) ?_ 0 _ rfl; (with_reducible repeat (first | refine blk_drewN ?_ _ | refine blk_drew ?_ | refine blk_alloc ?_ _)); exact BK238.out) hb); have n4_ := mk (below_step (by repeat (first | (with_reducible first | exact HB.out | apply bA_ | apply bN_ | apply b1_ | refine below_set ?_ GE233.out | refine below_set ?_ GE238.out) | exact HB.out)) hb); clear HO_3; clear BK233; clear BK238; clear HB; have HO_3 := n0_; have HO241 := n1_; have BK233 := n2_; have BK238 := n3_; have HB := n4_; clear n0_ n1_ n2_ n3_ n4_; (try clear hb); (try clear hb2); (try clear hk); (try clear hi); (try clear ho0); obtain ⟨Ao20, co20, eo20⟩ := Kd.R_slice HO241.out; subst eo20) | ((with_reducible refine gate_builtin (b := .append) (xs := #[.tmp 21, .tmp 23]) rfl ?_); at_builtin; refine Kd.R_append_rows Kd.string (w0 := w) w.heap.size rfl (.tmp 21) (.tmp 23) 22 9 (.string ⟨#[]⟩) 16 rfl Try.underlying22 info9 rfl (by decide) (by omega) u3 x3_2 t239 _ _ _ (fun k_ => some k_ ≠ (.slice Ao20 t239.length co20 : Value).ownBlock) (fun _ => False) rfl rfl ?aO ?aR (fun _ _ h => h) (fun _ h => h.elim) ?aF ?aB ?aS ?aL ?_; (case aR => repeat (first | exact (Kd.R_reads' HO241.out).2.2 | (with_reducible refine Kd.C_alloc ?_ _) | (with_reducible refine Kd.C_drewN ?_ _) | (with_reducible refine Kd.C_drew ?_))); (case aB => exact (by repeat (first | (with_reducible first | exact HB.out | apply bA_ | apply bN_ | apply b1_ | refine below_set ?_ GE233.out | refine below_set ?_ GE238.out) | exact HB.out))); (case aF => exact (fun k_ hk => Kd.fresh' (Kd.R_lt (by (with_reducible repeat (first | apply Kd.R_alloc | apply Kd.R_drewN | apply Kd.R_drew)); exact HO241.out)) k_ hk)); (case aO => exact (by (with_reducible repeat (first | apply Kd.R_alloc | apply Kd.R_drewN | apply Kd.R_drew)); exact Kd.R_mono HO_3.out (fun _ hk => hk.2))); (case aS => exact (below_size (by repeat (first | (with_reducible first | exact HB.out | apply bA_ | apply bN_ | apply b1_ | refine below_set ?_ GE233.out | refine below_set ?_ GE238.out) | exact HB.out)))); (case aL => have := LMc14.out; omega); intro v243 w19 ho hb hg hat; rw [← Ny242.out] at ho; have n0_ := mk (blk_grown (g := gb233) (o := .cells #[.int .i64 a0_0, .int .i64 a0_1, .string a0_2, .slice (some ad237) l0_3.length c0_3] 66 (0, 0)) (by (with_reducible repeat (first | refine blk_drewN ?_ _ | refine blk_drew ?_ | refine blk_alloc ?_ _)); exact BK233.out) hg (Kd.R_ne HO_3.out BK233.out (by decide))); have n1_ := mk (blk_grown (g := gb238) (o := .cells #[.int .i64 ((rd_T66 l0_3 x17_2).f0), .int .i64 ((rd_T66 l0_3 x17_2).f1), .string ((rd_T66 l0_3 x17_2).f2), .slice A237_3 ((rd_T66 l0_3 x17_2).f3).length c237_3] 66 (0, 0)) (by (with_reducible repeat (first | refine blk_drewN ?_ _ | refine blk_drew ?_ | refine blk_alloc ?_ _)); exact BK238.out) hg (Kd.R_ne HO_3.out BK238.out (by decide))); have n2_ := mk (Kd.R_after (ok := (fun _ => True)) (by (with_reducible repeat (first | apply Kd.R_alloc | apply Kd.R_drewN | apply Kd.R_drew)); exact HO241.out) hg hat); have n3_ := mk (hb); have n4_ := mk (ho); clear BK233; clear BK238; clear HO241; clear HB; clear HO_3; have BK233 := n0_; have BK238 := n1_; have HO241 := n2_; have HB := n3_; have HO244 := n4_; clear n0_ n1_ n2_ n3_ n4_; clear ho hb hg hat))); (go_roundg k2)
                  case measure => have := HJ1.out; have := HK2.out; omega
                  case rel => exact ⟨(y242), (wrap64 (x17_2 + 1)), (by first | rfl | (simp; done) | (simp [*]; done)), H', ⟨by have := HJ1.out; have := HK2.out; omega⟩, ⟨by (with_reducible repeat (first | apply Kd.R_alloc | apply Kd.R_drewN | apply Kd.R_drew)); exact Kd.R_mono HO244.out (fun _ hk => trivial)⟩, ⟨by (with_reducible repeat (first | refine blk_drewN ?_ _ | refine blk_drew ?_ | refine blk_alloc ?_ _)); exact BK233.out⟩, ⟨by repeat (first | (with_reducible first | exact HB.out | apply bA_ | apply bN_ | apply b1_ | refine below_set ?_ GE233.out | refine below_set ?_ GE238.out) | exact HB.out)⟩⟩
                · (rw [if_neg c14] at H); (exact absurd H (by simp))
              · (rw [if_neg c12] at H); (exact absurd H (by simp))
            · (rw [if_neg c11] at H); (exact absurd H (by simp))
          · (rw [if_neg c10] at H); (have c10b0 : decide (x17_2 < (l0_3.length : Int)) = false := decide_eq_false c10); clear c10; (replace H := Option.bind_eq_some_iff.mp H); (obtain ⟨t245, A210, H⟩ := H); (replace H : (some t245) = some r := H); (have A21 := mk A210); clear A210; (obtain rfl := Option.some.inj H); (obtain ⟨Ao22, co22, eo22⟩ := Kd.R_slice HO_3.out); subst eo22; (go_wp2_with (first | ((with_reducible refine gate_callee (f := 112) rfl ?_); refine goesL_ (some 27) rfl rfl Try.func112 (by kernel_rfl) rfl #[.slice Ao22 x3_2.length co22] rfl (by (try simp only [List.map_toArray, List.map_cons, List.map_nil]); first | done | rfl | (simp only [List.length_drop, List.length_take]; rfl)) ?_; (with_reducible refine (tree_sorted.calls (fun k_ => some k_ = (.slice Ao22 x3_2.length co22 : Value).ownBlock) (.slice Ao22 x3_2.length co22) x3_2 t245 w _ ?side1 ?side2 A21.out).mono ?_); (case side1 => repeat (first | (with_reducible first | exact HB.out | apply bA_ | apply bN_ | apply b1_ | refine below_set ?_ GE233.out) | exact HB.out)); (case side2 => exact Kd.R_tight rfl HO_3.out); rintro e w23 ⟨v246, rfl, ho0, hb, hkp⟩; refine ⟨_, rfl, ?_⟩; have n0_ := mk (blk_kept (by (with_reducible repeat (first | refine blk_drewN ?_ _ | refine blk_drew ?_ | refine blk_alloc ?_ _)); exact BK233.out) hkp (fun hs_ => (fun e_ => (Kd.R_ne HO_3.out BK233.out (by decide)) e_) hs_)); have n1_ := mk (Kd.R_mono (ok' := fun k_ => True) ho0 (fun k_ hk_ => trivial)); have n2_ := mk (hb); clear BK233; clear HB; clear HO_3; have BK233 := n0_; have HO247 := n1_; have HB := n2_; clear n0_ n1_ n2_; (try clear hb); (try clear hkp); (try clear ho0)))); go_ret; (exact ⟨_, by first | rfl | (simp [*, errW_none, errW_some] <;> rfl), by (with_reducible repeat (first | apply Kd.R_alloc | apply Kd.R_drewN | apply Kd.R_drew)); exact HO247.out, by repeat (first | (with_reducible first | exact HB.out | apply bA_ | apply bN_ | apply b1_ | refine below_set ?_ GE233.out) | exact HB.out)⟩)
end Go.Proofs.Ytjknpmibdkoklaa.Q
