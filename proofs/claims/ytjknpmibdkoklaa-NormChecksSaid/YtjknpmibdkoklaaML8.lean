/- Functions of the given program as Lean functions, each with its contract, and what they answer; words for it. No condition but those of each. -/
import Derived.Test.YtjknpmibdkoklaaMLS
import Derived.Test.YtjknpmibdkoklaaMLR
import Derived.Test.YtjknpmibdkoklaaML3
import Derived.Test.YtjknpmibdkoklaaML7
namespace Go.Proofs.Ytjknpmibdkoklaa.Q
open Go.RowKit Go.Proofs.YtjknpmibdkoklaaW.PrintWords Go.Proofs.YtjknpmibdkoklaaW.PrintLast Go.Proofs.YtjknpmibdkoklaaW.PrintMore
open Aside0 (mk)
open List (setIfInBounds_toArray set_cons_zero set_cons_succ)
attribute [local go_sem] max2_int min2_int max_two min_two max_three min_three max_four min_four
set_option linter.unusedVariables false
set_option linter.unusedSimpArgs false
attribute [local go_sem] fld99_2 fld103_2 fld160_0 fld160_1
def tabardref01_Size.l0 : Nat → Int → Bool → List Int → Bool → List Int → Option (Int)
  | 0, _, _, _, _, _ => none
  | k + 1, x5, x998000, x998001, x999000, x999001 => if x5 ≥ 0 then ((tabardref01_Wide_digit.f x998000 x998001 x5).bind fun t999 => ((tabardref01_Wide_digit.f x999000 x999001 x5).bind fun t1000 => (if t999 < t1000 then (some (-1)) else ((tabardref01_Wide_digit.f x998000 x998001 x5).bind fun t1001 => ((tabardref01_Wide_digit.f x999000 x999001 x5).bind fun t1002 => (if t1001 > t1002 then (some 1) else (tabardref01_Size.l0 k (wrap64 (x5 - 1)) x998000 x998001 x999000 x999001))))))) else (some 0)
def tabardref01_Size.f (k : Nat) (a0_0 : Bool) (l0_1 : List Int) (a1_0 : Bool) (l1_1 : List Int) : Option (Int) := tabardref01_Size.l0 k (wrap64 ((mx (l0_1.length : Int) (l1_1.length : Int)) - 1)) a0_0 l0_1 a1_0 l1_1
theorem tabardref01_Size.mono_l : ∀ k, (∀ y0 y1 y2 y3 y4, LeO (tabardref01_Size.l0 k y0 y1 y2 y3 y4) (tabardref01_Size.l0 (k + 1) y0 y1 y2 y3 y4))
  | 0 => fun _ _ _ _ _ r h => by simp [tabardref01_Size.l0] at h
  | k + 1 => by
    have ih0 := tabardref01_Size.mono_l k
    · intro y0 y1 y2 y3 y4; (unfold tabardref01_Size.l0)
      repeat' first
      | (with_reducible exact ih0 _ _ _ _ _)
      | (with_reducible exact LeO.refl _)
      | (with_reducible exact LeO.none _)
      | (with_reducible refine LeO.ite ?_ ?_)
      | (with_reducible refine LeO.bind ?_ (fun _ => ?_))
      | exact ih0 _ _ _ _ _
      | exact LeO.none _
      | refine LeO.ite ?_ ?_
      | refine LeO.bind ?_ (fun _ => ?_)
theorem tabardref01_Size.mono : ∀ a0 a1 a2 a3 k, LeO (tabardref01_Size.f k a0 a1 a2 a3) (tabardref01_Size.f (k + 1) a0 a1 a2 a3) := by
  intro a0 a1 a2 a3 k
  have ih0 := tabardref01_Size.mono_l k
  unfold tabardref01_Size.f
  repeat' first
      | (with_reducible exact ih0 _ _ _ _ _)
      | (with_reducible exact LeO.refl _)
      | (with_reducible exact LeO.none _)
      | (with_reducible refine LeO.ite ?_ ?_)
      | (with_reducible refine LeO.bind ?_ (fun _ => ?_))
      | exact ih0 _ _ _ _ _
      | exact LeO.none _
      | refine LeO.ite ?_ ?_
      | refine LeO.bind ?_ (fun _ => ?_)
set_option maxHeartbeats 8000000 in
set_option maxRecDepth 100000 in
theorem tabardref01_Size.calls (k : Nat) (a0_0 : Bool) (A0_1 : Option Addr) (c0_1 : Nat) (l0_1 : List Int) (a1_0 : Bool) (A1_1 : Option Addr) (c1_1 : Nat) (l1_1 : List Int) (r : Int) (w : World) (hr0_1 : Kd.C (Kd.int .u64) w A0_1 l0_1.length l0_1) (hc0_1 : l0_1.length ≤ c0_1) (hr1_1 : Kd.C (Kd.int .u64) w A1_1 l1_1.length l1_1) (hc1_1 : l1_1.length ≤ c1_1) (h : tabardref01_Size.f k a0_0 l0_1 a1_0 l1_1 = some r) :
    Calls Try.prog 171 #[.agg #[.bool a0_0, .slice A0_1 l0_1.length c0_1], .agg #[.bool a1_0, .slice A1_1 l1_1.length c1_1]] w fun e w' => e = .returned (.int .i64 r) ∧ Below w.heap.size w w' := by
  have hu160 := Try.underlying160
  have HR0_1 := mk hr0_1
  have HC0_1 := mk hc0_1
  clear hr0_1 hc0_1
  have HR1_1 := mk hr1_1
  have HC1_1 := mk hc1_1
  clear hr1_1 hc1_1
  have HB := mk (Below.refl w.heap.size w)
  have H : (tabardref01_Size.l0 k (wrap64 ((mx (l0_1.length : Int) (l1_1.length : Int)) - 1)) a0_0 l0_1 a1_0 l1_1) = some r := h
  clear h
  obtain ⟨ji3, hji3⟩ : ∃ j_ : Int, (mx (l0_1.length : Int) (l1_1.length : Int)) = j_ := ⟨_, rfl⟩
  replace H : (tabardref01_Size.l0 k (wrap64 ((ji3) - 1)) a0_0 l0_1 a1_0 l1_1) = some r := by first | (rw [hji3] at H; exact H) | (simp only [hji3] at H ⊢; exact H)
  (try (have hji3l : 0 ≤ ji3 := by (rw [← hji3]; unfold mx; (repeat' split) <;> omega)))
  (try (have hji3m : 0 ≤ ji3 := by omega))
  have hji3_ : (if (l0_1.length : Int) < (l1_1.length : Int) then (l1_1.length : Int) else (l0_1.length : Int)) = ji3 := hji3
  (try (have hji3n : (if l0_1.length < l1_1.length then (l1_1.length : Int) else (l0_1.length : Int)) = ji3 := by rw [← hji3]; unfold mx; (repeat' split) <;> omega))
  have H' := mk H
  clear H
  go_enter Try.func171, Try.ntmps171
  go_wp2_with (first | ((with_reducible refine gate_dst (N := 2) rfl ?_); refine box_event ?hg (N := 2) ?hd (cs := #[.bool a0_0, .slice A0_1 l0_1.length c0_1]) (t := 160) ?hr ?_; (case hd => rfl); (case hg => rfl); (case hr => exact kq11); intro gb997 hg w4 hbox hb; have BK997 := mk (hbox); have GW997 := (gs_ hg kq9); have GE997 := GW997; replace HB := mk (below_step kq9 hb); clear hb hbox hg) | ((with_reducible refine gate_dst (N := 3) rfl ?_); refine box_event ?hg (N := 3) ?hd (cs := #[.bool a1_0, .slice A1_1 l1_1.length c1_1]) (t := 160) ?hr ?_; (case hd => rfl); (case hg => rfl); (case hr => exact kq11); intro gb998 hg w5 hbox hb; have BK998 := mk (hbox); have GW998 := (gs_ hg (kq16 GE997)); have GE998 := GW998; have NB997_998 := (nl_ hg BK997); have NB998_997 := (ng_ hg BK997); replace BK997 := (bb_ BK997 hb); replace HB := mk (below_step (kq16 GE997) hb); clear hb hbox hg; have hnb6 := NB997_998.out; have hnc6 := NB998_997.out; obtain ⟨_, _, _, _⟩ := cz2_ BK997.out; obtain ⟨_, _, _, _⟩ := cz2_ BK998.out))
  go_loopg [5] k (fun kq v5 w' => ∃ (x5_1 : Int), v5 = .int .i64 x5_1 ∧ Aside0 (tabardref01_Size.l0 kq x5_1 a0_0 l0_1 a1_0 l1_1 = some r) ∧ Aside0 (kq ≤ k) ∧ Aside0 (w'.heap[gb997]? = some (.cells #[.bool a0_0, (.slice A0_1 l0_1.length c0_1)] 160 (0, 0))) ∧ Aside0 (w'.heap[gb998]? = some (.cells #[.bool a1_0, (.slice A1_1 l1_1.length c1_1)] 160 (0, 0))) ∧ Aside0 (Below w.heap.size w w'))
  case atStart => exact ⟨(wrap64 ((ji3) - 1)), (by first | rfl | (simp; done) | (simp only [← hji3] <;> (first | rfl | simp)) | (simp [*]; done)), H', ⟨Nat.le_refl _⟩, ⟨(kq18 BK997)⟩, ⟨(kq18 BK998)⟩, ⟨(kq23 GE997 GE998)⟩⟩
  case round =>
    clear H'
    obtain ⟨x5_1, rfl, HA, HK1, BK997, BK998, HB⟩ := hrel
    cases gk with
    | zero => exact absurd HA.out (by simp [tabardref01_Size.l0])
    | succ k1 =>
      (have H := HA.out); clear HA; (simp only [tabardref01_Size.l0] at H); replace H := ic_ H; obtain ⟨c9, H⟩ | ⟨c9, H⟩ := H
      · (have c9b0 : decide (0 ≤ x5_1) = true := decide_eq_true c9); clear c9; (replace H := Option.bind_eq_some_iff.mp H); (obtain ⟨t999, A100, H⟩ := H); (replace H : ((tabardref01_Wide_digit.f a1_0 l1_1 x5_1).bind fun t1000 => (if t999 < t1000 then (some (-1)) else ((tabardref01_Wide_digit.f a0_0 l0_1 x5_1).bind fun t1001 => ((tabardref01_Wide_digit.f a1_0 l1_1 x5_1).bind fun t1002 => (if t1001 > t1002 then (some 1) else (tabardref01_Size.l0 k1 (wrap64 (x5_1 - 1)) a0_0 l0_1 a1_0 l1_1)))))) = some r := H); (have A10 := mk A100); clear A100; (replace H := Option.bind_eq_some_iff.mp H); (obtain ⟨t1000, A110, H⟩ := H); (replace H : (if t999 < t1000 then (some (-1)) else ((tabardref01_Wide_digit.f a0_0 l0_1 x5_1).bind fun t1001 => ((tabardref01_Wide_digit.f a1_0 l1_1 x5_1).bind fun t1002 => (if t1001 > t1002 then (some 1) else (tabardref01_Size.l0 k1 (wrap64 (x5_1 - 1)) a0_0 l0_1 a1_0 l1_1))))) = some r := H); (have A11 := mk A110); clear A110; replace H := ic_ H; obtain ⟨c12, H⟩ | ⟨c12, H⟩ := H
        · (have c12b0 := decide_eq_true c12); clear c12; (obtain rfl := Option.some.inj H); (try go_wp2); (replace BK997 := mk (blk_drew BK997.out)); (replace BK998 := mk (blk_drew BK998.out)); (replace HB := mk (below_drew1 HB.out)); (refine start_ (n := 7) (S := fun w' => w'.cell? ⟨gb997, 0, none⟩ = some (.bool a0_0) ∧ w'.cell? ⟨gb997, 1, none⟩ = some (.slice A0_1 l0_1.length c0_1) ∧ w'.cell? ⟨gb998, 0, none⟩ = some (.bool a1_0) ∧ w'.cell? ⟨gb998, 1, none⟩ = some (.slice A1_1 l1_1.length c1_1)) (ds := []) #[false,false,false,false,false,false,false] kq0 rfl rfl ⟨(blk_cell BK997.out 0).trans rfl, (blk_cell BK997.out 1).trans rfl, (blk_cell BK998.out 0).trans rfl, (blk_cell BK998.out 1).trans rfl⟩ (fun hHeld => ?_)); (generalize wr.drew = w13 at BK997 BK998 HB hHeld ⊢); refine pu_ 1 19 ?_
          refine pu_ 4 22 ?_
          refine ta_ 0 18 hHeld ?_
          refine ta_ 3 21 hHeld ?_
          (refine on_ 2 20 (fun K hK => ?_)); (refine goes_ Try.func173 kq0 rfl #[.agg #[.bool a0_0, .slice A0_1 l0_1.length c0_1], .int .i64 x5_1] (by rfl) rfl rfl kq7 ?_); (with_reducible refine (tabardref01_Wide_digit.calls a0_0 _ _ l0_1 x5_1 t999 _ ?side1 ?side2 A10.out).mono ?_); ((case side1 => exact kq17 HR0_1)); ((case side2 => exact HC0_1.out)); (rintro e w14 ⟨rfl, hb⟩); (refine ⟨_, rfl, ?_⟩); (replace BK997 := (bb_ BK997 hb)); (replace BK998 := (bb_ BK998 hb)); (replace HB := mk (below_step (kq23 GE997 GE998) hb)); ((try clear hb)); ((try clear hb2)); ((try clear hk)); ((try clear hi)); (refine hK.out _ _ ⟨(blk_cell BK997.out 0).trans rfl, (blk_cell BK997.out 1).trans rfl, (blk_cell BK998.out 0).trans rfl, (blk_cell BK998.out 1).trans rfl⟩ (fun hHeld => ?_)); clear hK K; (refine norm_ (a' := ?_) ?_ ?_); rotate_left
          · (show Act.put _ (some 20) _ = _); (simp only [Act.put, setIfInBounds_toArray, set_cons_zero, set_cons_succ, i64_w, i32_w]); rfl
          (refine on_ 5 23 (fun K hK => ?_)); (refine goes_ Try.func173 kq0 rfl #[.agg #[.bool a1_0, .slice A1_1 l1_1.length c1_1], .int .i64 x5_1] (by rfl) rfl rfl kq7 ?_); (with_reducible refine (tabardref01_Wide_digit.calls a1_0 _ _ l1_1 x5_1 t1000 _ ?side1 ?side2 A11.out).mono ?_); ((case side1 => exact kq17 HR1_1)); ((case side2 => exact HC1_1.out)); (rintro e w15 ⟨rfl, hb⟩); (refine ⟨_, rfl, ?_⟩); (replace BK997 := (bb_ BK997 hb)); (replace BK998 := (bb_ BK998 hb)); (replace HB := mk (below_step (kq23 GE997 GE998) hb)); ((try clear hb)); ((try clear hb2)); ((try clear hk)); ((try clear hi)); (refine hK.out _ _ ⟨(blk_cell BK997.out 0).trans rfl, (blk_cell BK997.out 1).trans rfl, (blk_cell BK998.out 0).trans rfl, (blk_cell BK998.out 1).trans rfl⟩ (fun hHeld => ?_)); clear hK K; (refine norm_ (a' := ?_) ?_ ?_); rotate_left
          · (show Act.put _ (some 23) _ = _); (simp only [Act.put, setIfInBounds_toArray, set_cons_zero, set_cons_succ, i64_w, i32_w]); rfl
          refine pu_ 6 24 ?_
          (refine done_ kq0 ?_); (try go_wp2); go_ret; (exact ⟨kq30, (kq23 GE997 GE998)⟩)
        · (have c12b0 := decide_eq_false c12); clear c12; (replace H := Option.bind_eq_some_iff.mp H); (obtain ⟨t1001, A160, H⟩ := H); (replace H : ((tabardref01_Wide_digit.f a1_0 l1_1 x5_1).bind fun t1002 => (if t1001 > t1002 then (some 1) else (tabardref01_Size.l0 k1 (wrap64 (x5_1 - 1)) a0_0 l0_1 a1_0 l1_1))) = some r := H); (have A16 := mk A160); clear A160; (replace H := Option.bind_eq_some_iff.mp H); (obtain ⟨t1002, A170, H⟩ := H); (replace H : (if t1001 > t1002 then (some 1) else (tabardref01_Size.l0 k1 (wrap64 (x5_1 - 1)) a0_0 l0_1 a1_0 l1_1)) = some r := H); (have A17 := mk A170); clear A170; replace H := ic_ H; obtain ⟨c18, H⟩ | ⟨c18, H⟩ := H
          · (have c18b0 : decide (t1002 < t1001) = true := decide_eq_true c18); clear c18; (obtain rfl := Option.some.inj H); (try go_wp2); (replace BK997 := mk (blk_drew BK997.out)); (replace BK998 := mk (blk_drew BK998.out)); (replace HB := mk (below_drew1 HB.out)); (refine start_ (n := 7) (S := fun w' => w'.cell? ⟨gb997, 0, none⟩ = some (.bool a0_0) ∧ w'.cell? ⟨gb997, 1, none⟩ = some (.slice A0_1 l0_1.length c0_1) ∧ w'.cell? ⟨gb998, 0, none⟩ = some (.bool a1_0) ∧ w'.cell? ⟨gb998, 1, none⟩ = some (.slice A1_1 l1_1.length c1_1)) (ds := []) #[false,false,false,false,false,false,false] kq0 rfl rfl ⟨(blk_cell BK997.out 0).trans rfl, (blk_cell BK997.out 1).trans rfl, (blk_cell BK998.out 0).trans rfl, (blk_cell BK998.out 1).trans rfl⟩ (fun hHeld => ?_)); (generalize wr.drew = w19 at BK997 BK998 HB hHeld ⊢); refine pu_ 1 19 ?_
            refine pu_ 4 22 ?_
            refine ta_ 0 18 hHeld ?_
            refine ta_ 3 21 hHeld ?_
            (refine on_ 2 20 (fun K hK => ?_)); (refine goes_ Try.func173 kq0 rfl #[.agg #[.bool a0_0, .slice A0_1 l0_1.length c0_1], .int .i64 x5_1] (by rfl) rfl rfl kq7 ?_); (with_reducible refine (tabardref01_Wide_digit.calls a0_0 _ _ l0_1 x5_1 t999 _ ?side1 ?side2 A10.out).mono ?_); ((case side1 => exact kq17 HR0_1)); ((case side2 => exact HC0_1.out)); (rintro e w20 ⟨rfl, hb⟩); (refine ⟨_, rfl, ?_⟩); (replace BK997 := (bb_ BK997 hb)); (replace BK998 := (bb_ BK998 hb)); (replace HB := mk (below_step (kq23 GE997 GE998) hb)); ((try clear hb)); ((try clear hb2)); ((try clear hk)); ((try clear hi)); (refine hK.out _ _ ⟨(blk_cell BK997.out 0).trans rfl, (blk_cell BK997.out 1).trans rfl, (blk_cell BK998.out 0).trans rfl, (blk_cell BK998.out 1).trans rfl⟩ (fun hHeld => ?_)); clear hK K; (refine norm_ (a' := ?_) ?_ ?_); rotate_left
            · (show Act.put _ (some 20) _ = _); (simp only [Act.put, setIfInBounds_toArray, set_cons_zero, set_cons_succ, i64_w, i32_w]); rfl
            (refine on_ 5 23 (fun K hK => ?_)); (refine goes_ Try.func173 kq0 rfl #[.agg #[.bool a1_0, .slice A1_1 l1_1.length c1_1], .int .i64 x5_1] (by rfl) rfl rfl kq7 ?_); (with_reducible refine (tabardref01_Wide_digit.calls a1_0 _ _ l1_1 x5_1 t1000 _ ?side1 ?side2 A11.out).mono ?_); ((case side1 => exact kq17 HR1_1)); ((case side2 => exact HC1_1.out)); (rintro e w21 ⟨rfl, hb⟩); (refine ⟨_, rfl, ?_⟩); (replace BK997 := (bb_ BK997 hb)); (replace BK998 := (bb_ BK998 hb)); (replace HB := mk (below_step (kq23 GE997 GE998) hb)); ((try clear hb)); ((try clear hb2)); ((try clear hk)); ((try clear hi)); (refine hK.out _ _ ⟨(blk_cell BK997.out 0).trans rfl, (blk_cell BK997.out 1).trans rfl, (blk_cell BK998.out 0).trans rfl, (blk_cell BK998.out 1).trans rfl⟩ (fun hHeld => ?_)); clear hK K; (refine norm_ (a' := ?_) ?_ ?_); rotate_left
            · (show Act.put _ (some 23) _ = _); (simp only [Act.put, setIfInBounds_toArray, set_cons_zero, set_cons_succ, i64_w, i32_w]); rfl
            refine pu_ 6 24 ?_
            (refine done_ kq0 ?_); (try go_wp2); (replace BK997 := mk (blk_drew BK997.out)); (replace BK998 := mk (blk_drew BK998.out)); (replace HB := mk (below_drew1 HB.out)); (refine start_ (n := 7) (S := fun w' => w'.cell? ⟨gb997, 0, none⟩ = some (.bool a0_0) ∧ w'.cell? ⟨gb997, 1, none⟩ = some (.slice A0_1 l0_1.length c0_1) ∧ w'.cell? ⟨gb998, 0, none⟩ = some (.bool a1_0) ∧ w'.cell? ⟨gb998, 1, none⟩ = some (.slice A1_1 l1_1.length c1_1)) (ds := []) #[false,false,false,false,false,false,false] kq0 rfl rfl ⟨(blk_cell BK997.out 0).trans rfl, (blk_cell BK997.out 1).trans rfl, (blk_cell BK998.out 0).trans rfl, (blk_cell BK998.out 1).trans rfl⟩ (fun hHeld => ?_)); (generalize w21.drew = w22 at BK997 BK998 HB hHeld ⊢); refine pu_ 1 26 ?_
            refine pu_ 4 29 ?_
            refine ta_ 0 25 hHeld ?_
            refine ta_ 3 28 hHeld ?_
            (refine on_ 2 27 (fun K hK => ?_)); (refine goes_ Try.func173 kq0 rfl #[.agg #[.bool a0_0, .slice A0_1 l0_1.length c0_1], .int .i64 x5_1] (by rfl) rfl rfl kq7 ?_); (with_reducible refine (tabardref01_Wide_digit.calls a0_0 _ _ l0_1 x5_1 t1001 _ ?side1 ?side2 A16.out).mono ?_); ((case side1 => exact kq17 HR0_1)); ((case side2 => exact HC0_1.out)); (rintro e w23 ⟨rfl, hb⟩); (refine ⟨_, rfl, ?_⟩); (replace BK997 := (bb_ BK997 hb)); (replace BK998 := (bb_ BK998 hb)); (replace HB := mk (below_step (kq23 GE997 GE998) hb)); ((try clear hb)); ((try clear hb2)); ((try clear hk)); ((try clear hi)); (refine hK.out _ _ ⟨(blk_cell BK997.out 0).trans rfl, (blk_cell BK997.out 1).trans rfl, (blk_cell BK998.out 0).trans rfl, (blk_cell BK998.out 1).trans rfl⟩ (fun hHeld => ?_)); clear hK K; (refine norm_ (a' := ?_) ?_ ?_); rotate_left
            · (show Act.put _ (some 27) _ = _); (simp only [Act.put, setIfInBounds_toArray, set_cons_zero, set_cons_succ, i64_w, i32_w]); rfl
            (refine on_ 5 30 (fun K hK => ?_)); (refine goes_ Try.func173 kq0 rfl #[.agg #[.bool a1_0, .slice A1_1 l1_1.length c1_1], .int .i64 x5_1] (by rfl) rfl rfl kq7 ?_); (with_reducible refine (tabardref01_Wide_digit.calls a1_0 _ _ l1_1 x5_1 t1002 _ ?side1 ?side2 A17.out).mono ?_); ((case side1 => exact kq17 HR1_1)); ((case side2 => exact HC1_1.out)); (rintro e w24 ⟨rfl, hb⟩); (refine ⟨_, rfl, ?_⟩); (replace BK997 := (bb_ BK997 hb)); (replace BK998 := (bb_ BK998 hb)); (replace HB := mk (below_step (kq23 GE997 GE998) hb)); ((try clear hb)); ((try clear hb2)); ((try clear hk)); ((try clear hi)); (refine hK.out _ _ ⟨(blk_cell BK997.out 0).trans rfl, (blk_cell BK997.out 1).trans rfl, (blk_cell BK998.out 0).trans rfl, (blk_cell BK998.out 1).trans rfl⟩ (fun hHeld => ?_)); clear hK K; (refine norm_ (a' := ?_) ?_ ?_); rotate_left
            · (show Act.put _ (some 30) _ = _); (simp only [Act.put, setIfInBounds_toArray, set_cons_zero, set_cons_succ, i64_w, i32_w]); rfl
            refine pu_ 6 31 ?_
            (refine done_ kq0 ?_); (try go_wp2); go_ret; (exact ⟨kq30, (kq23 GE997 GE998)⟩)
          · (have c18b0 : decide (t1002 < t1001) = false := decide_eq_false c18); clear c18; (have H' := mk H); clear H; (try go_wp2); (replace BK997 := mk (blk_drew BK997.out)); (replace BK998 := mk (blk_drew BK998.out)); (replace HB := mk (below_drew1 HB.out)); (refine start_ (n := 7) (S := fun w' => w'.cell? ⟨gb997, 0, none⟩ = some (.bool a0_0) ∧ w'.cell? ⟨gb997, 1, none⟩ = some (.slice A0_1 l0_1.length c0_1) ∧ w'.cell? ⟨gb998, 0, none⟩ = some (.bool a1_0) ∧ w'.cell? ⟨gb998, 1, none⟩ = some (.slice A1_1 l1_1.length c1_1)) (ds := []) #[false,false,false,false,false,false,false] kq0 rfl rfl ⟨(blk_cell BK997.out 0).trans rfl, (blk_cell BK997.out 1).trans rfl, (blk_cell BK998.out 0).trans rfl, (blk_cell BK998.out 1).trans rfl⟩ (fun hHeld => ?_)); (generalize wr.drew = w25 at BK997 BK998 HB hHeld ⊢); refine pu_ 1 19 ?_
            refine pu_ 4 22 ?_
            refine ta_ 0 18 hHeld ?_
            refine ta_ 3 21 hHeld ?_
            (refine on_ 2 20 (fun K hK => ?_)); (refine goes_ Try.func173 kq0 rfl #[.agg #[.bool a0_0, .slice A0_1 l0_1.length c0_1], .int .i64 x5_1] (by rfl) rfl rfl kq7 ?_); (with_reducible refine (tabardref01_Wide_digit.calls a0_0 _ _ l0_1 x5_1 t999 _ ?side1 ?side2 A10.out).mono ?_); ((case side1 => exact kq17 HR0_1)); ((case side2 => exact HC0_1.out)); (rintro e w26 ⟨rfl, hb⟩); (refine ⟨_, rfl, ?_⟩); (replace BK997 := (bb_ BK997 hb)); (replace BK998 := (bb_ BK998 hb)); (replace HB := mk (below_step (kq23 GE997 GE998) hb)); ((try clear hb)); ((try clear hb2)); ((try clear hk)); ((try clear hi)); (refine hK.out _ _ ⟨(blk_cell BK997.out 0).trans rfl, (blk_cell BK997.out 1).trans rfl, (blk_cell BK998.out 0).trans rfl, (blk_cell BK998.out 1).trans rfl⟩ (fun hHeld => ?_)); clear hK K; (refine norm_ (a' := ?_) ?_ ?_); rotate_left
            · (show Act.put _ (some 20) _ = _); (simp only [Act.put, setIfInBounds_toArray, set_cons_zero, set_cons_succ, i64_w, i32_w]); rfl
            (refine on_ 5 23 (fun K hK => ?_)); (refine goes_ Try.func173 kq0 rfl #[.agg #[.bool a1_0, .slice A1_1 l1_1.length c1_1], .int .i64 x5_1] (by rfl) rfl rfl kq7 ?_); (with_reducible refine (tabardref01_Wide_digit.calls a1_0 _ _ l1_1 x5_1 t1000 _ ?side1 ?side2 A11.out).mono ?_); ((case side1 => exact kq17 HR1_1)); ((case side2 => exact HC1_1.out)); (rintro e w27 ⟨rfl, hb⟩); (refine ⟨_, rfl, ?_⟩); (replace BK997 := (bb_ BK997 hb)); (replace BK998 := (bb_ BK998 hb)); (replace HB := mk (below_step (kq23 GE997 GE998) hb)); ((try clear hb)); ((try clear hb2)); ((try clear hk)); ((try clear hi)); (refine hK.out _ _ ⟨(blk_cell BK997.out 0).trans rfl, (blk_cell BK997.out 1).trans rfl, (blk_cell BK998.out 0).trans rfl, (blk_cell BK998.out 1).trans rfl⟩ (fun hHeld => ?_)); clear hK K; (refine norm_ (a' := ?_) ?_ ?_); rotate_left
            · (show Act.put _ (some 23) _ = _); (simp only [Act.put, setIfInBounds_toArray, set_cons_zero, set_cons_succ, i64_w, i32_w]); rfl
            refine pu_ 6 24 ?_
            (refine done_ kq0 ?_); (try go_wp2); (replace BK997 := mk (blk_drew BK997.out)); (replace BK998 := mk (blk_drew BK998.out)); (replace HB := mk (below_drew1 HB.out)); (refine start_ (n := 7) (S := fun w' => w'.cell? ⟨gb997, 0, none⟩ = some (.bool a0_0) ∧ w'.cell? ⟨gb997, 1, none⟩ = some (.slice A0_1 l0_1.length c0_1) ∧ w'.cell? ⟨gb998, 0, none⟩ = some (.bool a1_0) ∧ w'.cell? ⟨gb998, 1, none⟩ = some (.slice A1_1 l1_1.length c1_1)) (ds := []) #[false,false,false,false,false,false,false] kq0 rfl rfl ⟨(blk_cell BK997.out 0).trans rfl, (blk_cell BK997.out 1).trans rfl, (blk_cell BK998.out 0).trans rfl, (blk_cell BK998.out 1).trans rfl⟩ (fun hHeld => ?_)); (generalize w27.drew = w28 at BK997 BK998 HB hHeld ⊢); refine pu_ 1 26 ?_
            refine pu_ 4 29 ?_
            refine ta_ 0 25 hHeld ?_
            refine ta_ 3 28 hHeld ?_
            (refine on_ 2 27 (fun K hK => ?_)); (refine goes_ Try.func173 kq0 rfl #[.agg #[.bool a0_0, .slice A0_1 l0_1.length c0_1], .int .i64 x5_1] (by rfl) rfl rfl kq7 ?_); (with_reducible refine (tabardref01_Wide_digit.calls a0_0 _ _ l0_1 x5_1 t1001 _ ?side1 ?side2 A16.out).mono ?_); ((case side1 => exact kq17 HR0_1)); ((case side2 => exact HC0_1.out)); (rintro e w29 ⟨rfl, hb⟩); (refine ⟨_, rfl, ?_⟩); (replace BK997 := (bb_ BK997 hb)); (replace BK998 := (bb_ BK998 hb)); (replace HB := mk (below_step (kq23 GE997 GE998) hb)); ((try clear hb)); ((try clear hb2)); ((try clear hk)); ((try clear hi)); (refine hK.out _ _ ⟨(blk_cell BK997.out 0).trans rfl, (blk_cell BK997.out 1).trans rfl, (blk_cell BK998.out 0).trans rfl, (blk_cell BK998.out 1).trans rfl⟩ (fun hHeld => ?_)); clear hK K; (refine norm_ (a' := ?_) ?_ ?_); rotate_left
            · (show Act.put _ (some 27) _ = _); (simp only [Act.put, setIfInBounds_toArray, set_cons_zero, set_cons_succ, i64_w, i32_w]); rfl
            (refine on_ 5 30 (fun K hK => ?_)); (refine goes_ Try.func173 kq0 rfl #[.agg #[.bool a1_0, .slice A1_1 l1_1.length c1_1], .int .i64 x5_1] (by rfl) rfl rfl kq7 ?_); (with_reducible refine (tabardref01_Wide_digit.calls a1_0 _ _ l1_1 x5_1 t1002 _ ?side1 ?side2 A17.out).mono ?_); ((case side1 => exact kq17 HR1_1)); ((case side2 => exact HC1_1.out)); (rintro e w30 ⟨rfl, hb⟩); (refine ⟨_, rfl, ?_⟩); (replace BK997 := (bb_ BK997 hb)); (replace BK998 := (bb_ BK998 hb)); (replace HB := mk (below_step (kq23 GE997 GE998) hb)); ((try clear hb)); ((try clear hb2)); ((try clear hk)); ((try clear hi)); (refine hK.out _ _ ⟨(blk_cell BK997.out 0).trans rfl, (blk_cell BK997.out 1).trans rfl, (blk_cell BK998.out 0).trans rfl, (blk_cell BK998.out 1).trans rfl⟩ (fun hHeld => ?_)); clear hK K; (refine norm_ (a' := ?_) ?_ ?_); rotate_left
            · (show Act.put _ (some 30) _ = _); (simp only [Act.put, setIfInBounds_toArray, set_cons_zero, set_cons_succ, i64_w, i32_w]); rfl
            refine pu_ 6 31 ?_
            (refine done_ kq0 ?_); (try go_wp2); (go_roundg k1)
            case measure => have := HK1.out; omega
            case rel => exact ⟨(wrap64 (x5_1 - 1)), kq3, H', ⟨kq13⟩, ⟨(kq18 BK997)⟩, ⟨(kq18 BK998)⟩, ⟨(kq23 GE997 GE998)⟩⟩
      · (have c9b0 : decide (0 ≤ x5_1) = false := decide_eq_false c9); clear c9; (obtain rfl := Option.some.inj H); go_wp2; go_ret; (exact ⟨kq30, (kq23 GE997 GE998)⟩)
end Go.Proofs.Ytjknpmibdkoklaa.Q
namespace Go.Proofs.Ytjknpmibdkoklaa.Q
open Go.RowKit Go.Proofs.YtjknpmibdkoklaaW.PrintWords Go.Proofs.YtjknpmibdkoklaaW.PrintLast Go.Proofs.YtjknpmibdkoklaaW.PrintMore
open Aside0 (mk)
open List (setIfInBounds_toArray set_cons_zero set_cons_succ)
attribute [local go_sem] max2_int min2_int max_two min_two max_three min_three max_four min_four
set_option linter.unusedVariables false
set_option linter.unusedSimpArgs false
attribute [local go_sem] fld99_2 fld103_2 fld160_0 fld160_1
def tabardref01_minus.l0 : Nat → List Int → Int → Int → Bool → List Int → Bool → List Int → Option (List Int)
  | 0, _, _, _, _, _, _, _ => none
  | k + 1, x5, x6, x7, x1004000, x1004001, x1005000, x1005001 => if x7 < (x1004001.length : Int) then ((tabardref01_Wide_digit.f x1004000 x1004001 x7).bind fun t1005 => ((tabardref01_Wide_digit.f x1005000 x1005001 x7).bind fun t1006 => (if x5.length < 17592186044416 then (tabardref01_minus.l0 k (x5 ++ [Go.bits .and .u64 (IntKind.u64.wrap ((IntKind.u64.wrap ((IntKind.u64.wrap (t1005 + 65536)) - t1006)) - x6)) 65535]) (IntKind.u64.wrap (1 - ((IntKind.u64.wrap ((IntKind.u64.wrap ((IntKind.u64.wrap (t1005 + 65536)) - t1006)) - x6)) / 65536))) (wrap64 (x7 + 1)) x1004000 x1004001 x1005000 x1005001) else (none)))) else (some x5)
def tabardref01_minus.f (k : Nat) (a0_0 : Bool) (l0_1 : List Int) (a1_0 : Bool) (l1_1 : List Int) : Option (List Int) := tabardref01_minus.l0 k ([] : List Int) 0 0 a0_0 l0_1 a1_0 l1_1
theorem tabardref01_minus.mono_l : ∀ k, (∀ y0 y1 y2 y3 y4 y5 y6, LeO (tabardref01_minus.l0 k y0 y1 y2 y3 y4 y5 y6) (tabardref01_minus.l0 (k + 1) y0 y1 y2 y3 y4 y5 y6))
  | 0 => fun _ _ _ _ _ _ _ r h => by simp [tabardref01_minus.l0] at h
  | k + 1 => by
    have ih0 := tabardref01_minus.mono_l k
    · intro y0 y1 y2 y3 y4 y5 y6; (unfold tabardref01_minus.l0)
      repeat' first
      | (with_reducible exact ih0 _ _ _ _ _ _ _)
      | (with_reducible exact LeO.refl _)
      | (with_reducible exact LeO.none _)
      | (with_reducible refine LeO.ite ?_ ?_)
      | (with_reducible refine LeO.bind ?_ (fun _ => ?_))
      | exact ih0 _ _ _ _ _ _ _
      | exact LeO.none _
      | refine LeO.ite ?_ ?_
      | refine LeO.bind ?_ (fun _ => ?_)
theorem tabardref01_minus.mono : ∀ a0 a1 a2 a3 k, LeO (tabardref01_minus.f k a0 a1 a2 a3) (tabardref01_minus.f (k + 1) a0 a1 a2 a3) := by
  intro a0 a1 a2 a3 k
  have ih0 := tabardref01_minus.mono_l k
  unfold tabardref01_minus.f
  repeat' first
      | (with_reducible exact ih0 _ _ _ _ _ _ _)
      | (with_reducible exact LeO.refl _)
      | (with_reducible exact LeO.none _)
      | (with_reducible refine LeO.ite ?_ ?_)
      | (with_reducible refine LeO.bind ?_ (fun _ => ?_))
      | exact ih0 _ _ _ _ _ _ _
      | exact LeO.none _
      | refine LeO.ite ?_ ?_
      | refine LeO.bind ?_ (fun _ => ?_)
def tabardref01_minus.T6 : Bool × List (List Nat × List Nat) := (true, [([], []), ([], []), ([0, 1], [0, 1]), ([2], [2]), ([], []), ([], []), ([4, 5, 2], [4, 5]), ([3, 6], [3, 6]), ([], []), ([7, 8], [7, 8]), ([9, 6, 0, 1, 2, 3, 4, 5, 6, 7, 8, 9], [9])])
def tabardref01_minus.B6 : List Nat := [0, 0, 3, 7, 0, 0, 55, 127, 0, 511, 1023]
theorem tabardref01_minus.tab6 : rtab .any (opsOf Try.f172 6) = tabardref01_minus.T6 := by kernel_rfl
theorem tabardref01_minus.bits6 : waitsOk tabardref01_minus.T6.2 tabardref01_minus.B6 = true := by kernel_rfl
set_option maxHeartbeats 8000000 in
set_option maxRecDepth 100000 in
theorem tabardref01_minus.calls (k : Nat) (a0_0 : Bool) (A0_1 : Option Addr) (c0_1 : Nat) (l0_1 : List Int) (a1_0 : Bool) (A1_1 : Option Addr) (c1_1 : Nat) (l1_1 : List Int) (r : List Int) (w : World) (hr0_1 : Kd.C (Kd.int .u64) w A0_1 l0_1.length l0_1) (hc0_1 : l0_1.length ≤ c0_1) (hr1_1 : Kd.C (Kd.int .u64) w A1_1 l1_1.length l1_1) (hc1_1 : l1_1.length ≤ c1_1) (h : tabardref01_minus.f k a0_0 l0_1 a1_0 l1_1 = some r) :
    Calls Try.prog 172 #[.agg #[.bool a0_0, .slice A0_1 l0_1.length c0_1], .agg #[.bool a1_0, .slice A1_1 l1_1.length c1_1]] w fun e w' => ∃ v0_ : Value, e = .returned (v0_) ∧ Kd.R (Kd.int .u64) 187 w' w.heap.size (fun _ => True) v0_ r ∧ Below w.heap.size w w' := by
  have hu160 := Try.underlying160
  have HR0_1 := mk hr0_1
  have HC0_1 := mk hc0_1
  clear hr0_1 hc0_1
  have HR1_1 := mk hr1_1
  have HC1_1 := mk hc1_1
  clear hr1_1 hc1_1
  have HB := mk (Below.refl w.heap.size w)
  have H : (tabardref01_minus.l0 k ([] : List Int) 0 0 a0_0 l0_1 a1_0 l1_1) = some r := h
  clear h
  have H' := mk H
  clear H
  go_enter Try.func172, Try.ntmps172
  go_wp2_with (first | ((with_reducible refine gate_dst (N := 2) rfl ?_); refine box_event ?hg (N := 2) ?hd (cs := #[.bool a0_0, .slice A0_1 l0_1.length c0_1]) (t := 160) ?hr ?_; (case hd => rfl); (case hg => rfl); (case hr => exact kq11); intro gb1003 hg w3 hbox hb; have BK1003 := mk (hbox); have GW1003 := (gs_ hg kq9); have GE1003 := GW1003; replace HB := mk (below_step kq9 hb); clear hb hbox hg) | ((with_reducible refine gate_dst (N := 3) rfl ?_); refine box_event ?hg (N := 3) ?hd (cs := #[.bool a1_0, .slice A1_1 l1_1.length c1_1]) (t := 160) ?hr ?_; (case hd => rfl); (case hg => rfl); (case hr => exact kq11); intro gb1004 hg w4 hbox hb; have BK1004 := mk (hbox); have GW1004 := (gs_ hg (kq16 GE1003)); have GE1004 := GW1004; have NB1003_1004 := (nl_ hg BK1003); have NB1004_1003 := (ng_ hg BK1003); replace BK1003 := (bb_ BK1003 hb); replace HB := mk (below_step (kq16 GE1003) hb); clear hb hbox hg))
  go_loopg [5, 6, 7] k (fun kq v5 v6 v7 w' => ∃ (x5_1 : List Int) (x6_1 : Int) (x7_1 : Int), v6 = .int .u64 x6_1 ∧ v7 = .int .i64 x7_1 ∧ Aside0 (tabardref01_minus.l0 kq x5_1 x6_1 x7_1 a0_0 l0_1 a1_0 l1_1 = some r) ∧ Aside0 (kq ≤ k) ∧ Aside0 (Kd.R (Kd.int .u64) 187 w' w.heap.size (fun _ => True) v5 x5_1) ∧ Aside0 (w'.heap[gb1003]? = some (.cells #[.bool a0_0, (.slice A0_1 l0_1.length c0_1)] 160 (0, 0))) ∧ Aside0 (w'.heap[gb1004]? = some (.cells #[.bool a1_0, (.slice A1_1 l1_1.length c1_1)] 160 (0, 0))) ∧ Aside0 (Below w.heap.size w w'))
  case atStart => exact ⟨(([] : List Int)), (0), (0), kq3, kq3, H', ⟨Nat.le_refl _⟩, ⟨kq27⟩, ⟨(kq18 BK1003)⟩, ⟨(kq18 BK1004)⟩, ⟨(kq23 GE1003 GE1004)⟩⟩
  case round =>
    clear H'
    obtain ⟨x5_1, x6_1, x7_1, rfl, rfl, HA, HK1, HO_5, BK1003, BK1004, HB⟩ := hrel
    cases gk with
    | zero => exact absurd HA.out (by simp [tabardref01_minus.l0])
    | succ k1 =>
      (have H := HA.out); clear HA; (simp only [tabardref01_minus.l0] at H); replace H := ic_ H; obtain ⟨c5, H⟩ | ⟨c5, H⟩ := H
      · (have c5b0 := decide_eq_true c5); clear c5; (replace H := Option.bind_eq_some_iff.mp H); (obtain ⟨t1005, A60, H⟩ := H); (replace H : ((tabardref01_Wide_digit.f a1_0 l1_1 x7_1).bind fun t1006 => (if x5_1.length < 17592186044416 then (tabardref01_minus.l0 k1 (x5_1 ++ [Go.bits .and .u64 (IntKind.u64.wrap ((IntKind.u64.wrap ((IntKind.u64.wrap (t1005 + 65536)) - t1006)) - x6_1)) 65535]) (IntKind.u64.wrap (1 - ((IntKind.u64.wrap ((IntKind.u64.wrap ((IntKind.u64.wrap (t1005 + 65536)) - t1006)) - x6_1)) / 65536))) (wrap64 (x7_1 + 1)) a0_0 l0_1 a1_0 l1_1) else (none))) = some r := H); (have A6 := mk A60); clear A60; (replace H := Option.bind_eq_some_iff.mp H); (obtain ⟨t1006, A70, H⟩ := H); (replace H : (if x5_1.length < 17592186044416 then (tabardref01_minus.l0 k1 (x5_1 ++ [Go.bits .and .u64 (IntKind.u64.wrap ((IntKind.u64.wrap ((IntKind.u64.wrap (t1005 + 65536)) - t1006)) - x6_1)) 65535]) (IntKind.u64.wrap (1 - ((IntKind.u64.wrap ((IntKind.u64.wrap ((IntKind.u64.wrap (t1005 + 65536)) - t1006)) - x6_1)) / 65536))) (wrap64 (x7_1 + 1)) a0_0 l0_1 a1_0 l1_1) else (none)) = some r := H); (have A7 := mk A70); clear A70; replace H := ic_ H; obtain ⟨c8, H⟩ | ⟨c8, H⟩ := H
        · (have LMc8 := mk c8); clear c8; (obtain ⟨y1007, hy1007⟩ : ∃ y_ : List Int, y_ = (x5_1 ++ [Go.bits .and .u64 (IntKind.u64.wrap ((IntKind.u64.wrap ((IntKind.u64.wrap (t1005 + 65536)) - t1006)) - x6_1)) 65535]) := ⟨_, rfl⟩); (replace H : (tabardref01_minus.l0 k1 y1007 (IntKind.u64.wrap (1 - ((IntKind.u64.wrap ((IntKind.u64.wrap ((IntKind.u64.wrap (t1005 + 65536)) - t1006)) - x6_1)) / 65536))) (wrap64 (x7_1 + 1)) a0_0 l0_1 a1_0 l1_1) = some r := by first | (rw [hy1007]; with_reducible exact H) | (have H2_ := (Option.bind_some _ _).symm.trans H; rw [hy1007]; with_reducible exact H2_) | (have H2_ := (Option.bind_some _ _).symm.trans H; with_reducible exact H2_) | with_reducible exact H | (rw [hy1007]; exact H) | exact H); (have Ny1007 := mk hy1007); clear hy1007; (have H' := mk H); clear H; (have hnb9 := NB1003_1004.out); (have hnc9 := NB1004_1003.out); (obtain ⟨_, _, _, _⟩ := cz2_ BK1003.out); (try go_wp2); (replace HO_5 := mk (Kd.R_drew HO_5.out)); (replace BK1003 := mk (blk_drew BK1003.out)); (replace BK1004 := mk (blk_drew BK1004.out)); (replace HB := mk (below_drew1 HB.out)); (refine start_ (n := 11) (S := fun w' => w'.cell? ⟨gb1003, 0, none⟩ = some (.bool a0_0) ∧ w'.cell? ⟨gb1003, 1, none⟩ = some (.slice A0_1 l0_1.length c0_1) ∧ w'.cell? ⟨gb1004, 0, none⟩ = some (.bool a1_0) ∧ w'.cell? ⟨gb1004, 1, none⟩ = some (.slice A1_1 l1_1.length c1_1)) (ds := []) #[false,false,false,false,false,false,false,false,false,false,false] kq0 rfl rfl ⟨(blk_cell BK1003.out 0).trans rfl, (blk_cell BK1003.out 1).trans rfl, (blk_cell BK1004.out 0).trans rfl, (blk_cell BK1004.out 1).trans rfl⟩ (fun hHeld => ?_); refine with_tabW tabardref01_minus.tab6 tabardref01_minus.bits6 (fun HT_ HW_ => ?_)); (generalize wr.drew = w11 at HO_5 BK1003 BK1004 HB hHeld ⊢); refine puT_ 1 17 ?_
          refine puT_ 5 21 ?_
          refine puT_ 8 24 ?_
          refine taT_ 0 16 hHeld ?_
          refine taT_ 4 20 hHeld ?_
          (refine onT_ 2 18 (fun K hK => ?_)); (refine goes_ Try.func173 kq0 rfl #[.agg #[.bool a0_0, .slice A0_1 l0_1.length c0_1], .int .i64 x7_1] (by rfl) rfl rfl kq7 ?_); (with_reducible refine (tabardref01_Wide_digit.calls a0_0 _ _ l0_1 x7_1 t1005 _ ?side1 ?side2 A6.out).mono ?_); ((case side1 => exact kq17 HR0_1)); ((case side2 => exact HC0_1.out)); (rintro e w12 ⟨rfl, hb⟩); (refine ⟨_, rfl, ?_⟩); (replace HO_5 := mk (Kd.R_below (kq15 HO_5) hb)); (replace BK1003 := (bb_ BK1003 hb)); (replace BK1004 := (bb_ BK1004 hb)); (replace HB := mk (below_step (kq23 GE1003 GE1004) hb)); ((try clear hb)); ((try clear hb2)); ((try clear hk)); ((try clear hi)); (refine hK.out _ _ ⟨(blk_cell BK1003.out 0).trans rfl, (blk_cell BK1003.out 1).trans rfl, (blk_cell BK1004.out 0).trans rfl, (blk_cell BK1004.out 1).trans rfl⟩ (fun hHeld => ?_)); clear hK K; (refine norm_ (a' := ?_) ?_ ?_); rotate_left
          · (show Act.put _ (some 18) _ = _); (simp only [Act.put, setIfInBounds_toArray, set_cons_zero, set_cons_succ, i64_w, i32_w]); rfl
          refine puT_ 3 19 ?_
          (refine onT_ 6 22 (fun K hK => ?_)); (refine goes_ Try.func173 kq0 rfl #[.agg #[.bool a1_0, .slice A1_1 l1_1.length c1_1], .int .i64 x7_1] (by rfl) rfl rfl kq7 ?_); (with_reducible refine (tabardref01_Wide_digit.calls a1_0 _ _ l1_1 x7_1 t1006 _ ?side1 ?side2 A7.out).mono ?_); ((case side1 => exact kq17 HR1_1)); ((case side2 => exact HC1_1.out)); (rintro e w13 ⟨rfl, hb⟩); (refine ⟨_, rfl, ?_⟩); (replace HO_5 := mk (Kd.R_below (kq15 HO_5) hb)); (replace BK1003 := (bb_ BK1003 hb)); (replace BK1004 := (bb_ BK1004 hb)); (replace HB := mk (below_step (kq23 GE1003 GE1004) hb)); ((try clear hb)); ((try clear hb2)); ((try clear hk)); ((try clear hi)); (refine hK.out _ _ ⟨(blk_cell BK1003.out 0).trans rfl, (blk_cell BK1003.out 1).trans rfl, (blk_cell BK1004.out 0).trans rfl, (blk_cell BK1004.out 1).trans rfl⟩ (fun hHeld => ?_)); clear hK K; (refine norm_ (a' := ?_) ?_ ?_); rotate_left
          · (show Act.put _ (some 22) _ = _); (simp only [Act.put, setIfInBounds_toArray, set_cons_zero, set_cons_succ, i64_w, i32_w]); rfl
          refine puT_ 7 23 ?_
          refine puT_ 9 25 ?_
          refine puT_ 10 8 ?_
          (refine done_ (done_of HT_.out kq0) ?_); (try go_wp2_with (first | ((with_reducible refine gate_builtin (b := .append) (xs := #[.tmp 26, .tmp 29]) rfl ?_); at_builtin; refine Kd.R_append (Kd.int .u64) (w0 := w) w.heap.size rfl (.tmp 26) (.tmp 29) 158 187 (.int .u64 0) 8 rfl Try.underlying158 info187 rfl kq2 kq1 u5 x5_1 (Go.bits .and .u64 (IntKind.u64.wrap ((IntKind.u64.wrap ((IntKind.u64.wrap (t1005 + 65536)) - t1006)) - x6_1)) 65535) [.int .u64 (Go.bits .and .u64 (IntKind.u64.wrap ((IntKind.u64.wrap ((IntKind.u64.wrap (t1005 + 65536)) - t1006)) - x6_1)) 65535)] (fun _ => True) (fun _ => False) rfl rfl ?aP (fun _ hk => hk.elim) ?aF ?aO ?aB ?aS ?aL ?_; (case aP => exact rfl); (case aB => exact kq24 GE1003 GE1004); (case aF => exact (fun _ _ => trivial)); (case aO => exact kq25 HO_5); (case aS => exact kq26 GE1003 GE1004); (case aL => have := LMc8.out; omega); intro v1008 w14 ho hb hg hat; rw [← Ny1007.out] at ho; have HO1009 := mk (ho); replace BK1003 := mk (blk_grown (g := gb1003) (o := .cells #[.bool a0_0, .slice A0_1 l0_1.length c0_1] 160 (0, 0)) (kq18 BK1003) hg (Kd.R_ne HO_5.out BK1003.out kq2)); replace BK1004 := mk (blk_grown (g := gb1004) (o := .cells #[.bool a1_0, .slice A1_1 l1_1.length c1_1] 160 (0, 0)) (kq18 BK1004) hg (Kd.R_ne HO_5.out BK1004.out kq2)); replace HB := mk (hb); clear HO_5; clear ho hb hg hat))); (go_roundg k1)
          case measure => have := HK1.out; omega
          case rel => exact ⟨(y1007), (IntKind.u64.wrap (1 - ((IntKind.u64.wrap ((IntKind.u64.wrap ((IntKind.u64.wrap (t1005 + 65536)) - t1006)) - x6_1)) / 65536))), (wrap64 (x7_1 + 1)), kq3, kq3, H', ⟨kq13⟩, ⟨(kq15 HO1009)⟩, ⟨(kq18 BK1003)⟩, ⟨(kq18 BK1004)⟩, ⟨(kq23 GE1003 GE1004)⟩⟩
        · (exact absurd H (by simp))
      · (have c5b0 := decide_eq_false c5); clear c5; (obtain rfl := Option.some.inj H); (have hnb15 := NB1003_1004.out); (have hnc15 := NB1004_1003.out); (obtain ⟨_, _, _, _⟩ := cz2_ BK1003.out); go_wp2; go_ret; (exact ⟨_, kq14, (kq15 HO_5), (kq23 GE1003 GE1004)⟩)
end Go.Proofs.Ytjknpmibdkoklaa.Q
namespace Go.Proofs.Ytjknpmibdkoklaa.Q
open Go.RowKit Go.Proofs.YtjknpmibdkoklaaW.PrintWords Go.Proofs.YtjknpmibdkoklaaW.PrintLast Go.Proofs.YtjknpmibdkoklaaW.PrintMore
open Aside0 (mk)
open List (setIfInBounds_toArray set_cons_zero set_cons_succ)
attribute [local go_sem] max2_int min2_int max_two min_two max_three min_three max_four min_four
set_option linter.unusedVariables false
set_option linter.unusedSimpArgs false
attribute [local go_sem] fld99_2 fld103_2 fld160_0 fld160_1
def tabardref01_Plus.f (k : Nat) (a0_0 : Bool) (l0_1 : List Int) (a1_0 : Bool) (l1_1 : List Int) : Option (Bool × List Int) := if (a0_0 == a1_0) = true then ((tabardref01_plus.f k a0_0 l0_1 a1_0 l1_1).bind fun t1013 => ((tabardref01_Wide_trimmed.f k a0_0 t1013).bind fun bt1016 => (some (bt1016.1, bt1016.2)))) else ((tabardref01_Size.f k a0_0 l0_1 a1_0 l1_1).bind fun t1020 => (if t1020 ≥ 0 then ((tabardref01_minus.f k a0_0 l0_1 a1_0 l1_1).bind fun t1021 => ((tabardref01_Wide_trimmed.f k a0_0 t1021).bind fun bt1024 => (some (bt1024.1, bt1024.2)))) else ((tabardref01_minus.f k a1_0 l1_1 a0_0 l0_1).bind fun t1028 => ((tabardref01_Wide_trimmed.f k a1_0 t1028).bind fun bt1031 => (some (bt1031.1, bt1031.2))))))
theorem tabardref01_Plus.mono : ∀ a0 a1 a2 a3 k, LeO (tabardref01_Plus.f k a0 a1 a2 a3) (tabardref01_Plus.f (k + 1) a0 a1 a2 a3) := by
  intro a0 a1 a2 a3 k
  unfold tabardref01_Plus.f
  repeat' first
      | (with_reducible exact tabardref01_Size.mono _ _ _ _ _)
      | (with_reducible exact tabardref01_Wide_trimmed.mono _ _ _)
      | (with_reducible exact tabardref01_minus.mono _ _ _ _ _)
      | (with_reducible exact tabardref01_plus.mono _ _ _ _ _)
      | (with_reducible exact LeO.refl _)
      | (with_reducible exact LeO.none _)
      | (with_reducible refine LeO.ite ?_ ?_)
      | (with_reducible refine LeO.bind ?_ (fun _ => ?_))
      | exact tabardref01_Size.mono _ _ _ _ _
      | exact tabardref01_Wide_trimmed.mono _ _ _
      | exact tabardref01_minus.mono _ _ _ _ _
      | exact tabardref01_plus.mono _ _ _ _ _
      | exact LeO.none _
      | refine LeO.ite ?_ ?_
      | refine LeO.bind ?_ (fun _ => ?_)
def tabardref01_Plus.T2 : Bool × List (List Nat × List Nat) := (true, [([], []), ([0], [0]), ([], []), ([], []), ([2, 3], [2, 3]), ([1, 4], [1, 4]), ([5, 4], [5]), ([6, 6, 0, 1, 2, 3, 4, 5, 6], [6])])
def tabardref01_Plus.B2 : List Nat := [0, 1, 0, 0, 12, 31, 63, 127]
theorem tabardref01_Plus.tab2 : rtab .any (opsOf Try.f132 2) = tabardref01_Plus.T2 := by kernel_rfl
theorem tabardref01_Plus.bits2 : waitsOk tabardref01_Plus.T2.2 tabardref01_Plus.B2 = true := by kernel_rfl
def tabardref01_Plus.T4 : Bool × List (List Nat × List Nat) := (true, [([], []), ([0], [0]), ([], []), ([], []), ([2, 3], [2, 3]), ([1, 4], [1, 4]), ([5, 4], [5]), ([6, 6, 0, 1, 2, 3, 4, 5, 6], [6])])
def tabardref01_Plus.B4 : List Nat := [0, 1, 0, 0, 12, 31, 63, 127]
theorem tabardref01_Plus.tab4 : rtab .any (opsOf Try.f132 4) = tabardref01_Plus.T4 := by kernel_rfl
theorem tabardref01_Plus.bits4 : waitsOk tabardref01_Plus.T4.2 tabardref01_Plus.B4 = true := by kernel_rfl
def tabardref01_Plus.T5 : Bool × List (List Nat × List Nat) := (true, [([], []), ([0], [0]), ([], []), ([], []), ([2, 3], [2, 3]), ([1, 4], [1, 4]), ([5, 4], [5]), ([6, 6, 0, 1, 2, 3, 4, 5, 6], [6])])
def tabardref01_Plus.B5 : List Nat := [0, 1, 0, 0, 12, 31, 63, 127]
theorem tabardref01_Plus.tab5 : rtab .any (opsOf Try.f132 5) = tabardref01_Plus.T5 := by kernel_rfl
theorem tabardref01_Plus.bits5 : waitsOk tabardref01_Plus.T5.2 tabardref01_Plus.B5 = true := by kernel_rfl
set_option maxHeartbeats 8000000 in
set_option maxRecDepth 100000 in
theorem tabardref01_Plus.calls (k : Nat) (a0_0 : Bool) (A0_1 : Option Addr) (c0_1 : Nat) (l0_1 : List Int) (a1_0 : Bool) (A1_1 : Option Addr) (c1_1 : Nat) (l1_1 : List Int) (r1 : Bool) (r2 : List Int) (w : World) (hr0_1 : Kd.C (Kd.int .u64) w A0_1 l0_1.length l0_1) (hc0_1 : l0_1.length ≤ c0_1) (hr1_1 : Kd.C (Kd.int .u64) w A1_1 l1_1.length l1_1) (hc1_1 : l1_1.length ≤ c1_1) (h : tabardref01_Plus.f k a0_0 l0_1 a1_0 l1_1 = some (r1, r2)) :
    Calls Try.prog 132 #[.agg #[.bool a0_0, .slice A0_1 l0_1.length c0_1], .agg #[.bool a1_0, .slice A1_1 l1_1.length c1_1]] w fun e w' => ∃ v1_ : Value, e = .returned (.agg #[.bool r1, v1_]) ∧ Kd.V (Kd.int .u64) 187 w' w.heap.size (fun k_ => (w.heap.size ≤ k_)) v1_ r2 ∧ Below w.heap.size w w' := by
  have hu160 := Try.underlying160
  have HR0_1 := mk hr0_1
  have HC0_1 := mk hc0_1
  clear hr0_1 hc0_1
  have HR1_1 := mk hr1_1
  have HC1_1 := mk hc1_1
  clear hr1_1 hc1_1
  have HB := mk (Below.refl w.heap.size w)
  have H : (if (a0_0 == a1_0) = true then ((tabardref01_plus.f k a0_0 l0_1 a1_0 l1_1).bind fun t1013 => ((tabardref01_Wide_trimmed.f k a0_0 t1013).bind fun bt1016 => (some (bt1016.1, bt1016.2)))) else ((tabardref01_Size.f k a0_0 l0_1 a1_0 l1_1).bind fun t1020 => (if t1020 ≥ 0 then ((tabardref01_minus.f k a0_0 l0_1 a1_0 l1_1).bind fun t1021 => ((tabardref01_Wide_trimmed.f k a0_0 t1021).bind fun bt1024 => (some (bt1024.1, bt1024.2)))) else ((tabardref01_minus.f k a1_0 l1_1 a0_0 l0_1).bind fun t1028 => ((tabardref01_Wide_trimmed.f k a1_0 t1028).bind fun bt1031 => (some (bt1031.1, bt1031.2))))))) = some (r1, r2) := h
  clear h
  by_cases c3 : (a0_0 == a1_0) = true
  · rw [if_pos c3] at H
    have c3b0 : (a0_0 == a1_0) = true := c3
    (try (have c3b1 : decide (a0_0 = a1_0) = true := by simpa using c3))
    (try (have c3b2 : (a0_0 == a1_0) = true := by simpa using c3))
    clear c3
    replace H := Option.bind_eq_some_iff.mp H
    obtain ⟨t1013, A40, H⟩ := H
    replace H : ((tabardref01_Wide_trimmed.f k a0_0 t1013).bind fun bt1016 => (some (bt1016.1, bt1016.2))) = some (r1, r2) := H
    have A4 := mk A40
    clear A40
    replace H := Option.bind_eq_some_iff.mp H
    obtain ⟨⟨t1016, t1017⟩, A50, H⟩ := H
    replace H : (some (t1016, t1017)) = some (r1, r2) := H
    have A5 := mk A50
    clear A50
    simp only [Option.some.injEq, Prod.mk.injEq] at H
    obtain ⟨rfl, rfl⟩ := H
    go_enter Try.func132, Try.ntmps132
    try go_wp2_with (first | ((with_reducible refine gate_dst (N := 2) rfl ?_); refine box_event ?hg (N := 2) ?hd (cs := #[.bool a0_0, .slice A0_1 l0_1.length c0_1]) (t := 160) ?hr ?_; (case hd => rfl); (case hg => rfl); (case hr => exact kq11); intro gb1010 hg w6 hbox hb; have BK1010 := mk (hbox); have GW1010 := (gs_ hg kq9); have GE1010 := GW1010; replace HB := mk (below_step kq9 hb); clear hb hbox hg) | ((with_reducible refine gate_dst (N := 3) rfl ?_); refine box_event ?hg (N := 3) ?hd (cs := #[.bool a1_0, .slice A1_1 l1_1.length c1_1]) (t := 160) ?hr ?_; (case hd => rfl); (case hg => rfl); (case hr => exact kq11); intro gb1011 hg w7 hbox hb; have BK1011 := mk (hbox); have GW1011 := (gs_ hg (kq16 GE1010)); have GE1011 := GW1011; have NB1010_1011 := (nl_ hg BK1010); have NB1011_1010 := (ng_ hg BK1010); replace BK1010 := (bb_ BK1010 hb); replace HB := mk (below_step (kq16 GE1010) hb); clear hb hbox hg) | ((with_reducible refine gate_dst (N := 4) rfl ?_); refine box_event ?hg (N := 4) ?hd (cs := #[.bool false, .slice none 0 0]) (t := 160) ?hr ?_; (case hd => rfl); (case hg => rfl); (case hr => exact kq11); intro gb1012 hg w8 hbox hb; have BK1012 := mk (hbox); have GW1012 := (gs_ hg (kq23 GE1010 GE1011)); have GE1012 := GW1012; have NB1010_1012 := (nl_ hg BK1010); have NB1012_1010 := (ng_ hg BK1010); have NB1011_1012 := (nl_ hg BK1011); have NB1012_1011 := (ng_ hg BK1011); replace BK1010 := (bb_ BK1010 hb); replace BK1011 := (bb_ BK1011 hb); replace HB := mk (below_step (kq23 GE1010 GE1011) hb); clear hb hbox hg; have hnb9 := NB1010_1011.out; have hnc9 := NB1011_1010.out; have hnb10 := NB1010_1012.out; have hnc10 := NB1012_1010.out; obtain ⟨_, _, _, _⟩ := cz2_ BK1010.out; have hnb12 := NB1011_1012.out; have hnc12 := NB1012_1011.out; obtain ⟨_, _, _, _⟩ := cz2_ BK1011.out))
    have n0_ := mk (blk_drew BK1010.out)
    have n1_ := mk (blk_drew BK1011.out)
    have n2_ := mk (blk_drew BK1012.out)
    have n3_ := mk (below_drew1 HB.out)
    clear BK1010
    clear BK1011
    clear BK1012
    clear HB
    have BK1010 := n0_
    have BK1011 := n1_
    have BK1012 := n2_
    have HB := n3_
    clear n0_ n1_ n2_ n3_
    refine start_ (n := 8) (S := fun w' => w'.cell? ⟨gb1010, 0, none⟩ = some (.bool a0_0) ∧ w'.cell? ⟨gb1010, 1, none⟩ = some (.slice A0_1 l0_1.length c0_1) ∧ w'.cell? ⟨gb1011, 0, none⟩ = some (.bool a1_0) ∧ w'.cell? ⟨gb1011, 1, none⟩ = some (.slice A1_1 l1_1.length c1_1)) (ds := []) #[false,false,false,false,false,false,false,false] kq0 rfl rfl ⟨(blk_cell BK1010.out 0).trans rfl, (blk_cell BK1010.out 1).trans rfl, (blk_cell BK1011.out 0).trans rfl, (blk_cell BK1011.out 1).trans rfl⟩ (fun hHeld => ?_); refine with_tabW tabardref01_Plus.tab2 tabardref01_Plus.bits2 (fun HT_ HW_ => ?_)
    generalize w8.drew = w14 at BK1010 BK1011 BK1012 HB hHeld ⊢
    refine puT_ 0 10 ?_
    refine taT_ 1 11 hHeld ?_
    refine taT_ 2 12 hHeld ?_
    refine taT_ 3 13 hHeld ?_
    refine onT_ 4 14 (fun K hK => ?_)
    refine goes_ Try.func169 kq0 rfl #[.agg #[.bool a0_0, .slice A0_1 l0_1.length c0_1], .agg #[.bool a1_0, .slice A1_1 l1_1.length c1_1]] (by rfl) rfl rfl kq7 ?_
    with_reducible refine (tabardref01_plus.calls k a0_0 _ _ l0_1 a1_0 _ _ l1_1 t1013 _ ?side1 ?side2 ?side3 ?side4 A4.out).mono ?_
    (case side1 => exact kq17 HR0_1)
    (case side2 => exact HC0_1.out)
    (case side3 => exact kq17 HR1_1)
    (case side4 => exact HC1_1.out)
    rintro e w15 ⟨v1014, rfl, ho0, hb⟩
    refine ⟨_, rfl, ?_⟩
    have n0_ := mk (Kd.R_lower (Kd.R_newM (M := fun k_ => (w.heap.size ≤ k_)) ho0 (below_size (kq28 GE1010 GE1011 GE1012)) (fun k_ h_ => h_)) (below_size (kq28 GE1010 GE1011 GE1012)))
    have n1_ := (bb_ BK1010 hb)
    have n2_ := (bb_ BK1011 hb)
    have n3_ := (bb_ BK1012 hb)
    have n4_ := mk (below_step (kq28 GE1010 GE1011 GE1012) hb)
    clear BK1010
    clear BK1011
    clear BK1012
    clear HB
    have HO1015 := n0_
    have BK1010 := n1_
    have BK1011 := n2_
    have BK1012 := n3_
    have HB := n4_
    clear n0_ n1_ n2_ n3_ n4_
    obtain ⟨Ao16, co16, eo16⟩ := Kd.R_slice HO1015.out
    (first | subst eo16 | (injection eo16 with f1_ f2_ f3_; have f4_ := f1_.symm; have f5_ := f3_.symm; clear f1_ f2_ f3_; subst f4_; subst f5_))
    refine hK.out _ _ ⟨(blk_cell BK1010.out 0).trans rfl, (blk_cell BK1010.out 1).trans rfl, (blk_cell BK1011.out 0).trans rfl, (blk_cell BK1011.out 1).trans rfl⟩ (fun hHeld => ?_)
    clear hK K
    refine norm_ (a' := ?_) ?_ ?_
    rotate_left
    · (show Act.put _ (some 14) _ = _); (simp only [Act.put, setIfInBounds_toArray, set_cons_zero, set_cons_succ, i64_w, i32_w]); rfl
    refine puT_ 5 15 ?_
    refine onT_ 6 16 (fun K hK => ?_)
    refine goes_ Try.func170 kq0 rfl #[.agg #[.bool a0_0, .slice Ao16 t1013.length co16]] (by rfl) rfl rfl kq7 ?_
    with_reducible refine (tabardref01_Wide_trimmed.calls k a0_0 (fun k_ => some k_ = (.slice Ao16 t1013.length co16 : Value).ownBlock) _ _ t1013 t1016 t1017 _ ?side1 A5.out).mono ?_
    (case side1 => exact kq29 HO1015 BK1010 BK1011 BK1012)
    rintro e w17 ⟨v1018, rfl, ho0, hb⟩
    refine ⟨_, rfl, ?_⟩
    have n0_ := mk (Kd.R_below (kq15 HO1015) hb)
    have n1_ := mk (Kd.V_lower (Kd.V_mono (ok' := fun k_ => (w.heap.size ≤ k_) ∧ k_ ≠ gb1010 ∧ k_ ≠ gb1011 ∧ k_ ≠ gb1012) ho0 (fun k_ hk_ => ⟨Or.elim hk_ (fun hs_ => ((Kd.R_types (Kd.R_types (Kd.R_types (HO1015.out) BK1010.out kq2) BK1011.out kq2) BK1012.out kq2).1 k_ hs_.symm).1.1.1.1) (fun hn_ => (Nat.le_trans (below_size (kq28 GE1010 GE1011 GE1012)) hn_)), Or.elim hk_ (fun hs_ => ((Kd.R_types (Kd.R_types (Kd.R_types (HO1015.out) BK1010.out kq2) BK1011.out kq2) BK1012.out kq2).1 k_ hs_.symm).1.1.2) (fun hn_ => (Kd.freshB (g := gb1010) (o := .cells #[.bool a0_0, .slice A0_1 l0_1.length c0_1] 160 (0, 0)) (kq18 BK1010) k_ hn_)), Or.elim hk_ (fun hs_ => ((Kd.R_types (Kd.R_types (Kd.R_types (HO1015.out) BK1010.out kq2) BK1011.out kq2) BK1012.out kq2).1 k_ hs_.symm).1.2) (fun hn_ => (Kd.freshB (g := gb1011) (o := .cells #[.bool a1_0, .slice A1_1 l1_1.length c1_1] 160 (0, 0)) (kq18 BK1011) k_ hn_)), Or.elim hk_ (fun hs_ => ((Kd.R_types (Kd.R_types (Kd.R_types (HO1015.out) BK1010.out kq2) BK1011.out kq2) BK1012.out kq2).1 k_ hs_.symm).2) (fun hn_ => (Kd.freshB (g := gb1012) (o := .cells #[.bool false, .slice none 0 0] 160 (0, 0)) (kq18 BK1012) k_ hn_))⟩)) (below_size (kq28 GE1010 GE1011 GE1012)))
    have n2_ := (bb_ BK1010 hb)
    have n3_ := (bb_ BK1011 hb)
    have n4_ := (bb_ BK1012 hb)
    have n5_ := mk (below_step (kq28 GE1010 GE1011 GE1012) hb)
    clear HO1015
    clear BK1010
    clear BK1011
    clear BK1012
    clear HB
    have HO1015 := n0_
    have HO1019 := n1_
    have BK1010 := n2_
    have BK1011 := n3_
    have BK1012 := n4_
    have HB := n5_
    clear n0_ n1_ n2_ n3_ n4_ n5_
    obtain ⟨Ao19, co19, eo19⟩ := Kd.V_slice HO1019.out
    (first | subst eo19 | (injection eo19 with f1_ f2_ f3_; have f4_ := f1_.symm; have f5_ := f3_.symm; clear f1_ f2_ f3_; subst f4_; subst f5_))
    refine hK.out _ _ ⟨(blk_cell BK1010.out 0).trans rfl, (blk_cell BK1010.out 1).trans rfl, (blk_cell BK1011.out 0).trans rfl, (blk_cell BK1011.out 1).trans rfl⟩ (fun hHeld => ?_)
    clear hK K
    refine norm_ (a' := ?_) ?_ ?_
    rotate_left
    · (show Act.put _ (some 16) _ = _); (simp only [Act.put, setIfInBounds_toArray, set_cons_zero, set_cons_succ, i64_w, i32_w]); rfl
    refine one_ (i := 7) (N := none) #[true,true,true,true,true,true,true,true] rfl rfl (one_of HT_.out kq0) kq2 (fun K hK => ?_)
    have hs18 : w17.cell? ⟨gb1012, 0, none⟩ = some (.bool false) := (blk_cell BK1012.out 0).trans rfl
    have hfs18 := blk_frozen BK1012.out 0
    have hns18_0 := NB1010_1012.out
    have hns18_1 := NB1011_1012.out
    have hms18_0 := NB1012_1010.out
    have hms18_1 := NB1012_1011.out
    have hs20 : w17.cell? ⟨gb1012, 1, none⟩ = some (.slice none 0 0) := (blk_cell BK1012.out 1).trans rfl
    have hfs20 := blk_frozen BK1012.out 1
    have hns20_0 := NB1010_1012.out
    have hns20_1 := NB1011_1012.out
    have hms20_0 := NB1012_1010.out
    have hms20_1 := NB1012_1011.out
    refine skip_ (w1 := ?_) (by rfl) rfl ?_ ?_
    rotate_left
    · go_simp; rfl
    refine hK.out _ _ ⟨((cell_far (p := ⟨gb1012, _, none⟩) NB1010_1012.out _).trans (((cell_far (p := ⟨gb1012, _, none⟩) NB1010_1012.out _).trans (hHeld.1)))), ((cell_far (p := ⟨gb1012, _, none⟩) NB1010_1012.out _).trans (((cell_far (p := ⟨gb1012, _, none⟩) NB1010_1012.out _).trans (hHeld.2.1)))), ((cell_far (p := ⟨gb1012, _, none⟩) NB1011_1012.out _).trans (((cell_far (p := ⟨gb1012, _, none⟩) NB1011_1012.out _).trans (hHeld.2.2.1)))), ((cell_far (p := ⟨gb1012, _, none⟩) NB1011_1012.out _).trans (((cell_far (p := ⟨gb1012, _, none⟩) NB1011_1012.out _).trans (hHeld.2.2.2))))⟩ (fun hHeld => ?_)
    clear hK K
    refine done_ (done_of HT_.out kq0) ?_
    try go_wp2
    refine bodyPost_ret (results_cell_row rfl _ _ gb1012 160 #[.bool t1016, .slice Ao19 t1017.length co19] (0, 0) _ rfl (by (with_reducible repeat (first | refine blk_drewN ?_ _ | refine blk_drew ?_ | refine blk_alloc ?_ _)); refine blk_put (cs := #[.bool t1016, .slice none 0 0]) ?_ 1 _ rfl; (with_reducible repeat (first | refine blk_drewN ?_ _ | refine blk_drew ?_ | refine blk_alloc ?_ _)); refine blk_put (cs := #[.bool false, .slice none 0 0]) ?_ 0 _ rfl; (with_reducible repeat (first | refine blk_drewN ?_ _ | refine blk_drew ?_ | refine blk_alloc ?_ _)); exact BK1012.out) Try.underlying160 rfl kq0) rfl ?_
    exact ⟨_, kq14, by (with_reducible repeat (first | apply Kd.V_alloc | apply Kd.V_drewN | apply Kd.V_drew)); exact Kd.V_mono (Kd.V_far (p := ⟨gb1012, 1, none⟩) (Kd.V_far (p := ⟨gb1012, 0, none⟩) (Kd.V_mono HO1019.out (fun k_ hk => (⟨hk, hk.2.2.2⟩ : _ ∧ k_ ≠ gb1012))) (fun _ hk => hk.2) (.bool t1016)) (fun _ hk => hk.2) (.slice Ao19 t1017.length co19)) (fun _ hk => hk.1.1), (kq28 GE1010 GE1011 GE1012)⟩
  · rw [if_neg c3] at H
    have c3b0 : (a0_0 == a1_0) = false := by simpa using c3
    (try (have c3b1 : decide (a0_0 = a1_0) = false := by simpa using c3))
    (try (have c3b2 : (a0_0 == a1_0) = false := by simpa using c3))
    (try (have c3b3 : ¬ (a0_0 = a1_0) := by simpa using c3))
    clear c3
    replace H := Option.bind_eq_some_iff.mp H
    obtain ⟨t1020, A210, H⟩ := H
    replace H : (if t1020 ≥ 0 then ((tabardref01_minus.f k a0_0 l0_1 a1_0 l1_1).bind fun t1021 => ((tabardref01_Wide_trimmed.f k a0_0 t1021).bind fun bt1024 => (some (bt1024.1, bt1024.2)))) else ((tabardref01_minus.f k a1_0 l1_1 a0_0 l0_1).bind fun t1028 => ((tabardref01_Wide_trimmed.f k a1_0 t1028).bind fun bt1031 => (some (bt1031.1, bt1031.2))))) = some (r1, r2) := H
    have A21 := mk A210
    clear A210
    replace H := ic_ H; obtain ⟨c22, H⟩ | ⟨c22, H⟩ := H
    · (have c22b0 : decide (0 ≤ t1020) = true := decide_eq_true c22); clear c22; (replace H := Option.bind_eq_some_iff.mp H); (obtain ⟨t1021, A230, H⟩ := H); (replace H : ((tabardref01_Wide_trimmed.f k a0_0 t1021).bind fun bt1024 => (some (bt1024.1, bt1024.2))) = some (r1, r2) := H); (have A23 := mk A230); clear A230; (replace H := Option.bind_eq_some_iff.mp H); (obtain ⟨⟨t1024, t1025⟩, A240, H⟩ := H); (replace H : (some (t1024, t1025)) = some (r1, r2) := H); (have A24 := mk A240); clear A240; (simp only [Option.some.injEq, Prod.mk.injEq] at H); (obtain ⟨rfl, rfl⟩ := H); (go_enter Try.func132, Try.ntmps132); (try go_wp2_with (first | ((with_reducible refine gate_dst (N := 2) rfl ?_); refine box_event ?hg (N := 2) ?hd (cs := #[.bool a0_0, .slice A0_1 l0_1.length c0_1]) (t := 160) ?hr ?_; (case hd => rfl); (case hg => rfl); (case hr => exact kq11); intro gb1010 hg w25 hbox hb; have BK1010 := mk (hbox); have GW1010 := (gs_ hg kq9); have GE1010 := GW1010; replace HB := mk (below_step kq9 hb); clear hb hbox hg) | ((with_reducible refine gate_dst (N := 3) rfl ?_); refine box_event ?hg (N := 3) ?hd (cs := #[.bool a1_0, .slice A1_1 l1_1.length c1_1]) (t := 160) ?hr ?_; (case hd => rfl); (case hg => rfl); (case hr => exact kq11); intro gb1011 hg w26 hbox hb; have BK1011 := mk (hbox); have GW1011 := (gs_ hg (kq16 GE1010)); have GE1011 := GW1011; have NB1010_1011 := (nl_ hg BK1010); have NB1011_1010 := (ng_ hg BK1010); replace BK1010 := (bb_ BK1010 hb); replace HB := mk (below_step (kq16 GE1010) hb); clear hb hbox hg) | ((with_reducible refine gate_dst (N := 4) rfl ?_); refine box_event ?hg (N := 4) ?hd (cs := #[.bool false, .slice none 0 0]) (t := 160) ?hr ?_; (case hd => rfl); (case hg => rfl); (case hr => exact kq11); intro gb1012 hg w27 hbox hb; have BK1012 := mk (hbox); have GW1012 := (gs_ hg (kq23 GE1010 GE1011)); have GE1012 := GW1012; have NB1010_1012 := (nl_ hg BK1010); have NB1012_1010 := (ng_ hg BK1010); have NB1011_1012 := (nl_ hg BK1011); have NB1012_1011 := (ng_ hg BK1011); replace BK1010 := (bb_ BK1010 hb); replace BK1011 := (bb_ BK1011 hb); replace HB := mk (below_step (kq23 GE1010 GE1011) hb); clear hb hbox hg; have hnb28 := NB1010_1011.out; have hnc28 := NB1011_1010.out; have hnb29 := NB1010_1012.out; have hnc29 := NB1012_1010.out; obtain ⟨_, _, _, _⟩ := cz2_ BK1010.out; have hnb31 := NB1011_1012.out; have hnc31 := NB1012_1011.out; obtain ⟨_, _, _, _⟩ := cz2_ BK1011.out) | ((with_reducible refine gate_callee (f := 171) rfl ?_); refine goesL_ (some 19) rfl rfl Try.func171 kq0 rfl #[.agg #[.bool a0_0, .slice A0_1 l0_1.length c0_1], .agg #[.bool a1_0, .slice A1_1 l1_1.length c1_1]] rfl kq7 ?_; (with_reducible refine (tabardref01_Size.calls k a0_0 _ _ l0_1 a1_0 _ _ l1_1 t1020 _ ?side1 ?side2 ?side3 ?side4 A21.out).mono ?_); (case side1 => exact kq17 HR0_1); (case side2 => exact HC0_1.out); (case side3 => exact kq17 HR1_1); (case side4 => exact HC1_1.out); rintro e w33 ⟨rfl, hb⟩; refine ⟨_, rfl, ?_⟩; replace BK1010 := (bb_ BK1010 hb); replace BK1011 := (bb_ BK1011 hb); replace BK1012 := (bb_ BK1012 hb); replace HB := mk (below_step (kq28 GE1010 GE1011 GE1012) hb)))); (replace BK1010 := mk (blk_drew BK1010.out)); (replace BK1011 := mk (blk_drew BK1011.out)); (replace BK1012 := mk (blk_drew BK1012.out)); (replace HB := mk (below_drew1 HB.out)); (refine start_ (n := 8) (S := fun w' => w'.cell? ⟨gb1010, 0, none⟩ = some (.bool a0_0) ∧ w'.cell? ⟨gb1010, 1, none⟩ = some (.slice A0_1 l0_1.length c0_1) ∧ w'.cell? ⟨gb1011, 0, none⟩ = some (.bool a1_0) ∧ w'.cell? ⟨gb1011, 1, none⟩ = some (.slice A1_1 l1_1.length c1_1)) (ds := []) #[false,false,false,false,false,false,false,false] kq0 rfl rfl ⟨(blk_cell BK1010.out 0).trans rfl, (blk_cell BK1010.out 1).trans rfl, (blk_cell BK1011.out 0).trans rfl, (blk_cell BK1011.out 1).trans rfl⟩ (fun hHeld => ?_); refine with_tabW tabardref01_Plus.tab4 tabardref01_Plus.bits4 (fun HT_ HW_ => ?_)); (generalize w33.drew = w34 at BK1010 BK1011 BK1012 HB hHeld ⊢); refine puT_ 0 21 ?_
      refine taT_ 1 22 hHeld ?_
      refine taT_ 2 23 hHeld ?_
      refine taT_ 3 24 hHeld ?_
      (refine onT_ 4 25 (fun K hK => ?_)); (refine goes_ Try.func172 kq0 rfl #[.agg #[.bool a0_0, .slice A0_1 l0_1.length c0_1], .agg #[.bool a1_0, .slice A1_1 l1_1.length c1_1]] (by rfl) rfl rfl kq7 ?_); (with_reducible refine (tabardref01_minus.calls k a0_0 _ _ l0_1 a1_0 _ _ l1_1 t1021 _ ?side1 ?side2 ?side3 ?side4 A23.out).mono ?_); ((case side1 => exact kq17 HR0_1)); ((case side2 => exact HC0_1.out)); ((case side3 => exact kq17 HR1_1)); ((case side4 => exact HC1_1.out)); (rintro e w35 ⟨v1022, rfl, ho0, hb⟩); (refine ⟨_, rfl, ?_⟩); (have HO1023 := mk (Kd.R_lower (Kd.R_newM (M := fun k_ => (w.heap.size ≤ k_)) ho0 (below_size (kq28 GE1010 GE1011 GE1012)) (fun k_ h_ => h_)) (below_size (kq28 GE1010 GE1011 GE1012)))); (replace BK1010 := (bb_ BK1010 hb)); (replace BK1011 := (bb_ BK1011 hb)); (replace BK1012 := (bb_ BK1012 hb)); (replace HB := mk (below_step (kq28 GE1010 GE1011 GE1012) hb)); ((try clear hb)); ((try clear hb2)); ((try clear hk)); ((try clear hi)); ((try clear ho0)); (obtain ⟨Ao36, co36, eo36⟩ := Kd.R_slice HO1023.out); ((first | subst eo36 | (injection eo36 with f1_ f2_ f3_; have f4_ := f1_.symm; have f5_ := f3_.symm; clear f1_ f2_ f3_; subst f4_; subst f5_))); (refine hK.out _ _ ⟨(blk_cell BK1010.out 0).trans rfl, (blk_cell BK1010.out 1).trans rfl, (blk_cell BK1011.out 0).trans rfl, (blk_cell BK1011.out 1).trans rfl⟩ (fun hHeld => ?_)); clear hK K; (refine norm_ (a' := ?_) ?_ ?_); rotate_left
      · (show Act.put _ (some 25) _ = _); (simp only [Act.put, setIfInBounds_toArray, set_cons_zero, set_cons_succ, i64_w, i32_w]); rfl
      refine puT_ 5 26 ?_
      (refine onT_ 6 27 (fun K hK => ?_)); (refine goes_ Try.func170 kq0 rfl #[.agg #[.bool a0_0, .slice Ao36 t1021.length co36]] (by rfl) rfl rfl kq7 ?_); (with_reducible refine (tabardref01_Wide_trimmed.calls k a0_0 (fun k_ => some k_ = (.slice Ao36 t1021.length co36 : Value).ownBlock) _ _ t1021 t1024 t1025 _ ?side1 A24.out).mono ?_); ((case side1 => exact kq29 HO1023 BK1010 BK1011 BK1012)); (rintro e w37 ⟨v1026, rfl, ho0, hb⟩); (refine ⟨_, rfl, ?_⟩); (have HO1027 := mk (Kd.V_lower (Kd.V_mono (ok' := fun k_ => (w.heap.size ≤ k_) ∧ k_ ≠ gb1010 ∧ k_ ≠ gb1011 ∧ k_ ≠ gb1012) ho0 (fun k_ hk_ => ⟨Or.elim hk_ (fun hs_ => ((Kd.R_types (Kd.R_types (Kd.R_types (HO1023.out) BK1010.out kq2) BK1011.out kq2) BK1012.out kq2).1 k_ hs_.symm).1.1.1.1) (fun hn_ => (Nat.le_trans (below_size (kq28 GE1010 GE1011 GE1012)) hn_)), Or.elim hk_ (fun hs_ => ((Kd.R_types (Kd.R_types (Kd.R_types (HO1023.out) BK1010.out kq2) BK1011.out kq2) BK1012.out kq2).1 k_ hs_.symm).1.1.2) (fun hn_ => (Kd.freshB (g := gb1010) (o := .cells #[.bool a0_0, .slice A0_1 l0_1.length c0_1] 160 (0, 0)) (kq18 BK1010) k_ hn_)), Or.elim hk_ (fun hs_ => ((Kd.R_types (Kd.R_types (Kd.R_types (HO1023.out) BK1010.out kq2) BK1011.out kq2) BK1012.out kq2).1 k_ hs_.symm).1.2) (fun hn_ => (Kd.freshB (g := gb1011) (o := .cells #[.bool a1_0, .slice A1_1 l1_1.length c1_1] 160 (0, 0)) (kq18 BK1011) k_ hn_)), Or.elim hk_ (fun hs_ => ((Kd.R_types (Kd.R_types (Kd.R_types (HO1023.out) BK1010.out kq2) BK1011.out kq2) BK1012.out kq2).1 k_ hs_.symm).2) (fun hn_ => (Kd.freshB (g := gb1012) (o := .cells #[.bool false, .slice none 0 0] 160 (0, 0)) (kq18 BK1012) k_ hn_))⟩)) (below_size (kq28 GE1010 GE1011 GE1012)))); (replace HO1023 := mk (Kd.R_below (kq15 HO1023) hb)); (replace BK1010 := (bb_ BK1010 hb)); (replace BK1011 := (bb_ BK1011 hb)); (replace BK1012 := (bb_ BK1012 hb)); (replace HB := mk (below_step (kq28 GE1010 GE1011 GE1012) hb)); ((try clear hb)); ((try clear hb2)); ((try clear hk)); ((try clear hi)); ((try clear ho0)); (obtain ⟨Ao39, co39, eo39⟩ := Kd.V_slice HO1027.out); ((first | subst eo39 | (injection eo39 with f1_ f2_ f3_; have f4_ := f1_.symm; have f5_ := f3_.symm; clear f1_ f2_ f3_; subst f4_; subst f5_))); (refine hK.out _ _ ⟨(blk_cell BK1010.out 0).trans rfl, (blk_cell BK1010.out 1).trans rfl, (blk_cell BK1011.out 0).trans rfl, (blk_cell BK1011.out 1).trans rfl⟩ (fun hHeld => ?_)); clear hK K; (refine norm_ (a' := ?_) ?_ ?_); rotate_left
      · (show Act.put _ (some 27) _ = _); (simp only [Act.put, setIfInBounds_toArray, set_cons_zero, set_cons_succ, i64_w, i32_w]); rfl
      (refine one_ (i := 7) (N := none) #[true,true,true,true,true,true,true,true] rfl rfl (one_of HT_.out kq0) kq2 (fun K hK => ?_)); (have hs38 : w37.cell? ⟨gb1012, 0, none⟩ = some (.bool false) := (blk_cell BK1012.out 0).trans rfl); (have hfs38 := blk_frozen BK1012.out 0); (have hns38_0 := NB1010_1012.out); (have hns38_1 := NB1011_1012.out); (have hms38_0 := NB1012_1010.out); (have hms38_1 := NB1012_1011.out); (have hs40 : w37.cell? ⟨gb1012, 1, none⟩ = some (.slice none 0 0) := (blk_cell BK1012.out 1).trans rfl); (have hfs40 := blk_frozen BK1012.out 1); (have hns40_0 := NB1010_1012.out); (have hns40_1 := NB1011_1012.out); (have hms40_0 := NB1012_1010.out); (have hms40_1 := NB1012_1011.out); (refine skip_ (w1 := ?_) (by rfl) rfl ?_ ?_); rotate_left
      · go_simp; rfl
      (refine hK.out _ _ ⟨((cell_far (p := ⟨gb1012, _, none⟩) NB1010_1012.out _).trans (((cell_far (p := ⟨gb1012, _, none⟩) NB1010_1012.out _).trans (hHeld.1)))), ((cell_far (p := ⟨gb1012, _, none⟩) NB1010_1012.out _).trans (((cell_far (p := ⟨gb1012, _, none⟩) NB1010_1012.out _).trans (hHeld.2.1)))), ((cell_far (p := ⟨gb1012, _, none⟩) NB1011_1012.out _).trans (((cell_far (p := ⟨gb1012, _, none⟩) NB1011_1012.out _).trans (hHeld.2.2.1)))), ((cell_far (p := ⟨gb1012, _, none⟩) NB1011_1012.out _).trans (((cell_far (p := ⟨gb1012, _, none⟩) NB1011_1012.out _).trans (hHeld.2.2.2))))⟩ (fun hHeld => ?_)); clear hK K; (refine done_ (done_of HT_.out kq0) ?_); (try go_wp2); (refine bodyPost_ret (results_cell_row rfl _ _ gb1012 160 #[.bool t1024, .slice Ao39 t1025.length co39] (0, 0) _ rfl (by (with_reducible repeat (first | refine blk_drewN ?_ _ | refine blk_drew ?_ | refine blk_alloc ?_ _)); refine blk_put (cs := #[.bool t1024, .slice none 0 0]) ?_ 1 _ rfl; (with_reducible repeat (first | refine blk_drewN ?_ _ | refine blk_drew ?_ | refine blk_alloc ?_ _)); refine blk_put (cs := #[.bool false, .slice none 0 0]) ?_ 0 _ rfl; (with_reducible repeat (first | refine blk_drewN ?_ _ | refine blk_drew ?_ | refine blk_alloc ?_ _)); exact BK1012.out) Try.underlying160 rfl kq0) rfl ?_); (exact ⟨_, kq14, by (with_reducible repeat (first | apply Kd.V_alloc | apply Kd.V_drewN | apply Kd.V_drew)); exact Kd.V_mono (Kd.V_far (p := ⟨gb1012, 1, none⟩) (Kd.V_far (p := ⟨gb1012, 0, none⟩) (Kd.V_mono HO1027.out (fun k_ hk => (⟨hk, hk.2.2.2⟩ : _ ∧ k_ ≠ gb1012))) (fun _ hk => hk.2) (.bool t1024)) (fun _ hk => hk.2) (.slice Ao39 t1025.length co39)) (fun _ hk => hk.1.1), (kq28 GE1010 GE1011 GE1012)⟩)
    · (have c22b0 : decide (0 ≤ t1020) = false := decide_eq_false c22); clear c22; (replace H := Option.bind_eq_some_iff.mp H); (obtain ⟨t1028, A410, H⟩ := H); (replace H : ((tabardref01_Wide_trimmed.f k a1_0 t1028).bind fun bt1031 => (some (bt1031.1, bt1031.2))) = some (r1, r2) := H); (have A41 := mk A410); clear A410; (replace H := Option.bind_eq_some_iff.mp H); (obtain ⟨⟨t1031, t1032⟩, A420, H⟩ := H); (replace H : (some (t1031, t1032)) = some (r1, r2) := H); (have A42 := mk A420); clear A420; (simp only [Option.some.injEq, Prod.mk.injEq] at H); (obtain ⟨rfl, rfl⟩ := H); (go_enter Try.func132, Try.ntmps132); (try go_wp2_with (first | ((with_reducible refine gate_dst (N := 2) rfl ?_); refine box_event ?hg (N := 2) ?hd (cs := #[.bool a0_0, .slice A0_1 l0_1.length c0_1]) (t := 160) ?hr ?_; (case hd => rfl); (case hg => rfl); (case hr => exact kq11); intro gb1010 hg w43 hbox hb; have BK1010 := mk (hbox); have GW1010 := (gs_ hg kq9); have GE1010 := GW1010; replace HB := mk (below_step kq9 hb); clear hb hbox hg) | ((with_reducible refine gate_dst (N := 3) rfl ?_); refine box_event ?hg (N := 3) ?hd (cs := #[.bool a1_0, .slice A1_1 l1_1.length c1_1]) (t := 160) ?hr ?_; (case hd => rfl); (case hg => rfl); (case hr => exact kq11); intro gb1011 hg w44 hbox hb; have BK1011 := mk (hbox); have GW1011 := (gs_ hg (kq16 GE1010)); have GE1011 := GW1011; have NB1010_1011 := (nl_ hg BK1010); have NB1011_1010 := (ng_ hg BK1010); replace BK1010 := (bb_ BK1010 hb); replace HB := mk (below_step (kq16 GE1010) hb); clear hb hbox hg) | ((with_reducible refine gate_dst (N := 4) rfl ?_); refine box_event ?hg (N := 4) ?hd (cs := #[.bool false, .slice none 0 0]) (t := 160) ?hr ?_; (case hd => rfl); (case hg => rfl); (case hr => exact kq11); intro gb1012 hg w45 hbox hb; have BK1012 := mk (hbox); have GW1012 := (gs_ hg (kq23 GE1010 GE1011)); have GE1012 := GW1012; have NB1010_1012 := (nl_ hg BK1010); have NB1012_1010 := (ng_ hg BK1010); have NB1011_1012 := (nl_ hg BK1011); have NB1012_1011 := (ng_ hg BK1011); replace BK1010 := (bb_ BK1010 hb); replace BK1011 := (bb_ BK1011 hb); replace HB := mk (below_step (kq23 GE1010 GE1011) hb); clear hb hbox hg; have hnb46 := NB1010_1011.out; have hnc46 := NB1011_1010.out; have hnb47 := NB1010_1012.out; have hnc47 := NB1012_1010.out; obtain ⟨_, _, _, _⟩ := cz2_ BK1010.out; have hnb49 := NB1011_1012.out; have hnc49 := NB1012_1011.out; obtain ⟨_, _, _, _⟩ := cz2_ BK1011.out) | ((with_reducible refine gate_callee (f := 171) rfl ?_); refine goesL_ (some 19) rfl rfl Try.func171 kq0 rfl #[.agg #[.bool a0_0, .slice A0_1 l0_1.length c0_1], .agg #[.bool a1_0, .slice A1_1 l1_1.length c1_1]] rfl kq7 ?_; (with_reducible refine (tabardref01_Size.calls k a0_0 _ _ l0_1 a1_0 _ _ l1_1 t1020 _ ?side1 ?side2 ?side3 ?side4 A21.out).mono ?_); (case side1 => exact kq17 HR0_1); (case side2 => exact HC0_1.out); (case side3 => exact kq17 HR1_1); (case side4 => exact HC1_1.out); rintro e w51 ⟨rfl, hb⟩; refine ⟨_, rfl, ?_⟩; replace BK1010 := (bb_ BK1010 hb); replace BK1011 := (bb_ BK1011 hb); replace BK1012 := (bb_ BK1012 hb); replace HB := mk (below_step (kq28 GE1010 GE1011 GE1012) hb)))); (replace BK1010 := mk (blk_drew BK1010.out)); (replace BK1011 := mk (blk_drew BK1011.out)); (replace BK1012 := mk (blk_drew BK1012.out)); (replace HB := mk (below_drew1 HB.out)); (refine start_ (n := 8) (S := fun w' => w'.cell? ⟨gb1011, 0, none⟩ = some (.bool a1_0) ∧ w'.cell? ⟨gb1011, 1, none⟩ = some (.slice A1_1 l1_1.length c1_1) ∧ w'.cell? ⟨gb1010, 0, none⟩ = some (.bool a0_0) ∧ w'.cell? ⟨gb1010, 1, none⟩ = some (.slice A0_1 l0_1.length c0_1)) (ds := []) #[false,false,false,false,false,false,false,false] kq0 rfl rfl ⟨(blk_cell BK1011.out 0).trans rfl, (blk_cell BK1011.out 1).trans rfl, (blk_cell BK1010.out 0).trans rfl, (blk_cell BK1010.out 1).trans rfl⟩ (fun hHeld => ?_); refine with_tabW tabardref01_Plus.tab5 tabardref01_Plus.bits5 (fun HT_ HW_ => ?_)); (generalize w51.drew = w52 at BK1010 BK1011 BK1012 HB hHeld ⊢); refine puT_ 0 28 ?_
      refine taT_ 1 29 hHeld ?_
      refine taT_ 2 30 hHeld ?_
      refine taT_ 3 31 hHeld ?_
      (refine onT_ 4 32 (fun K hK => ?_)); (refine goes_ Try.func172 kq0 rfl #[.agg #[.bool a1_0, .slice A1_1 l1_1.length c1_1], .agg #[.bool a0_0, .slice A0_1 l0_1.length c0_1]] (by rfl) rfl rfl kq7 ?_); (with_reducible refine (tabardref01_minus.calls k a1_0 _ _ l1_1 a0_0 _ _ l0_1 t1028 _ ?side1 ?side2 ?side3 ?side4 A41.out).mono ?_); ((case side1 => exact kq17 HR1_1)); ((case side2 => exact HC1_1.out)); ((case side3 => exact kq17 HR0_1)); ((case side4 => exact HC0_1.out)); (rintro e w53 ⟨v1029, rfl, ho0, hb⟩); (refine ⟨_, rfl, ?_⟩); (have HO1030 := mk (Kd.R_lower (Kd.R_newM (M := fun k_ => (w.heap.size ≤ k_)) ho0 (below_size (kq28 GE1010 GE1011 GE1012)) (fun k_ h_ => h_)) (below_size (kq28 GE1010 GE1011 GE1012)))); (replace BK1010 := (bb_ BK1010 hb)); (replace BK1011 := (bb_ BK1011 hb)); (replace BK1012 := (bb_ BK1012 hb)); (replace HB := mk (below_step (kq28 GE1010 GE1011 GE1012) hb)); ((try clear hb)); ((try clear hb2)); ((try clear hk)); ((try clear hi)); ((try clear ho0)); (obtain ⟨Ao54, co54, eo54⟩ := Kd.R_slice HO1030.out); ((first | subst eo54 | (injection eo54 with f1_ f2_ f3_; have f4_ := f1_.symm; have f5_ := f3_.symm; clear f1_ f2_ f3_; subst f4_; subst f5_))); (refine hK.out _ _ ⟨(blk_cell BK1011.out 0).trans rfl, (blk_cell BK1011.out 1).trans rfl, (blk_cell BK1010.out 0).trans rfl, (blk_cell BK1010.out 1).trans rfl⟩ (fun hHeld => ?_)); clear hK K; (refine norm_ (a' := ?_) ?_ ?_); rotate_left
      · (show Act.put _ (some 32) _ = _); (simp only [Act.put, setIfInBounds_toArray, set_cons_zero, set_cons_succ, i64_w, i32_w]); rfl
      refine puT_ 5 33 ?_
      (refine onT_ 6 34 (fun K hK => ?_)); (refine goes_ Try.func170 kq0 rfl #[.agg #[.bool a1_0, .slice Ao54 t1028.length co54]] (by rfl) rfl rfl kq7 ?_); (with_reducible refine (tabardref01_Wide_trimmed.calls k a1_0 (fun k_ => some k_ = (.slice Ao54 t1028.length co54 : Value).ownBlock) _ _ t1028 t1031 t1032 _ ?side1 A42.out).mono ?_); ((case side1 => exact kq29 HO1030 BK1010 BK1011 BK1012)); (rintro e w55 ⟨v1033, rfl, ho0, hb⟩); (refine ⟨_, rfl, ?_⟩); (have HO1034 := mk (Kd.V_lower (Kd.V_mono (ok' := fun k_ => (w.heap.size ≤ k_) ∧ k_ ≠ gb1010 ∧ k_ ≠ gb1011 ∧ k_ ≠ gb1012) ho0 (fun k_ hk_ => ⟨Or.elim hk_ (fun hs_ => ((Kd.R_types (Kd.R_types (Kd.R_types (HO1030.out) BK1010.out kq2) BK1011.out kq2) BK1012.out kq2).1 k_ hs_.symm).1.1.1.1) (fun hn_ => (Nat.le_trans (below_size (kq28 GE1010 GE1011 GE1012)) hn_)), Or.elim hk_ (fun hs_ => ((Kd.R_types (Kd.R_types (Kd.R_types (HO1030.out) BK1010.out kq2) BK1011.out kq2) BK1012.out kq2).1 k_ hs_.symm).1.1.2) (fun hn_ => (Kd.freshB (g := gb1010) (o := .cells #[.bool a0_0, .slice A0_1 l0_1.length c0_1] 160 (0, 0)) (kq18 BK1010) k_ hn_)), Or.elim hk_ (fun hs_ => ((Kd.R_types (Kd.R_types (Kd.R_types (HO1030.out) BK1010.out kq2) BK1011.out kq2) BK1012.out kq2).1 k_ hs_.symm).1.2) (fun hn_ => (Kd.freshB (g := gb1011) (o := .cells #[.bool a1_0, .slice A1_1 l1_1.length c1_1] 160 (0, 0)) (kq18 BK1011) k_ hn_)), Or.elim hk_ (fun hs_ => ((Kd.R_types (Kd.R_types (Kd.R_types (HO1030.out) BK1010.out kq2) BK1011.out kq2) BK1012.out kq2).1 k_ hs_.symm).2) (fun hn_ => (Kd.freshB (g := gb1012) (o := .cells #[.bool false, .slice none 0 0] 160 (0, 0)) (kq18 BK1012) k_ hn_))⟩)) (below_size (kq28 GE1010 GE1011 GE1012)))); (replace HO1030 := mk (Kd.R_below (kq15 HO1030) hb)); (replace BK1010 := (bb_ BK1010 hb)); (replace BK1011 := (bb_ BK1011 hb)); (replace BK1012 := (bb_ BK1012 hb)); (replace HB := mk (below_step (kq28 GE1010 GE1011 GE1012) hb)); ((try clear hb)); ((try clear hb2)); ((try clear hk)); ((try clear hi)); ((try clear ho0)); (obtain ⟨Ao57, co57, eo57⟩ := Kd.V_slice HO1034.out); ((first | subst eo57 | (injection eo57 with f1_ f2_ f3_; have f4_ := f1_.symm; have f5_ := f3_.symm; clear f1_ f2_ f3_; subst f4_; subst f5_))); (refine hK.out _ _ ⟨(blk_cell BK1011.out 0).trans rfl, (blk_cell BK1011.out 1).trans rfl, (blk_cell BK1010.out 0).trans rfl, (blk_cell BK1010.out 1).trans rfl⟩ (fun hHeld => ?_)); clear hK K; (refine norm_ (a' := ?_) ?_ ?_); rotate_left
      · (show Act.put _ (some 34) _ = _); (simp only [Act.put, setIfInBounds_toArray, set_cons_zero, set_cons_succ, i64_w, i32_w]); rfl
      (refine one_ (i := 7) (N := none) #[true,true,true,true,true,true,true,true] rfl rfl (one_of HT_.out kq0) kq2 (fun K hK => ?_)); (have hs56 : w55.cell? ⟨gb1012, 0, none⟩ = some (.bool false) := (blk_cell BK1012.out 0).trans rfl); (have hfs56 := blk_frozen BK1012.out 0); (have hns56_0 := NB1010_1012.out); (have hns56_1 := NB1011_1012.out); (have hms56_0 := NB1012_1010.out); (have hms56_1 := NB1012_1011.out); (have hs58 : w55.cell? ⟨gb1012, 1, none⟩ = some (.slice none 0 0) := (blk_cell BK1012.out 1).trans rfl); (have hfs58 := blk_frozen BK1012.out 1); (have hns58_0 := NB1010_1012.out); (have hns58_1 := NB1011_1012.out); (have hms58_0 := NB1012_1010.out); (have hms58_1 := NB1012_1011.out); (refine skip_ (w1 := ?_) (by rfl) rfl ?_ ?_); rotate_left
      · go_simp; rfl
      (refine hK.out _ _ ⟨((cell_far (p := ⟨gb1012, _, none⟩) NB1011_1012.out _).trans (((cell_far (p := ⟨gb1012, _, none⟩) NB1011_1012.out _).trans (hHeld.1)))), ((cell_far (p := ⟨gb1012, _, none⟩) NB1011_1012.out _).trans (((cell_far (p := ⟨gb1012, _, none⟩) NB1011_1012.out _).trans (hHeld.2.1)))), ((cell_far (p := ⟨gb1012, _, none⟩) NB1010_1012.out _).trans (((cell_far (p := ⟨gb1012, _, none⟩) NB1010_1012.out _).trans (hHeld.2.2.1)))), ((cell_far (p := ⟨gb1012, _, none⟩) NB1010_1012.out _).trans (((cell_far (p := ⟨gb1012, _, none⟩) NB1010_1012.out _).trans (hHeld.2.2.2))))⟩ (fun hHeld => ?_)); clear hK K; (refine done_ (done_of HT_.out kq0) ?_); (try go_wp2); (refine bodyPost_ret (results_cell_row rfl _ _ gb1012 160 #[.bool t1031, .slice Ao57 t1032.length co57] (0, 0) _ rfl (by (with_reducible repeat (first | refine blk_drewN ?_ _ | refine blk_drew ?_ | refine blk_alloc ?_ _)); refine blk_put (cs := #[.bool t1031, .slice none 0 0]) ?_ 1 _ rfl; (with_reducible repeat (first | refine blk_drewN ?_ _ | refine blk_drew ?_ | refine blk_alloc ?_ _)); refine blk_put (cs := #[.bool false, .slice none 0 0]) ?_ 0 _ rfl; (with_reducible repeat (first | refine blk_drewN ?_ _ | refine blk_drew ?_ | refine blk_alloc ?_ _)); exact BK1012.out) Try.underlying160 rfl kq0) rfl ?_); (exact ⟨_, kq14, by (with_reducible repeat (first | apply Kd.V_alloc | apply Kd.V_drewN | apply Kd.V_drew)); exact Kd.V_mono (Kd.V_far (p := ⟨gb1012, 1, none⟩) (Kd.V_far (p := ⟨gb1012, 0, none⟩) (Kd.V_mono HO1034.out (fun k_ hk => (⟨hk, hk.2.2.2⟩ : _ ∧ k_ ≠ gb1012))) (fun _ hk => hk.2) (.bool t1031)) (fun _ hk => hk.2) (.slice Ao57 t1032.length co57)) (fun _ hk => hk.1.1), (kq28 GE1010 GE1011 GE1012)⟩)
end Go.Proofs.Ytjknpmibdkoklaa.Q
