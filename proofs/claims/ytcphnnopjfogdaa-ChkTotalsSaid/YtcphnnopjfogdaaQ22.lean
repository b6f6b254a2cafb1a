/- Functions of the given program as Lean functions, each with its contract: written by this session's program (wip/xprint.py). No condition but those of each contract. -/
import Derived.Test.YtcphnnopjfogdaaQ0
import Derived.Test.YtcphnnopjfogdaaQ8
import Derived.Test.YtcphnnopjfogdaaQ12
import Derived.Test.YtcphnnopjfogdaaQ15
namespace Go.Proofs.Ytcphnnopjfogdaa.Q
open Go.RowKit Go.Proofs.YtcphnnopjfogdaaW.PrintWords Go.Proofs.YtcphnnopjfogdaaW.PrintLast Go.Proofs.YtcphnnopjfogdaaW.PrintMore
attribute [local go_sem] max2_int min2_int max_two min_two max_three min_three max_four min_four   -- for this text's walks alone
set_option linter.unusedVariables false
set_option linter.unusedSimpArgs false
attribute [local go_sem] fld63_0 fld63_1

/-! ### tabardref01_Total: function 25 -/
def tabardref01_Total.l0 : Nat → List Int → Int → Bool → List Int → Option (Int × Int)
  | 0, _, _, _, _ => none
  | k + 1, x0, x5, x503000, x503001 => if x5 < (x0.length : Int) then (if 0 ≤ x5 then ((tabardref01_Of.f k (rd x0 x5)).bind fun bt504 => ((tabardref01_Plus.f k x503000 x503001 false bt504.2).bind fun bt508 => (tabardref01_Total.l0 k x0 (wrap64 (x5 + 1)) bt508.1 bt508.2))) else (none)) else ((tabardref01_told.f k x503000 x503001).bind fun bt512 => (some (bt512.1, bt512.2)))
def tabardref01_Total.f (k : Nat) (l0 : List Int) : Option (Int × Int) := (tabardref01_Of.f k 0).bind fun bt498 => (tabardref01_Total.l0 k l0 0 bt498.1 bt498.2)
theorem tabardref01_Total.mono_l : ∀ k, (∀ y0 y1 y2 y3, LeO (tabardref01_Total.l0 k y0 y1 y2 y3) (tabardref01_Total.l0 (k + 1) y0 y1 y2 y3))
  | 0 => fun _ _ _ _ r h => by simp [tabardref01_Total.l0] at h
  | k + 1 => by
    have ih0 := tabardref01_Total.mono_l k
    · intro y0 y1 y2 y3
      unfold tabardref01_Total.l0
      repeat' first
      | (with_reducible exact ih0 _ _ _ _)
      | (with_reducible exact tabardref01_Of.mono _ _)
      | (with_reducible exact tabardref01_Plus.mono _ _ _ _ _)
      | (with_reducible exact tabardref01_told.mono _ _ _)
      | (with_reducible exact LeO.refl _)
      | (with_reducible exact LeO.none _)
      | (with_reducible refine LeO.ite ?_ ?_)
      | (with_reducible refine LeO.bind ?_ (fun _ => ?_))
      | exact ih0 _ _ _ _
      | exact tabardref01_Of.mono _ _
      | exact tabardref01_Plus.mono _ _ _ _ _
      | exact tabardref01_told.mono _ _ _
      | exact LeO.none _
      | refine LeO.ite ?_ ?_
      | refine LeO.bind ?_ (fun _ => ?_)
theorem tabardref01_Total.mono : ∀ a0 k, LeO (tabardref01_Total.f k a0) (tabardref01_Total.f (k + 1) a0) := by
  intro a0 k
  have ih0 := tabardref01_Total.mono_l k
  unfold tabardref01_Total.f
  repeat' first
      | (with_reducible exact ih0 _ _ _ _)
      | (with_reducible exact tabardref01_Of.mono _ _)
      | (with_reducible exact tabardref01_Plus.mono _ _ _ _ _)
      | (with_reducible exact tabardref01_told.mono _ _ _)
      | (with_reducible exact LeO.refl _)
      | (with_reducible exact LeO.none _)
      | (with_reducible refine LeO.ite ?_ ?_)
      | (with_reducible refine LeO.bind ?_ (fun _ => ?_))
      | exact ih0 _ _ _ _
      | exact tabardref01_Of.mono _ _
      | exact tabardref01_Plus.mono _ _ _ _ _
      | exact tabardref01_told.mono _ _ _
      | exact LeO.none _
      | refine LeO.ite ?_ ?_
      | refine LeO.bind ?_ (fun _ => ?_)
def tabardref01_Total.T5 : Bool × List (List Nat × List Nat) := (true, [([], []), ([], []), ([], []), ([1, 2], [1, 2]), ([3], [3]), ([4], [4]), ([5], [5]), ([6], [6]), ([0, 7, 5], [0, 7]), ([8, 8, 0, 1, 2, 3, 4, 5, 6, 7, 8], [8])])
def tabardref01_Total.B5 : List Nat := [0, 0, 0, 6, 14, 30, 62, 126, 255, 511]
theorem tabardref01_Total.tab5 : rtab .any (opsOf Try.f25 5) = tabardref01_Total.T5 := by kernel_rfl
theorem tabardref01_Total.bits5 : waitsOk tabardref01_Total.T5.2 tabardref01_Total.B5 = true := by kernel_rfl
set_option maxHeartbeats 8000000 in
set_option maxRecDepth 100000 in
theorem tabardref01_Total.calls (k : Nat) (A0 : Option Addr) (c0 : Nat) (l0 : List Int) (r1 : Int) (r2 : Int) (w : World) (hr0 : Kd.C (Kd.int .i64) w A0 l0.length l0) (hc0 : l0.length ≤ c0) (h : tabardref01_Total.f k l0 = some (r1, r2)) :
    Calls Try.prog 25 #[.slice A0 l0.length c0] w fun e w' => e = .returned (.tuple #[.int .i64 r1, .int .i64 r2]) ∧ Below w.heap.size w w' := by
  have hu63 := Try.underlying63
  have HR0 := Aside0.mk hr0
  have HC0 := Aside0.mk hc0
  clear hr0 hc0
  have HB := Aside0.mk (Below.refl w.heap.size w)
  have H : ((tabardref01_Of.f k 0).bind fun bt498 => (tabardref01_Total.l0 k l0 0 bt498.1 bt498.2)) = some (r1, r2) := h
  clear h
  replace H := Option.bind_eq_some_iff.mp H
  obtain ⟨⟨t498, t499⟩, A20, H⟩ := H
  replace H : (tabardref01_Total.l0 k l0 0 t498 t499) = some (r1, r2) := H
  have A2 := Aside0.mk A20
  clear A20
  have H' := Aside0.mk H
  clear H
  go_enter Try.func25, Try.ntmps25
  go_wp2_with (first | ((with_reducible refine gate_callee (f := 53) rfl ?_); refine goesL_ (some 8) rfl rfl Try.func53 (by kernel_rfl) rfl #[.int .i64 0] rfl (by (try simp only [List.map_toArray, List.map_cons, List.map_nil]); first | done | rfl | (simp only [List.length_drop, List.length_take]; rfl)) ?_; (with_reducible refine (tabardref01_Of.calls k 0 t498 t499 _ A2.out).mono ?_); rintro e w3 ⟨v500, rfl, ho0, hb⟩; refine ⟨_, rfl, ?_⟩; have n0_ := Aside0.mk (Kd.V_lower (Kd.V_mono (ok' := fun k_ => True) ho0 (fun k_ hk_ => trivial)) (below_size (by repeat (first | (with_reducible first | exact HB.out | apply below_alloc | apply pw_below_drewN | apply below_drew1) | exact HB.out)))); have n1_ := Aside0.mk (below_step (by repeat (first | (with_reducible first | exact HB.out | apply below_alloc | apply pw_below_drewN | apply below_drew1) | exact HB.out)) hb); clear HB; have HO501 := n0_; have HB := n1_; clear n0_ n1_; (try clear hb); (try clear hb2); (try clear hk); (try clear hi); (try clear ho0)) | ((with_reducible refine gate_dst (N := 4) rfl ?_); refine box_event ?hg (N := 4) ?hd (cs := #[.bool false, .slice none 0 0]) (t := 63) ?hr ?_; (case hd => rfl); (case hg => rfl); (case hr => first | (go_simp; done) | (go_simp; rfl)); intro gb502 hg w4 hbox hb; have n0_ := Aside0.mk (Kd.V_below (Kd.V_elderB (by (with_reducible repeat (first | apply Kd.V_alloc | apply Kd.V_drewN | apply Kd.V_drew)); exact HO501.out) gb502 (Nat.le_of_eq hg.symm)) hb); have n1_ := Aside0.mk (below_step (by repeat (first | (with_reducible first | exact HB.out | apply below_alloc | apply pw_below_drewN | apply below_drew1) | exact HB.out)) hb); have n2_ := Aside0.mk (hbox); have n3_ := Aside0.mk ((by rw [hg]; exact (below_size (by repeat (first | (with_reducible first | exact HB.out | apply below_alloc | apply pw_below_drewN | apply below_drew1) | exact HB.out))) : w.heap.size ≤ gb502)); have n4_ := Aside0.mk ((by rw [hg]; exact (below_size (by repeat (first | (with_reducible first | exact HB.out | apply below_alloc | apply pw_below_drewN | apply below_drew1) | exact HB.out))) : w.heap.size ≤ gb502)); clear HO501; clear HB; have HO501 := n0_; have HB := n1_; have BK502 := n2_; have GW502 := n3_; have GE502 := n4_; clear n0_ n1_ n2_ n3_ n4_; clear hb hbox hg; have hcz5_0 : w4.cell? ⟨gb502, 0, none⟩ = some (.bool false) := (blk_cell BK502.out 0).trans rfl; have hcz5_1 : w4.cell? ⟨gb502, 1, none⟩ = some (.slice none 0 0) := (blk_cell BK502.out 1).trans rfl; have hfz5_0 := blk_frozen BK502.out 0; have hfz5_1 := blk_frozen BK502.out 1; obtain ⟨Ao6, co6, eo6⟩ := Kd.V_slice HO501.out; subst eo6))
  go_loopg [5] k (fun kq v5 w' => ∃ (x5_1 : Int) (x503000_1 : Bool) (x503001_1 : List Int) (u503001 : Value), v5 = .int .i64 x5_1 ∧ Aside0 (tabardref01_Total.l0 kq l0 x5_1 x503000_1 x503001_1 = some (r1, r2)) ∧ Aside0 (kq ≤ k) ∧ Aside0 (Kd.V (Kd.int .u64) 67 w' w.heap.size (fun k_ => k_ ≠ gb502) u503001 x503001_1) ∧ Aside0 (w'.heap[gb502]? = some (.cells #[.bool x503000_1, u503001] 63 (0, 0))) ∧ Aside0 (Below w.heap.size w w'))
  case atStart => exact ⟨(0), (t498), (t499), (.slice Ao6 t499.length co6), (by first | rfl | (simp; done) | (simp [*]; done)), H', ⟨Nat.le_refl _⟩, ⟨by (with_reducible repeat (first | apply Kd.V_alloc | apply Kd.V_drewN | apply Kd.V_drew)); exact Kd.V_mono (Kd.V_far (p := ⟨gb502, 1, none⟩) (Kd.V_far (p := ⟨gb502, 0, none⟩) (Kd.V_mono HO501.out (fun k_ hk => (⟨hk, hk.2⟩ : _ ∧ k_ ≠ gb502))) (fun _ hk => hk.2) (.bool t498)) (fun _ hk => hk.2) (.slice Ao6 t499.length co6)) (fun _ hk => hk.1.2)⟩, ⟨by (with_reducible repeat (first | refine blk_drewN ?_ _ | refine blk_drew ?_ | refine blk_alloc ?_ _)); refine blk_put (cs := #[.bool t498, .slice none 0 0]) ?_ 1 _ rfl; (with_reducible repeat (first | refine blk_drewN ?_ _ | refine blk_drew ?_ | refine blk_alloc ?_ _)); refine blk_put (cs := #[.bool false, .slice none 0 0]) ?_ 0 _ rfl; (with_reducible repeat (first | refine blk_drewN ?_ _ | refine blk_drew ?_ | refine blk_alloc ?_ _)); exact BK502.out⟩, ⟨by repeat (first | (with_reducible first | exact HB.out | apply below_alloc | apply pw_below_drewN | apply below_drew1 | refine below_set ?_ GE502.out) | exact HB.out)⟩⟩
  case round =>
    clear H'
    try clear c2
    try clear p2
    try clear c5
    try clear hcz5_0
    try clear hcz5_1
    try clear hfz5_0
    try clear hfz5_1
    obtain ⟨x5_1, x503000_1, x503001_1, u503001, rfl, HA, HK1, HO_503001, BK502, HB⟩ := hrel
    cases gk with
    | zero => exact absurd HA.out (by simp [tabardref01_Total.l0])
    | succ k1 =>
      have H := HA.out
      clear HA
      simp only [tabardref01_Total.l0] at H
      by_cases c7 : x5_1 < (l0.length : Int)
      · rw [if_pos c7] at H
        have c7b0 : decide (x5_1 < (l0.length : Int)) = true := decide_eq_true c7
        clear c7
        by_cases c8 : 0 ≤ x5_1
        · rw [if_pos c8] at H
          have c8b0 : decide (0 ≤ x5_1) = true := decide_eq_true c8
          clear c8
          replace H := Option.bind_eq_some_iff.mp H
          obtain ⟨⟨t504, t505⟩, A90, H⟩ := H
          replace H : ((tabardref01_Plus.f k1 x503000_1 x503001_1 false t505).bind fun bt508 => (tabardref01_Total.l0 k1 l0 (wrap64 (x5_1 + 1)) bt508.1 bt508.2)) = some (r1, r2) := H
          have A9 := Aside0.mk A90
          clear A90
          replace H := Option.bind_eq_some_iff.mp H
          obtain ⟨⟨t508, t509⟩, A100, H⟩ := H
          replace H : (tabardref01_Total.l0 k1 l0 (wrap64 (x5_1 + 1)) t508 t509) = some (r1, r2) := H
          have A10 := Aside0.mk A100
          clear A100
          have H' := Aside0.mk H
          clear H
          try go_wp2
          have n0_ := Aside0.mk (Kd.V_drew HO_503001.out)
          have n1_ := Aside0.mk (blk_drew BK502.out)
          have n2_ := Aside0.mk (below_drew1 HB.out)
          clear HO_503001
          clear BK502
          clear HB
          have HO_503001 := n0_
          have BK502 := n1_
          have HB := n2_
          clear n0_ n1_ n2_
          have p503 : 0 ≤ (x5_1 : Int) := of_decide_eq_true (by first | (with_reducible assumption) | assumption)
          have q503 : x5_1 < (l0.length : Int) := of_decide_eq_true (by first | (with_reducible assumption) | assumption)
          obtain ⟨ad503, e503, hx503_0⟩ := Kd.at_int HR0.out x5_1 p503 q503
          have hw503_0 := hx503_0
          cases e503
          replace hx503_0 := (HB.out.cell (World.block_lt_of_cell? w _ hx503_0)).trans hx503_0
          replace p503 := eq_true p503
          replace q503 := eq_true q503
          refine start_ (n := 10) (S := fun w' => w'.cell? ⟨gb502, 0, none⟩ = some (.bool x503000_1) ∧ w'.cell? ⟨gb502, 1, none⟩ = some (u503001) ∧ w'.cell? (ad503.add (x5_1).toNat) = some (.int .i64 (rd l0 x5_1))) (ds := [9]) #[false, false, false, false, false, false, false, false, false, false] (by kernel_rfl) rfl rfl ⟨(blk_cell BK502.out 0).trans rfl, (blk_cell BK502.out 1).trans rfl, ((HB.out.cell (World.block_lt_of_cell? w _ hw503_0)).trans hw503_0)⟩ (fun hHeld => ?_); refine with_tabW tabardref01_Total.tab5 tabardref01_Total.bits5 (fun HT_ HW_ => ?_)
          generalize wr.drew = w11 at HO_503001 BK502 HB hx503_0 hHeld ⊢
          refine pure_ (i := 1) (N := some 16) (v := ?_) (a' := ?_) #[false, true, false, false, false, false, false, false, false, false] rfl rfl (any_of HT_.out (by kernel_rfl)) (fun _ _ _ h => h) (Or.inl ⟨by rfl, ?_⟩) ?_ ?_
          rotate_left
          · intro w'
            go_simp
            with_reducible rfl
          rotate_left
          · simp only [Act.put, List.setIfInBounds_toArray, List.set_cons_zero, List.set_cons_succ, i64_w, i32_w]
            rfl
          refine pure_ (i := 2) (N := some 17) (v := ?_) (a' := ?_) #[false, true, true, false, false, false, false, false, false, false] rfl rfl (any_of HT_.out (by kernel_rfl)) (fun _ _ _ h => h) (Or.inl ⟨by rfl, ?_⟩) ?_ ?_
          rotate_left
          · intro w'
            go_simp
            with_reducible rfl
          rotate_left
          · simp only [Act.put, List.setIfInBounds_toArray, List.set_cons_zero, List.set_cons_succ, i64_w, i32_w]
            rfl
          refine pure_ (i := 3) (N := some 18) (v := ?_) (a' := ?_) #[false, true, true, true, false, false, false, false, false, false] rfl rfl (any_of HT_.out (by kernel_rfl)) (fun _ _ _ h => h) (Or.inl ⟨by rfl, ?_⟩) ?_ ?_
          rotate_left
          · intro w'
            go_simp
            with_reducible rfl
          rotate_left
          · simp only [Act.put, List.setIfInBounds_toArray, List.set_cons_zero, List.set_cons_succ, i64_w, i32_w]
            rfl
          refine take_ (i := 0) (N := some 15) (v := ?_) (a' := ?_) #[true, true, true, true, false, false, false, false, false, false] rfl rfl (take_ofW HT_.out HW_.out (by kernel_rfl)) (fun _ _ _ h => h) (Or.inl ⟨by rfl, ?_⟩) hHeld ?_ ?_
          rotate_left
          · rintro w' ⟨s0, s1, s2⟩
            go_simp
            with_reducible rfl
          rotate_left
          · simp only [Act.put, List.setIfInBounds_toArray, List.set_cons_zero, List.set_cons_succ, i64_w, i32_w]
            rfl
          refine take_ (i := 4) (N := some 19) (v := ?_) (a' := ?_) #[true, true, true, true, true, false, false, false, false, false] rfl rfl (take_ofW HT_.out HW_.out (by kernel_rfl)) (fun _ _ _ h => h) (Or.inl ⟨by rfl, ?_⟩) hHeld ?_ ?_
          rotate_left
          · rintro w' ⟨s0, s1, s2⟩
            go_simp
            with_reducible rfl
          rotate_left
          · simp only [Act.put, List.setIfInBounds_toArray, List.set_cons_zero, List.set_cons_succ, i64_w, i32_w]
            rfl
          refine one_ (i := 5) (N := some 20) #[true, true, true, true, true, true, false, false, false, false] rfl rfl (one_of HT_.out (by kernel_rfl)) (by decide) (fun K hK => ?_)
          refine goes_ Try.func53 (by kernel_rfl) rfl #[.int .i64 (rd l0 x5_1)] (by rfl) rfl rfl (by (try simp only [List.map_toArray, List.map_cons, List.map_nil]); first | done | rfl | (simp only [List.length_drop, List.length_take]; rfl)) ?_
          with_reducible refine (tabardref01_Of.calls k1 (rd l0 x5_1) t504 t505 _ A9.out).mono ?_
          rintro e w12 ⟨v506, rfl, ho0, hb⟩
          refine ⟨_, rfl, ?_⟩
          have n0_ := Aside0.mk (Kd.V_below (by (with_reducible repeat (first | apply Kd.V_alloc | apply Kd.V_drewN | apply Kd.V_drew)); exact HO_503001.out) hb)
          have n1_ := Aside0.mk (Kd.V_lower (Kd.V_mono (ok' := fun k_ => k_ ≠ gb502) ho0 (fun k_ hk_ => (Kd.freshB (g := gb502) (o := .cells #[.bool x503000_1, u503001] 63 (0, 0)) (by (with_reducible repeat (first | refine blk_drewN ?_ _ | refine blk_drew ?_ | refine blk_alloc ?_ _)); exact BK502.out) k_ hk_))) (below_size (by repeat (first | (with_reducible first | exact HB.out | apply below_alloc | apply pw_below_drewN | apply below_drew1 | refine below_set ?_ GE502.out) | exact HB.out))))
          have n2_ := Aside0.mk (blk_below (g := gb502) (o := .cells #[.bool x503000_1, u503001] 63 (0, 0)) (by (with_reducible repeat (first | refine blk_drewN ?_ _ | refine blk_drew ?_ | refine blk_alloc ?_ _)); exact BK502.out) hb)
          have n3_ := Aside0.mk (below_step (by repeat (first | (with_reducible first | exact HB.out | apply below_alloc | apply pw_below_drewN | apply below_drew1 | refine below_set ?_ GE502.out) | exact HB.out)) hb)
          clear HO_503001
          clear BK502
          clear HB
          have HO_503001 := n0_
          have HO507 := n1_
          have BK502 := n2_
          have HB := n3_
          clear n0_ n1_ n2_ n3_
          (try clear hb)
          (try clear hb2)
          (try clear hk)
          (try clear hi)
          (try clear ho0)
          obtain ⟨Ao13, co13, eo13⟩ := Kd.V_slice HO507.out
          (first | subst eo13 | (injection eo13 with f1_ f2_ f3_; have f4_ := f1_.symm; have f5_ := f3_.symm; clear f1_ f2_ f3_; subst f4_; subst f5_))
          obtain ⟨Ao14, co14, eo14⟩ := Kd.V_slice HO_503001.out
          (first | subst eo14 | (injection eo14 with f1_ f2_ f3_; have f4_ := f1_.symm; have f5_ := f3_.symm; clear f1_ f2_ f3_; subst f4_; subst f5_))
          refine hK.out _ _ ⟨(blk_cell BK502.out 0).trans rfl, (blk_cell BK502.out 1).trans rfl, ((HB.out.cell (World.block_lt_of_cell? w _ hw503_0)).trans hw503_0)⟩ (fun hHeld => ?_)
          clear hK K
          refine norm_ (a' := ?_) ?_ ?_
          rotate_left
          · show Act.put _ (some 20) _ = _
            simp only [Act.put, List.setIfInBounds_toArray, List.set_cons_zero, List.set_cons_succ, i64_w, i32_w]
            rfl
          refine pure_ (i := 6) (N := some 21) (v := ?_) (a' := ?_) #[true, true, true, true, true, true, true, false, false, false] rfl rfl (any_of HT_.out (by kernel_rfl)) (fun _ _ _ h => h) (Or.inl ⟨by rfl, ?_⟩) ?_ ?_
          rotate_left
          · intro w'
            go_simp
            with_reducible rfl
          rotate_left
          · simp only [Act.put, List.setIfInBounds_toArray, List.set_cons_zero, List.set_cons_succ, i64_w, i32_w]
            rfl
          refine pure_ (i := 7) (N := some 22) (v := ?_) (a' := ?_) #[true, true, true, true, true, true, true, true, false, false] rfl rfl (any_of HT_.out (by kernel_rfl)) (fun _ _ _ h => h) (Or.inl ⟨by rfl, ?_⟩) ?_ ?_
          rotate_left
          · intro w'
            go_simp
            with_reducible rfl
          rotate_left
          · simp only [Act.put, List.setIfInBounds_toArray, List.set_cons_zero, List.set_cons_succ, i64_w, i32_w]
            rfl
          refine one_ (i := 8) (N := some 23) #[true, true, true, true, true, true, true, true, true, false] rfl rfl (one_of HT_.out (by kernel_rfl)) (by decide) (fun K hK => ?_)
          refine goes_ Try.func54 (by kernel_rfl) rfl #[.agg #[.bool x503000_1, .slice Ao14 x503001_1.length co14], .agg #[.bool false, .slice Ao13 t505.length co13]] (by rfl) rfl rfl (by (try simp only [List.map_toArray, List.map_cons, List.map_nil]); first | done | rfl | (simp only [List.length_drop, List.length_take]; rfl)) ?_
          with_reducible refine (tabardref01_Plus.calls k1 x503000_1 _ _ x503001_1 false _ _ t505 t508 t509 _ ?side1 ?side2 ?side3 ?side4 A10.out).mono ?_
          (case side1 => repeat (first | exact (Kd.V_reads' HO_503001.out).2.2 | (with_reducible refine Kd.C_alloc ?_ _) | (with_reducible refine Kd.C_drewN ?_ _) | (with_reducible refine Kd.C_drew ?_)))
          (case side2 => exact (Kd.V_reads' HO_503001.out).2.1)
          (case side3 => repeat (first | exact (Kd.V_reads' HO507.out).2.2 | (with_reducible refine Kd.C_alloc ?_ _) | (with_reducible refine Kd.C_drewN ?_ _) | (with_reducible refine Kd.C_drew ?_)))
          (case side4 => exact (Kd.V_reads' HO507.out).2.1)
          rintro e w15 ⟨v510, rfl, ho0, hb⟩
          refine ⟨_, rfl, ?_⟩
          have n0_ := Aside0.mk (Kd.V_below (by (with_reducible repeat (first | apply Kd.V_alloc | apply Kd.V_drewN | apply Kd.V_drew)); exact HO_503001.out) hb)
          have n1_ := Aside0.mk (Kd.V_below (by (with_reducible repeat (first | apply Kd.V_alloc | apply Kd.V_drewN | apply Kd.V_drew)); exact HO507.out) hb)
          have n2_ := Aside0.mk (Kd.V_lower (Kd.V_mono (ok' := fun k_ => k_ ≠ gb502) ho0 (fun k_ hk_ => (Kd.freshB (g := gb502) (o := .cells #[.bool x503000_1, .slice Ao14 x503001_1.length co14] 63 (0, 0)) (by (with_reducible repeat (first | refine blk_drewN ?_ _ | refine blk_drew ?_ | refine blk_alloc ?_ _)); exact BK502.out) k_ hk_))) (below_size (by repeat (first | (with_reducible first | exact HB.out | apply below_alloc | apply pw_below_drewN | apply below_drew1 | refine below_set ?_ GE502.out) | exact HB.out))))
          have n3_ := Aside0.mk (blk_below (g := gb502) (o := .cells #[.bool x503000_1, .slice Ao14 x503001_1.length co14] 63 (0, 0)) (by (with_reducible repeat (first | refine blk_drewN ?_ _ | refine blk_drew ?_ | refine blk_alloc ?_ _)); exact BK502.out) hb)
          have n4_ := Aside0.mk (below_step (by repeat (first | (with_reducible first | exact HB.out | apply below_alloc | apply pw_below_drewN | apply below_drew1 | refine below_set ?_ GE502.out) | exact HB.out)) hb)
          clear HO_503001
          clear HO507
          clear BK502
          clear HB
          have HO_503001 := n0_
          have HO507 := n1_
          have HO511 := n2_
          have BK502 := n3_
          have HB := n4_
          clear n0_ n1_ n2_ n3_ n4_
          (try clear hb)
          (try clear hb2)
          (try clear hk)
          (try clear hi)
          (try clear ho0)
          obtain ⟨Ao17, co17, eo17⟩ := Kd.V_slice HO511.out
          (first | subst eo17 | (injection eo17 with f1_ f2_ f3_; have f4_ := f1_.symm; have f5_ := f3_.symm; clear f1_ f2_ f3_; subst f4_; subst f5_))
          refine hK.out _ _ ⟨(blk_cell BK502.out 0).trans rfl, (blk_cell BK502.out 1).trans rfl, ((HB.out.cell (World.block_lt_of_cell? w _ hw503_0)).trans hw503_0)⟩ (fun hHeld => ?_)
          clear hK K
          refine norm_ (a' := ?_) ?_ ?_
          rotate_left
          · show Act.put _ (some 23) _ = _
            simp only [Act.put, List.setIfInBounds_toArray, List.set_cons_zero, List.set_cons_succ, i64_w, i32_w]
            rfl
          refine last_ (i := 9) (N := none) #[true, true, true, true, true, true, true, true, true, true] rfl rfl (one_of HT_.out (by kernel_rfl)) (by decide) (fun K hK => ?_)
          have hs16 : w15.cell? ⟨gb502, 0, none⟩ = some (.bool x503000_1) := (blk_cell BK502.out 0).trans rfl
          have hfs16 := blk_frozen BK502.out 0
          have hs18 : w15.cell? ⟨gb502, 1, none⟩ = some (.slice Ao14 x503001_1.length co14) := (blk_cell BK502.out 1).trans rfl
          have hfs18 := blk_frozen BK502.out 1
          refine skip_ (w1 := ?_) (by rfl) rfl ?_ ?_
          rotate_left
          · go_simp
            rfl
          refine hK.out _ _ ?_
          clear hK K
          refine done_ (done_of HT_.out (by kernel_rfl)) ?_
          try go_wp2
          go_roundg k1
          case measure => have := HK1.out; omega
          case rel => exact ⟨(wrap64 (x5_1 + 1)), (t508), (t509), (.slice Ao17 t509.length co17), (by first | rfl | (simp; done) | (simp [*]; done)), H', ⟨by have := HK1.out; omega⟩, ⟨by (with_reducible repeat (first | apply Kd.V_alloc | apply Kd.V_drewN | apply Kd.V_drew)); exact Kd.V_mono (Kd.V_far (p := ⟨gb502, 1, none⟩) (Kd.V_far (p := ⟨gb502, 0, none⟩) (Kd.V_mono HO511.out (fun k_ hk => (⟨hk, hk⟩ : _ ∧ k_ ≠ gb502))) (fun _ hk => hk.2) (.bool t508)) (fun _ hk => hk.2) (.slice Ao17 t509.length co17)) (fun _ hk => hk.1)⟩, ⟨by (with_reducible repeat (first | refine blk_drewN ?_ _ | refine blk_drew ?_ | refine blk_alloc ?_ _)); refine blk_put (cs := #[.bool t508, .slice Ao14 x503001_1.length co14]) ?_ 1 _ rfl; (with_reducible repeat (first | refine blk_drewN ?_ _ | refine blk_drew ?_ | refine blk_alloc ?_ _)); refine blk_put (cs := #[.bool x503000_1, .slice Ao14 x503001_1.length co14]) ?_ 0 _ rfl; (with_reducible repeat (first | refine blk_drewN ?_ _ | refine blk_drew ?_ | refine blk_alloc ?_ _)); exact BK502.out⟩, ⟨by repeat (first | (with_reducible first | exact HB.out | apply below_alloc | apply pw_below_drewN | apply below_drew1 | refine below_set ?_ GE502.out) | exact HB.out)⟩⟩
        · rw [if_neg c8] at H
          exact absurd H (by simp)
      · rw [if_neg c7] at H
        have c7b0 : decide (x5_1 < (l0.length : Int)) = false := decide_eq_false c7
        clear c7
        replace H := Option.bind_eq_some_iff.mp H
        obtain ⟨⟨t512, t513⟩, A190, H⟩ := H
        replace H : (some (t512, t513)) = some (r1, r2) := H
        have A19 := Aside0.mk A190
        clear A190
        simp only [Option.some.injEq, Prod.mk.injEq] at H
        obtain ⟨rfl, rfl⟩ := H
        have hcz20_0 : wr.cell? ⟨gb502, 0, none⟩ = some (.bool x503000_1) := (blk_cell BK502.out 0).trans rfl
        have hcz20_1 : wr.cell? ⟨gb502, 1, none⟩ = some (u503001) := (blk_cell BK502.out 1).trans rfl
        have hfz20_0 := blk_frozen BK502.out 0
        have hfz20_1 := blk_frozen BK502.out 1
        obtain ⟨Ao21, co21, eo21⟩ := Kd.V_slice HO_503001.out
        subst eo21
        go_wp2_with (first | ((with_reducible refine gate_callee (f := 51) rfl ?_); refine goesL_ (some 26) rfl rfl Try.func51 (by kernel_rfl) rfl #[.agg #[.bool x503000_1, .slice Ao21 x503001_1.length co21]] rfl (by (try simp only [List.map_toArray, List.map_cons, List.map_nil]); first | done | rfl | (simp only [List.length_drop, List.length_take]; rfl)) ?_; (with_reducible refine (tabardref01_told.calls k1 x503000_1 _ _ x503001_1 t512 t513 _ ?side1 ?side2 A19.out).mono ?_); (case side1 => repeat (first | exact (Kd.V_reads' HO_503001.out).2.2 | (with_reducible refine Kd.C_alloc ?_ _) | (with_reducible refine Kd.C_drewN ?_ _) | (with_reducible refine Kd.C_drew ?_))); (case side2 => exact (Kd.V_reads' HO_503001.out).2.1); rintro e w22 ⟨rfl, hb⟩; refine ⟨_, rfl, ?_⟩; have n0_ := Aside0.mk (Kd.V_below (by (with_reducible repeat (first | apply Kd.V_alloc | apply Kd.V_drewN | apply Kd.V_drew)); exact HO_503001.out) hb); have n1_ := Aside0.mk (blk_below (g := gb502) (o := .cells #[.bool x503000_1, .slice Ao21 x503001_1.length co21] 63 (0, 0)) (by (with_reducible repeat (first | refine blk_drewN ?_ _ | refine blk_drew ?_ | refine blk_alloc ?_ _)); exact BK502.out) hb); have n2_ := Aside0.mk (below_step (by repeat (first | (with_reducible first | exact HB.out | apply below_alloc | apply pw_below_drewN | apply below_drew1 | refine below_set ?_ GE502.out) | exact HB.out)) hb); clear HO_503001; clear BK502; clear HB; have HO_503001 := n0_; have BK502 := n1_; have HB := n2_; clear n0_ n1_ n2_; (try clear hb); (try clear hb2); (try clear hk); (try clear hi)))
        go_ret2
        exact ⟨by first | rfl | (simp [errW_none, errW_some] <;> rfl) | (simp [*, errW_none, errW_some] <;> rfl), by repeat (first | (with_reducible first | exact HB.out | apply below_alloc | apply pw_below_drewN | apply below_drew1 | refine below_set ?_ GE502.out) | exact HB.out)⟩

end Go.Proofs.Ytcphnnopjfogdaa.Q
