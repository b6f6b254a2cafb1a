/- Functions of the given program as Lean functions, each with its contract, and what they answer; words for it. No condition but those of each. -/
import Derived.Test.YtjknpmibdkoklaaMLS
import Derived.Test.YtjknpmibdkoklaaMLR
import Derived.Test.YtjknpmibdkoklaaML3
namespace Go.Proofs.Ytjknpmibdkoklaa.Q
open Go.RowKit Go.Proofs.YtjknpmibdkoklaaW.PrintWords Go.Proofs.YtjknpmibdkoklaaW.PrintLast Go.Proofs.YtjknpmibdkoklaaW.PrintMore
open Aside0 (mk)
open List (setIfInBounds_toArray set_cons_zero set_cons_succ)
attribute [local go_sem] max2_int min2_int max_two min_two max_three min_three max_four min_four
set_option linter.unusedVariables false
set_option linter.unusedSimpArgs false
attribute [local go_sem] fld99_2 fld103_2 fld160_0 fld160_1
def tabardref01_Wide_trimmed.l0 : Nat → Int → Bool → List Int → Option (Bool × List Int)
  | 0, _, _, _ => none
  | k + 1, x3, x951000, x951001 => if x3 > 0 then (if 0 ≤ (wrap64 (x3 - 1)) then (if (wrap64 (x3 - 1)) < (x951001.length : Int) then (if (rd x951001 (wrap64 (x3 - 1))) = 0 then (tabardref01_Wide_trimmed.l0 k (wrap64 (x3 - 1)) x951000 x951001) else (if x951000 = true then (if 0 ≤ x3 then (if x3 ≤ (x951001.length : Int) then (some (true, (x951001.take (x3 : Int).toNat))) else (none)) else (none)) else (if 0 ≤ x3 then (if x3 ≤ (x951001.length : Int) then (some (false, (x951001.take (x3 : Int).toNat))) else (none)) else (none)))) else (none)) else (none)) else (if x951000 = true then (if 0 ≤ x3 then (if x3 ≤ (x951001.length : Int) then (some (false, (x951001.take (x3 : Int).toNat))) else (none)) else (none)) else (if 0 ≤ x3 then (if x3 ≤ (x951001.length : Int) then (some (false, (x951001.take (x3 : Int).toNat))) else (none)) else (none)))
def tabardref01_Wide_trimmed.f (k : Nat) (a0_0 : Bool) (l0_1 : List Int) : Option (Bool × List Int) := tabardref01_Wide_trimmed.l0 k (l0_1.length : Int) a0_0 l0_1
theorem tabardref01_Wide_trimmed.mono_l : ∀ k, (∀ y0 y1 y2, LeO (tabardref01_Wide_trimmed.l0 k y0 y1 y2) (tabardref01_Wide_trimmed.l0 (k + 1) y0 y1 y2))
  | 0 => fun _ _ _ r h => by simp [tabardref01_Wide_trimmed.l0] at h
  | k + 1 => by
    have ih0 := tabardref01_Wide_trimmed.mono_l k
    · intro y0 y1 y2; (unfold tabardref01_Wide_trimmed.l0)
      repeat' first
      | (with_reducible exact ih0 _ _ _)
      | (with_reducible exact LeO.refl _)
      | (with_reducible exact LeO.none _)
      | (with_reducible refine LeO.ite ?_ ?_)
      | (with_reducible refine LeO.bind ?_ (fun _ => ?_))
      | exact ih0 _ _ _
      | exact LeO.none _
      | refine LeO.ite ?_ ?_
      | refine LeO.bind ?_ (fun _ => ?_)
theorem tabardref01_Wide_trimmed.mono : ∀ a0 a1 k, LeO (tabardref01_Wide_trimmed.f k a0 a1) (tabardref01_Wide_trimmed.f (k + 1) a0 a1) := by
  intro a0 a1 k
  have ih0 := tabardref01_Wide_trimmed.mono_l k
  unfold tabardref01_Wide_trimmed.f
  repeat' first
      | (with_reducible exact ih0 _ _ _)
      | (with_reducible exact LeO.refl _)
      | (with_reducible exact LeO.none _)
      | (with_reducible refine LeO.ite ?_ ?_)
      | (with_reducible refine LeO.bind ?_ (fun _ => ?_))
      | exact ih0 _ _ _
      | exact LeO.none _
      | refine LeO.ite ?_ ?_
      | refine LeO.bind ?_ (fun _ => ?_)
def tabardref01_Wide_trimmed.T4 : Bool × List (List Nat × List Nat) := (true, [([], []), ([0], [0]), ([1], [1]), ([2], [2]), ([3, 2], [2, 3]), ([2, 4], [2, 4]), ([], []), ([6], [6]), ([], []), ([], []), ([7, 8, 9], [7, 8, 9]), ([5, 10], [5, 10]), ([11, 2, 0, 1, 2, 3, 4, 5, 6, 7, 8, 9, 10, 11], [11])])
def tabardref01_Wide_trimmed.B4 : List Nat := [0, 1, 3, 7, 15, 31, 0, 64, 0, 0, 960, 2047, 4095]
theorem tabardref01_Wide_trimmed.tab4 : rtab .any (opsOf Try.f170 4) = tabardref01_Wide_trimmed.T4 := by kernel_rfl
theorem tabardref01_Wide_trimmed.bits4 : waitsOk tabardref01_Wide_trimmed.T4.2 tabardref01_Wide_trimmed.B4 = true := by kernel_rfl
set_option maxHeartbeats 8000000 in
set_option maxRecDepth 100000 in
theorem tabardref01_Wide_trimmed.calls (k : Nat) (a0_0 : Bool) (P0_1_ : Nat → Prop) (A0_1 : Option Addr) (c0_1 : Nat) (l0_1 : List Int) (r1 : Bool) (r2 : List Int) (w : World) (hs0_1 : Kd.V (Kd.int .u64) 187 w w.heap.size (fun k_ => P0_1_ k_) (.slice A0_1 l0_1.length c0_1) l0_1) (h : tabardref01_Wide_trimmed.f k a0_0 l0_1 = some (r1, r2)) :
    Calls Try.prog 170 #[.agg #[.bool a0_0, .slice A0_1 l0_1.length c0_1]] w fun e w' => ∃ v1_ : Value, e = .returned (.agg #[.bool r1, v1_]) ∧ Kd.V (Kd.int .u64) 187 w' w.heap.size (fun k_ => (P0_1_ k_ ∨ w.heap.size ≤ k_)) v1_ r2 ∧ Below w.heap.size w w' := by
  have hu160 := Try.underlying160
  have HO0_1 := mk (show Kd.V (Kd.int .u64) 187 w w.heap.size (fun k_ => (P0_1_ k_ ∨ w.heap.size ≤ k_)) (.slice A0_1 l0_1.length c0_1) l0_1 from Kd.V_mono hs0_1 (fun k_ hk => .inl hk))
  have HB := mk (Below.refl w.heap.size w)
  have H : (tabardref01_Wide_trimmed.l0 k (l0_1.length : Int) a0_0 l0_1) = some (r1, r2) := h
  clear h
  have H' := mk H
  clear H
  go_enter Try.func170, Try.ntmps170
  go_wp2_with (first | ((with_reducible refine gate_dst (N := 1) rfl ?_); refine box_event ?hg (N := 1) ?hd (cs := #[.bool a0_0, .slice A0_1 l0_1.length c0_1]) (t := 160) ?hr ?_; (case hd => rfl); (case hg => rfl); (case hr => exact kq11); intro gb950 hg w2 hbox hb; have BK950 := mk (hbox); have GW950 := (gs_ hg kq9); have GE950 := GW950; replace HO0_1 := mk (Kd.V_below (Kd.V_elderB (kq21 HO0_1) gb950 (Nat.le_of_eq hg.symm)) hb); replace HB := mk (below_step kq9 hb); clear hb hbox hg) | ((with_reducible refine gate_dst (N := 2) rfl ?_); refine box_event ?hg (N := 2) ?hd (cs := #[.bool false, .slice none 0 0]) (t := 160) ?hr ?_; (case hd => rfl); (case hg => rfl); (case hr => exact kq11); intro gb951 hg w3 hbox hb; have BK951 := mk (hbox); have GW951 := (gs_ hg (kq16 GE950)); have GE951 := GW951; have NB950_951 := (nl_ hg BK950); have NB951_950 := (ng_ hg BK950); replace HO0_1 := mk (Kd.V_below (Kd.V_elderB (kq21 HO0_1) gb951 (Nat.le_of_eq hg.symm)) hb); replace BK950 := (bb_ BK950 hb); replace HB := mk (below_step (kq16 GE950) hb); clear hb hbox hg; have hnb4 := NB950_951.out; have hnc4 := NB951_950.out; obtain ⟨_, _, _, _⟩ := cz2_ BK950.out))
  go_loopg [3] k (fun kq v3 w' => ∃ (x3_1 : Int), v3 = .int .i64 x3_1 ∧ Aside0 (tabardref01_Wide_trimmed.l0 kq x3_1 a0_0 l0_1 = some (r1, r2)) ∧ Aside0 (kq ≤ k) ∧ Aside0 (Kd.V (Kd.int .u64) 187 w' w.heap.size (fun k_ => (P0_1_ k_ ∨ w.heap.size ≤ k_) ∧ k_ ≠ gb950 ∧ k_ ≠ gb951) (.slice A0_1 l0_1.length c0_1) l0_1) ∧ Aside0 (w'.heap[gb950]? = some (.cells #[.bool a0_0, (.slice A0_1 l0_1.length c0_1)] 160 (0, 0))) ∧ Aside0 (w'.heap[gb951]? = some (.cells #[.bool false, (.slice none 0 0)] 160 (0, 0))) ∧ Aside0 (Below w.heap.size w w'))
  case atStart => exact ⟨((l0_1.length : Int)), kq3, H', ⟨Nat.le_refl _⟩, ⟨by (with_reducible repeat (first | apply Kd.V_alloc | apply Kd.V_drewN | apply Kd.V_drew)); exact Kd.V_mono HO0_1.out (fun _ hk => ⟨hk.1.1, ⟨hk.1.2, hk.2⟩⟩)⟩, ⟨(kq18 BK950)⟩, ⟨(kq18 BK951)⟩, ⟨(kq23 GE950 GE951)⟩⟩
  case round =>
    clear H'
    obtain ⟨x3_1, rfl, HA, HK1, HO_951001, BK950, BK951, HB⟩ := hrel
    cases gk with
    | zero => exact absurd HA.out (by simp [tabardref01_Wide_trimmed.l0])
    | succ k1 =>
      (have H := HA.out); clear HA; (simp only [tabardref01_Wide_trimmed.l0] at H); replace H := ic_ H; obtain ⟨c6, H⟩ | ⟨c6, H⟩ := H
      · (have c6b0 : decide (0 < x3_1) = true := decide_eq_true c6); clear c6; (obtain ⟨ji7, hji7⟩ : ∃ j_ : Int, (wrap64 (x3_1 - 1)) = j_ := ⟨_, rfl⟩); (replace H : (if 0 ≤ (ji7) then (if (ji7) < (l0_1.length : Int) then (if (rd l0_1 (ji7)) = 0 then (tabardref01_Wide_trimmed.l0 k1 ji7 a0_0 l0_1) else (if a0_0 = true then (if 0 ≤ x3_1 then (if x3_1 ≤ (l0_1.length : Int) then (some (true, (l0_1.take (x3_1 : Int).toNat))) else (none)) else (none)) else (if 0 ≤ x3_1 then (if x3_1 ≤ (l0_1.length : Int) then (some (false, (l0_1.take (x3_1 : Int).toNat))) else (none)) else (none)))) else (none)) else (none)) = some (r1, r2) := by first | (rw [hji7] at H; exact H) | (simp only [hji7] at H ⊢; exact H)); (have hji7w : (IntKind.i64.wrap (x3_1 - 1)) = ji7 := (i64_w _).trans hji7); replace H := ic_ H; obtain ⟨c8, H⟩ | ⟨c8, H⟩ := H
        · (have c8b0 := decide_eq_true c8); clear c8; replace H := ic_ H; obtain ⟨c9, H⟩ | ⟨c9, H⟩ := H
          · (have c9b0 := decide_eq_true c9); clear c9; replace H := ic_ H; obtain ⟨c10, H⟩ | ⟨c10, H⟩ := H
            · (obtain ⟨c10b0, c10b1⟩ := eTn_ c10); clear c10; (have H' := mk H); clear H; (have hnb11 := NB950_951.out); (have hnc11 := NB951_950.out); (obtain ⟨_, _, _, _⟩ := cz2_ BK950.out); (have p952 : 0 ≤ ((ji7) : Int) := of_decide_eq_true kq8); (have q952 : (ji7) < (l0_1.length : Int) := of_decide_eq_true kq8); (obtain ⟨ad952, e952, hx952_0⟩ := Kd.at_int (Kd.V_reads' HO_951001.out).2.2 (ji7) p952 q952); cases e952; replace p952 := eq_true p952; replace q952 := eq_true q952; go_wp2; (go_roundg k1)
              case measure => have := HK1.out; omega
              case rel => exact ⟨(ji7), (by first | rfl | (simp; done) | (simp only [← hji7] <;> (first | rfl | simp)) | (simp [*]; done)), H', ⟨kq13⟩, ⟨(kq21 HO_951001)⟩, ⟨(kq18 BK950)⟩, ⟨(kq18 BK951)⟩, ⟨(kq23 GE950 GE951)⟩⟩
            · (obtain ⟨c10b0, c10b1⟩ := eFn_ c10); (by_cases c13 : a0_0 = true)
              · subst c13; (have H1 : (if 0 ≤ x3_1 then (if x3_1 ≤ (l0_1.length : Int) then (some (true, (l0_1.take (x3_1 : Int).toNat))) else (none)) else (none)) = some (r1, r2) := by rw [if_pos rfl] at H; exact H); clear H; (have H := H1); clear H1; replace H := ic_ H; obtain ⟨c14, H⟩ | ⟨c14, H⟩ := H
                · (have c14b0 := eq_true c14); (have c14b1 : decide (0 ≤ x3_1) = true := decide_eq_true c14); clear c14; replace H := ic_ H; obtain ⟨c15, H⟩ | ⟨c15, H⟩ := H
                  · (have c15b0 := eq_true c15); (have c15b1 := decide_eq_true c15); clear c15; (obtain ⟨y953, hy953⟩ : ∃ y_ : List Int, y_ = (l0_1.take (x3_1 : Int).toNat) := ⟨_, rfl⟩); (replace H : (some (true, y953)) = some (r1, r2) := by first | (rw [hy953]; with_reducible exact H) | (have H2_ := (Option.bind_some _ _).symm.trans H; rw [hy953]; with_reducible exact H2_) | (have H2_ := (Option.bind_some _ _).symm.trans H; with_reducible exact H2_) | with_reducible exact H | (rw [hy953]; exact H) | exact H); (have Ny953 := mk hy953); clear hy953; (simp only [Option.some.injEq, Prod.mk.injEq] at H); (obtain ⟨rfl, rfl⟩ := H); (have hnb16 := NB950_951.out); (have hnc16 := NB951_950.out); (obtain ⟨_, _, _, _⟩ := cz2_ BK950.out); (have p952 : 0 ≤ ((ji7) : Int) := of_decide_eq_true kq8); (have q952 : (ji7) < (l0_1.length : Int) := of_decide_eq_true kq8); (obtain ⟨ad952, e952, hx952_0⟩ := Kd.at_int (Kd.V_reads' HO_951001.out).2.2 (ji7) p952 q952); cases e952; replace p952 := eq_true p952; replace q952 := eq_true q952; (try go_wp2); (replace HO_951001 := mk (Kd.V_drew HO_951001.out)); (replace BK950 := mk (blk_drew BK950.out)); (replace BK951 := mk (blk_drew BK951.out)); (replace HB := mk (below_drew1 HB.out)); (have q19 : (x3_1 : Int) ≤ ((l0_1.length : Int) : Int) := of_decide_eq_true kq8); (obtain ⟨i019, hi019, _, hsz19, _⟩ := info_parts info187); (have hroom19 : l0_1.length ≤ c0_1 := (Kd.V_reads' HO_951001.out).2.1); (have hC19 : Kd.F (Kd.int .u64) _ _ (some ad952) l0_1.length l0_1 := (Kd.V_at (base := w.heap.size) HO_951001.out).2.2); (have hcut19 := cut_to3 (P := Try.prog) 158 187 .i64 Try.underlying158 hi019 (some ad952) l0_1.length c0_1 x3_1 (of_decide_eq_true kq8) q19 hroom19); (have hr19 := Kd.F_take (m := (x3_1 : Int).toNat) hC19 kq1); (have hy19 : y953.length = (x3_1 : Int).toNat := (by rw [Ny953.out, List.length_take]; omega)); (rw [← Ny953.out] at hr19); (rw [← hy19] at hcut19); (have HO957 := mk (show Kd.V (Kd.int .u64) 187 _ w.heap.size _ (.slice (some ad952) y953.length y953.length) y953 from Kd.V_mk kq1 hr19)); (have HC957 := mk (show y953.length ≤ y953.length from by omega)); clear hr19 hC19 hroom19 hi019 hsz19; (have KY19 := mk hy19); clear hy19; replace q19 := eq_true q19; (refine start_ (n := 13) (S := fun w' => w'.cell? ⟨gb950, 0, none⟩ = some (.bool true) ∧ w'.cell? ⟨gb950, 1, none⟩ = some (.slice (some ad952) l0_1.length c0_1)) (ds := []) #[false,false,false,false,false,false,false,false,false,false,false,false,false] kq0 rfl rfl ⟨(blk_cell BK950.out 0).trans rfl, (blk_cell BK950.out 1).trans rfl⟩ (fun hHeld => ?_); refine with_tabW tabardref01_Wide_trimmed.tab4 tabardref01_Wide_trimmed.bits4 (fun HT_ HW_ => ?_)); (generalize wr.drew = w18 at HO_951001 BK950 BK951 HB HO957 hHeld ⊢); refine puT_ 0 20 ?_
                    refine puT_ 6 26 ?_
                    refine puT_ 8 28 ?_
                    refine puT_ 9 29 ?_
                    refine taT_ 1 21 hHeld ?_
                    refine puT_ 2 22 ?_
                    refine puT_ 3 23 ?_
                    refine puT_ 4 24 ?_
                    refine puT_ 5 25 ?_
                    refine taT_ 7 27 hHeld ?_
                    refine puT_ 10 30 ?_
                    refine puT_ 11 31 ?_
                    (refine one_ (i := 12) (N := none) #[true,true,true,true,true,true,true,true,true,true,true,true,true] rfl rfl (one_of HT_.out kq0) kq2 (fun K hK => ?_)); (have hs20 : w18.cell? ⟨gb951, 0, none⟩ = some (.bool false) := (blk_cell BK951.out 0).trans rfl); (have hfs20 := blk_frozen BK951.out 0); (have hns20_0 := NB950_951.out); (have hms20_0 := NB951_950.out); (have hs21 : w18.cell? ⟨gb951, 1, none⟩ = some (.slice none 0 0) := (blk_cell BK951.out 1).trans rfl); (have hfs21 := blk_frozen BK951.out 1); (have hns21_0 := NB950_951.out); (have hms21_0 := NB951_950.out); (refine skip_ (w1 := ?_) (by rfl) rfl ?_ ?_); rotate_left
                    · go_simp; rfl
                    (refine hK.out _ _ ⟨((cell_far (p := ⟨gb951, _, none⟩) NB950_951.out _).trans (((cell_far (p := ⟨gb951, _, none⟩) NB950_951.out _).trans (hHeld.1)))), ((cell_far (p := ⟨gb951, _, none⟩) NB950_951.out _).trans (((cell_far (p := ⟨gb951, _, none⟩) NB950_951.out _).trans (hHeld.2))))⟩ (fun hHeld => ?_)); clear hK K; (refine done_ (done_of HT_.out kq0) ?_); (try go_wp2); (refine bodyPost_ret (results_cell_row rfl _ _ gb951 160 #[.bool true, .slice (some ad952) y953.length y953.length] (0, 0) _ rfl (by (with_reducible repeat (first | refine blk_drewN ?_ _ | refine blk_drew ?_ | refine blk_alloc ?_ _)); refine blk_put (cs := #[.bool true, .slice none 0 0]) ?_ 1 _ rfl; (with_reducible repeat (first | refine blk_drewN ?_ _ | refine blk_drew ?_ | refine blk_alloc ?_ _)); refine blk_put (cs := #[.bool false, .slice none 0 0]) ?_ 0 _ rfl; (with_reducible repeat (first | refine blk_drewN ?_ _ | refine blk_drew ?_ | refine blk_alloc ?_ _)); exact BK951.out) Try.underlying160 rfl kq0) rfl ?_); (exact ⟨_, kq20, by (with_reducible repeat (first | apply Kd.V_alloc | apply Kd.V_drewN | apply Kd.V_drew)); exact Kd.V_mono (Kd.V_far (p := ⟨gb951, 1, none⟩) (Kd.V_far (p := ⟨gb951, 0, none⟩) (Kd.V_mono HO957.out (fun k_ hk => (⟨hk, hk.2.2⟩ : _ ∧ k_ ≠ gb951))) (fun _ hk => hk.2) (.bool true)) (fun _ hk => hk.2) (.slice (some ad952) y953.length y953.length)) (fun _ hk => hk.1.1), (kq23 GE950 GE951)⟩)
                  · (exact absurd H (by simp))
                · (exact absurd H (by simp))
              · (replace c13 := Bool.eq_false_iff.mpr c13); subst c13; (have H1 : (if 0 ≤ x3_1 then (if x3_1 ≤ (l0_1.length : Int) then (some (false, (l0_1.take (x3_1 : Int).toNat))) else (none)) else (none)) = some (r1, r2) := by rw [if_neg (show ¬ (false = true) by decide)] at H; exact H); clear H; (have H := H1); clear H1; replace H := ic_ H; obtain ⟨c22, H⟩ | ⟨c22, H⟩ := H
                · (have c22b0 := eq_true c22); (have c22b1 := decide_eq_true c22); clear c22; replace H := ic_ H; obtain ⟨c23, H⟩ | ⟨c23, H⟩ := H
                  · (have c23b0 := eq_true c23); (have c23b1 := decide_eq_true c23); clear c23; (obtain ⟨y958, hy958⟩ : ∃ y_ : List Int, y_ = (l0_1.take (x3_1 : Int).toNat) := ⟨_, rfl⟩); (replace H : (some (false, y958)) = some (r1, r2) := by first | (rw [hy958]; with_reducible exact H) | (have H2_ := (Option.bind_some _ _).symm.trans H; rw [hy958]; with_reducible exact H2_) | (have H2_ := (Option.bind_some _ _).symm.trans H; with_reducible exact H2_) | with_reducible exact H | (rw [hy958]; exact H) | exact H); (have Ny958 := mk hy958); clear hy958; (simp only [Option.some.injEq, Prod.mk.injEq] at H); (obtain ⟨rfl, rfl⟩ := H); (have hnb24 := NB950_951.out); (have hnc24 := NB951_950.out); (obtain ⟨_, _, _, _⟩ := cz2_ BK950.out); (have p952 : 0 ≤ ((ji7) : Int) := of_decide_eq_true kq8); (have q952 : (ji7) < (l0_1.length : Int) := of_decide_eq_true kq8); (obtain ⟨ad952, e952, hx952_0⟩ := Kd.at_int (Kd.V_reads' HO_951001.out).2.2 (ji7) p952 q952); cases e952; replace p952 := eq_true p952; replace q952 := eq_true q952; (try go_wp2); (replace HO_951001 := mk (Kd.V_drew HO_951001.out)); (replace BK950 := mk (blk_drew BK950.out)); (replace BK951 := mk (blk_drew BK951.out)); (replace HB := mk (below_drew1 HB.out)); (have q27 : (x3_1 : Int) ≤ ((l0_1.length : Int) : Int) := of_decide_eq_true kq8); (obtain ⟨i027, hi027, _, hsz27, _⟩ := info_parts info187); (have hroom27 : l0_1.length ≤ c0_1 := (Kd.V_reads' HO_951001.out).2.1); (have hC27 : Kd.F (Kd.int .u64) _ _ (some ad952) l0_1.length l0_1 := (Kd.V_at (base := w.heap.size) HO_951001.out).2.2); (have hcut27 := cut_to3 (P := Try.prog) 158 187 .i64 Try.underlying158 hi027 (some ad952) l0_1.length c0_1 x3_1 (of_decide_eq_true kq8) q27 hroom27); (have hr27 := Kd.F_take (m := (x3_1 : Int).toNat) hC27 kq1); (have hy27 : y958.length = (x3_1 : Int).toNat := (by rw [Ny958.out, List.length_take]; omega)); (rw [← Ny958.out] at hr27); (rw [← hy27] at hcut27); (have HO962 := mk (show Kd.V (Kd.int .u64) 187 _ w.heap.size _ (.slice (some ad952) y958.length y958.length) y958 from Kd.V_mk kq1 hr27)); (have HC962 := mk (show y958.length ≤ y958.length from by omega)); clear hr27 hC27 hroom27 hi027 hsz27; (have KY27 := mk hy27); clear hy27; replace q27 := eq_true q27; (refine start_ (n := 13) (S := fun w' => w'.cell? ⟨gb950, 0, none⟩ = some (.bool false) ∧ w'.cell? ⟨gb950, 1, none⟩ = some (.slice (some ad952) l0_1.length c0_1)) (ds := []) #[false,false,false,false,false,false,false,false,false,false,false,false,false] kq0 rfl rfl ⟨(blk_cell BK950.out 0).trans rfl, (blk_cell BK950.out 1).trans rfl⟩ (fun hHeld => ?_); refine with_tabW tabardref01_Wide_trimmed.tab4 tabardref01_Wide_trimmed.bits4 (fun HT_ HW_ => ?_)); (generalize wr.drew = w26 at HO_951001 BK950 BK951 HB HO962 hHeld ⊢); refine puT_ 0 20 ?_
                    refine puT_ 6 26 ?_
                    refine puT_ 8 28 ?_
                    refine puT_ 9 29 ?_
                    refine taT_ 1 21 hHeld ?_
                    refine puT_ 2 22 ?_
                    refine pvT_ 3 23 ?_
                    refine pvT_ 4 24 ?_
                    refine puT_ 5 25 ?_
                    refine taT_ 7 27 hHeld ?_
                    refine puT_ 10 30 ?_
                    refine puT_ 11 31 ?_
                    (refine one_ (i := 12) (N := none) #[true,true,true,true,true,true,true,true,true,true,true,true,true] rfl rfl (one_of HT_.out kq0) kq2 (fun K hK => ?_)); (have hs28 : w26.cell? ⟨gb951, 0, none⟩ = some (.bool false) := (blk_cell BK951.out 0).trans rfl); (have hfs28 := blk_frozen BK951.out 0); (have hns28_0 := NB950_951.out); (have hms28_0 := NB951_950.out); (have hs29 : w26.cell? ⟨gb951, 1, none⟩ = some (.slice none 0 0) := (blk_cell BK951.out 1).trans rfl); (have hfs29 := blk_frozen BK951.out 1); (have hns29_0 := NB950_951.out); (have hms29_0 := NB951_950.out); (refine skip_ (w1 := ?_) (by rfl) rfl ?_ ?_); rotate_left
                    · go_simp; rfl
                    (refine hK.out _ _ ⟨((cell_far (p := ⟨gb951, _, none⟩) NB950_951.out _).trans (((cell_far (p := ⟨gb951, _, none⟩) NB950_951.out _).trans (hHeld.1)))), ((cell_far (p := ⟨gb951, _, none⟩) NB950_951.out _).trans (((cell_far (p := ⟨gb951, _, none⟩) NB950_951.out _).trans (hHeld.2))))⟩ (fun hHeld => ?_)); clear hK K; (refine done_ (done_of HT_.out kq0) ?_); (try go_wp2); (refine bodyPost_ret (results_cell_row rfl _ _ gb951 160 #[.bool false, .slice (some ad952) y958.length y958.length] (0, 0) _ rfl (kq22 BK951) Try.underlying160 rfl kq0) rfl ?_); (exact ⟨_, kq20, by (with_reducible repeat (first | apply Kd.V_alloc | apply Kd.V_drewN | apply Kd.V_drew)); exact Kd.V_mono (Kd.V_far (p := ⟨gb951, 1, none⟩) (Kd.V_far (p := ⟨gb951, 0, none⟩) (Kd.V_mono HO962.out (fun k_ hk => (⟨hk, hk.2.2⟩ : _ ∧ k_ ≠ gb951))) (fun _ hk => hk.2) (.bool false)) (fun _ hk => hk.2) (.slice (some ad952) y958.length y958.length)) (fun _ hk => hk.1.1), (kq23 GE950 GE951)⟩)
                  · (exact absurd H (by simp))
                · (exact absurd H (by simp))
          · (exact absurd H (by simp))
        · (exact absurd H (by simp))
      · (have c6b0 : decide (0 < x3_1) = false := decide_eq_false c6); clear c6; (by_cases c30 : a0_0 = true)
        · subst c30; (have H1 : (if 0 ≤ x3_1 then (if x3_1 ≤ (l0_1.length : Int) then (some (false, (l0_1.take (x3_1 : Int).toNat))) else (none)) else (none)) = some (r1, r2) := by rw [if_pos rfl] at H; exact H); clear H; (have H := H1); clear H1; replace H := ic_ H; obtain ⟨c31, H⟩ | ⟨c31, H⟩ := H
          · (have c31b0 := eq_true c31); (have c31b1 := decide_eq_true c31); clear c31; replace H := ic_ H; obtain ⟨c32, H⟩ | ⟨c32, H⟩ := H
            · (have c32b0 := eq_true c32); (have c32b1 := decide_eq_true c32); clear c32; (obtain ⟨y963, hy963⟩ : ∃ y_ : List Int, y_ = (l0_1.take (x3_1 : Int).toNat) := ⟨_, rfl⟩); (replace H : (some (false, y963)) = some (r1, r2) := by first | (rw [hy963]; with_reducible exact H) | (have H2_ := (Option.bind_some _ _).symm.trans H; rw [hy963]; with_reducible exact H2_) | (have H2_ := (Option.bind_some _ _).symm.trans H; with_reducible exact H2_) | with_reducible exact H | (rw [hy963]; exact H) | exact H); (have Ny963 := mk hy963); clear hy963; (simp only [Option.some.injEq, Prod.mk.injEq] at H); (obtain ⟨rfl, rfl⟩ := H); (try go_wp2); (replace HO_951001 := mk (Kd.V_drew HO_951001.out)); (replace BK950 := mk (blk_drew BK950.out)); (replace BK951 := mk (blk_drew BK951.out)); (replace HB := mk (below_drew1 HB.out)); (have q34 : (x3_1 : Int) ≤ ((l0_1.length : Int) : Int) := of_decide_eq_true kq8); (obtain ⟨i034, hi034, _, hsz34, _⟩ := info_parts info187); (have hroom34 : l0_1.length ≤ c0_1 := (Kd.V_reads' HO_951001.out).2.1); (have hC34 : Kd.F (Kd.int .u64) _ _ A0_1 l0_1.length l0_1 := (Kd.V_at (base := w.heap.size) HO_951001.out).2.2); (have hcut34 := cut_to3 (P := Try.prog) 158 187 .i64 Try.underlying158 hi034 A0_1 l0_1.length c0_1 x3_1 (of_decide_eq_true kq8) q34 hroom34); (have hr34 := Kd.F_take (m := (x3_1 : Int).toNat) hC34 kq1); (have hy34 : y963.length = (x3_1 : Int).toNat := (by rw [Ny963.out, List.length_take]; omega)); (rw [← Ny963.out] at hr34); (rw [← hy34] at hcut34); (have HO967 := mk (show Kd.V (Kd.int .u64) 187 _ w.heap.size _ (.slice A0_1 y963.length y963.length) y963 from Kd.V_mk kq1 hr34)); (have HC967 := mk (show y963.length ≤ y963.length from by omega)); clear hr34 hC34 hroom34 hi034 hsz34; (have KY34 := mk hy34); clear hy34; replace q34 := eq_true q34; (refine start_ (n := 13) (S := fun w' => w'.cell? ⟨gb950, 0, none⟩ = some (.bool true) ∧ w'.cell? ⟨gb950, 1, none⟩ = some (.slice A0_1 l0_1.length c0_1)) (ds := []) #[false,false,false,false,false,false,false,false,false,false,false,false,false] kq0 rfl rfl ⟨(blk_cell BK950.out 0).trans rfl, (blk_cell BK950.out 1).trans rfl⟩ (fun hHeld => ?_); refine with_tabW tabardref01_Wide_trimmed.tab4 tabardref01_Wide_trimmed.bits4 (fun HT_ HW_ => ?_)); (generalize wr.drew = w33 at HO_951001 BK950 BK951 HB HO967 hHeld ⊢); refine puT_ 0 20 ?_
              refine puT_ 6 26 ?_
              refine puT_ 8 28 ?_
              refine puT_ 9 29 ?_
              refine taT_ 1 21 hHeld ?_
              refine puT_ 2 22 ?_
              refine puT_ 3 23 ?_
              refine puT_ 4 24 ?_
              refine puT_ 5 25 ?_
              refine taT_ 7 27 hHeld ?_
              refine puT_ 10 30 ?_
              refine puT_ 11 31 ?_
              (refine one_ (i := 12) (N := none) #[true,true,true,true,true,true,true,true,true,true,true,true,true] rfl rfl (one_of HT_.out kq0) kq2 (fun K hK => ?_)); (have hs35 : w33.cell? ⟨gb951, 0, none⟩ = some (.bool false) := (blk_cell BK951.out 0).trans rfl); (have hfs35 := blk_frozen BK951.out 0); (have hns35_0 := NB950_951.out); (have hms35_0 := NB951_950.out); (have hs36 : w33.cell? ⟨gb951, 1, none⟩ = some (.slice none 0 0) := (blk_cell BK951.out 1).trans rfl); (have hfs36 := blk_frozen BK951.out 1); (have hns36_0 := NB950_951.out); (have hms36_0 := NB951_950.out); (refine skip_ (w1 := ?_) (by rfl) rfl ?_ ?_); rotate_left
              · go_simp; rfl
              (refine hK.out _ _ ⟨((cell_far (p := ⟨gb951, _, none⟩) NB950_951.out _).trans (((cell_far (p := ⟨gb951, _, none⟩) NB950_951.out _).trans (hHeld.1)))), ((cell_far (p := ⟨gb951, _, none⟩) NB950_951.out _).trans (((cell_far (p := ⟨gb951, _, none⟩) NB950_951.out _).trans (hHeld.2))))⟩ (fun hHeld => ?_)); clear hK K; (refine done_ (done_of HT_.out kq0) ?_); (try go_wp2); (refine bodyPost_ret (results_cell_row rfl _ _ gb951 160 #[.bool false, .slice A0_1 y963.length y963.length] (0, 0) _ rfl (kq22 BK951) Try.underlying160 rfl kq0) rfl ?_); (exact ⟨_, kq14, by (with_reducible repeat (first | apply Kd.V_alloc | apply Kd.V_drewN | apply Kd.V_drew)); exact Kd.V_mono (Kd.V_far (p := ⟨gb951, 1, none⟩) (Kd.V_far (p := ⟨gb951, 0, none⟩) (Kd.V_mono HO967.out (fun k_ hk => (⟨hk, hk.2.2⟩ : _ ∧ k_ ≠ gb951))) (fun _ hk => hk.2) (.bool false)) (fun _ hk => hk.2) (.slice A0_1 y963.length y963.length)) (fun _ hk => hk.1.1), (kq23 GE950 GE951)⟩)
            · (exact absurd H (by simp))
          · (exact absurd H (by simp))
        · (replace c30 := Bool.eq_false_iff.mpr c30); subst c30; (have H1 : (if 0 ≤ x3_1 then (if x3_1 ≤ (l0_1.length : Int) then (some (false, (l0_1.take (x3_1 : Int).toNat))) else (none)) else (none)) = some (r1, r2) := by rw [if_neg (show ¬ (false = true) by decide)] at H; exact H); clear H; (have H := H1); clear H1; replace H := ic_ H; obtain ⟨c37, H⟩ | ⟨c37, H⟩ := H
          · (have c37b0 := eq_true c37); (have c37b1 := decide_eq_true c37); clear c37; replace H := ic_ H; obtain ⟨c38, H⟩ | ⟨c38, H⟩ := H
            · (have c38b0 := eq_true c38); (have c38b1 := decide_eq_true c38); clear c38; (obtain ⟨y968, hy968⟩ : ∃ y_ : List Int, y_ = (l0_1.take (x3_1 : Int).toNat) := ⟨_, rfl⟩); (replace H : (some (false, y968)) = some (r1, r2) := by first | (rw [hy968]; with_reducible exact H) | (have H2_ := (Option.bind_some _ _).symm.trans H; rw [hy968]; with_reducible exact H2_) | (have H2_ := (Option.bind_some _ _).symm.trans H; with_reducible exact H2_) | with_reducible exact H | (rw [hy968]; exact H) | exact H); (have Ny968 := mk hy968); clear hy968; (simp only [Option.some.injEq, Prod.mk.injEq] at H); (obtain ⟨rfl, rfl⟩ := H); (try go_wp2); (replace HO_951001 := mk (Kd.V_drew HO_951001.out)); (replace BK950 := mk (blk_drew BK950.out)); (replace BK951 := mk (blk_drew BK951.out)); (replace HB := mk (below_drew1 HB.out)); (have q40 : (x3_1 : Int) ≤ ((l0_1.length : Int) : Int) := of_decide_eq_true kq8); (obtain ⟨i040, hi040, _, hsz40, _⟩ := info_parts info187); (have hroom40 : l0_1.length ≤ c0_1 := (Kd.V_reads' HO_951001.out).2.1); (have hC40 : Kd.F (Kd.int .u64) _ _ A0_1 l0_1.length l0_1 := (Kd.V_at (base := w.heap.size) HO_951001.out).2.2); (have hcut40 := cut_to3 (P := Try.prog) 158 187 .i64 Try.underlying158 hi040 A0_1 l0_1.length c0_1 x3_1 (of_decide_eq_true kq8) q40 hroom40); (have hr40 := Kd.F_take (m := (x3_1 : Int).toNat) hC40 kq1); (have hy40 : y968.length = (x3_1 : Int).toNat := (by rw [Ny968.out, List.length_take]; omega)); (rw [← Ny968.out] at hr40); (rw [← hy40] at hcut40); (have HO972 := mk (show Kd.V (Kd.int .u64) 187 _ w.heap.size _ (.slice A0_1 y968.length y968.length) y968 from Kd.V_mk kq1 hr40)); (have HC972 := mk (show y968.length ≤ y968.length from by omega)); clear hr40 hC40 hroom40 hi040 hsz40; (have KY40 := mk hy40); clear hy40; replace q40 := eq_true q40; (refine start_ (n := 13) (S := fun w' => w'.cell? ⟨gb950, 0, none⟩ = some (.bool false) ∧ w'.cell? ⟨gb950, 1, none⟩ = some (.slice A0_1 l0_1.length c0_1)) (ds := []) #[false,false,false,false,false,false,false,false,false,false,false,false,false] kq0 rfl rfl ⟨(blk_cell BK950.out 0).trans rfl, (blk_cell BK950.out 1).trans rfl⟩ (fun hHeld => ?_); refine with_tabW tabardref01_Wide_trimmed.tab4 tabardref01_Wide_trimmed.bits4 (fun HT_ HW_ => ?_)); (generalize wr.drew = w39 at HO_951001 BK950 BK951 HB HO972 hHeld ⊢); refine puT_ 0 20 ?_
              refine puT_ 6 26 ?_
              refine puT_ 8 28 ?_
              refine puT_ 9 29 ?_
              refine taT_ 1 21 hHeld ?_
              refine puT_ 2 22 ?_
              refine pvT_ 3 23 ?_
              refine pvT_ 4 24 ?_
              refine puT_ 5 25 ?_
              refine taT_ 7 27 hHeld ?_
              refine puT_ 10 30 ?_
              refine puT_ 11 31 ?_
              (refine one_ (i := 12) (N := none) #[true,true,true,true,true,true,true,true,true,true,true,true,true] rfl rfl (one_of HT_.out kq0) kq2 (fun K hK => ?_)); (have hs41 : w39.cell? ⟨gb951, 0, none⟩ = some (.bool false) := (blk_cell BK951.out 0).trans rfl); (have hfs41 := blk_frozen BK951.out 0); (have hns41_0 := NB950_951.out); (have hms41_0 := NB951_950.out); (have hs42 : w39.cell? ⟨gb951, 1, none⟩ = some (.slice none 0 0) := (blk_cell BK951.out 1).trans rfl); (have hfs42 := blk_frozen BK951.out 1); (have hns42_0 := NB950_951.out); (have hms42_0 := NB951_950.out); (refine skip_ (w1 := ?_) (by rfl) rfl ?_ ?_); rotate_left
              · go_simp; rfl
              (refine hK.out _ _ ⟨((cell_far (p := ⟨gb951, _, none⟩) NB950_951.out _).trans (((cell_far (p := ⟨gb951, _, none⟩) NB950_951.out _).trans (hHeld.1)))), ((cell_far (p := ⟨gb951, _, none⟩) NB950_951.out _).trans (((cell_far (p := ⟨gb951, _, none⟩) NB950_951.out _).trans (hHeld.2))))⟩ (fun hHeld => ?_)); clear hK K; (refine done_ (done_of HT_.out kq0) ?_); (try go_wp2); (refine bodyPost_ret (results_cell_row rfl _ _ gb951 160 #[.bool false, .slice A0_1 y968.length y968.length] (0, 0) _ rfl (kq22 BK951) Try.underlying160 rfl kq0) rfl ?_); (exact ⟨_, kq14, by (with_reducible repeat (first | apply Kd.V_alloc | apply Kd.V_drewN | apply Kd.V_drew)); exact Kd.V_mono (Kd.V_far (p := ⟨gb951, 1, none⟩) (Kd.V_far (p := ⟨gb951, 0, none⟩) (Kd.V_mono HO972.out (fun k_ hk => (⟨hk, hk.2.2⟩ : _ ∧ k_ ≠ gb951))) (fun _ hk => hk.2) (.bool false)) (fun _ hk => hk.2) (.slice A0_1 y968.length y968.length)) (fun _ hk => hk.1.1), (kq23 GE950 GE951)⟩)
            · (exact absurd H (by simp))
          · (exact absurd H (by simp))
end Go.Proofs.Ytjknpmibdkoklaa.Q
namespace Go.Proofs.Ytjknpmibdkoklaa.Q
open Go.RowKit Go.Proofs.YtjknpmibdkoklaaW.PrintWords Go.Proofs.YtjknpmibdkoklaaW.PrintLast Go.Proofs.YtjknpmibdkoklaaW.PrintMore
open Aside0 (mk)
open List (setIfInBounds_toArray set_cons_zero set_cons_succ)
attribute [local go_sem] max2_int min2_int max_two min_two max_three min_three max_four min_four
set_option linter.unusedVariables false
set_option linter.unusedSimpArgs false
attribute [local go_sem] fld99_2 fld103_2 fld160_0 fld160_1
def tabardref01_Of.f (k : Nat) (a0 : Int) : Option (Bool × List Int) := if a0 < 0 then ((tabardref01_Wide_trimmed.f k true (([Go.bits .and .u64 (IntKind.u64.wrap (-(IntKind.u64.wrap (a0)))) 65535, Go.bits .and .u64 ((IntKind.u64.wrap (-(IntKind.u64.wrap (a0)))) / 65536) 65535, Go.bits .and .u64 ((IntKind.u64.wrap (-(IntKind.u64.wrap (a0)))) / 4294967296) 65535, (IntKind.u64.wrap (-(IntKind.u64.wrap (a0)))) / 281474976710656] : List Int))).bind fun bt977 => (some (bt977.1, bt977.2))) else ((tabardref01_Wide_trimmed.f k false (([Go.bits .and .u64 (IntKind.u64.wrap (a0)) 65535, Go.bits .and .u64 ((IntKind.u64.wrap (a0)) / 65536) 65535, Go.bits .and .u64 ((IntKind.u64.wrap (a0)) / 4294967296) 65535, (IntKind.u64.wrap (a0)) / 281474976710656] : List Int))).bind fun bt984 => (some (bt984.1, bt984.2)))
theorem tabardref01_Of.mono : ∀ a0 k, LeO (tabardref01_Of.f k a0) (tabardref01_Of.f (k + 1) a0) := by
  intro a0 k
  unfold tabardref01_Of.f
  repeat' first
      | (with_reducible exact tabardref01_Wide_trimmed.mono _ _ _)
      | (with_reducible exact LeO.refl _)
      | (with_reducible exact LeO.none _)
      | (with_reducible refine LeO.ite ?_ ?_)
      | (with_reducible refine LeO.bind ?_ (fun _ => ?_))
      | exact tabardref01_Wide_trimmed.mono _ _ _
      | exact LeO.none _
      | refine LeO.ite ?_ ?_
      | refine LeO.bind ?_ (fun _ => ?_)
set_option maxHeartbeats 8000000 in
set_option maxRecDepth 100000 in
theorem tabardref01_Of.calls (k : Nat) (a0 : Int) (r1 : Bool) (r2 : List Int) (w : World) (h : tabardref01_Of.f k a0 = some (r1, r2)) :
    Calls Try.prog 133 #[.int .i64 a0] w fun e w' => ∃ v1_ : Value, e = .returned (.agg #[.bool r1, v1_]) ∧ Kd.V (Kd.int .u64) 187 w' w.heap.size (fun k_ => (w.heap.size ≤ k_)) v1_ r2 ∧ Below w.heap.size w w' := by
  have hu160 := Try.underlying160
  have HB := mk (Below.refl w.heap.size w)
  have H : (if a0 < 0 then ((tabardref01_Wide_trimmed.f k true (([Go.bits .and .u64 (IntKind.u64.wrap (-(IntKind.u64.wrap (a0)))) 65535, Go.bits .and .u64 ((IntKind.u64.wrap (-(IntKind.u64.wrap (a0)))) / 65536) 65535, Go.bits .and .u64 ((IntKind.u64.wrap (-(IntKind.u64.wrap (a0)))) / 4294967296) 65535, (IntKind.u64.wrap (-(IntKind.u64.wrap (a0)))) / 281474976710656] : List Int))).bind fun bt977 => (some (bt977.1, bt977.2))) else ((tabardref01_Wide_trimmed.f k false (([Go.bits .and .u64 (IntKind.u64.wrap (a0)) 65535, Go.bits .and .u64 ((IntKind.u64.wrap (a0)) / 65536) 65535, Go.bits .and .u64 ((IntKind.u64.wrap (a0)) / 4294967296) 65535, (IntKind.u64.wrap (a0)) / 281474976710656] : List Int))).bind fun bt984 => (some (bt984.1, bt984.2)))) = some (r1, r2) := h
  clear h
  by_cases c2 : a0 < 0
  · rw [if_pos c2] at H
    have c2b0 : decide (a0 < 0) = true := decide_eq_true c2
    clear c2
    obtain ⟨y974, hy974⟩ : ∃ y_ : List Int, y_ = (([Go.bits .and .u64 (IntKind.u64.wrap (-(IntKind.u64.wrap (a0)))) 65535, Go.bits .and .u64 ((IntKind.u64.wrap (-(IntKind.u64.wrap (a0)))) / 65536) 65535, Go.bits .and .u64 ((IntKind.u64.wrap (-(IntKind.u64.wrap (a0)))) / 4294967296) 65535, (IntKind.u64.wrap (-(IntKind.u64.wrap (a0)))) / 281474976710656] : List Int)) := ⟨_, rfl⟩
    replace H : ((tabardref01_Wide_trimmed.f k true y974).bind fun bt977 => (some (bt977.1, bt977.2))) = some (r1, r2) := by first | (rw [hy974]; with_reducible exact H) | (have H2_ := (Option.bind_some _ _).symm.trans H; rw [hy974]; with_reducible exact H2_) | (have H2_ := (Option.bind_some _ _).symm.trans H; with_reducible exact H2_) | with_reducible exact H | (rw [hy974]; exact H) | exact H
    have Ny974 := mk hy974
    clear hy974
    replace H := Option.bind_eq_some_iff.mp H
    obtain ⟨⟨t977, t978⟩, A30, H⟩ := H
    replace H : (some (t977, t978)) = some (r1, r2) := H
    have A3 := mk A30
    clear A30
    simp only [Option.some.injEq, Prod.mk.injEq] at H
    obtain ⟨rfl, rfl⟩ := H
    go_enter Try.func133, Try.ntmps133
    go_wp2_with (first | ((with_reducible refine gate_dst (N := 2) rfl ?_); refine box_event ?hg (N := 2) ?hd (cs := #[.bool false, .slice none 0 0]) (t := 160) ?hr ?_; (case hd => rfl); (case hg => rfl); (case hr => exact kq11); intro gb973 hg w4 hbox hb; have BK973 := mk (hbox); have GW973 := (gs_ hg kq9); have GE973 := GW973; replace HB := mk (below_step kq9 hb); clear hb hbox hg) | ((with_reducible refine gate_dst (N := 22) rfl ?_); refine Kd.R_lit (Kd.int .u64) _ 187 ?hg (N := 22) ?hd (xs := ([Go.bits .and .u64 (IntKind.u64.wrap (-(IntKind.u64.wrap (a0)))) 65535, Go.bits .and .u64 ((IntKind.u64.wrap (-(IntKind.u64.wrap (a0)))) / 65536) 65535, Go.bits .and .u64 ((IntKind.u64.wrap (-(IntKind.u64.wrap (a0)))) / 4294967296) 65535, (IntKind.u64.wrap (-(IntKind.u64.wrap (a0)))) / 281474976710656] : List Int)) (inner := [.int .u64 (Go.bits .and .u64 (IntKind.u64.wrap (-(IntKind.u64.wrap (a0)))) 65535), .int .u64 (Go.bits .and .u64 ((IntKind.u64.wrap (-(IntKind.u64.wrap (a0)))) / 65536) 65535), .int .u64 (Go.bits .and .u64 ((IntKind.u64.wrap (-(IntKind.u64.wrap (a0)))) / 4294967296) 65535), .int .u64 ((IntKind.u64.wrap (-(IntKind.u64.wrap (a0)))) / 281474976710656)]) (ok := fun _ => True) (okp := fun _ => True) ?hr ?hp (fun _ hk => hk) trivial (Below.refl _ _) (Nat.le_refl _) (by simp) ?_; (case hd => rfl); (case hg => rfl); (case hr => exact kq11); (case hp => exact (Reps.one (show Kd.M (Kd.int .u64) _ _ _ (Go.bits .and .u64 (IntKind.u64.wrap (-(IntKind.u64.wrap (a0)))) 65535) [.int .u64 (Go.bits .and .u64 (IntKind.u64.wrap (-(IntKind.u64.wrap (a0)))) 65535)] from rfl) (Reps.one (show Kd.M (Kd.int .u64) _ _ _ (Go.bits .and .u64 ((IntKind.u64.wrap (-(IntKind.u64.wrap (a0)))) / 65536) 65535) [.int .u64 (Go.bits .and .u64 ((IntKind.u64.wrap (-(IntKind.u64.wrap (a0)))) / 65536) 65535)] from rfl) (Reps.one (show Kd.M (Kd.int .u64) _ _ _ (Go.bits .and .u64 ((IntKind.u64.wrap (-(IntKind.u64.wrap (a0)))) / 4294967296) 65535) [.int .u64 (Go.bits .and .u64 ((IntKind.u64.wrap (-(IntKind.u64.wrap (a0)))) / 4294967296) 65535)] from rfl) (Reps.one (show Kd.M (Kd.int .u64) _ _ _ ((IntKind.u64.wrap (-(IntKind.u64.wrap (a0)))) / 281474976710656) [.int .u64 ((IntKind.u64.wrap (-(IntKind.u64.wrap (a0)))) / 281474976710656)] from rfl) (Reps.none _ _)))))); intro v975 w5 ho6 hb hg_ hnew_; clear hg_ hnew_; (first | rw [← Ny974.out] at ho6 | (simp only [Int.reduceToNat] at ho6; rw [← Ny974.out] at ho6)); have HO976 := mk (Kd.R_lower (Kd.R_newM (M := fun k_ => (w.heap.size ≤ k_)) ho6 (below_size (kq16 GE973)) (fun k_ h_ => h_)) (below_size (kq16 GE973))); replace BK973 := (bb_ BK973 hb); replace HB := mk (below_step (kq16 GE973) hb); clear hb ho6; obtain ⟨Ao7, co7, eo7⟩ := Kd.R_slice HO976.out; subst eo7) | ((with_reducible refine gate_callee (f := 170) rfl ?_); refine goesL_ (some 24) rfl rfl Try.func170 kq0 rfl #[.agg #[.bool true, .slice Ao7 y974.length co7]] rfl kq7 ?_; (with_reducible refine (tabardref01_Wide_trimmed.calls k true (fun k_ => some k_ = (.slice Ao7 y974.length co7 : Value).ownBlock) _ _ y974 t977 t978 _ ?side1 A3.out).mono ?_); (case side1 => exact Kd.R_V (Kd.R_tight rfl (Kd.R_types (HO976.out) BK973.out kq2))); rintro e w8 ⟨v979, rfl, ho0, hb⟩; refine ⟨_, rfl, ?_⟩; have HO980 := mk (Kd.V_lower (Kd.V_mono (ok' := fun k_ => (w.heap.size ≤ k_) ∧ k_ ≠ gb973) ho0 (fun k_ hk_ => ⟨Or.elim hk_ (fun hs_ => ((Kd.R_types (HO976.out) BK973.out kq2).1 k_ hs_.symm).1.1) (fun hn_ => (Nat.le_trans (below_size (kq16 GE973)) hn_)), Or.elim hk_ (fun hs_ => ((Kd.R_types (HO976.out) BK973.out kq2).1 k_ hs_.symm).2) (fun hn_ => (Kd.freshB (g := gb973) (o := .cells #[.bool false, .slice none 0 0] 160 (0, 0)) (kq18 BK973) k_ hn_))⟩)) (below_size (kq16 GE973))); replace HO976 := mk (Kd.R_below (kq15 HO976) hb); replace BK973 := (bb_ BK973 hb); replace HB := mk (below_step (kq16 GE973) hb); obtain ⟨_, _, _, _⟩ := cz2_ BK973.out; obtain ⟨Ao10, co10, eo10⟩ := Kd.V_slice HO980.out; subst eo10))
    refine bodyPost_ret (results_cell_row rfl _ _ gb973 160 #[.bool t977, .slice Ao10 t978.length co10] (0, 0) _ rfl (by (with_reducible repeat (first | refine blk_drewN ?_ _ | refine blk_drew ?_ | refine blk_alloc ?_ _)); refine blk_put (cs := #[.bool t977, .slice none 0 0]) ?_ 1 _ rfl; (with_reducible repeat (first | refine blk_drewN ?_ _ | refine blk_drew ?_ | refine blk_alloc ?_ _)); refine blk_put (cs := #[.bool false, .slice none 0 0]) ?_ 0 _ rfl; (with_reducible repeat (first | refine blk_drewN ?_ _ | refine blk_drew ?_ | refine blk_alloc ?_ _)); exact BK973.out) Try.underlying160 rfl kq0) rfl ?_
    exact ⟨_, kq14, by (with_reducible repeat (first | apply Kd.V_alloc | apply Kd.V_drewN | apply Kd.V_drew)); exact Kd.V_mono (Kd.V_far (p := ⟨gb973, 1, none⟩) (Kd.V_far (p := ⟨gb973, 0, none⟩) (Kd.V_mono HO980.out (fun k_ hk => (⟨hk, hk.2⟩ : _ ∧ k_ ≠ gb973))) (fun _ hk => hk.2) (.bool t977)) (fun _ hk => hk.2) (.slice Ao10 t978.length co10)) (fun _ hk => hk.1.1), (kq16 GE973)⟩
  · rw [if_neg c2] at H
    have c2b0 : decide (a0 < 0) = false := decide_eq_false c2
    clear c2
    obtain ⟨y981, hy981⟩ : ∃ y_ : List Int, y_ = (([Go.bits .and .u64 (IntKind.u64.wrap (a0)) 65535, Go.bits .and .u64 ((IntKind.u64.wrap (a0)) / 65536) 65535, Go.bits .and .u64 ((IntKind.u64.wrap (a0)) / 4294967296) 65535, (IntKind.u64.wrap (a0)) / 281474976710656] : List Int)) := ⟨_, rfl⟩
    replace H : ((tabardref01_Wide_trimmed.f k false y981).bind fun bt984 => (some (bt984.1, bt984.2))) = some (r1, r2) := by first | (rw [hy981]; with_reducible exact H) | (have H2_ := (Option.bind_some _ _).symm.trans H; rw [hy981]; with_reducible exact H2_) | (have H2_ := (Option.bind_some _ _).symm.trans H; with_reducible exact H2_) | with_reducible exact H | (rw [hy981]; exact H) | exact H
    have Ny981 := mk hy981
    clear hy981
    replace H := Option.bind_eq_some_iff.mp H
    obtain ⟨⟨t984, t985⟩, A110, H⟩ := H
    replace H : (some (t984, t985)) = some (r1, r2) := H
    have A11 := mk A110
    clear A110
    simp only [Option.some.injEq, Prod.mk.injEq] at H
    obtain ⟨rfl, rfl⟩ := H
    go_enter Try.func133, Try.ntmps133
    go_wp2_with (first | ((with_reducible refine gate_dst (N := 2) rfl ?_); refine box_event ?hg (N := 2) ?hd (cs := #[.bool false, .slice none 0 0]) (t := 160) ?hr ?_; (case hd => rfl); (case hg => rfl); (case hr => exact kq11); intro gb973 hg w12 hbox hb; have BK973 := mk (hbox); have GW973 := (gs_ hg kq9); have GE973 := GW973; replace HB := mk (below_step kq9 hb); clear hb hbox hg) | ((with_reducible refine gate_dst (N := 22) rfl ?_); refine Kd.R_lit (Kd.int .u64) _ 187 ?hg (N := 22) ?hd (xs := ([Go.bits .and .u64 (IntKind.u64.wrap (a0)) 65535, Go.bits .and .u64 ((IntKind.u64.wrap (a0)) / 65536) 65535, Go.bits .and .u64 ((IntKind.u64.wrap (a0)) / 4294967296) 65535, (IntKind.u64.wrap (a0)) / 281474976710656] : List Int)) (inner := [.int .u64 (Go.bits .and .u64 (IntKind.u64.wrap (a0)) 65535), .int .u64 (Go.bits .and .u64 ((IntKind.u64.wrap (a0)) / 65536) 65535), .int .u64 (Go.bits .and .u64 ((IntKind.u64.wrap (a0)) / 4294967296) 65535), .int .u64 ((IntKind.u64.wrap (a0)) / 281474976710656)]) (ok := fun _ => True) (okp := fun _ => True) ?hr ?hp (fun _ hk => hk) trivial (Below.refl _ _) (Nat.le_refl _) (by simp) ?_; (case hd => rfl); (case hg => rfl); (case hr => exact kq11); (case hp => exact (Reps.one (show Kd.M (Kd.int .u64) _ _ _ (Go.bits .and .u64 (IntKind.u64.wrap (a0)) 65535) [.int .u64 (Go.bits .and .u64 (IntKind.u64.wrap (a0)) 65535)] from rfl) (Reps.one (show Kd.M (Kd.int .u64) _ _ _ (Go.bits .and .u64 ((IntKind.u64.wrap (a0)) / 65536) 65535) [.int .u64 (Go.bits .and .u64 ((IntKind.u64.wrap (a0)) / 65536) 65535)] from rfl) (Reps.one (show Kd.M (Kd.int .u64) _ _ _ (Go.bits .and .u64 ((IntKind.u64.wrap (a0)) / 4294967296) 65535) [.int .u64 (Go.bits .and .u64 ((IntKind.u64.wrap (a0)) / 4294967296) 65535)] from rfl) (Reps.one (show Kd.M (Kd.int .u64) _ _ _ ((IntKind.u64.wrap (a0)) / 281474976710656) [.int .u64 ((IntKind.u64.wrap (a0)) / 281474976710656)] from rfl) (Reps.none _ _)))))); intro v982 w13 ho14 hb hg_ hnew_; clear hg_ hnew_; (first | rw [← Ny981.out] at ho14 | (simp only [Int.reduceToNat] at ho14; rw [← Ny981.out] at ho14)); have HO983 := mk (Kd.R_lower (Kd.R_newM (M := fun k_ => (w.heap.size ≤ k_)) ho14 (below_size (kq16 GE973)) (fun k_ h_ => h_)) (below_size (kq16 GE973))); replace BK973 := (bb_ BK973 hb); replace HB := mk (below_step (kq16 GE973) hb); clear hb ho14; obtain ⟨Ao15, co15, eo15⟩ := Kd.R_slice HO983.out; subst eo15) | ((with_reducible refine gate_callee (f := 170) rfl ?_); refine goesL_ (some 24) rfl rfl Try.func170 kq0 rfl #[.agg #[.bool false, .slice Ao15 y981.length co15]] rfl kq7 ?_; (with_reducible refine (tabardref01_Wide_trimmed.calls k false (fun k_ => some k_ = (.slice Ao15 y981.length co15 : Value).ownBlock) _ _ y981 t984 t985 _ ?side1 A11.out).mono ?_); (case side1 => exact Kd.R_V (Kd.R_tight rfl (Kd.R_types (HO983.out) BK973.out kq2))); rintro e w16 ⟨v986, rfl, ho0, hb⟩; refine ⟨_, rfl, ?_⟩; have HO987 := mk (Kd.V_lower (Kd.V_mono (ok' := fun k_ => (w.heap.size ≤ k_) ∧ k_ ≠ gb973) ho0 (fun k_ hk_ => ⟨Or.elim hk_ (fun hs_ => ((Kd.R_types (HO983.out) BK973.out kq2).1 k_ hs_.symm).1.1) (fun hn_ => (Nat.le_trans (below_size (kq16 GE973)) hn_)), Or.elim hk_ (fun hs_ => ((Kd.R_types (HO983.out) BK973.out kq2).1 k_ hs_.symm).2) (fun hn_ => (Kd.freshB (g := gb973) (o := .cells #[.bool false, .slice none 0 0] 160 (0, 0)) (kq18 BK973) k_ hn_))⟩)) (below_size (kq16 GE973))); replace HO983 := mk (Kd.R_below (kq15 HO983) hb); replace BK973 := (bb_ BK973 hb); replace HB := mk (below_step (kq16 GE973) hb); obtain ⟨_, _, _, _⟩ := cz2_ BK973.out; obtain ⟨Ao18, co18, eo18⟩ := Kd.V_slice HO987.out; subst eo18))
    refine bodyPost_ret (results_cell_row rfl _ _ gb973 160 #[.bool t984, .slice Ao18 t985.length co18] (0, 0) _ rfl (by (with_reducible repeat (first | refine blk_drewN ?_ _ | refine blk_drew ?_ | refine blk_alloc ?_ _)); refine blk_put (cs := #[.bool t984, .slice none 0 0]) ?_ 1 _ rfl; (with_reducible repeat (first | refine blk_drewN ?_ _ | refine blk_drew ?_ | refine blk_alloc ?_ _)); refine blk_put (cs := #[.bool false, .slice none 0 0]) ?_ 0 _ rfl; (with_reducible repeat (first | refine blk_drewN ?_ _ | refine blk_drew ?_ | refine blk_alloc ?_ _)); exact BK973.out) Try.underlying160 rfl kq0) rfl ?_
    exact ⟨_, kq14, by (with_reducible repeat (first | apply Kd.V_alloc | apply Kd.V_drewN | apply Kd.V_drew)); exact Kd.V_mono (Kd.V_far (p := ⟨gb973, 1, none⟩) (Kd.V_far (p := ⟨gb973, 0, none⟩) (Kd.V_mono HO987.out (fun k_ hk => (⟨hk, hk.2⟩ : _ ∧ k_ ≠ gb973))) (fun _ hk => hk.2) (.bool t984)) (fun _ hk => hk.2) (.slice Ao18 t985.length co18)) (fun _ hk => hk.1.1), (kq16 GE973)⟩
def tabardref01_Wide_digit.f (a0_0 : Bool) (l0_1 : List Int) (a1 : Int) : Option (Int) := if a1 < (l0_1.length : Int) then (if 0 ≤ a1 then (some (rd l0_1 a1)) else (none)) else (some 0)
set_option maxHeartbeats 8000000 in
set_option maxRecDepth 100000 in
theorem tabardref01_Wide_digit.calls (a0_0 : Bool) (A0_1 : Option Addr) (c0_1 : Nat) (l0_1 : List Int) (a1 : Int) (r : Int) (w : World) (hr0_1 : Kd.C (Kd.int .u64) w A0_1 l0_1.length l0_1) (hc0_1 : l0_1.length ≤ c0_1) (h : tabardref01_Wide_digit.f a0_0 l0_1 a1 = some r) :
    Calls Try.prog 173 #[.agg #[.bool a0_0, .slice A0_1 l0_1.length c0_1], .int .i64 a1] w fun e w' => e = .returned (.int .u64 r) ∧ Below w.heap.size w w' := by
  have hu160 := Try.underlying160
  have HR0_1 := mk hr0_1
  have HC0_1 := mk hc0_1
  clear hr0_1 hc0_1
  have HB := mk (Below.refl w.heap.size w)
  have H : (if a1 < (l0_1.length : Int) then (if 0 ≤ a1 then (some (rd l0_1 a1)) else (none)) else (some 0)) = some r := h
  clear h
  by_cases c3 : a1 < (l0_1.length : Int)
  · rw [if_pos c3] at H
    have c3b0 : decide (a1 < (l0_1.length : Int)) = true := decide_eq_true c3
    clear c3
    replace H := ic_ H; obtain ⟨c4, H⟩ | ⟨c4, H⟩ := H
    · (have c4b0 : decide (0 ≤ a1) = true := decide_eq_true c4); clear c4; (obtain rfl := Option.some.inj H); (go_enter Try.func173, Try.ntmps173); (go_wp2_with (first | ((with_reducible refine gate_dst (N := 2) rfl ?_); refine box_event ?hg (N := 2) ?hd (cs := #[.bool a0_0, .slice A0_1 l0_1.length c0_1]) (t := 160) ?hr ?_; (case hd => rfl); (case hg => rfl); (case hr => exact kq11); intro gb988 hg w5 hbox hb; have BK988 := mk (hbox); have GW988 := (gs_ hg kq9); have GE988 := GW988; replace HB := mk (below_step kq9 hb); clear hb hbox hg; obtain ⟨_, _, _, _⟩ := cz2_ BK988.out; have p989 : 0 ≤ (a1 : Int) := of_decide_eq_true kq8; have q989 : a1 < (l0_1.length : Int) := of_decide_eq_true kq8; obtain ⟨ad989, e989, hx989_0⟩ := Kd.at_int HR0_1.out a1 p989 q989; cases e989; replace hx989_0 := (HB.out.cell (World.block_lt_of_cell? w _ hx989_0)).trans hx989_0; replace p989 := eq_true p989; replace q989 := eq_true q989))); go_ret; (exact ⟨kq14, (kq16 GE988)⟩)
    · (exact absurd H (by simp))
  · rw [if_neg c3] at H
    have c3b0 : decide (a1 < (l0_1.length : Int)) = false := decide_eq_false c3
    clear c3
    obtain rfl := Option.some.inj H
    go_enter Try.func173, Try.ntmps173
    go_wp2_with (first | ((with_reducible refine gate_dst (N := 2) rfl ?_); refine box_event ?hg (N := 2) ?hd (cs := #[.bool a0_0, .slice A0_1 l0_1.length c0_1]) (t := 160) ?hr ?_; (case hd => rfl); (case hg => rfl); (case hr => exact kq11); intro gb988 hg w7 hbox hb; have BK988 := mk (hbox); have GW988 := (gs_ hg kq9); have GE988 := GW988; replace HB := mk (below_step kq9 hb); clear hb hbox hg; obtain ⟨_, _, _, _⟩ := cz2_ BK988.out))
    go_ret
    exact ⟨kq14, (kq16 GE988)⟩
end Go.Proofs.Ytjknpmibdkoklaa.Q
namespace Go.Proofs.Ytjknpmibdkoklaa.Q
open Go.RowKit Go.Proofs.YtjknpmibdkoklaaW.PrintWords Go.Proofs.YtjknpmibdkoklaaW.PrintLast Go.Proofs.YtjknpmibdkoklaaW.PrintMore
open Aside0 (mk)
open List (setIfInBounds_toArray set_cons_zero set_cons_succ)
attribute [local go_sem] max2_int min2_int max_two min_two max_three min_three max_four min_four
set_option linter.unusedVariables false
set_option linter.unusedSimpArgs false
attribute [local go_sem] fld99_2 fld103_2 fld160_0 fld160_1
mutual
def tabardref01_plus.l0 : Nat → List Int → Int → Int → Bool → List Int → Bool → List Int → Option (List Int)
  | 0, _, _, _, _, _, _, _ => none
  | k + 1, x5, x6, x7, x991000, x991001, x992000, x992001 => if x7 < (mx (x991001.length : Int) (x992001.length : Int)) then (tabardref01_plus.j1 k x5 x6 x7 true x991000 x991001 x992000 x992001) else (tabardref01_plus.j1 k x5 x6 x7 (decide (x6 > 0)) x991000 x991001 x992000 x992001)
def tabardref01_plus.j1 : Nat → List Int → Int → Int → Bool → Bool → List Int → Bool → List Int → Option (List Int)
  | 0, _, _, _, _, _, _, _, _ => none
  | k + 1, x5, x6, x7, x21, x991000, x991001, x992000, x992001 => if x21 = true then ((tabardref01_Wide_digit.f x991000 x991001 x7).bind fun t992 => ((tabardref01_Wide_digit.f x992000 x992001 x7).bind fun t993 => (if x5.length < 17592186044416 then (tabardref01_plus.l0 k (x5 ++ [Go.bits .and .u64 (IntKind.u64.wrap ((IntKind.u64.wrap (t992 + t993)) + x6)) 65535]) ((IntKind.u64.wrap ((IntKind.u64.wrap (t992 + t993)) + x6)) / 65536) (wrap64 (x7 + 1)) x991000 x991001 x992000 x992001) else (none)))) else (some x5)
end
def tabardref01_plus.f (k : Nat) (a0_0 : Bool) (l0_1 : List Int) (a1_0 : Bool) (l1_1 : List Int) : Option (List Int) := tabardref01_plus.l0 k ([] : List Int) 0 0 a0_0 l0_1 a1_0 l1_1
theorem tabardref01_plus.mono_l : ∀ k, (∀ y0 y1 y2 y3 y4 y5 y6, LeO (tabardref01_plus.l0 k y0 y1 y2 y3 y4 y5 y6) (tabardref01_plus.l0 (k + 1) y0 y1 y2 y3 y4 y5 y6)) ∧ (∀ y0 y1 y2 y3 y4 y5 y6 y7, LeO (tabardref01_plus.j1 k y0 y1 y2 y3 y4 y5 y6 y7) (tabardref01_plus.j1 (k + 1) y0 y1 y2 y3 y4 y5 y6 y7))
  | 0 => ⟨fun _ _ _ _ _ _ _ r h => by simp [tabardref01_plus.l0] at h, fun _ _ _ _ _ _ _ _ r h => by simp [tabardref01_plus.j1] at h⟩
  | k + 1 => by
    obtain ⟨ih0, ih1⟩ := tabardref01_plus.mono_l k
    refine ⟨?_, ?_⟩ <;> intros <;> (first | unfold tabardref01_plus.l0 | unfold tabardref01_plus.j1) <;> repeat' first | (with_reducible first | exact ih0 _ _ _ _ _ _ _ | exact ih1 _ _ _ _ _ _ _ _ | exact LeO.refl _ | exact LeO.none _ | refine LeO.ite ?_ ?_ | refine LeO.bind ?_ (fun _ => ?_)) | exact ih0 _ _ _ _ _ _ _ | exact ih1 _ _ _ _ _ _ _ _ | exact LeO.none _ | refine LeO.ite ?_ ?_ | refine LeO.bind ?_ (fun _ => ?_)
theorem tabardref01_plus.mono : ∀ a0 a1 a2 a3 k, LeO (tabardref01_plus.f k a0 a1 a2 a3) (tabardref01_plus.f (k + 1) a0 a1 a2 a3) := by
  intro a0 a1 a2 a3 k
  obtain ⟨ih0, ih1⟩ := tabardref01_plus.mono_l k
  unfold tabardref01_plus.f
  repeat' first
      | (with_reducible exact ih0 _ _ _ _ _ _ _)
      | (with_reducible exact ih1 _ _ _ _ _ _ _ _)
      | (with_reducible exact LeO.refl _)
      | (with_reducible exact LeO.none _)
      | (with_reducible refine LeO.ite ?_ ?_)
      | (with_reducible refine LeO.bind ?_ (fun _ => ?_))
      | exact ih0 _ _ _ _ _ _ _
      | exact ih1 _ _ _ _ _ _ _ _
      | exact LeO.none _
      | refine LeO.ite ?_ ?_
      | refine LeO.bind ?_ (fun _ => ?_)
def tabardref01_plus.T6 : Bool × List (List Nat × List Nat) := (true, [([], []), ([], []), ([0, 1], [0, 1]), ([], []), ([], []), ([3, 4, 2], [3, 4]), ([2, 5], [2, 5]), ([], []), ([6, 7], [6, 7]), ([8, 5, 0, 1, 2, 3, 4, 5, 6, 7, 8], [8])])
def tabardref01_plus.B6 : List Nat := [0, 0, 3, 0, 0, 31, 63, 0, 255, 511]
theorem tabardref01_plus.tab6 : rtab .any (opsOf Try.f169 6) = tabardref01_plus.T6 := by kernel_rfl
theorem tabardref01_plus.bits6 : waitsOk tabardref01_plus.T6.2 tabardref01_plus.B6 = true := by kernel_rfl
set_option maxHeartbeats 8000000 in
set_option maxRecDepth 100000 in
theorem tabardref01_plus.calls (k : Nat) (a0_0 : Bool) (A0_1 : Option Addr) (c0_1 : Nat) (l0_1 : List Int) (a1_0 : Bool) (A1_1 : Option Addr) (c1_1 : Nat) (l1_1 : List Int) (r : List Int) (w : World) (hr0_1 : Kd.C (Kd.int .u64) w A0_1 l0_1.length l0_1) (hc0_1 : l0_1.length ≤ c0_1) (hr1_1 : Kd.C (Kd.int .u64) w A1_1 l1_1.length l1_1) (hc1_1 : l1_1.length ≤ c1_1) (h : tabardref01_plus.f k a0_0 l0_1 a1_0 l1_1 = some r) :
    Calls Try.prog 169 #[.agg #[.bool a0_0, .slice A0_1 l0_1.length c0_1], .agg #[.bool a1_0, .slice A1_1 l1_1.length c1_1]] w fun e w' => ∃ v0_ : Value, e = .returned (v0_) ∧ Kd.R (Kd.int .u64) 187 w' w.heap.size (fun _ => True) v0_ r ∧ Below w.heap.size w w' := by
  have hu160 := Try.underlying160
  have HR0_1 := mk hr0_1
  have HC0_1 := mk hc0_1
  clear hr0_1 hc0_1
  have HR1_1 := mk hr1_1
  have HC1_1 := mk hc1_1
  clear hr1_1 hc1_1
  have HB := mk (Below.refl w.heap.size w)
  have H : (tabardref01_plus.l0 k ([] : List Int) 0 0 a0_0 l0_1 a1_0 l1_1) = some r := h
  clear h
  have H' := mk H
  clear H
  go_enter Try.func169, Try.ntmps169
  go_wp2_with (first | ((with_reducible refine gate_dst (N := 2) rfl ?_); refine box_event ?hg (N := 2) ?hd (cs := #[.bool a0_0, .slice A0_1 l0_1.length c0_1]) (t := 160) ?hr ?_; (case hd => rfl); (case hg => rfl); (case hr => exact kq11); intro gb990 hg w3 hbox hb; have BK990 := mk (hbox); have GW990 := (gs_ hg kq9); have GE990 := GW990; replace HB := mk (below_step kq9 hb); clear hb hbox hg) | ((with_reducible refine gate_dst (N := 3) rfl ?_); refine box_event ?hg (N := 3) ?hd (cs := #[.bool a1_0, .slice A1_1 l1_1.length c1_1]) (t := 160) ?hr ?_; (case hd => rfl); (case hg => rfl); (case hr => exact kq11); intro gb991 hg w4 hbox hb; have BK991 := mk (hbox); have GW991 := (gs_ hg (kq16 GE990)); have GE991 := GW991; have NB990_991 := (nl_ hg BK990); have NB991_990 := (ng_ hg BK990); replace BK990 := (bb_ BK990 hb); replace HB := mk (below_step (kq16 GE990) hb); clear hb hbox hg))
  go_loopg [5, 6, 7] k (fun kq v5 v6 v7 w' => ∃ (x5_1 : List Int) (x6_1 : Int) (x7_1 : Int), v6 = .int .u64 x6_1 ∧ v7 = .int .i64 x7_1 ∧ Aside0 (tabardref01_plus.l0 kq x5_1 x6_1 x7_1 a0_0 l0_1 a1_0 l1_1 = some r) ∧ Aside0 (kq ≤ k) ∧ Aside0 (Kd.R (Kd.int .u64) 187 w' w.heap.size (fun _ => True) v5 x5_1) ∧ Aside0 (w'.heap[gb990]? = some (.cells #[.bool a0_0, (.slice A0_1 l0_1.length c0_1)] 160 (0, 0))) ∧ Aside0 (w'.heap[gb991]? = some (.cells #[.bool a1_0, (.slice A1_1 l1_1.length c1_1)] 160 (0, 0))) ∧ Aside0 (Below w.heap.size w w'))
  case atStart => exact ⟨(([] : List Int)), (0), (0), kq3, kq3, H', ⟨Nat.le_refl _⟩, ⟨kq27⟩, ⟨(kq18 BK990)⟩, ⟨(kq18 BK991)⟩, ⟨(kq23 GE990 GE991)⟩⟩
  case round =>
    clear H'
    obtain ⟨x5_1, x6_1, x7_1, rfl, rfl, HA, HK1, HO_5, BK990, BK991, HB⟩ := hrel
    cases gk with
    | zero => exact absurd HA.out (by simp [tabardref01_plus.l0])
    | succ k1 =>
      (have H := HA.out); clear HA; (simp only [tabardref01_plus.l0] at H); (have HC5 := mk H); clear H; (go_upto_region 4 with (fail)); (go_cut [21] (fun v21 wc => ∃ (kq : Nat) (x21_4 : Bool), v21 = .bool x21_4 ∧ Aside0 (tabardref01_plus.j1 kq x5_1 x6_1 x7_1 x21_4 a0_0 l0_1 a1_0 l1_1 = some r) ∧ Aside0 (kq ≤ k1) ∧ Aside0 (Kd.R (Kd.int .u64) 187 wc w.heap.size (fun _ => True) u5 x5_1) ∧ Aside0 (wc.heap[gb990]? = some (.cells #[.bool a0_0, (.slice A0_1 l0_1.length c0_1)] 160 (0, 0))) ∧ Aside0 (wc.heap[gb991]? = some (.cells #[.bool a1_0, (.slice A1_1 l1_1.length c1_1)] 160 (0, 0))) ∧ Aside0 (Below w.heap.size w wc)))
      case first =>
        (have H := HC5.out); clear HC5; (obtain ⟨ji6, hji6⟩ : ∃ j_ : Int, (mx (l0_1.length : Int) (l1_1.length : Int)) = j_ := ⟨_, rfl⟩); (replace H : (if x7_1 < (ji6) then (tabardref01_plus.j1 k1 x5_1 x6_1 x7_1 true a0_0 l0_1 a1_0 l1_1) else (tabardref01_plus.j1 k1 x5_1 x6_1 x7_1 (decide (x6_1 > 0)) a0_0 l0_1 a1_0 l1_1)) = some r := by first | (rw [hji6] at H; exact H) | (simp only [hji6] at H ⊢; exact H)); (have hji6_ : (if (l0_1.length : Int) < (l1_1.length : Int) then (l1_1.length : Int) else (l0_1.length : Int)) = ji6 := hji6); ((try (have hji6n : (if l0_1.length < l1_1.length then (l1_1.length : Int) else (l0_1.length : Int)) = ji6 := by rw [← hji6]; unfold mx; (repeat' split) <;> omega))); replace H := ic_ H; obtain ⟨c7, H⟩ | ⟨c7, H⟩ := H
        · (have c7b0 := decide_eq_true c7); clear c7; ((first | rw [c7b0] | (simp only [i64_w, i32_w]; rw [c7b0]) | skip)); (have H' := mk H); clear H; (have hnb8 := NB990_991.out); (have hnc8 := NB991_990.out); (obtain ⟨_, _, _, _⟩ := cz2_ BK990.out); (obtain ⟨_, _, _, _⟩ := cz2_ BK991.out); go_wp2; (go_meet)
          case rel => exact ⟨_, (true), kq3, H', ⟨by have := HK1.out; first | omega | exact Nat.le_refl _⟩, ⟨(kq15 HO_5)⟩, ⟨(kq18 BK990)⟩, ⟨(kq18 BK991)⟩, ⟨(kq23 GE990 GE991)⟩⟩
        · (have c7b0 := decide_eq_false c7); clear c7; ((first | rw [c7b0] | (simp only [i64_w, i32_w]; rw [c7b0]) | skip)); (have H' := mk H); clear H; (have hnb11 := NB990_991.out); (have hnc11 := NB991_990.out); (obtain ⟨_, _, _, _⟩ := cz2_ BK990.out); (obtain ⟨_, _, _, _⟩ := cz2_ BK991.out); go_wp2; (go_meet)
          case rel => exact ⟨_, (decide (x6_1 > 0)), kq3, H', ⟨by have := HK1.out; first | omega | exact Nat.le_refl _⟩, ⟨(kq15 HO_5)⟩, ⟨(kq18 BK990)⟩, ⟨(kq18 BK991)⟩, ⟨(kq23 GE990 GE991)⟩⟩
      case rest =>
        clear HC5; (obtain ⟨kq, x21_4, rfl, HA, HJ4, HO_5, BK990, BK991, HB⟩ := hcut)
        cases kq with
        | zero => exact absurd HA.out (by simp [tabardref01_plus.j1])
        | succ kj4 =>
          (have H := HA.out); clear HA; (simp only [tabardref01_plus.j1] at H); (by_cases c14 : x21_4 = true)
          · subst c14; (have H1 : ((tabardref01_Wide_digit.f a0_0 l0_1 x7_1).bind fun t992 => ((tabardref01_Wide_digit.f a1_0 l1_1 x7_1).bind fun t993 => (if x5_1.length < 17592186044416 then (tabardref01_plus.l0 kj4 (x5_1 ++ [Go.bits .and .u64 (IntKind.u64.wrap ((IntKind.u64.wrap (t992 + t993)) + x6_1)) 65535]) ((IntKind.u64.wrap ((IntKind.u64.wrap (t992 + t993)) + x6_1)) / 65536) (wrap64 (x7_1 + 1)) a0_0 l0_1 a1_0 l1_1) else (none)))) = some r := by rw [if_pos rfl] at H; exact H); clear H; (have H := H1); clear H1; (replace H := Option.bind_eq_some_iff.mp H); (obtain ⟨t992, A150, H⟩ := H); (replace H : ((tabardref01_Wide_digit.f a1_0 l1_1 x7_1).bind fun t993 => (if x5_1.length < 17592186044416 then (tabardref01_plus.l0 kj4 (x5_1 ++ [Go.bits .and .u64 (IntKind.u64.wrap ((IntKind.u64.wrap (t992 + t993)) + x6_1)) 65535]) ((IntKind.u64.wrap ((IntKind.u64.wrap (t992 + t993)) + x6_1)) / 65536) (wrap64 (x7_1 + 1)) a0_0 l0_1 a1_0 l1_1) else (none))) = some r := H); (have A15 := mk A150); clear A150; (replace H := Option.bind_eq_some_iff.mp H); (obtain ⟨t993, A160, H⟩ := H); (replace H : (if x5_1.length < 17592186044416 then (tabardref01_plus.l0 kj4 (x5_1 ++ [Go.bits .and .u64 (IntKind.u64.wrap ((IntKind.u64.wrap (t992 + t993)) + x6_1)) 65535]) ((IntKind.u64.wrap ((IntKind.u64.wrap (t992 + t993)) + x6_1)) / 65536) (wrap64 (x7_1 + 1)) a0_0 l0_1 a1_0 l1_1) else (none)) = some r := H); (have A16 := mk A160); clear A160; replace H := ic_ H; obtain ⟨c17, H⟩ | ⟨c17, H⟩ := H
            · (have LMc17 := mk c17); clear c17; (obtain ⟨y994, hy994⟩ : ∃ y_ : List Int, y_ = (x5_1 ++ [Go.bits .and .u64 (IntKind.u64.wrap ((IntKind.u64.wrap (t992 + t993)) + x6_1)) 65535]) := ⟨_, rfl⟩); (replace H : (tabardref01_plus.l0 kj4 y994 ((IntKind.u64.wrap ((IntKind.u64.wrap (t992 + t993)) + x6_1)) / 65536) (wrap64 (x7_1 + 1)) a0_0 l0_1 a1_0 l1_1) = some r := by first | (rw [hy994]; with_reducible exact H) | (have H2_ := (Option.bind_some _ _).symm.trans H; rw [hy994]; with_reducible exact H2_) | (have H2_ := (Option.bind_some _ _).symm.trans H; with_reducible exact H2_) | with_reducible exact H | (rw [hy994]; exact H) | exact H); (have Ny994 := mk hy994); clear hy994; (have H' := mk H); clear H; (try go_wp2); (replace HO_5 := mk (Kd.R_drew HO_5.out)); (replace BK990 := mk (blk_drew BK990.out)); (replace BK991 := mk (blk_drew BK991.out)); (replace HB := mk (below_drew1 HB.out)); (refine start_ (n := 10) (S := fun w' => w'.cell? ⟨gb990, 0, none⟩ = some (.bool a0_0) ∧ w'.cell? ⟨gb990, 1, none⟩ = some (.slice A0_1 l0_1.length c0_1) ∧ w'.cell? ⟨gb991, 0, none⟩ = some (.bool a1_0) ∧ w'.cell? ⟨gb991, 1, none⟩ = some (.slice A1_1 l1_1.length c1_1)) (ds := []) #[false,false,false,false,false,false,false,false,false,false] kq0 rfl rfl ⟨(blk_cell BK990.out 0).trans rfl, (blk_cell BK990.out 1).trans rfl, (blk_cell BK991.out 0).trans rfl, (blk_cell BK991.out 1).trans rfl⟩ (fun hHeld => ?_); refine with_tabW tabardref01_plus.tab6 tabardref01_plus.bits6 (fun HT_ HW_ => ?_)); (generalize wc.drew = w18 at HO_5 BK990 BK991 HB hHeld ⊢); refine puT_ 1 25 ?_
              refine puT_ 4 28 ?_
              refine puT_ 7 31 ?_
              refine taT_ 0 24 hHeld ?_
              refine taT_ 3 27 hHeld ?_
              (refine onT_ 2 26 (fun K hK => ?_)); (refine goes_ Try.func173 kq0 rfl #[.agg #[.bool a0_0, .slice A0_1 l0_1.length c0_1], .int .i64 x7_1] (by rfl) rfl rfl kq7 ?_); (with_reducible refine (tabardref01_Wide_digit.calls a0_0 _ _ l0_1 x7_1 t992 _ ?side1 ?side2 A15.out).mono ?_); ((case side1 => exact kq17 HR0_1)); ((case side2 => exact HC0_1.out)); (rintro e w19 ⟨rfl, hb⟩); (refine ⟨_, rfl, ?_⟩); (replace HO_5 := mk (Kd.R_below (kq15 HO_5) hb)); (replace BK990 := (bb_ BK990 hb)); (replace BK991 := (bb_ BK991 hb)); (replace HB := mk (below_step (kq23 GE990 GE991) hb)); ((try clear hb)); ((try clear hb2)); ((try clear hk)); ((try clear hi)); (refine hK.out _ _ ⟨(blk_cell BK990.out 0).trans rfl, (blk_cell BK990.out 1).trans rfl, (blk_cell BK991.out 0).trans rfl, (blk_cell BK991.out 1).trans rfl⟩ (fun hHeld => ?_)); clear hK K; (refine norm_ (a' := ?_) ?_ ?_); rotate_left
              · (show Act.put _ (some 26) _ = _); (simp only [Act.put, setIfInBounds_toArray, set_cons_zero, set_cons_succ, i64_w, i32_w]); rfl
              (refine onT_ 5 29 (fun K hK => ?_)); (refine goes_ Try.func173 kq0 rfl #[.agg #[.bool a1_0, .slice A1_1 l1_1.length c1_1], .int .i64 x7_1] (by rfl) rfl rfl kq7 ?_); (with_reducible refine (tabardref01_Wide_digit.calls a1_0 _ _ l1_1 x7_1 t993 _ ?side1 ?side2 A16.out).mono ?_); ((case side1 => exact kq17 HR1_1)); ((case side2 => exact HC1_1.out)); (rintro e w20 ⟨rfl, hb⟩); (refine ⟨_, rfl, ?_⟩); (replace HO_5 := mk (Kd.R_below (kq15 HO_5) hb)); (replace BK990 := (bb_ BK990 hb)); (replace BK991 := (bb_ BK991 hb)); (replace HB := mk (below_step (kq23 GE990 GE991) hb)); ((try clear hb)); ((try clear hb2)); ((try clear hk)); ((try clear hi)); (refine hK.out _ _ ⟨(blk_cell BK990.out 0).trans rfl, (blk_cell BK990.out 1).trans rfl, (blk_cell BK991.out 0).trans rfl, (blk_cell BK991.out 1).trans rfl⟩ (fun hHeld => ?_)); clear hK K; (refine norm_ (a' := ?_) ?_ ?_); rotate_left
              · (show Act.put _ (some 29) _ = _); (simp only [Act.put, setIfInBounds_toArray, set_cons_zero, set_cons_succ, i64_w, i32_w]); rfl
              refine puT_ 6 30 ?_
              refine puT_ 8 32 ?_
              refine puT_ 9 8 ?_
              (refine done_ (done_of HT_.out kq0) ?_); (try go_wp2_with (first | ((with_reducible refine gate_builtin (b := .append) (xs := #[.tmp 33, .tmp 36]) rfl ?_); at_builtin; refine Kd.R_append (Kd.int .u64) (w0 := w) w.heap.size rfl (.tmp 33) (.tmp 36) 158 187 (.int .u64 0) 8 rfl Try.underlying158 info187 rfl kq2 kq1 u5 x5_1 (Go.bits .and .u64 (IntKind.u64.wrap ((IntKind.u64.wrap (t992 + t993)) + x6_1)) 65535) [.int .u64 (Go.bits .and .u64 (IntKind.u64.wrap ((IntKind.u64.wrap (t992 + t993)) + x6_1)) 65535)] (fun _ => True) (fun _ => False) rfl rfl ?aP (fun _ hk => hk.elim) ?aF ?aO ?aB ?aS ?aL ?_; (case aP => exact rfl); (case aB => exact kq24 GE990 GE991); (case aF => exact (fun _ _ => trivial)); (case aO => exact kq25 HO_5); (case aS => exact kq26 GE990 GE991); (case aL => have := LMc17.out; omega); intro v995 w21 ho hb hg hat; rw [← Ny994.out] at ho; have HO996 := mk (ho); replace BK990 := mk (blk_grown (g := gb990) (o := .cells #[.bool a0_0, .slice A0_1 l0_1.length c0_1] 160 (0, 0)) (kq18 BK990) hg (Kd.R_ne HO_5.out BK990.out kq2)); replace BK991 := mk (blk_grown (g := gb991) (o := .cells #[.bool a1_0, .slice A1_1 l1_1.length c1_1] 160 (0, 0)) (kq18 BK991) hg (Kd.R_ne HO_5.out BK991.out kq2)); replace HB := mk (hb); clear HO_5; clear ho hb hg hat))); (go_roundg kj4)
              case measure => have := HK1.out; have := HJ4.out; omega
              case rel => exact ⟨(y994), ((IntKind.u64.wrap ((IntKind.u64.wrap (t992 + t993)) + x6_1)) / 65536), (wrap64 (x7_1 + 1)), kq3, kq3, H', ⟨by have := HK1.out; have := HJ4.out; omega⟩, ⟨(kq15 HO996)⟩, ⟨(kq18 BK990)⟩, ⟨(kq18 BK991)⟩, ⟨(kq23 GE990 GE991)⟩⟩
            · (exact absurd H (by simp))
          · (replace c14 := Bool.eq_false_iff.mpr c14); subst c14; (have H1 : (some x5_1) = some r := by rw [if_neg (show ¬ (false = true) by decide)] at H; exact H); clear H; (have H := H1); clear H1; (obtain rfl := Option.some.inj H); go_wp2; go_ret; (exact ⟨_, kq14, (kq15 HO_5), (kq23 GE990 GE991)⟩)
end Go.Proofs.Ytjknpmibdkoklaa.Q
