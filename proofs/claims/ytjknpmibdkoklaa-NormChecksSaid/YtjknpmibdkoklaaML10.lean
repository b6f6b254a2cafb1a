/- Functions of the given program as Lean functions, each with its contract, and what they answer; words for it. No condition but those of each. -/
import Derived.Test.YtjknpmibdkoklaaMLS
import Derived.Test.YtjknpmibdkoklaaML3
import Derived.Test.YtjknpmibdkoklaaML4
import Derived.Test.YtjknpmibdkoklaaML6
import Derived.Test.YtjknpmibdkoklaaML9
namespace Go.Proofs.Ytjknpmibdkoklaa.Q
open Go.RowKit Go.Proofs.YtjknpmibdkoklaaW.PrintWords Go.Proofs.YtjknpmibdkoklaaW.PrintLast Go.Proofs.YtjknpmibdkoklaaW.PrintMore
open Aside0 (mk)
open List (setIfInBounds_toArray set_cons_zero set_cons_succ)
attribute [local go_sem] max2_int min2_int max_two min_two max_three min_three max_four min_four
set_option linter.unusedVariables false
set_option linter.unusedSimpArgs false
attribute [local go_sem] fld99_2 fld103_2 fld160_0 fld160_1
mutual
def norm_Check.j0 : Nat → List Int → Bool → Int → List ByteArray → List Int → Int → Int → Option (Int)
  | 0, _, _, _, _, _, _, _ => none
  | k + 1, x3, x6, x1373000, x1373001, x1373002, x1373003, x1373004 => if x1373000 = 2 then (if x6 = true then (norm_Check.j1 k x3 (decide (x1373004 ≥ 1)) x1373000 x1373001 x1373002 x1373003 x1373004) else (norm_Check.j1 k x3 false x1373000 x1373001 x1373002 x1373003 x1373004)) else (if x6 = true then (if x1373004 = 0 then (some 0) else (some 3)) else (some 3))
def norm_Check.j1 : Nat → List Int → Bool → Int → List ByteArray → List Int → Int → Int → Option (Int)
  | 0, _, _, _, _, _, _, _ => none
  | k + 1, x3, x6, x1373000, x1373001, x1373002, x1373003, x1373004 => norm_Check.l0 k x6 x3 (x3.length : Int) 0 x1373000 x1373001 x1373002 x1373003 x1373004
def norm_Check.l0 : Nat → Bool → List Int → Int → Int → Int → List ByteArray → List Int → Int → Int → Option (Int)
  | 0, _, _, _, _, _, _, _, _, _ => none
  | k + 1, x6, x55, x56, x57, x1373000, x1373001, x1373002, x1373003, x1373004 => if x57 < x56 then (if 0 ≤ x57 then (if x57 < (x55.length : Int) then (if x6 = true then (if (rd x55 x57) ≥ 0 then (norm_Check.l0 k (decide ((rd x55 x57) < x1373004)) x55 x56 (wrap64 (x57 + 1)) x1373000 x1373001 x1373002 x1373003 x1373004) else (norm_Check.l0 k false x55 x56 (wrap64 (x57 + 1)) x1373000 x1373001 x1373002 x1373003 x1373004)) else (norm_Check.l0 k false x55 x56 (wrap64 (x57 + 1)) x1373000 x1373001 x1373002 x1373003 x1373004)) else (none)) else (none)) else (if x6 = true then (some 0) else (some 3))
end
def norm_Check.f (k : Nat) (a0_0 : Int) (l0_1 : List ByteArray) (l0_2 : List Int) (a0_3 : Int) (a0_4 : Int) : Option (Int) := (some (([a0_3] : List Int) : List Int)).bind fun y1373 => (if y1373.length + l0_2.length < 17592186044416 then ((some (y1373 ++ l0_2 : List Int)).bind fun y1376 => ((chk_Total.f k y1376).bind fun bt1379 => (if a0_0 ≥ 0 then (if a0_0 ≤ 2 then ((glyph_Rises.f k l0_1).bind fun t1381 => (if t1381 = true then (if (l0_1.length : Int) = (l0_2.length : Int) then (norm_Check.j0 k y1376 (bt1379.2 == 0) a0_0 l0_1 l0_2 a0_3 a0_4) else (norm_Check.j0 k y1376 false a0_0 l0_1 l0_2 a0_3 a0_4)) else (norm_Check.j0 k y1376 false a0_0 l0_1 l0_2 a0_3 a0_4))) else (norm_Check.j0 k y1376 false a0_0 l0_1 l0_2 a0_3 a0_4)) else (norm_Check.j0 k y1376 false a0_0 l0_1 l0_2 a0_3 a0_4)))) else (none))
theorem norm_Check.mono_l : ∀ k, (∀ y0 y1 y2 y3 y4 y5 y6, LeO (norm_Check.j0 k y0 y1 y2 y3 y4 y5 y6) (norm_Check.j0 (k + 1) y0 y1 y2 y3 y4 y5 y6)) ∧ (∀ y0 y1 y2 y3 y4 y5 y6, LeO (norm_Check.j1 k y0 y1 y2 y3 y4 y5 y6) (norm_Check.j1 (k + 1) y0 y1 y2 y3 y4 y5 y6)) ∧ (∀ y0 y1 y2 y3 y4 y5 y6 y7 y8, LeO (norm_Check.l0 k y0 y1 y2 y3 y4 y5 y6 y7 y8) (norm_Check.l0 (k + 1) y0 y1 y2 y3 y4 y5 y6 y7 y8))
  | 0 => ⟨fun _ _ _ _ _ _ _ r h => by simp [norm_Check.j0] at h, fun _ _ _ _ _ _ _ r h => by simp [norm_Check.j1] at h, fun _ _ _ _ _ _ _ _ _ r h => by simp [norm_Check.l0] at h⟩
  | k + 1 => by
    obtain ⟨ih0, ih1, ih2⟩ := norm_Check.mono_l k
    refine ⟨?_, ?_, ?_⟩ <;> intros <;> (first | unfold norm_Check.j0 | unfold norm_Check.j1 | unfold norm_Check.l0) <;> repeat' first | (with_reducible first | exact ih0 _ _ _ _ _ _ _ | exact ih1 _ _ _ _ _ _ _ | exact ih2 _ _ _ _ _ _ _ _ _ | exact chk_Total.mono _ _ | exact glyph_Rises.mono _ _ | exact LeO.refl _ | exact LeO.none _ | refine LeO.ite ?_ ?_ | refine LeO.bind ?_ (fun _ => ?_)) | exact ih0 _ _ _ _ _ _ _ | exact ih1 _ _ _ _ _ _ _ | exact ih2 _ _ _ _ _ _ _ _ _ | exact chk_Total.mono _ _ | exact glyph_Rises.mono _ _ | exact LeO.none _ | refine LeO.ite ?_ ?_ | refine LeO.bind ?_ (fun _ => ?_)
theorem norm_Check.mono : ∀ a0 a1 a2 a3 a4 k, LeO (norm_Check.f k a0 a1 a2 a3 a4) (norm_Check.f (k + 1) a0 a1 a2 a3 a4) := by
  intro a0 a1 a2 a3 a4 k
  obtain ⟨ih0, ih1, ih2⟩ := norm_Check.mono_l k
  unfold norm_Check.f
  repeat' first
      | (with_reducible exact ih0 _ _ _ _ _ _ _)
      | (with_reducible exact ih1 _ _ _ _ _ _ _)
      | (with_reducible exact ih2 _ _ _ _ _ _ _ _ _)
      | (with_reducible exact chk_Total.mono _ _)
      | (with_reducible exact glyph_Rises.mono _ _)
      | (with_reducible exact LeO.refl _)
      | (with_reducible exact LeO.none _)
      | (with_reducible refine LeO.ite ?_ ?_)
      | (with_reducible refine LeO.bind ?_ (fun _ => ?_))
      | exact ih0 _ _ _ _ _ _ _
      | exact ih1 _ _ _ _ _ _ _
      | exact ih2 _ _ _ _ _ _ _ _ _
      | exact chk_Total.mono _ _
      | exact glyph_Rises.mono _ _
      | exact LeO.none _
      | refine LeO.ite ?_ ?_
      | refine LeO.bind ?_ (fun _ => ?_)
set_option maxHeartbeats 8000000 in
set_option maxRecDepth 100000 in
theorem norm_Check.calls (k : Nat) (a0_0 : Int) (A0_1 : Option Addr) (c0_1 : Nat) (l0_1 : List ByteArray) (A0_2 : Option Addr) (c0_2 : Nat) (l0_2 : List Int) (a0_3 : Int) (a0_4 : Int) (r : Int) (w : World) (hr0_1 : Kd.C Kd.string w A0_1 l0_1.length l0_1) (hc0_1 : l0_1.length ≤ c0_1) (hr0_2 : Kd.C (Kd.int .i64) w A0_2 l0_2.length l0_2) (hc0_2 : l0_2.length ≤ c0_2) (h : norm_Check.f k a0_0 l0_1 l0_2 a0_3 a0_4 = some r) :
    Calls Try.prog 54 #[.agg #[.int .i64 a0_0, .slice A0_1 l0_1.length c0_1, .slice A0_2 l0_2.length c0_2, .int .i64 a0_3, .int .i64 a0_4]] w fun e w' => e = .returned (.int .i64 r) ∧ Below w.heap.size w w' := by
  have hu58 := Try.underlying58
  have HR0_1 := mk hr0_1
  have HC0_1 := mk hc0_1
  clear hr0_1 hc0_1
  have HR0_2 := mk hr0_2
  have HC0_2 := mk hc0_2
  clear hr0_2 hc0_2
  have HB := mk (Below.refl w.heap.size w)
  have H : ((some (([a0_3] : List Int) : List Int)).bind fun y1373 => (if y1373.length + l0_2.length < 17592186044416 then ((some (y1373 ++ l0_2 : List Int)).bind fun y1376 => ((chk_Total.f k y1376).bind fun bt1379 => (if a0_0 ≥ 0 then (if a0_0 ≤ 2 then ((glyph_Rises.f k l0_1).bind fun t1381 => (if t1381 = true then (if (l0_1.length : Int) = (l0_2.length : Int) then (norm_Check.j0 k y1376 (bt1379.2 == 0) a0_0 l0_1 l0_2 a0_3 a0_4) else (norm_Check.j0 k y1376 false a0_0 l0_1 l0_2 a0_3 a0_4)) else (norm_Check.j0 k y1376 false a0_0 l0_1 l0_2 a0_3 a0_4))) else (norm_Check.j0 k y1376 false a0_0 l0_1 l0_2 a0_3 a0_4)) else (norm_Check.j0 k y1376 false a0_0 l0_1 l0_2 a0_3 a0_4)))) else (none))) = some r := h
  clear h
  obtain ⟨y1373, hy1373⟩ : ∃ y_ : List Int, y_ = (([a0_3] : List Int)) := ⟨_, rfl⟩
  replace H : (if y1373.length + l0_2.length < 17592186044416 then ((some (y1373 ++ l0_2 : List Int)).bind fun y1376 => ((chk_Total.f k y1376).bind fun bt1379 => (if a0_0 ≥ 0 then (if a0_0 ≤ 2 then ((glyph_Rises.f k l0_1).bind fun t1381 => (if t1381 = true then (if (l0_1.length : Int) = (l0_2.length : Int) then (norm_Check.j0 k y1376 (bt1379.2 == 0) a0_0 l0_1 l0_2 a0_3 a0_4) else (norm_Check.j0 k y1376 false a0_0 l0_1 l0_2 a0_3 a0_4)) else (norm_Check.j0 k y1376 false a0_0 l0_1 l0_2 a0_3 a0_4))) else (norm_Check.j0 k y1376 false a0_0 l0_1 l0_2 a0_3 a0_4)) else (norm_Check.j0 k y1376 false a0_0 l0_1 l0_2 a0_3 a0_4)))) else (none)) = some r := by first | (rw [hy1373]; with_reducible exact H) | (have H2_ := (Option.bind_some _ _).symm.trans H; rw [hy1373]; with_reducible exact H2_) | (have H2_ := (Option.bind_some _ _).symm.trans H; with_reducible exact H2_) | with_reducible exact H | (rw [hy1373]; exact H) | exact H
  have Ny1373 := mk hy1373
  clear hy1373
  by_cases c2 : y1373.length + l0_2.length < 17592186044416
  · rw [if_pos c2] at H
    have LMc2 := mk c2
    clear c2
    obtain ⟨y1376, hy1376⟩ : ∃ y_ : List Int, y_ = (y1373 ++ l0_2) := ⟨_, rfl⟩
    replace H : ((chk_Total.f k y1376).bind fun bt1379 => (if a0_0 ≥ 0 then (if a0_0 ≤ 2 then ((glyph_Rises.f k l0_1).bind fun t1381 => (if t1381 = true then (if (l0_1.length : Int) = (l0_2.length : Int) then (norm_Check.j0 k y1376 (bt1379.2 == 0) a0_0 l0_1 l0_2 a0_3 a0_4) else (norm_Check.j0 k y1376 false a0_0 l0_1 l0_2 a0_3 a0_4)) else (norm_Check.j0 k y1376 false a0_0 l0_1 l0_2 a0_3 a0_4))) else (norm_Check.j0 k y1376 false a0_0 l0_1 l0_2 a0_3 a0_4)) else (norm_Check.j0 k y1376 false a0_0 l0_1 l0_2 a0_3 a0_4))) = some r := by first | (rw [hy1376]; with_reducible exact H) | (have H2_ := (Option.bind_some _ _).symm.trans H; rw [hy1376]; with_reducible exact H2_) | (have H2_ := (Option.bind_some _ _).symm.trans H; with_reducible exact H2_) | with_reducible exact H | (rw [hy1376]; exact H) | exact H
    have Ny1376 := mk hy1376
    clear hy1376
    replace H := Option.bind_eq_some_iff.mp H
    obtain ⟨⟨t1379, t1380⟩, A30, H⟩ := H
    replace H : (if a0_0 ≥ 0 then (if a0_0 ≤ 2 then ((glyph_Rises.f k l0_1).bind fun t1381 => (if t1381 = true then (if (l0_1.length : Int) = (l0_2.length : Int) then (norm_Check.j0 k y1376 (t1380 == 0) a0_0 l0_1 l0_2 a0_3 a0_4) else (norm_Check.j0 k y1376 false a0_0 l0_1 l0_2 a0_3 a0_4)) else (norm_Check.j0 k y1376 false a0_0 l0_1 l0_2 a0_3 a0_4))) else (norm_Check.j0 k y1376 false a0_0 l0_1 l0_2 a0_3 a0_4)) else (norm_Check.j0 k y1376 false a0_0 l0_1 l0_2 a0_3 a0_4)) = some r := H
    have A3 := mk A30
    clear A30
    have HC4 := mk H
    clear H
    go_enter Try.func54, Try.ntmps54
    go_upto_region 3 with (first | ((with_reducible refine gate_dst (N := 1) rfl ?_); (try (refine gate_guard (by rfl) ?_; dsimp only)); refine box_event ?hg (N := 1) ?hd (cs := #[.int .i64 a0_0, .slice A0_1 l0_1.length c0_1, .slice A0_2 l0_2.length c0_2, .int .i64 a0_3, .int .i64 a0_4]) (t := 58) ?hr ?_; (case hd => rfl); (case hg => rfl); (case hr => exact kq11); intro gb1372 hg w5 hbox hb; have BK1372 := mk (hbox); have GW1372 := (gs_ hg kq9); have GE1372 := GW1372; replace HB := mk (below_step kq9 hb); clear hb hbox hg; obtain ⟨_, _, _, _, _, _, _, _, _, _⟩ := cz5_ BK1372.out) | ((with_reducible refine gate_dst (N := 11) rfl ?_); (try (refine gate_guard (by rfl) ?_; dsimp only)); refine Kd.R_lit (Kd.int .i64) _ 2 ?hg (N := 11) ?hd (xs := ([a0_3] : List Int)) (inner := [.int .i64 a0_3]) (ok := fun _ => True) (okp := fun _ => True) ?hr ?hp (fun _ hk => hk) trivial (Below.refl _ _) (Nat.le_refl _) (by simp) ?_; (case hd => rfl); (case hg => rfl); (case hr => exact kq11); (case hp => exact (Reps.one (show Kd.M (Kd.int .i64) _ _ _ a0_3 [.int .i64 a0_3] from rfl) (Reps.none _ _))); intro v1374 w7 ho8 hb hg_ hnew_; clear hg_ hnew_; (first | rw [← Ny1373.out] at ho8 | (simp only [Int.reduceToNat] at ho8; rw [← Ny1373.out] at ho8)); have HO1375 := mk (Kd.R_lower ho8 (below_size (kq16 GE1372))); replace BK1372 := (bb_ BK1372 hb); replace HB := mk (below_step (kq16 GE1372) hb); clear hb ho8; obtain ⟨_, _, _, _, _, _, _, _, _, _⟩ := cz5_ BK1372.out) | ((with_reducible refine gate_builtin (b := .append) (xs := #[.tmp 11, .tmp 13]) rfl ?_); (try (refine gate_guard (by rfl) ?_; dsimp only)); at_builtin; refine Kd.R_append_rows (Kd.int .i64) (w0 := w) w.heap.size rfl (.tmp 11) (.tmp 13) 55 2 (.int .i64 0) 8 rfl Try.underlying55 info2 rfl kq2 kq1 v1374 y1373 l0_2 _ _ _ (fun _ => True) (fun _ => False) rfl rfl ?aO ?aR (fun _ _ h => h) (fun _ h => h.elim) ?aF ?aB ?aS ?aL ?_; (case aR => exact kq17 HR0_2); (case aB => exact kq32 GE1372); (case aF => exact (fun _ _ => trivial)); (case aO => exact kq25 HO1375); (case aS => exact kq33 GE1372); (case aL => exact kq34); intro v1377 w10 ho hb hg hat; rw [← Ny1376.out] at ho; have HO1378 := mk (ho); replace BK1372 := mk (blk_grown (g := gb1372) (o := .cells #[.int .i64 a0_0, .slice A0_1 l0_1.length c0_1, .slice A0_2 l0_2.length c0_2, .int .i64 a0_3, .int .i64 a0_4] 58 (0, 0)) (kq18 BK1372) hg (Kd.R_ne HO1375.out BK1372.out kq2)); replace HB := mk (hb); clear HO1375; clear ho hb hg hat; obtain ⟨Ao11, co11, eo11⟩ := Kd.R_slice HO1378.out; subst eo11) | ((with_reducible refine gate_callee (f := 87) rfl ?_); refine goesL_ (some 17) rfl rfl Try.func87 kq0 rfl #[.slice Ao11 y1376.length co11] rfl kq7 ?_; (with_reducible refine (chk_Total.calls k _ _ y1376 t1379 t1380 _ ?side1 ?side2 A3.out).mono ?_); (case side1 => exact kq12 HO1378); (case side2 => exact (Kd.R_reads' HO1378.out).2.1); rintro e w' ⟨rfl, ⟨nd, rfl⟩⟩; refine ⟨_, rfl, ?_⟩))
    (try simp only [Act.put, setIfInBounds_toArray, set_cons_zero, set_cons_succ])
    go_cut [6] (fun v6 wc => ∃ (kq : Nat) (x6_3 : Bool), v6 = .bool x6_3 ∧ Aside0 (norm_Check.j0 kq y1376 x6_3 a0_0 l0_1 l0_2 a0_3 a0_4 = some r) ∧ Aside0 (kq ≤ k) ∧ Aside0 (Kd.R (Kd.int .i64) 2 wc w.heap.size (fun _ => True) (.slice Ao11 y1376.length co11) y1376) ∧ Aside0 (wc.heap[gb1372]? = some (.cells #[.int .i64 a0_0, (.slice A0_1 l0_1.length c0_1), (.slice A0_2 l0_2.length c0_2), .int .i64 a0_3, .int .i64 a0_4] 58 (0, 0))) ∧ Aside0 (Below w.heap.size w wc))
    case first =>
      (have H := HC4.out); clear HC4; replace H := ic_ H; obtain ⟨c12, H⟩ | ⟨c12, H⟩ := H
      · (have c12b0 : decide (0 ≤ a0_0) = true := decide_eq_true c12); clear c12; ((first | rw [c12b0] | (simp only [i64_w, i32_w]; rw [c12b0]) | skip)); replace H := ic_ H; obtain ⟨c13, H⟩ | ⟨c13, H⟩ := H
        · (have c13b0 := decide_eq_true c13); clear c13; (replace H := Option.bind_eq_some_iff.mp H); (obtain ⟨t1381, A140, H⟩ := H); (replace H : (if t1381 = true then (if (l0_1.length : Int) = (l0_2.length : Int) then (norm_Check.j0 k y1376 (t1380 == 0) a0_0 l0_1 l0_2 a0_3 a0_4) else (norm_Check.j0 k y1376 false a0_0 l0_1 l0_2 a0_3 a0_4)) else (norm_Check.j0 k y1376 false a0_0 l0_1 l0_2 a0_3 a0_4)) = some r := H); (have A14 := mk A140); clear A140; (by_cases c15 : t1381 = true)
          · subst c15; (have H1 : (if (l0_1.length : Int) = (l0_2.length : Int) then (norm_Check.j0 k y1376 (t1380 == 0) a0_0 l0_1 l0_2 a0_3 a0_4) else (norm_Check.j0 k y1376 false a0_0 l0_1 l0_2 a0_3 a0_4)) = some r := by rw [if_pos rfl] at H; exact H); clear H; (have H := H1); clear H1; replace H := ic_ H; obtain ⟨c16, H⟩ | ⟨c16, H⟩ := H
            · (obtain ⟨c16b0, c16b1⟩ := eTn_ c16); (have c16b2 : (l0_1.length == l0_2.length) = true := by first | simpa using c16 | (simp at c16 ⊢; omega)); clear c16; (have H' := mk H); clear H; (obtain ⟨_, _, _, _, _, _, _, _, _, _⟩ := cz5_ BK1372.out); (go_wp2_with (first | (go_at_call 25; (with_reducible refine (glyph_Rises.calls k _ _ l0_1 true _ ?side1 ?side2 A14.out).mono ?_); (case side1 => exact kq17 HR0_1); (case side2 => exact HC0_1.out); rintro e w18 ⟨rfl, hb⟩; replace HO1378 := mk (Kd.R_below (kq15 HO1378) hb); replace BK1372 := (bb_ BK1372 hb); replace HB := mk (below_step (kq16 GE1372) hb); obtain ⟨_, _, _, _, _, _, _, _, _, _⟩ := cz5_ BK1372.out))); (go_meet)
              case rel => exact ⟨_, ((t1380 == 0)), kq3, H', ⟨kq4⟩, ⟨(kq15 HO1378)⟩, ⟨(kq18 BK1372)⟩, ⟨(kq16 GE1372)⟩⟩
            · (obtain ⟨c16b0, c16b1⟩ := eFn_ c16); (have c16b2 : (l0_1.length == l0_2.length) = false := by first | simpa using c16 | (simp at c16 ⊢; omega)); (have H' := mk H); clear H; (obtain ⟨_, _, _, _, _, _, _, _, _, _⟩ := cz5_ BK1372.out); (go_wp2_with (first | (go_at_call 25; (with_reducible refine (glyph_Rises.calls k _ _ l0_1 true _ ?side1 ?side2 A14.out).mono ?_); (case side1 => exact kq17 HR0_1); (case side2 => exact HC0_1.out); rintro e w21 ⟨rfl, hb⟩; replace HO1378 := mk (Kd.R_below (kq15 HO1378) hb); replace BK1372 := (bb_ BK1372 hb); replace HB := mk (below_step (kq16 GE1372) hb); obtain ⟨_, _, _, _, _, _, _, _, _, _⟩ := cz5_ BK1372.out))); (go_meet)
              case rel => exact ⟨_, (false), kq3, H', ⟨kq4⟩, ⟨(kq15 HO1378)⟩, ⟨(kq18 BK1372)⟩, ⟨(kq16 GE1372)⟩⟩
          · (replace c15 := Bool.eq_false_iff.mpr c15); subst c15; (have H1 : (norm_Check.j0 k y1376 false a0_0 l0_1 l0_2 a0_3 a0_4) = some r := by rw [if_neg (show ¬ (false = true) by decide)] at H; exact H); clear H; (have H := H1); clear H1; (have H' := mk H); clear H; (obtain ⟨_, _, _, _, _, _, _, _, _, _⟩ := cz5_ BK1372.out); (go_wp2_with (first | (go_at_call 25; (with_reducible refine (glyph_Rises.calls k _ _ l0_1 false _ ?side1 ?side2 A14.out).mono ?_); (case side1 => exact kq17 HR0_1); (case side2 => exact HC0_1.out); rintro e w24 ⟨rfl, hb⟩; replace HO1378 := mk (Kd.R_below (kq15 HO1378) hb); replace BK1372 := (bb_ BK1372 hb); replace HB := mk (below_step (kq16 GE1372) hb)))); (go_meet)
            case rel => exact ⟨_, (false), kq3, H', ⟨kq4⟩, ⟨(kq15 HO1378)⟩, ⟨(kq18 BK1372)⟩, ⟨(kq16 GE1372)⟩⟩
        · (have c13b0 := decide_eq_false c13); clear c13; (have H' := mk H); clear H; (obtain ⟨_, _, _, _, _, _, _, _, _, _⟩ := cz5_ BK1372.out); go_wp2; (go_meet)
          case rel => exact ⟨_, (false), kq3, H', ⟨kq4⟩, ⟨(kq15 HO1378)⟩, ⟨(kq18 BK1372)⟩, ⟨(kq16 GE1372)⟩⟩
      · (have c12b0 : decide (0 ≤ a0_0) = false := decide_eq_false c12); clear c12; ((first | rw [c12b0] | (simp only [i64_w, i32_w]; rw [c12b0]) | skip)); (have H' := mk H); clear H; (obtain ⟨_, _, _, _, _, _, _, _, _, _⟩ := cz5_ BK1372.out); go_wp2; (go_meet)
        case rel => exact ⟨_, (false), kq3, H', ⟨kq4⟩, ⟨(kq15 HO1378)⟩, ⟨(kq18 BK1372)⟩, ⟨(kq16 GE1372)⟩⟩
    case rest =>
      clear HC4; (obtain ⟨kq, x6_3, rfl, HA, HJ3, HO_3, BK1372, HB⟩ := hcut)
      cases kq with
      | zero => exact absurd HA.out (by simp [norm_Check.j0])
      | succ kj3 =>
        (have H := HA.out); clear HA; (simp only [norm_Check.j0] at H); replace H := ic_ H; obtain ⟨c27, H⟩ | ⟨c27, H⟩ := H
        · (obtain ⟨c27b0, c27b1⟩ := eTn_ c27); clear c27; (have HC28 := mk H); clear H; (obtain ⟨_, _, _, _, _, _, _, _, _, _⟩ := cz5_ BK1372.out); (go_upto_region 5 with (fail)); (go_cut [6] (fun v6 wc => ∃ (kq : Nat) (x6_27 : Bool), v6 = .bool x6_27 ∧ Aside0 (norm_Check.j1 kq y1376 x6_27 a0_0 l0_1 l0_2 a0_3 a0_4 = some r) ∧ Aside0 (kq ≤ kj3) ∧ Aside0 (Kd.R (Kd.int .i64) 2 wc w.heap.size (fun _ => True) (.slice Ao11 y1376.length co11) y1376) ∧ Aside0 (wc.heap[gb1372]? = some (.cells #[.int .i64 a0_0, (.slice A0_1 l0_1.length c0_1), (.slice A0_2 l0_2.length c0_2), .int .i64 a0_3, .int .i64 a0_4] 58 (0, 0))) ∧ Aside0 (Below w.heap.size w wc)))
          case first =>
            (have H := HC28.out); clear HC28; (by_cases c30 : x6_3 = true)
            · subst c30; (have H1 : (norm_Check.j1 kj3 y1376 (decide (a0_4 ≥ 1)) a0_0 l0_1 l0_2 a0_3 a0_4) = some r := by rw [if_pos rfl] at H; exact H); clear H; (have H := H1); clear H1; (have H' := mk H); clear H; (obtain ⟨_, _, _, _, _, _, _, _, _, _⟩ := cz5_ BK1372.out); go_wp2; (go_meet)
              case rel => exact ⟨_, (decide (a0_4 ≥ 1)), kq3, H', ⟨by have := HJ3.out; first | omega | exact Nat.le_refl _⟩, ⟨(kq15 HO_3)⟩, ⟨(kq18 BK1372)⟩, ⟨(kq16 GE1372)⟩⟩
            · (replace c30 := Bool.eq_false_iff.mpr c30); subst c30; (have H1 : (norm_Check.j1 kj3 y1376 false a0_0 l0_1 l0_2 a0_3 a0_4) = some r := by rw [if_neg (show ¬ (false = true) by decide)] at H; exact H); clear H; (have H := H1); clear H1; (have H' := mk H); clear H; go_wp2; (go_meet)
              case rel => exact ⟨_, (false), kq3, H', ⟨by have := HJ3.out; first | omega | exact Nat.le_refl _⟩, ⟨(kq15 HO_3)⟩, ⟨(kq18 BK1372)⟩, ⟨(kq16 GE1372)⟩⟩
          case rest =>
            clear HC28; (obtain ⟨kq, x6_27, rfl, HA, HJ27, HO_3, BK1372, HB⟩ := hcut)
            cases kq with
            | zero => exact absurd HA.out (by simp [norm_Check.j1])
            | succ kj27 =>
              (have H := HA.out); clear HA; (simp only [norm_Check.j1] at H); (have H' := mk H); clear H; go_wp2; (go_loopg [6, 57] kj27 (fun kq v6 v57 w' => ∃ (x6_3 : Bool) (x57_3 : Int), v6 = .bool x6_3 ∧ v57 = .int .i64 x57_3 ∧ Aside0 (norm_Check.l0 kq x6_3 y1376 (y1376.length : Int) x57_3 a0_0 l0_1 l0_2 a0_3 a0_4 = some r) ∧ Aside0 (kq ≤ kj27) ∧ Aside0 (Kd.R (Kd.int .i64) 2 w' w.heap.size (fun _ => True) (.slice Ao11 y1376.length co11) y1376) ∧ Aside0 (w'.heap[gb1372]? = some (.cells #[.int .i64 a0_0, (.slice A0_1 l0_1.length c0_1), (.slice A0_2 l0_2.length c0_2), .int .i64 a0_3, .int .i64 a0_4] 58 (0, 0))) ∧ Aside0 (Below w.heap.size w w')))
              case atStart => exact ⟨(x6_27), (0), kq3, kq3, H', ⟨Nat.le_refl _⟩, ⟨(kq15 HO_3)⟩, ⟨(kq18 BK1372)⟩, ⟨(kq16 GE1372)⟩⟩
              case round =>
                clear H'; (obtain ⟨x6_3, x57_3, rfl, rfl, HA, HK3, HO_55, BK1372, HB⟩ := hrel)
                cases gk with
                | zero => exact absurd HA.out (by simp [norm_Check.l0])
                | succ k3 =>
                  (have H := HA.out); clear HA; (simp only [norm_Check.l0] at H); replace H := ic_ H; obtain ⟨c32, H⟩ | ⟨c32, H⟩ := H
                  · (have c32b0 : decide (x57_3 < (y1376.length : Int)) = true := decide_eq_true c32); clear c32; replace H := ic_ H; obtain ⟨c33, H⟩ | ⟨c33, H⟩ := H
                    · (have c33b0 := decide_eq_true c33); clear c33; replace H := ic_ H; obtain ⟨c34, H⟩ | ⟨c34, H⟩ := H
                      · (have c34b0 := decide_eq_true c34); clear c34; (by_cases c35 : x6_3 = true)
                        · subst c35; (have H1 : (if (rd y1376 x57_3) ≥ 0 then (norm_Check.l0 k3 (decide ((rd y1376 x57_3) < a0_4)) y1376 (y1376.length : Int) (wrap64 (x57_3 + 1)) a0_0 l0_1 l0_2 a0_3 a0_4) else (norm_Check.l0 k3 false y1376 (y1376.length : Int) (wrap64 (x57_3 + 1)) a0_0 l0_1 l0_2 a0_3 a0_4)) = some r := by rw [if_pos rfl] at H; exact H); clear H; (have H := H1); clear H1; replace H := ic_ H; obtain ⟨c36, H⟩ | ⟨c36, H⟩ := H
                          · (have c36b0 : decide (0 ≤ (rd y1376 x57_3)) = true := decide_eq_true c36); clear c36; (have H' := mk H); clear H; (have p1382 : 0 ≤ (x57_3 : Int) := of_decide_eq_true kq8); (have q1382 : x57_3 < (y1376.length : Int) := of_decide_eq_true kq8); (obtain ⟨ad1382, e1382, hx1382_0⟩ := Kd.at_int (Kd.R_reads' HO_55.out).2.2 x57_3 p1382 q1382); cases e1382; replace p1382 := eq_true p1382; replace q1382 := eq_true q1382; (obtain ⟨_, _, _, _, _, _, _, _, _, _⟩ := cz5_ BK1372.out); go_wp2; (go_roundg k3)
                            case measure => have := HJ3.out; have := HJ27.out; have := HK3.out; omega
                            case rel => exact ⟨(decide ((rd y1376 x57_3) < a0_4)), (wrap64 (x57_3 + 1)), kq3, kq3, H', ⟨by have := HJ3.out; have := HJ27.out; have := HK3.out; omega⟩, ⟨(kq15 HO_55)⟩, ⟨(kq18 BK1372)⟩, ⟨(kq16 GE1372)⟩⟩
                          · (have c36b0 : decide (0 ≤ (rd y1376 x57_3)) = false := decide_eq_false c36); clear c36; (have H' := mk H); clear H; (have p1382 : 0 ≤ (x57_3 : Int) := of_decide_eq_true kq8); (have q1382 : x57_3 < (y1376.length : Int) := of_decide_eq_true kq8); (obtain ⟨ad1382, e1382, hx1382_0⟩ := Kd.at_int (Kd.R_reads' HO_55.out).2.2 x57_3 p1382 q1382); cases e1382; replace p1382 := eq_true p1382; replace q1382 := eq_true q1382; go_wp2; (go_roundg k3)
                            case measure => have := HJ3.out; have := HJ27.out; have := HK3.out; omega
                            case rel => exact ⟨(false), (wrap64 (x57_3 + 1)), kq3, kq3, H', ⟨by have := HJ3.out; have := HJ27.out; have := HK3.out; omega⟩, ⟨(kq15 HO_55)⟩, ⟨(kq18 BK1372)⟩, ⟨(kq16 GE1372)⟩⟩
                        · (replace c35 := Bool.eq_false_iff.mpr c35); subst c35; (have H1 : (norm_Check.l0 k3 false y1376 (y1376.length : Int) (wrap64 (x57_3 + 1)) a0_0 l0_1 l0_2 a0_3 a0_4) = some r := by rw [if_neg (show ¬ (false = true) by decide)] at H; exact H); clear H; (have H := H1); clear H1; (have H' := mk H); clear H; (have p1382 : 0 ≤ (x57_3 : Int) := of_decide_eq_true kq8); (have q1382 : x57_3 < (y1376.length : Int) := of_decide_eq_true kq8); (obtain ⟨ad1382, e1382, hx1382_0⟩ := Kd.at_int (Kd.R_reads' HO_55.out).2.2 x57_3 p1382 q1382); cases e1382; replace p1382 := eq_true p1382; replace q1382 := eq_true q1382; go_wp2; (go_roundg k3)
                          case measure => have := HJ3.out; have := HJ27.out; have := HK3.out; omega
                          case rel => exact ⟨(false), (wrap64 (x57_3 + 1)), kq3, kq3, H', ⟨by have := HJ3.out; have := HJ27.out; have := HK3.out; omega⟩, ⟨(kq15 HO_55)⟩, ⟨(kq18 BK1372)⟩, ⟨(kq16 GE1372)⟩⟩
                      · (exact absurd H (by simp))
                    · (exact absurd H (by simp))
                  · (have c32b0 : decide (x57_3 < (y1376.length : Int)) = false := decide_eq_false c32); clear c32; (by_cases c38 : x6_3 = true)
                    · subst c38; (have H1 : (some 0) = some r := by rw [if_pos rfl] at H; exact H); clear H; (have H := H1); clear H1; (obtain rfl := Option.some.inj H); go_wp2; go_ret; (exact ⟨kq14, (kq16 GE1372)⟩)
                    · (replace c38 := Bool.eq_false_iff.mpr c38); subst c38; (have H1 : (some 3) = some r := by rw [if_neg (show ¬ (false = true) by decide)] at H; exact H); clear H; (have H := H1); clear H1; (obtain rfl := Option.some.inj H); go_wp2; go_ret; (exact ⟨kq14, (kq16 GE1372)⟩)
        · (obtain ⟨c27b0, c27b1⟩ := eFn_ c27); (by_cases c39 : x6_3 = true)
          · subst c39; (have H1 : (if a0_4 = 0 then (some 0) else (some 3)) = some r := by rw [if_pos rfl] at H; exact H); clear H; (have H := H1); clear H1; replace H := ic_ H; obtain ⟨c40, H⟩ | ⟨c40, H⟩ := H
            · (obtain ⟨c40b0, c40b1⟩ := eTn_ c40); clear c40; (obtain rfl := Option.some.inj H); (obtain ⟨_, _, _, _, _, _, _, _, _, _⟩ := cz5_ BK1372.out); go_wp2; go_ret; (exact ⟨kq14, (kq16 GE1372)⟩)
            · (obtain ⟨c40b0, c40b1⟩ := eFn_ c40); (obtain rfl := Option.some.inj H); (obtain ⟨_, _, _, _, _, _, _, _, _, _⟩ := cz5_ BK1372.out); go_wp2; go_ret; (exact ⟨kq14, (kq16 GE1372)⟩)
          · (replace c39 := Bool.eq_false_iff.mpr c39); subst c39; (have H1 : (some 3) = some r := by rw [if_neg (show ¬ (false = true) by decide)] at H; exact H); clear H; (have H := H1); clear H1; (obtain rfl := Option.some.inj H); (obtain ⟨_, _, _, _, _, _, _, _, _, _⟩ := cz5_ BK1372.out); go_wp2; go_ret; (exact ⟨kq14, (kq16 GE1372)⟩)
  · rw [if_neg c2] at H
    exact absurd H (by simp)
end Go.Proofs.Ytjknpmibdkoklaa.Q
namespace Go.Proofs.Ytjknpmibdkoklaa.Q
open Go.RowKit Go.Proofs.YtjknpmibdkoklaaW.PrintWords Go.Proofs.YtjknpmibdkoklaaW.PrintLast Go.Proofs.YtjknpmibdkoklaaW.PrintMore
open Aside0 (mk)
open List (setIfInBounds_toArray set_cons_zero set_cons_succ)
attribute [local go_sem] max2_int min2_int max_two min_two max_three min_three max_four min_four
set_option linter.unusedVariables false
set_option linter.unusedSimpArgs false
attribute [local go_sem] fld99_2 fld103_2 fld160_0 fld160_1
mutual
def tabardref09_Right.j0 : Nat → Int → Bool → Int → List ByteArray → List Int → Int → Int → Option (Bool)
  | 0, _, _, _, _, _, _, _ => none
  | k + 1, x3, x29, x1414000, x1414001, x1414002, x1414003, x1414004 => if x29 = true then (some false) else ((some (([x1414003] : List Int) : List Int)).bind fun y1415 => (if y1415.length + x1414002.length < 17592186044416 then ((tabardref01_Total.f k (y1415 ++ x1414002)).bind fun bt1421 => (if bt1421.2 = 0 then (if x3 = 2 then (if x1414004 < 1 then (tabardref09_Right.j1 k x3 true x1414000 x1414001 x1414002 x1414003 x1414004) else (if x1414003 < 0 then (tabardref09_Right.j1 k x3 true x1414000 x1414001 x1414002 x1414003 x1414004) else (tabardref09_Right.j1 k x3 (decide (x1414003 ≥ x1414004)) x1414000 x1414001 x1414002 x1414003 x1414004))) else (if x1414004 = 0 then (tabardref09_Right.j1 k x3 false x1414000 x1414001 x1414002 x1414003 x1414004) else (tabardref09_Right.j1 k x3 true x1414000 x1414001 x1414002 x1414003 x1414004))) else (tabardref09_Right.j1 k x3 true x1414000 x1414001 x1414002 x1414003 x1414004))) else (none)))
def tabardref09_Right.j1 : Nat → Int → Bool → Int → List ByteArray → List Int → Int → Int → Option (Bool)
  | 0, _, _, _, _, _, _, _ => none
  | k + 1, x3, x71, x1414000, x1414001, x1414002, x1414003, x1414004 => if x71 = true then (some false) else (tabardref09_Right.l0 k x3 0 x1414000 x1414001 x1414002 x1414003 x1414004)
def tabardref09_Right.l0 : Nat → Int → Int → Int → List ByteArray → List Int → Int → Int → Option (Bool)
  | 0, _, _, _, _, _, _, _ => none
  | k + 1, x3, x6, x1414000, x1414001, x1414002, x1414003, x1414004 => if x6 < (x1414002.length : Int) then (tabardref09_Right.j3 k x3 x6 (x3 == 2) x1414000 x1414001 x1414002 x1414003 x1414004) else (tabardref09_Right.j3 k x3 x6 false x1414000 x1414001 x1414002 x1414003 x1414004)
def tabardref09_Right.j3 : Nat → Int → Int → Bool → Int → List ByteArray → List Int → Int → Int → Option (Bool)
  | 0, _, _, _, _, _, _, _, _ => none
  | k + 1, x3, x6, x80, x1414000, x1414001, x1414002, x1414003, x1414004 => if x80 = true then (if 0 ≤ x6 then (if x6 < (x1414002.length : Int) then (if (rd x1414002 x6) < 0 then (some false) else (if (rd x1414002 x6) ≥ x1414004 then (some false) else (tabardref09_Right.l0 k x3 (wrap64 (x6 + 1)) x1414000 x1414001 x1414002 x1414003 x1414004))) else (none)) else (none)) else (some true)
end
def tabardref09_Right.f (k : Nat) (a0_0 : Int) (l0_1 : List ByteArray) (l0_2 : List Int) (a0_3 : Int) (a0_4 : Int) : Option (Bool) := if a0_0 < 0 then (tabardref09_Right.j0 k a0_0 true a0_0 l0_1 l0_2 a0_3 a0_4) else (if a0_0 > 2 then (tabardref09_Right.j0 k a0_0 true a0_0 l0_1 l0_2 a0_3 a0_4) else ((tabardref04_Rises.f k l0_1).bind fun t1414 => (if t1414 = true then (tabardref09_Right.j0 k a0_0 ((l0_1.length : Int) != (l0_2.length : Int)) a0_0 l0_1 l0_2 a0_3 a0_4) else (tabardref09_Right.j0 k a0_0 true a0_0 l0_1 l0_2 a0_3 a0_4))))
theorem tabardref09_Right.mono_l : ∀ k, (∀ y0 y1 y2 y3 y4 y5 y6, LeO (tabardref09_Right.j0 k y0 y1 y2 y3 y4 y5 y6) (tabardref09_Right.j0 (k + 1) y0 y1 y2 y3 y4 y5 y6)) ∧ (∀ y0 y1 y2 y3 y4 y5 y6, LeO (tabardref09_Right.j1 k y0 y1 y2 y3 y4 y5 y6) (tabardref09_Right.j1 (k + 1) y0 y1 y2 y3 y4 y5 y6)) ∧ (∀ y0 y1 y2 y3 y4 y5 y6, LeO (tabardref09_Right.l0 k y0 y1 y2 y3 y4 y5 y6) (tabardref09_Right.l0 (k + 1) y0 y1 y2 y3 y4 y5 y6)) ∧ (∀ y0 y1 y2 y3 y4 y5 y6 y7, LeO (tabardref09_Right.j3 k y0 y1 y2 y3 y4 y5 y6 y7) (tabardref09_Right.j3 (k + 1) y0 y1 y2 y3 y4 y5 y6 y7))
  | 0 => ⟨fun _ _ _ _ _ _ _ r h => by simp [tabardref09_Right.j0] at h, fun _ _ _ _ _ _ _ r h => by simp [tabardref09_Right.j1] at h, fun _ _ _ _ _ _ _ r h => by simp [tabardref09_Right.l0] at h, fun _ _ _ _ _ _ _ _ r h => by simp [tabardref09_Right.j3] at h⟩
  | k + 1 => by
    obtain ⟨ih0, ih1, ih2, ih3⟩ := tabardref09_Right.mono_l k
    refine ⟨?_, ?_, ?_, ?_⟩ <;> intros <;> (first | unfold tabardref09_Right.j0 | unfold tabardref09_Right.j1 | unfold tabardref09_Right.l0 | unfold tabardref09_Right.j3) <;> repeat' first | (with_reducible first | exact ih0 _ _ _ _ _ _ _ | exact ih1 _ _ _ _ _ _ _ | exact ih2 _ _ _ _ _ _ _ | exact ih3 _ _ _ _ _ _ _ _ | exact tabardref01_Total.mono _ _ | exact tabardref04_Rises.mono _ _ | exact LeO.refl _ | exact LeO.none _ | refine LeO.ite ?_ ?_ | refine LeO.bind ?_ (fun _ => ?_)) | exact ih0 _ _ _ _ _ _ _ | exact ih1 _ _ _ _ _ _ _ | exact ih2 _ _ _ _ _ _ _ | exact ih3 _ _ _ _ _ _ _ _ | exact tabardref01_Total.mono _ _ | exact tabardref04_Rises.mono _ _ | exact LeO.none _ | refine LeO.ite ?_ ?_ | refine LeO.bind ?_ (fun _ => ?_)
theorem tabardref09_Right.mono : ∀ a0 a1 a2 a3 a4 k, LeO (tabardref09_Right.f k a0 a1 a2 a3 a4) (tabardref09_Right.f (k + 1) a0 a1 a2 a3 a4) := by
  intro a0 a1 a2 a3 a4 k
  obtain ⟨ih0, ih1, ih2, ih3⟩ := tabardref09_Right.mono_l k
  unfold tabardref09_Right.f
  repeat' first
      | (with_reducible exact ih0 _ _ _ _ _ _ _)
      | (with_reducible exact ih1 _ _ _ _ _ _ _)
      | (with_reducible exact ih2 _ _ _ _ _ _ _)
      | (with_reducible exact ih3 _ _ _ _ _ _ _ _)
      | (with_reducible exact tabardref01_Total.mono _ _)
      | (with_reducible exact tabardref04_Rises.mono _ _)
      | (with_reducible exact LeO.refl _)
      | (with_reducible exact LeO.none _)
      | (with_reducible refine LeO.ite ?_ ?_)
      | (with_reducible refine LeO.bind ?_ (fun _ => ?_))
      | exact ih0 _ _ _ _ _ _ _
      | exact ih1 _ _ _ _ _ _ _
      | exact ih2 _ _ _ _ _ _ _
      | exact ih3 _ _ _ _ _ _ _ _
      | exact tabardref01_Total.mono _ _
      | exact tabardref04_Rises.mono _ _
      | exact LeO.none _
      | refine LeO.ite ?_ ?_
      | refine LeO.bind ?_ (fun _ => ?_)
set_option maxHeartbeats 8000000 in
set_option maxRecDepth 100000 in
theorem tabardref09_Right.calls (k : Nat) (a0_0 : Int) (A0_1 : Option Addr) (c0_1 : Nat) (l0_1 : List ByteArray) (A0_2 : Option Addr) (c0_2 : Nat) (l0_2 : List Int) (a0_3 : Int) (a0_4 : Int) (r : Bool) (w : World) (hr0_1 : Kd.C Kd.string w A0_1 l0_1.length l0_1) (hc0_1 : l0_1.length ≤ c0_1) (hr0_2 : Kd.C (Kd.int .i64) w A0_2 l0_2.length l0_2) (hc0_2 : l0_2.length ≤ c0_2) (h : tabardref09_Right.f k a0_0 l0_1 l0_2 a0_3 a0_4 = some r) :
    Calls Try.prog 55 #[.agg #[.int .i64 a0_0, .slice A0_1 l0_1.length c0_1, .slice A0_2 l0_2.length c0_2, .int .i64 a0_3, .int .i64 a0_4]] w fun e w' => e = .returned (.bool r) ∧ Below w.heap.size w w' := by
  have hu58 := Try.underlying58
  have HR0_1 := mk hr0_1
  have HC0_1 := mk hc0_1
  clear hr0_1 hc0_1
  have HR0_2 := mk hr0_2
  have HC0_2 := mk hc0_2
  clear hr0_2 hc0_2
  have HB := mk (Below.refl w.heap.size w)
  have H : (if a0_0 < 0 then (tabardref09_Right.j0 k a0_0 true a0_0 l0_1 l0_2 a0_3 a0_4) else (if a0_0 > 2 then (tabardref09_Right.j0 k a0_0 true a0_0 l0_1 l0_2 a0_3 a0_4) else ((tabardref04_Rises.f k l0_1).bind fun t1414 => (if t1414 = true then (tabardref09_Right.j0 k a0_0 ((l0_1.length : Int) != (l0_2.length : Int)) a0_0 l0_1 l0_2 a0_3 a0_4) else (tabardref09_Right.j0 k a0_0 true a0_0 l0_1 l0_2 a0_3 a0_4))))) = some r := h
  clear h
  have HC2 := mk H
  clear H
  go_enter Try.func55, Try.ntmps55
  go_upto_region 2 with (first | ((with_reducible refine gate_dst (N := 1) rfl ?_); (try (refine gate_guard (by rfl) ?_; dsimp only)); refine box_event ?hg (N := 1) ?hd (cs := #[.int .i64 a0_0, .slice A0_1 l0_1.length c0_1, .slice A0_2 l0_2.length c0_2, .int .i64 a0_3, .int .i64 a0_4]) (t := 58) ?hr ?_; (case hd => rfl); (case hg => rfl); (case hr => exact kq11); intro gb1413 hg w3 hbox hb; have BK1413 := mk (hbox); have GW1413 := (gs_ hg kq9); have GE1413 := GW1413; replace HB := mk (below_step kq9 hb); clear hb hbox hg; obtain ⟨_, _, _, _, _, _, _, _, _, _⟩ := cz5_ BK1413.out))
  (try simp only [Act.put, setIfInBounds_toArray, set_cons_zero, set_cons_succ])
  go_cut [29] (fun v29 wc => ∃ (kq : Nat) (x29_1 : Bool), v29 = .bool x29_1 ∧ Aside0 (tabardref09_Right.j0 kq a0_0 x29_1 a0_0 l0_1 l0_2 a0_3 a0_4 = some r) ∧ Aside0 (kq ≤ k) ∧ Aside0 (wc.heap[gb1413]? = some (.cells #[.int .i64 a0_0, (.slice A0_1 l0_1.length c0_1), (.slice A0_2 l0_2.length c0_2), .int .i64 a0_3, .int .i64 a0_4] 58 (0, 0))) ∧ Aside0 (Below w.heap.size w wc))
  case first =>
    have H := HC2.out
    clear HC2
    replace H := ic_ H; obtain ⟨c5, H⟩ | ⟨c5, H⟩ := H
    · (have c5b0 : decide (a0_0 < 0) = true := decide_eq_true c5); clear c5; ((first | rw [c5b0] | (simp only [i64_w, i32_w]; rw [c5b0]) | skip)); (have H' := mk H); clear H; go_wp2; (go_meet)
      case rel => exact ⟨_, (true), kq3, H', ⟨kq4⟩, ⟨(kq18 BK1413)⟩, ⟨(kq16 GE1413)⟩⟩
    · (have c5b0 : decide (a0_0 < 0) = false := decide_eq_false c5); clear c5; ((first | rw [c5b0] | (simp only [i64_w, i32_w]; rw [c5b0]) | skip)); replace H := ic_ H; obtain ⟨c6, H⟩ | ⟨c6, H⟩ := H
      · (have c6b0 : decide (2 < a0_0) = true := decide_eq_true c6); clear c6; (have H' := mk H); clear H; go_wp2; (go_meet)
        case rel => exact ⟨_, (true), kq3, H', ⟨kq4⟩, ⟨(kq18 BK1413)⟩, ⟨(kq16 GE1413)⟩⟩
      · (have c6b0 : decide (2 < a0_0) = false := decide_eq_false c6); clear c6; (replace H := Option.bind_eq_some_iff.mp H); (obtain ⟨t1414, A70, H⟩ := H); (replace H : (if t1414 = true then (tabardref09_Right.j0 k a0_0 ((l0_1.length : Int) != (l0_2.length : Int)) a0_0 l0_1 l0_2 a0_3 a0_4) else (tabardref09_Right.j0 k a0_0 true a0_0 l0_1 l0_2 a0_3 a0_4)) = some r := H); (have A7 := mk A70); clear A70; (by_cases c8 : t1414 = true)
        · subst c8; (have H1 : (tabardref09_Right.j0 k a0_0 ((l0_1.length : Int) != (l0_2.length : Int)) a0_0 l0_1 l0_2 a0_3 a0_4) = some r := by rw [if_pos rfl] at H; exact H); clear H; (have H := H1); clear H1; (have H' := mk H); clear H; (obtain ⟨_, _, _, _, _, _, _, _, _, _⟩ := cz5_ BK1413.out); (go_wp2_with (first | (go_at_call 26; (with_reducible refine (tabardref04_Rises.calls k _ _ l0_1 true _ ?side1 ?side2 A7.out).mono ?_); (case side1 => exact kq17 HR0_1); (case side2 => exact HC0_1.out); rintro e w10 ⟨rfl, hb⟩; replace BK1413 := (bb_ BK1413 hb); replace HB := mk (below_step (kq16 GE1413) hb); obtain ⟨_, _, _, _, _, _, _, _, _, _⟩ := cz5_ BK1413.out))); (go_meet)
          case rel => exact ⟨_, (((l0_1.length : Int) != (l0_2.length : Int))), kq3, H', ⟨kq4⟩, ⟨(kq18 BK1413)⟩, ⟨(kq16 GE1413)⟩⟩
        · (replace c8 := Bool.eq_false_iff.mpr c8); subst c8; (have H1 : (tabardref09_Right.j0 k a0_0 true a0_0 l0_1 l0_2 a0_3 a0_4) = some r := by rw [if_neg (show ¬ (false = true) by decide)] at H; exact H); clear H; (have H := H1); clear H1; (have H' := mk H); clear H; (obtain ⟨_, _, _, _, _, _, _, _, _, _⟩ := cz5_ BK1413.out); (go_wp2_with (first | (go_at_call 26; (with_reducible refine (tabardref04_Rises.calls k _ _ l0_1 false _ ?side1 ?side2 A7.out).mono ?_); (case side1 => exact kq17 HR0_1); (case side2 => exact HC0_1.out); rintro e w13 ⟨rfl, hb⟩; replace BK1413 := (bb_ BK1413 hb); replace HB := mk (below_step (kq16 GE1413) hb)))); (go_meet)
          case rel => exact ⟨_, (true), kq3, H', ⟨kq4⟩, ⟨(kq18 BK1413)⟩, ⟨(kq16 GE1413)⟩⟩
  case rest =>
    clear HC2
    obtain ⟨kq, x29_1, rfl, HA, HJ1, BK1413, HB⟩ := hcut
    cases kq with
    | zero => exact absurd HA.out (by simp [tabardref09_Right.j0])
    | succ kj1 =>
      (have H := HA.out); clear HA; (simp only [tabardref09_Right.j0] at H); (by_cases c14 : x29_1 = true)
      · subst c14; (have H1 : (some false) = some r := by rw [if_pos rfl] at H; exact H); clear H; (have H := H1); clear H1; (obtain rfl := Option.some.inj H); go_wp2; go_ret; (exact ⟨kq14, (kq16 GE1413)⟩)
      · (replace c14 := Bool.eq_false_iff.mpr c14); subst c14; (have H1 : ((some (([a0_3] : List Int) : List Int)).bind fun y1415 => (if y1415.length + l0_2.length < 17592186044416 then ((tabardref01_Total.f kj1 (y1415 ++ l0_2)).bind fun bt1421 => (if bt1421.2 = 0 then (if a0_0 = 2 then (if a0_4 < 1 then (tabardref09_Right.j1 kj1 a0_0 true a0_0 l0_1 l0_2 a0_3 a0_4) else (if a0_3 < 0 then (tabardref09_Right.j1 kj1 a0_0 true a0_0 l0_1 l0_2 a0_3 a0_4) else (tabardref09_Right.j1 kj1 a0_0 (decide (a0_3 ≥ a0_4)) a0_0 l0_1 l0_2 a0_3 a0_4))) else (if a0_4 = 0 then (tabardref09_Right.j1 kj1 a0_0 false a0_0 l0_1 l0_2 a0_3 a0_4) else (tabardref09_Right.j1 kj1 a0_0 true a0_0 l0_1 l0_2 a0_3 a0_4))) else (tabardref09_Right.j1 kj1 a0_0 true a0_0 l0_1 l0_2 a0_3 a0_4))) else (none))) = some r := by rw [if_neg (show ¬ (false = true) by decide)] at H; exact H); clear H; (have H := H1); clear H1; (obtain ⟨y1415, hy1415⟩ : ∃ y_ : List Int, y_ = (([a0_3] : List Int)) := ⟨_, rfl⟩); (replace H : (if y1415.length + l0_2.length < 17592186044416 then ((tabardref01_Total.f kj1 (y1415 ++ l0_2)).bind fun bt1421 => (if bt1421.2 = 0 then (if a0_0 = 2 then (if a0_4 < 1 then (tabardref09_Right.j1 kj1 a0_0 true a0_0 l0_1 l0_2 a0_3 a0_4) else (if a0_3 < 0 then (tabardref09_Right.j1 kj1 a0_0 true a0_0 l0_1 l0_2 a0_3 a0_4) else (tabardref09_Right.j1 kj1 a0_0 (decide (a0_3 ≥ a0_4)) a0_0 l0_1 l0_2 a0_3 a0_4))) else (if a0_4 = 0 then (tabardref09_Right.j1 kj1 a0_0 false a0_0 l0_1 l0_2 a0_3 a0_4) else (tabardref09_Right.j1 kj1 a0_0 true a0_0 l0_1 l0_2 a0_3 a0_4))) else (tabardref09_Right.j1 kj1 a0_0 true a0_0 l0_1 l0_2 a0_3 a0_4))) else (none)) = some r := by first | (rw [hy1415]; with_reducible exact H) | (have H2_ := (Option.bind_some _ _).symm.trans H; rw [hy1415]; with_reducible exact H2_) | (have H2_ := (Option.bind_some _ _).symm.trans H; with_reducible exact H2_) | with_reducible exact H | (rw [hy1415]; exact H) | exact H); (have Ny1415 := mk hy1415); clear hy1415; replace H := ic_ H; obtain ⟨c15, H⟩ | ⟨c15, H⟩ := H
        · (have LMc15 := mk c15); clear c15; (obtain ⟨y1418, hy1418⟩ : ∃ y_ : List Int, y_ = (y1415 ++ l0_2) := ⟨_, rfl⟩); (replace H : ((tabardref01_Total.f kj1 y1418).bind fun bt1421 => (if bt1421.2 = 0 then (if a0_0 = 2 then (if a0_4 < 1 then (tabardref09_Right.j1 kj1 a0_0 true a0_0 l0_1 l0_2 a0_3 a0_4) else (if a0_3 < 0 then (tabardref09_Right.j1 kj1 a0_0 true a0_0 l0_1 l0_2 a0_3 a0_4) else (tabardref09_Right.j1 kj1 a0_0 (decide (a0_3 ≥ a0_4)) a0_0 l0_1 l0_2 a0_3 a0_4))) else (if a0_4 = 0 then (tabardref09_Right.j1 kj1 a0_0 false a0_0 l0_1 l0_2 a0_3 a0_4) else (tabardref09_Right.j1 kj1 a0_0 true a0_0 l0_1 l0_2 a0_3 a0_4))) else (tabardref09_Right.j1 kj1 a0_0 true a0_0 l0_1 l0_2 a0_3 a0_4))) = some r := by first | (rw [hy1418]; with_reducible exact H) | (have H2_ := (Option.bind_some _ _).symm.trans H; rw [hy1418]; with_reducible exact H2_) | (have H2_ := (Option.bind_some _ _).symm.trans H; with_reducible exact H2_) | with_reducible exact H | (rw [hy1418]; exact H) | exact H); (have Ny1418 := mk hy1418); clear hy1418; (replace H := Option.bind_eq_some_iff.mp H); (obtain ⟨⟨t1421, t1422⟩, A160, H⟩ := H); (replace H : (if t1422 = 0 then (if a0_0 = 2 then (if a0_4 < 1 then (tabardref09_Right.j1 kj1 a0_0 true a0_0 l0_1 l0_2 a0_3 a0_4) else (if a0_3 < 0 then (tabardref09_Right.j1 kj1 a0_0 true a0_0 l0_1 l0_2 a0_3 a0_4) else (tabardref09_Right.j1 kj1 a0_0 (decide (a0_3 ≥ a0_4)) a0_0 l0_1 l0_2 a0_3 a0_4))) else (if a0_4 = 0 then (tabardref09_Right.j1 kj1 a0_0 false a0_0 l0_1 l0_2 a0_3 a0_4) else (tabardref09_Right.j1 kj1 a0_0 true a0_0 l0_1 l0_2 a0_3 a0_4))) else (tabardref09_Right.j1 kj1 a0_0 true a0_0 l0_1 l0_2 a0_3 a0_4)) = some r := H); (have A16 := mk A160); clear A160; (have HC17 := mk H); clear H; (obtain ⟨_, _, _, _, _, _, _, _, _, _⟩ := cz5_ BK1413.out); (go_upto_region 5 with (first | ((with_reducible refine gate_dst (N := 33) rfl ?_); (try (refine gate_guard (by rfl) ?_; dsimp only)); refine Kd.R_lit (Kd.int .i64) _ 2 ?hg (N := 33) ?hd (xs := ([a0_3] : List Int)) (inner := [.int .i64 a0_3]) (ok := fun _ => True) (okp := fun _ => True) ?hr ?hp (fun _ hk => hk) trivial (Below.refl _ _) (Nat.le_refl _) (by simp) ?_; (case hd => rfl); (case hg => rfl); (case hr => exact kq11); (case hp => exact (Reps.one (show Kd.M (Kd.int .i64) _ _ _ a0_3 [.int .i64 a0_3] from rfl) (Reps.none _ _))); intro v1416 w19 ho20 hb hg_ hnew_; clear hg_ hnew_; (first | rw [← Ny1415.out] at ho20 | (simp only [Int.reduceToNat] at ho20; rw [← Ny1415.out] at ho20)); have HO1417 := mk (Kd.R_lower ho20 (below_size (kq16 GE1413))); replace BK1413 := (bb_ BK1413 hb); replace HB := mk (below_step (kq16 GE1413) hb); clear hb ho20; obtain ⟨_, _, _, _, _, _, _, _, _, _⟩ := cz5_ BK1413.out) | ((with_reducible refine gate_builtin (b := .append) (xs := #[.tmp 33, .tmp 35]) rfl ?_); (try (refine gate_guard (by rfl) ?_; dsimp only)); at_builtin; refine Kd.R_append_rows (Kd.int .i64) (w0 := w) w.heap.size rfl (.tmp 33) (.tmp 35) 55 2 (.int .i64 0) 8 rfl Try.underlying55 info2 rfl kq2 kq1 v1416 y1415 l0_2 _ _ _ (fun _ => True) (fun _ => False) rfl rfl ?aO ?aR (fun _ _ h => h) (fun _ h => h.elim) ?aF ?aB ?aS ?aL ?_; (case aR => exact kq17 HR0_2); (case aB => exact kq32 GE1413); (case aF => exact (fun _ _ => trivial)); (case aO => exact kq25 HO1417); (case aS => exact kq33 GE1413); (case aL => have := LMc15.out; omega); intro v1419 w22 ho hb hg hat; rw [← Ny1418.out] at ho; have HO1420 := mk (ho); replace BK1413 := mk (blk_grown (g := gb1413) (o := .cells #[.int .i64 a0_0, .slice A0_1 l0_1.length c0_1, .slice A0_2 l0_2.length c0_2, .int .i64 a0_3, .int .i64 a0_4] 58 (0, 0)) (kq18 BK1413) hg (Kd.R_ne HO1417.out BK1413.out kq2)); replace HB := mk (hb); clear HO1417; clear ho hb hg hat; obtain ⟨Ao23, co23, eo23⟩ := Kd.R_slice HO1420.out; subst eo23) | (go_at_call 95; (with_reducible refine (tabardref01_Total.calls kj1 _ _ y1418 t1421 t1422 _ ?side1 ?side2 A16.out).mono ?_); (case side1 => exact kq12 HO1420); (case side2 => exact (Kd.R_reads' HO1420.out).2.1); rintro e w24 ⟨rfl, hb⟩; replace HO1420 := mk (Kd.R_below (kq15 HO1420) hb); replace BK1413 := (bb_ BK1413 hb); replace HB := mk (below_step (kq16 GE1413) hb)))); ((try simp only [Act.put, setIfInBounds_toArray, set_cons_zero, set_cons_succ])); (go_cut [71] (fun v71 wc => ∃ (kq : Nat) (x71_16 : Bool), v71 = .bool x71_16 ∧ Aside0 (tabardref09_Right.j1 kq a0_0 x71_16 a0_0 l0_1 l0_2 a0_3 a0_4 = some r) ∧ Aside0 (kq ≤ kj1) ∧ Aside0 (wc.heap[gb1413]? = some (.cells #[.int .i64 a0_0, (.slice A0_1 l0_1.length c0_1), (.slice A0_2 l0_2.length c0_2), .int .i64 a0_3, .int .i64 a0_4] 58 (0, 0))) ∧ Aside0 (Below w.heap.size w wc)))
          case first =>
            (have H := HC17.out); clear HC17; replace H := ic_ H; obtain ⟨c25, H⟩ | ⟨c25, H⟩ := H
            · (obtain ⟨c25b0, c25b1⟩ := eTn_ c25); clear c25; ((first | rw [c25b0] | (simp only [i64_w, i32_w]; rw [c25b0]) | skip)); replace H := ic_ H; obtain ⟨c26, H⟩ | ⟨c26, H⟩ := H
              · (obtain ⟨c26b0, c26b1⟩ := eTn_ c26); clear c26; replace H := ic_ H; obtain ⟨c27, H⟩ | ⟨c27, H⟩ := H
                · (have c27b0 : decide (a0_4 < 1) = true := decide_eq_true c27); clear c27; (have H' := mk H); clear H; (obtain ⟨_, _, _, _, _, _, _, _, _, _⟩ := cz5_ BK1413.out); go_wp2; (go_meet)
                  case rel => exact ⟨_, (true), kq3, H', ⟨kq6⟩, ⟨(kq18 BK1413)⟩, ⟨(kq16 GE1413)⟩⟩
                · (have c27b0 : decide (a0_4 < 1) = false := decide_eq_false c27); clear c27; replace H := ic_ H; obtain ⟨c29, H⟩ | ⟨c29, H⟩ := H
                  · (have c29b0 := decide_eq_true c29); clear c29; (have H' := mk H); clear H; (obtain ⟨_, _, _, _, _, _, _, _, _, _⟩ := cz5_ BK1413.out); go_wp2; (go_meet)
                    case rel => exact ⟨_, (true), kq3, H', ⟨kq6⟩, ⟨(kq18 BK1413)⟩, ⟨(kq16 GE1413)⟩⟩
                  · (have c29b0 := decide_eq_false c29); clear c29; (have H' := mk H); clear H; (obtain ⟨_, _, _, _, _, _, _, _, _, _⟩ := cz5_ BK1413.out); go_wp2; (go_meet)
                    case rel => exact ⟨_, (decide (a0_3 ≥ a0_4)), kq3, H', ⟨kq6⟩, ⟨(kq18 BK1413)⟩, ⟨(kq16 GE1413)⟩⟩
              · (obtain ⟨c26b0, c26b1⟩ := eFn_ c26); replace H := ic_ H; obtain ⟨c32, H⟩ | ⟨c32, H⟩ := H
                · (obtain ⟨c32b0, c32b1⟩ := eTn_ c32); clear c32; (have H' := mk H); clear H; (obtain ⟨_, _, _, _, _, _, _, _, _, _⟩ := cz5_ BK1413.out); go_wp2; (go_meet)
                  case rel => exact ⟨_, (false), kq3, H', ⟨kq6⟩, ⟨(kq18 BK1413)⟩, ⟨(kq16 GE1413)⟩⟩
                · (obtain ⟨c32b0, c32b1⟩ := eFn_ c32); (have H' := mk H); clear H; (obtain ⟨_, _, _, _, _, _, _, _, _, _⟩ := cz5_ BK1413.out); go_wp2; (go_meet)
                  case rel => exact ⟨_, (true), kq3, H', ⟨kq6⟩, ⟨(kq18 BK1413)⟩, ⟨(kq16 GE1413)⟩⟩
            · (obtain ⟨c25b0, c25b1⟩ := eFn_ c25); ((first | rw [c25b0] | (simp only [i64_w, i32_w]; rw [c25b0]) | skip)); (have H' := mk H); clear H; go_wp2; (go_meet)
              case rel => exact ⟨_, (true), kq3, H', ⟨kq6⟩, ⟨(kq18 BK1413)⟩, ⟨(kq16 GE1413)⟩⟩
          case rest =>
            clear HC17; (obtain ⟨kq, x71_16, rfl, HA, HJ16, BK1413, HB⟩ := hcut)
            cases kq with
            | zero => exact absurd HA.out (by simp [tabardref09_Right.j1])
            | succ kj16 =>
              (have H := HA.out); clear HA; (simp only [tabardref09_Right.j1] at H); (by_cases c35 : x71_16 = true)
              · subst c35; (have H1 : (some false) = some r := by rw [if_pos rfl] at H; exact H); clear H; (have H := H1); clear H1; (obtain rfl := Option.some.inj H); go_wp2; go_ret; (exact ⟨kq14, (kq16 GE1413)⟩)
              · (replace c35 := Bool.eq_false_iff.mpr c35); subst c35; (have H1 : (tabardref09_Right.l0 kj16 a0_0 0 a0_0 l0_1 l0_2 a0_3 a0_4) = some r := by rw [if_neg (show ¬ (false = true) by decide)] at H; exact H); clear H; (have H := H1); clear H1; (have H' := mk H); clear H; go_wp2; (go_loopg [6] kj16 (fun kq v6 w' => ∃ (x6_3 : Int), v6 = .int .i64 x6_3 ∧ Aside0 (tabardref09_Right.l0 kq a0_0 x6_3 a0_0 l0_1 l0_2 a0_3 a0_4 = some r) ∧ Aside0 (kq ≤ kj16) ∧ Aside0 (w'.heap[gb1413]? = some (.cells #[.int .i64 a0_0, (.slice A0_1 l0_1.length c0_1), (.slice A0_2 l0_2.length c0_2), .int .i64 a0_3, .int .i64 a0_4] 58 (0, 0))) ∧ Aside0 (Below w.heap.size w w')))
                case atStart => exact ⟨(0), kq3, H', ⟨Nat.le_refl _⟩, ⟨(kq18 BK1413)⟩, ⟨(kq16 GE1413)⟩⟩
                case round =>
                  clear H'; (obtain ⟨x6_3, rfl, HA, HK3, BK1413, HB⟩ := hrel)
                  cases gk with
                  | zero => exact absurd HA.out (by simp [tabardref09_Right.l0])
                  | succ k3 =>
                    (have H := HA.out); clear HA; (simp only [tabardref09_Right.l0] at H); (have HC36 := mk H); clear H; (go_upto_region 8 with (fail)); (go_cut [80] (fun v80 wc => ∃ (kq : Nat) (x80_35 : Bool), v80 = .bool x80_35 ∧ Aside0 (tabardref09_Right.j3 kq a0_0 x6_3 x80_35 a0_0 l0_1 l0_2 a0_3 a0_4 = some r) ∧ Aside0 (kq ≤ k3) ∧ Aside0 (wc.heap[gb1413]? = some (.cells #[.int .i64 a0_0, (.slice A0_1 l0_1.length c0_1), (.slice A0_2 l0_2.length c0_2), .int .i64 a0_3, .int .i64 a0_4] 58 (0, 0))) ∧ Aside0 (Below w.heap.size w wc)))
                    case first =>
                      (have H := HC36.out); clear HC36; replace H := ic_ H; obtain ⟨c37, H⟩ | ⟨c37, H⟩ := H
                      · (have c37b0 := decide_eq_true c37); clear c37; ((first | rw [c37b0] | (simp only [i64_w, i32_w]; rw [c37b0]) | skip)); (have H' := mk H); clear H; (obtain ⟨_, _, _, _, _, _, _, _, _, _⟩ := cz5_ BK1413.out); go_wp2; (go_meet)
                        case rel => exact ⟨_, ((a0_0 == 2)), kq3, H', ⟨by have := HJ1.out; have := HJ16.out; have := HK3.out; first | omega | exact Nat.le_refl _⟩, ⟨(kq18 BK1413)⟩, ⟨(kq16 GE1413)⟩⟩
                      · (have c37b0 := decide_eq_false c37); clear c37; ((first | rw [c37b0] | (simp only [i64_w, i32_w]; rw [c37b0]) | skip)); (have H' := mk H); clear H; (obtain ⟨_, _, _, _, _, _, _, _, _, _⟩ := cz5_ BK1413.out); go_wp2; (go_meet)
                        case rel => exact ⟨_, (false), kq3, H', ⟨by have := HJ1.out; have := HJ16.out; have := HK3.out; first | omega | exact Nat.le_refl _⟩, ⟨(kq18 BK1413)⟩, ⟨(kq16 GE1413)⟩⟩
                    case rest =>
                      clear HC36; (obtain ⟨kq, x80_35, rfl, HA, HJ35, BK1413, HB⟩ := hcut)
                      cases kq with
                      | zero => exact absurd HA.out (by simp [tabardref09_Right.j3])
                      | succ kj35 =>
                        (have H := HA.out); clear HA; (simp only [tabardref09_Right.j3] at H); (by_cases c40 : x80_35 = true)
                        · subst c40; (have H1 : (if 0 ≤ x6_3 then (if x6_3 < (l0_2.length : Int) then (if (rd l0_2 x6_3) < 0 then (some false) else (if (rd l0_2 x6_3) ≥ a0_4 then (some false) else (tabardref09_Right.l0 kj35 a0_0 (wrap64 (x6_3 + 1)) a0_0 l0_1 l0_2 a0_3 a0_4))) else (none)) else (none)) = some r := by rw [if_pos rfl] at H; exact H); clear H; (have H := H1); clear H1; replace H := ic_ H; obtain ⟨c41, H⟩ | ⟨c41, H⟩ := H
                          · (have c41b0 := decide_eq_true c41); clear c41; replace H := ic_ H; obtain ⟨c42, H⟩ | ⟨c42, H⟩ := H
                            · (have c42b0 := decide_eq_true c42); clear c42; replace H := ic_ H; obtain ⟨c43, H⟩ | ⟨c43, H⟩ := H
                              · (have c43b0 := decide_eq_true c43); clear c43; (obtain rfl := Option.some.inj H); (obtain ⟨_, _, _, _, _, _, _, _, _, _⟩ := cz5_ BK1413.out); (have p1423 : 0 ≤ (x6_3 : Int) := of_decide_eq_true kq8); (have q1423 : x6_3 < (l0_2.length : Int) := of_decide_eq_true kq8); (obtain ⟨ad1423, e1423, hx1423_0⟩ := Kd.at_int HR0_2.out x6_3 p1423 q1423); cases e1423; (replace hx1423_0 := (HB.out.cell (World.block_lt_of_cell? w _ hx1423_0)).trans hx1423_0); replace p1423 := eq_true p1423; replace q1423 := eq_true q1423; go_wp2; (repeat (go_quiet (fail); try go_wp2)); go_ret; (exact ⟨kq14, (kq16 GE1413)⟩)
                              · (have c43b0 := decide_eq_false c43); clear c43; replace H := ic_ H; obtain ⟨c45, H⟩ | ⟨c45, H⟩ := H
                                · (have c45b0 : decide (a0_4 ≤ (rd l0_2 x6_3)) = true := decide_eq_true c45); clear c45; (obtain rfl := Option.some.inj H); (obtain ⟨_, _, _, _, _, _, _, _, _, _⟩ := cz5_ BK1413.out); (have p1423 : 0 ≤ (x6_3 : Int) := of_decide_eq_true kq8); (have q1423 : x6_3 < (l0_2.length : Int) := of_decide_eq_true kq8); (obtain ⟨ad1423, e1423, hx1423_0⟩ := Kd.at_int HR0_2.out x6_3 p1423 q1423); cases e1423; (replace hx1423_0 := (HB.out.cell (World.block_lt_of_cell? w _ hx1423_0)).trans hx1423_0); replace p1423 := eq_true p1423; replace q1423 := eq_true q1423; (have p1424 : 0 ≤ (x6_3 : Int) := of_decide_eq_true kq8); (have q1424 : x6_3 < (l0_2.length : Int) := of_decide_eq_true kq8); (obtain ⟨ad1424, e1424, hx1424_0⟩ := Kd.at_int HR0_2.out x6_3 p1424 q1424); (obtain rfl : ad1423 = ad1424 := (by injection e1424)); (replace hx1424_0 := (HB.out.cell (World.block_lt_of_cell? w _ hx1424_0)).trans hx1424_0); replace p1424 := eq_true p1424; replace q1424 := eq_true q1424; go_wp2; (repeat (go_quiet (fail); try go_wp2)); go_ret; (exact ⟨kq14, (kq16 GE1413)⟩)
                                · (have c45b0 : decide (a0_4 ≤ (rd l0_2 x6_3)) = false := decide_eq_false c45); clear c45; (have H' := mk H); clear H; (obtain ⟨_, _, _, _, _, _, _, _, _, _⟩ := cz5_ BK1413.out); (have p1423 : 0 ≤ (x6_3 : Int) := of_decide_eq_true kq8); (have q1423 : x6_3 < (l0_2.length : Int) := of_decide_eq_true kq8); (obtain ⟨ad1423, e1423, hx1423_0⟩ := Kd.at_int HR0_2.out x6_3 p1423 q1423); cases e1423; (replace hx1423_0 := (HB.out.cell (World.block_lt_of_cell? w _ hx1423_0)).trans hx1423_0); replace p1423 := eq_true p1423; replace q1423 := eq_true q1423; (have p1424 : 0 ≤ (x6_3 : Int) := of_decide_eq_true kq8); (have q1424 : x6_3 < (l0_2.length : Int) := of_decide_eq_true kq8); (obtain ⟨ad1424, e1424, hx1424_0⟩ := Kd.at_int HR0_2.out x6_3 p1424 q1424); (obtain rfl : ad1423 = ad1424 := (by injection e1424)); (replace hx1424_0 := (HB.out.cell (World.block_lt_of_cell? w _ hx1424_0)).trans hx1424_0); replace p1424 := eq_true p1424; replace q1424 := eq_true q1424; go_wp2; (repeat (go_quiet (fail); try go_wp2)); (go_roundg kj35)
                                  case measure => have := HJ1.out; have := HJ16.out; have := HK3.out; have := HJ35.out; omega
                                  case rel => exact ⟨(wrap64 (x6_3 + 1)), kq3, H', ⟨by have := HJ1.out; have := HJ16.out; have := HK3.out; have := HJ35.out; omega⟩, ⟨(kq18 BK1413)⟩, ⟨(kq16 GE1413)⟩⟩
                            · (exact absurd H (by simp))
                          · (exact absurd H (by simp))
                        · (replace c40 := Bool.eq_false_iff.mpr c40); subst c40; (have H1 : (some true) = some r := by rw [if_neg (show ¬ (false = true) by decide)] at H; exact H); clear H; (have H := H1); clear H1; (obtain rfl := Option.some.inj H); go_wp2; go_ret; (exact ⟨kq14, (kq16 GE1413)⟩)
        · (exact absurd H (by simp))
end Go.Proofs.Ytjknpmibdkoklaa.Q
