/- Functions of the given program as Lean functions, each with its contract, and what they answer; words for it. No condition but those of each. -/
import Derived.Test.YtjknpmibdkoklaaPCS
import Derived.Test.YtjknpmibdkoklaaPC3
import Derived.Test.YtjknpmibdkoklaaPC5
import Derived.Test.YtjknpmibdkoklaaPC2
import Derived.Test.YtjknpmibdkoklaaPC11
import Derived.Test.YtjknpmibdkoklaaPC6
import Derived.LoopTactic
import Derived.Shelf.Abstract
import Derived.Test.YtjknpmibdkoklaaPC7
set_option linter.unusedVariables false
set_option linter.unusedSimpArgs false
namespace Go.Proofs.Ytjknpmibdkoklaa.U
open Go.RowKit Go.Proofs.YtjknpmibdkoklaaW.PrintWords Go.Proofs.YtjknpmibdkoklaaW.PrintLast Go.Proofs.YtjknpmibdkoklaaW.PrintMore
open Aside0 (mk)
open List (setIfInBounds_toArray set_cons_zero set_cons_succ)
attribute [local go_sem] max2_int min2_int max_two min_two max_three min_three max_four min_four
set_option linter.unusedVariables false
set_option linter.unusedSimpArgs false
attribute [local go_sem] fld99_2 fld103_2 fld172_1
mutual
def tree_named.j0 : Nat → List ByteArray → Int → Int → ByteArray → List (S66) → Option (List ByteArray)
  | 0, _, _, _, _, _ => none
  | k + 1, x3, x234000, x234001, x234002, x234003 => tree_named.l0 k x3 x234003 (x234003.length : Int) 0
def tree_named.l0 : Nat → List ByteArray → List (S66) → Int → Int → Option (List ByteArray)
  | 0, _, _, _, _ => none
  | k + 1, x3, x15, x16, x17 => if x17 < x16 then (if 0 ≤ x17 then (if x17 < (x15.length : Int) then ((tree_named.f k ((rd_T66 x15 x17).f0) ((rd_T66 x15 x17).f1) ((rd_T66 x15 x17).f2) ((rd_T66 x15 x17).f3)).bind fun t239 => (if x3.length + t239.length < 8796093022208 then (tree_named.l0 k (x3 ++ t239) x15 x16 (wrap64 (x17 + 1))) else (none))) else (none)) else (none)) else ((tree_sorted.f x3).bind fun t245 => (some t245))
def tree_named.f : Nat → Int → Int → ByteArray → List (S66) → Option (List ByteArray)
  | 0, _, _, _, _ => none
  | k + 1, a0_0, a0_1, a0_2, l0_3 => if a0_0 = 1 then (if ([] : List ByteArray).length < 8796093022208 then (tree_named.j0 k (([] : List ByteArray) ++ [a0_2]) a0_0 a0_1 a0_2 l0_3) else (none)) else (tree_named.j0 k ([] : List ByteArray) a0_0 a0_1 a0_2 l0_3)
end
theorem tree_named.mono_l : ∀ k, (∀ y0 y1 y2 y3, LeO (tree_named.f k y0 y1 y2 y3) (tree_named.f (k + 1) y0 y1 y2 y3)) ∧ (∀ y0 y1 y2 y3 y4, LeO (tree_named.j0 k y0 y1 y2 y3 y4) (tree_named.j0 (k + 1) y0 y1 y2 y3 y4)) ∧ (∀ y0 y1 y2 y3, LeO (tree_named.l0 k y0 y1 y2 y3) (tree_named.l0 (k + 1) y0 y1 y2 y3))
  | 0 => ⟨fun _ _ _ _ r h => by simp [tree_named.f] at h, fun _ _ _ _ _ r h => by simp [tree_named.j0] at h, fun _ _ _ _ r h => by simp [tree_named.l0] at h⟩
  | k + 1 => by
    obtain ⟨ih0, ih1, ih2⟩ := tree_named.mono_l k
    refine ⟨?_, ?_, ?_⟩ <;> intros <;> (first | unfold tree_named.f | unfold tree_named.j0 | unfold tree_named.l0) <;> repeat' first | (with_reducible first | exact ih0 _ _ _ _ | exact ih1 _ _ _ _ _ | exact ih2 _ _ _ _ | exact LeO.refl _ | exact LeO.none _ | refine LeO.ite ?_ ?_ | refine LeO.bind ?_ (fun _ => ?_)) | exact ih0 _ _ _ _ | exact ih1 _ _ _ _ _ | exact ih2 _ _ _ _ | exact LeO.none _ | refine LeO.ite ?_ ?_ | refine LeO.bind ?_ (fun _ => ?_)
theorem tree_named.mono : ∀ a0 a1 a2 a3 k, LeO (tree_named.f k a0 a1 a2 a3) (tree_named.f (k + 1) a0 a1 a2 a3) := by
  intro a0 a1 a2 a3 k
  obtain ⟨ih0, ih1, ih2⟩ := tree_named.mono_l k
  exact ih0 a0 a1 a2 a3
set_option maxHeartbeats 8000000 in
set_option maxRecDepth 100000 in
theorem tree_named.calls (k : Nat) : ∀ (a0_0 : Int) (a0_1 : Int) (a0_2 : ByteArray) (A0_3 : Option Addr) (c0_3 : Nat) (l0_3 : List (S66)) (r : List ByteArray) (w : World) (hr0_3 : Kd.C k66 w A0_3 l0_3.length l0_3) (hc0_3 : l0_3.length ≤ c0_3) (h : tree_named.f k a0_0 a0_1 a0_2 l0_3 = some r),
    Calls Try.prog 97 #[.agg #[.int .i64 a0_0, .int .i64 a0_1, .string a0_2, .slice A0_3 l0_3.length c0_3]] w fun e w' => ∃ v0_ : Value, e = .returned (v0_) ∧ Kd.R Kd.string 9 w' w.heap.size (fun _ => True) v0_ r ∧ Below w.heap.size w w' := by
  induction k using Nat.strongRecOn with
  | _ k ih =>
  intro a0_0 a0_1 a0_2 A0_3 c0_3 l0_3 r w hr0_3 hc0_3 h
  cases k with
  | zero => exact absurd h (by simp [tree_named.f])
  | succ k =>
  simp only [tree_named.f] at h
  have hu66 := Try.underlying66
  have HR0_3 := mk hr0_3
  have HC0_3 := mk hc0_3
  clear hr0_3 hc0_3
  have HB := mk (Below.refl w.heap.size w)
  have H : (if a0_0 = 1 then (if ([] : List ByteArray).length < 8796093022208 then (tree_named.j0 k (([] : List ByteArray) ++ [a0_2]) a0_0 a0_1 a0_2 l0_3) else (none)) else (tree_named.j0 k ([] : List ByteArray) a0_0 a0_1 a0_2 l0_3)) = some r := h
  clear h
  have HC2 := mk H
  clear H
  go_enter Try.func97, Try.ntmps97
  go_upto_if 8 with (first | ((with_reducible refine gate_dst (N := 1) rfl ?_); refine box_event ?hg (N := 1) ?hd (cs := #[.int .i64 a0_0, .int .i64 a0_1, .string a0_2, .slice A0_3 l0_3.length c0_3]) (t := 66) ?hr ?_; (case hd => rfl); (case hg => rfl); (case hr => exact kq6); intro gb233 hg w3 hbox hb; have BK233 := mk (hbox); have GW233 := (gs_ hg kq15); have GE233 := GW233; replace HB := mk (below_step kq15 hb); clear hb hbox hg; obtain ⟨_, _, _, _, _, _, _, _⟩ := cz4_ BK233.out))
  (try simp only [Act.put, setIfInBounds_toArray, set_cons_zero, set_cons_succ])
  go_cut [3] (fun v3 wc => ∃ (kq : Nat) (x3_1 : List ByteArray), Aside0 (tree_named.j0 kq x3_1 a0_0 a0_1 a0_2 l0_3 = some r) ∧ Aside0 (kq ≤ k) ∧ Aside0 (Kd.R Kd.string 9 wc w.heap.size (fun _ => True) v3 x3_1) ∧ Aside0 (wc.heap[gb233]? = some (.cells #[.int .i64 a0_0, .int .i64 a0_1, .string a0_2, (.slice A0_3 l0_3.length c0_3)] 66 (0, 0))) ∧ Aside0 (Below w.heap.size w wc))
  case first =>
    have H := HC2.out
    clear HC2
    replace H := ic_ H; obtain ⟨c5, H⟩ | ⟨c5, H⟩ := H
    · (obtain ⟨c5b0, c5b1⟩ := eTn_ c5); clear c5; ((first | rw [c5b0] | (simp only [i64_w, i32_w]; rw [c5b0]) | skip)); replace H := ic_ H; obtain ⟨c6, H⟩ | ⟨c6, H⟩ := H
      · (have LMc6 := mk c6); clear c6; (obtain ⟨y234, hy234⟩ : ∃ y_ : List ByteArray, y_ = (([] : List ByteArray) ++ [a0_2]) := ⟨_, rfl⟩); (replace H : (tree_named.j0 k y234 a0_0 a0_1 a0_2 l0_3) = some r := by first | (rw [hy234]; with_reducible exact H) | (have H2_ := (Option.bind_some _ _).symm.trans H; rw [hy234]; with_reducible exact H2_) | (have H2_ := (Option.bind_some _ _).symm.trans H; with_reducible exact H2_) | with_reducible exact H | (rw [hy234]; exact H) | exact H); (have Ny234 := mk hy234); clear hy234; (have H' := mk H); clear H; (obtain ⟨_, _, _, _, _, _, _, _⟩ := cz4_ BK233.out); (go_wp2_with (first | ((with_reducible refine gate_builtin (b := .append) (xs := #[.tmp 9, .tmp 12]) rfl ?_); at_builtin; refine Kd.R_append Kd.string (w0 := w) w.heap.size rfl (.tmp 9) (.tmp 12) 22 9 (.string ⟨#[]⟩) 16 rfl Try.underlying22 info9 rfl kq2 kq1 (.slice none 0 0) ([] : List ByteArray) a0_2 [.string a0_2] (fun _ => True) (fun _ => False) rfl rfl ?aP (fun _ hk => hk.elim) ?aF ?aO ?aB ?aS ?aL ?_; (case aP => exact rfl); (case aB => exact (kq16 GE233)); (case aF => exact (fun _ _ => trivial)); (case aO => exact ((Kd.R_nil _ _ _ _ (fun _ => True)))); (case aS => exact (below_size (kq16 GE233))); (case aL => have := LMc6.out; omega); intro v235 w8 ho hb hg hat; rw [← Ny234.out] at ho; have HO236 := mk (ho); replace BK233 := mk (blk_grown (g := gb233) (o := .cells #[.int .i64 a0_0, .int .i64 a0_1, .string a0_2, .slice A0_3 l0_3.length c0_3] 66 (0, 0)) (kq7 BK233) hg (by simp [Value.ownBlock])); replace HB := mk (hb); clear ho hb hg hat))); (go_meet)
        case rel => exact ⟨_, (y234), H', ⟨kq11⟩, ⟨(kq23 HO236)⟩, ⟨(kq7 BK233)⟩, ⟨(kq16 GE233)⟩⟩
      · (exact absurd H (by simp))
    · (obtain ⟨c5b0, c5b1⟩ := eFn_ c5); ((first | rw [c5b0] | (simp only [i64_w, i32_w]; rw [c5b0]) | skip)); (have H' := mk H); clear H; go_wp2; (go_meet)
      case rel => exact ⟨_, (([] : List ByteArray)), H', ⟨kq11⟩, ⟨kq28⟩, ⟨(kq7 BK233)⟩, ⟨(kq16 GE233)⟩⟩
  case rest =>
    clear HC2
    obtain ⟨kq, x3_1, HA, HJ1, HO_3, BK233, HB⟩ := hcut
    cases kq with
    | zero => exact absurd HA.out (by simp [tree_named.j0])
    | succ kj1 =>
      (have H := HA.out); clear HA; (simp only [tree_named.j0] at H); (have H' := mk H); clear H; (obtain ⟨_, _, _, _, _, _, _, _⟩ := cz4_ BK233.out); go_wp2; (go_loopg [3, 17] kj1 (fun kq v3 v17 w' => ∃ (x3_2 : List ByteArray) (x17_2 : Int), v17 = .int .i64 x17_2 ∧ Aside0 (tree_named.l0 kq x3_2 l0_3 (l0_3.length : Int) x17_2 = some r) ∧ Aside0 (kq ≤ kj1) ∧ Aside0 (Kd.R Kd.string 9 w' w.heap.size (fun _ => True) v3 x3_2) ∧ Aside0 (w'.heap[gb233]? = some (.cells #[.int .i64 a0_0, .int .i64 a0_1, .string a0_2, (.slice A0_3 l0_3.length c0_3)] 66 (0, 0))) ∧ Aside0 (Below w.heap.size w w')))
      case atStart => exact ⟨(x3_1), (0), kq10, H', ⟨Nat.le_refl _⟩, ⟨(kq23 HO_3)⟩, ⟨(kq7 BK233)⟩, ⟨(kq16 GE233)⟩⟩
      case round =>
        clear H'; (obtain ⟨x3_2, x17_2, rfl, HA, HK2, HO_3, BK233, HB⟩ := hrel)
        cases gk with
        | zero => exact absurd HA.out (by simp [tree_named.l0])
        | succ k2 =>
          (have H := HA.out); clear HA; (simp only [tree_named.l0] at H); replace H := ic_ H; obtain ⟨c10, H⟩ | ⟨c10, H⟩ := H
          · (have c10b0 : decide (x17_2 < (l0_3.length : Int)) = true := decide_eq_true c10); clear c10; replace H := ic_ H; obtain ⟨c11, H⟩ | ⟨c11, H⟩ := H
            · (have c11b0 : decide (0 ≤ x17_2) = true := decide_eq_true c11); clear c11; replace H := ic_ H; obtain ⟨c12, H⟩ | ⟨c12, H⟩ := H
              · (have c12b0 : decide (x17_2 < (l0_3.length : Int)) = true := decide_eq_true c12); clear c12; (replace H := Option.bind_eq_some_iff.mp H); (obtain ⟨t239, A130, H⟩ := H); (replace H : (if x3_2.length + t239.length < 8796093022208 then (tree_named.l0 k2 (x3_2 ++ t239) l0_3 (l0_3.length : Int) (wrap64 (x17_2 + 1))) else (none)) = some r := H); (have A13 := mk A130); clear A130; replace H := ic_ H; obtain ⟨c14, H⟩ | ⟨c14, H⟩ := H
                · (have LMc14 := mk c14); clear c14; (obtain ⟨y242, hy242⟩ : ∃ y_ : List ByteArray, y_ = (x3_2 ++ t239) := ⟨_, rfl⟩); (replace H : (tree_named.l0 k2 y242 l0_3 (l0_3.length : Int) (wrap64 (x17_2 + 1))) = some r := by first | (rw [hy242]; with_reducible exact H) | (have H2_ := (Option.bind_some _ _).symm.trans H; rw [hy242]; with_reducible exact H2_) | (have H2_ := (Option.bind_some _ _).symm.trans H; with_reducible exact H2_) | with_reducible exact H | (rw [hy242]; exact H) | exact H); (have Ny242 := mk hy242); clear hy242; (have H' := mk H); clear H; (have p237 : 0 ≤ (x17_2 : Int) := of_decide_eq_true kq19); (have q237 : x17_2 < (l0_3.length : Int) := of_decide_eq_true kq19); (obtain ⟨ad237, A237_3, c237_3, e237, hx237_0, hx237_1, hx237_2, hx237_3, hl237_3, hi237_3⟩ := at_T66 HR0_3.out x17_2 p237 q237); cases e237; (replace hx237_0 := hc_ HB hx237_0); (replace hx237_1 := hc_ HB hx237_1); (replace hx237_2 := hc_ HB hx237_2); (replace hx237_3 := hc_ HB hx237_3); (have HR237_3 := mk hi237_3); (have HC237_3 := mk hl237_3); clear hi237_3 hl237_3; replace p237 := eq_true p237; replace q237 := eq_true q237; (go_wp2_with (first | ((with_reducible refine gate_dst (N := 5) rfl ?_); refine box_event ?hg (N := 5) ?hd (cs := #[.int .i64 0, .int .i64 0, .string (⟨#[]⟩ : ByteArray), .slice none 0 0]) (t := 66) ?hr ?_; (case hd => rfl); (case hg => rfl); (case hr => exact kq6); intro gb238 hg w15 hbox hb; have BK238 := mk (hbox); have GW238 := (gs_ hg (kq16 GE233)); have GE238 := GW238; have NB233_238 := (nl_ hg BK233); have NB238_233 := (ng_ hg BK233); replace HO_3 := mk (Kd.R_below (kq23 HO_3) hb); replace BK233 := (bb_ BK233 hb); replace HB := mk (below_step (kq16 GE233) hb); clear hb hbox hg; have hnb16 := NB238_233.out; have hnc16 := NB233_238.out; obtain ⟨_, _, _, _, _, _, _, _⟩ := cz4_ BK238.out) | ((with_reducible refine gate_callee (f := 97) rfl ?_); refine goesL_ (some 23) rfl rfl Try.func97 kq0 rfl #[.agg #[.int .i64 ((rd_T66 l0_3 x17_2).f0), .int .i64 ((rd_T66 l0_3 x17_2).f1), .string ((rd_T66 l0_3 x17_2).f2), .slice A237_3 ((rd_T66 l0_3 x17_2).f3).length c237_3]] rfl kq14 ?_; (with_reducible refine (ih k2 (by have := HJ1.out; have := HK2.out; omega) ((rd_T66 l0_3 x17_2).f0) ((rd_T66 l0_3 x17_2).f1) ((rd_T66 l0_3 x17_2).f2) _ _ ((rd_T66 l0_3 x17_2).f3) t239 _ ?side1 ?side2 A13.out).mono ?_); (case side1 => exact kq54 HR237_3 GE233 GE238); (case side2 => exact HC237_3.out); rintro e w18 ⟨v240, rfl, ho0, hb⟩; refine ⟨_, rfl, ?_⟩; have HO241 := mk (Kd.R_lower (Kd.R_new' ho0 (Kd.R_lt (kq47 HO_3 BK238))) (below_size (kq29 GE233 GE238))); replace HO_3 := mk (Kd.R_elder' (kq47 HO_3 BK238) (Kd.R_base ho0) hb); replace BK233 := mk (blk_below (g := gb233) (o := .cells #[.int .i64 a0_0, .int .i64 a0_1, .string a0_2, .slice (some ad237) l0_3.length c0_3] 66 (0, 0)) (kq48 NB233_238 BK233) hb); replace BK238 := mk (blk_below (g := gb238) (o := .cells #[.int .i64 ((rd_T66 l0_3 x17_2).f0), .int .i64 ((rd_T66 l0_3 x17_2).f1), .string ((rd_T66 l0_3 x17_2).f2), .slice A237_3 ((rd_T66 l0_3 x17_2).f3).length c237_3] 66 (0, 0)) (by (with_reducible repeat (first | refine blk_drewN ?_ _ | refine blk_drew ?_ | refine blk_alloc ?_ _)); refine blk_put (cs := #[.int .i64 ((rd_T66 l0_3 x17_2).f0), .int .i64 ((rd_T66 l0_3 x17_2).f1), .string ((rd_T66 l0_3 x17_2).f2), .slice none 0 0]) ?_ 3 _ rfl; (with_reducible repeat (first | refine blk_drewN ?_ _ | refine blk_drew ?_ | refine blk_alloc ?_ _)); refine blk_put (cs := #[.int .i64 ((rd_T66 l0_3 x17_2).f0), .int .i64 ((rd_T66 l0_3 x17_2).f1), .string (⟨#[]⟩ : ByteArray), .slice none 0 0]) ?_ 2 _ rfl; (with_reducible repeat (first | refine blk_drewN ?_ _ | refine blk_drew ?_ | refine blk_alloc ?_ _)); refine blk_put (cs := #[.int .i64 ((rd_T66 l0_3 x17_2).f0), .int .i64 0, .string (⟨#[]⟩ : ByteArray), .slice none 0 0]) ?_ 1 _ rfl; (with_reducible repeat (first | refine blk_drewN ?_ _ | refine blk_drew ?_ | refine blk_alloc ?_ _)); refine blk_put (cs := #[.int .i64 0, .int .i64 0, .string (⟨#[]⟩ : ByteArray), .slice none 0 0]) ?_ 0 _ rfl; (with_reducible repeat (first | refine blk_drewN ?_ _ | refine blk_drew ?_ | refine blk_alloc ?_ _)); exact BK238.out) hb); replace HB := mk (below_step (kq29 GE233 GE238) hb); obtain ⟨Ao20, co20, eo20⟩ := Kd.R_slice HO241.out; subst eo20) | ((with_reducible refine gate_builtin (b := .append) (xs := #[.tmp 21, .tmp 23]) rfl ?_); at_builtin; refine Kd.R_append_rows Kd.string (w0 := w) w.heap.size rfl (.tmp 21) (.tmp 23) 22 9 (.string ⟨#[]⟩) 16 rfl Try.underlying22 info9 rfl kq2 kq1 u3 x3_2 t239 _ _ _ (fun k_ => some k_ ≠ (.slice Ao20 t239.length co20 : Value).ownBlock) (fun _ => False) rfl rfl ?aO ?aR (fun _ _ h => h) (fun _ h => h.elim) ?aF ?aB ?aS ?aL ?_; (case aR => exact kq55 HO241); (case aB => exact kq56 GE233 GE238); (case aF => exact kq57 HO241); (case aO => exact kq58 HO_3); (case aS => exact kq59 GE233 GE238); (case aL => have := LMc14.out; omega); intro v243 w19 ho hb hg hat; rw [← Ny242.out] at ho; have HO244 := mk (ho); replace BK233 := mk (blk_grown (g := gb233) (o := .cells #[.int .i64 a0_0, .int .i64 a0_1, .string a0_2, .slice (some ad237) l0_3.length c0_3] 66 (0, 0)) (kq7 BK233) hg (Kd.R_ne HO_3.out BK233.out kq2)); replace BK238 := mk (blk_grown (g := gb238) (o := .cells #[.int .i64 ((rd_T66 l0_3 x17_2).f0), .int .i64 ((rd_T66 l0_3 x17_2).f1), .string ((rd_T66 l0_3 x17_2).f2), .slice A237_3 ((rd_T66 l0_3 x17_2).f3).length c237_3] 66 (0, 0)) (kq7 BK238) hg (Kd.R_ne HO_3.out BK238.out kq2)); replace HO241 := mk (Kd.R_after (ok := (fun _ => True)) (kq23 HO241) hg hat); replace HB := mk (hb); clear HO_3; clear ho hb hg hat))); (go_roundg k2)
                  case measure => have := HJ1.out; have := HK2.out; omega
                  case rel => exact ⟨(y242), (wrap64 (x17_2 + 1)), kq10, H', ⟨by have := HJ1.out; have := HK2.out; omega⟩, ⟨(kq60 HO244)⟩, ⟨(kq7 BK233)⟩, ⟨(kq29 GE233 GE238)⟩⟩
                · (exact absurd H (by simp))
              · (exact absurd H (by simp))
            · (exact absurd H (by simp))
          · (have c10b0 : decide (x17_2 < (l0_3.length : Int)) = false := decide_eq_false c10); clear c10; (replace H := Option.bind_eq_some_iff.mp H); (obtain ⟨t245, A210, H⟩ := H); (replace H : (some t245) = some r := H); (have A21 := mk A210); clear A210; (obtain rfl := Option.some.inj H); (obtain ⟨Ao22, co22, eo22⟩ := Kd.R_slice HO_3.out); subst eo22; (go_wp2_with (first | ((with_reducible refine gate_callee (f := 112) rfl ?_); refine goesL_ (some 27) rfl rfl Try.func112 kq0 rfl #[.slice Ao22 x3_2.length co22] rfl kq14 ?_; (with_reducible refine (tree_sorted.calls (fun k_ => some k_ = (.slice Ao22 x3_2.length co22 : Value).ownBlock) (.slice Ao22 x3_2.length co22) x3_2 t245 w _ ?side1 ?side2 A21.out).mono ?_); (case side1 => exact kq16 GE233); (case side2 => exact Kd.R_tight rfl HO_3.out); rintro e w23 ⟨v246, rfl, ho0, hb, hkp⟩; refine ⟨_, rfl, ?_⟩; have HO247 := mk (Kd.R_mono (ok' := fun k_ => True) ho0 (fun k_ hk_ => trivial)); replace BK233 := mk (blk_kept (kq7 BK233) hkp (fun hs_ => (fun e_ => (Kd.R_ne HO_3.out BK233.out kq2) e_) hs_)); replace HB := mk (hb); clear HO_3))); go_ret; (exact ⟨_, kq21, (kq23 HO247), (kq16 GE233)⟩)
end Go.Proofs.Ytjknpmibdkoklaa.U
namespace Go.Proofs.Ytjknpmibdkoklaa.U
open Go.RowKit Go.Proofs.YtjknpmibdkoklaaW.PrintWords Go.Proofs.YtjknpmibdkoklaaW.PrintLast Go.Proofs.YtjknpmibdkoklaaW.PrintMore
open Aside0 (mk)
open List (setIfInBounds_toArray set_cons_zero set_cons_succ)
attribute [local go_sem] max2_int min2_int max_two min_two max_three min_three max_four min_four
set_option linter.unusedVariables false
set_option linter.unusedSimpArgs false
attribute [local go_sem] fld99_2 fld103_2 fld172_1
mutual
def tree_free.l0 : Nat → List ByteArray → Int → List (S66) → Int → Int → Int → ByteArray → Int → List (S66) → List (S39) → Option (List ByteArray × Int)
  | 0, _, _, _, _, _, _, _, _, _, _ => none
  | k + 1, x4, x5, x13, x14, x15, x249000, x249001, x249002, x249003, x249004 => if x15 < x14 then (if 0 ≤ x15 then (if x15 < (x13.length : Int) then ((tree_named.f k ((rd_T66 x13 x15).f0) ((rd_T66 x13 x15).f1) ((rd_T66 x13 x15).f2) ((rd_T66 x13 x15).f3)).bind fun t251 => (if x4.length + t251.length < 8796093022208 then (tree_free.l0 k (x4 ++ t251) x5 x13 x14 (wrap64 (x15 + 1)) x249000 x249001 x249002 x249003 x249004) else (none))) else (none)) else (none)) else (tree_free.l1 k x4 x5 x249004 (x249004.length : Int) 0 x249000 x249001 x249002 x249003 x249004)
def tree_free.l1 : Nat → List ByteArray → Int → List (S39) → Int → Int → Int → ByteArray → Int → List (S66) → List (S39) → Option (List ByteArray × Int)
  | 0, _, _, _, _, _, _, _, _, _, _ => none
  | k + 1, x4, x5, x25, x26, x27, x249000, x249001, x249002, x249003, x249004 => if x27 < x26 then (if 0 ≤ x27 then (if x27 < (x25.length : Int) then ((tree_free.f k ((rd_T39 x25 x27).f0) ((rd_T39 x25 x27).f1) ((rd_T39 x25 x27).f2) ((rd_T39 x25 x27).f3) ((rd_T39 x25 x27).f4)).bind fun bt259 => (if x4.length + bt259.1.length < 8796093022208 then (tree_free.l1 k (x4 ++ bt259.1) (mx x5 bt259.2) x25 x26 (wrap64 (x27 + 1)) x249000 x249001 x249002 x249003 x249004) else (none))) else (none)) else (none)) else (if x249000 = 7 then (tree_free.j2 k x4 x5 true x249000 x249001 x249002 x249003 x249004) else (tree_free.j2 k x4 x5 (x249000 == 8) x249000 x249001 x249002 x249003 x249004))
def tree_free.j2 : Nat → List ByteArray → Int → Bool → Int → ByteArray → Int → List (S66) → List (S39) → Option (List ByteArray × Int)
  | 0, _, _, _, _, _, _, _, _ => none
  | k + 1, x4, x5, x50, x249000, x249001, x249002, x249003, x249004 => if x50 = true then ((slices_DeleteFunc_string_string.f x4 x249001).bind fun t266 => ((tree_sorted.f t266).bind fun t269 => (some (t269, mx x5 (t269.length : Int))))) else ((tree_sorted.f x4).bind fun t272 => (some (t272, mx x5 (t272.length : Int))))
def tree_free.f : Nat → Int → ByteArray → Int → List (S66) → List (S39) → Option (List ByteArray × Int)
  | 0, _, _, _, _, _ => none
  | k + 1, a0_0, a0_1, a0_2, l0_3, l0_4 => tree_free.l0 k ([] : List ByteArray) 0 l0_3 (l0_3.length : Int) 0 a0_0 a0_1 a0_2 l0_3 l0_4
end
theorem tree_free.mono_l : ∀ k, (∀ y0 y1 y2 y3 y4, LeO (tree_free.f k y0 y1 y2 y3 y4) (tree_free.f (k + 1) y0 y1 y2 y3 y4)) ∧ (∀ y0 y1 y2 y3 y4 y5 y6 y7 y8 y9, LeO (tree_free.l0 k y0 y1 y2 y3 y4 y5 y6 y7 y8 y9) (tree_free.l0 (k + 1) y0 y1 y2 y3 y4 y5 y6 y7 y8 y9)) ∧ (∀ y0 y1 y2 y3 y4 y5 y6 y7 y8 y9, LeO (tree_free.l1 k y0 y1 y2 y3 y4 y5 y6 y7 y8 y9) (tree_free.l1 (k + 1) y0 y1 y2 y3 y4 y5 y6 y7 y8 y9)) ∧ (∀ y0 y1 y2 y3 y4 y5 y6 y7, LeO (tree_free.j2 k y0 y1 y2 y3 y4 y5 y6 y7) (tree_free.j2 (k + 1) y0 y1 y2 y3 y4 y5 y6 y7))
  | 0 => ⟨fun _ _ _ _ _ r h => by simp [tree_free.f] at h, fun _ _ _ _ _ _ _ _ _ _ r h => by simp [tree_free.l0] at h, fun _ _ _ _ _ _ _ _ _ _ r h => by simp [tree_free.l1] at h, fun _ _ _ _ _ _ _ _ r h => by simp [tree_free.j2] at h⟩
  | k + 1 => by
    obtain ⟨ih0, ih1, ih2, ih3⟩ := tree_free.mono_l k
    refine ⟨?_, ?_, ?_, ?_⟩ <;> intros <;> (first | unfold tree_free.f | unfold tree_free.l0 | unfold tree_free.l1 | unfold tree_free.j2) <;> repeat' first | (with_reducible first | exact ih0 _ _ _ _ _ | exact ih1 _ _ _ _ _ _ _ _ _ _ | exact ih2 _ _ _ _ _ _ _ _ _ _ | exact ih3 _ _ _ _ _ _ _ _ | exact tree_named.mono _ _ _ _ _ | exact LeO.refl _ | exact LeO.none _ | refine LeO.ite ?_ ?_ | refine LeO.bind ?_ (fun _ => ?_)) | exact ih0 _ _ _ _ _ | exact ih1 _ _ _ _ _ _ _ _ _ _ | exact ih2 _ _ _ _ _ _ _ _ _ _ | exact ih3 _ _ _ _ _ _ _ _ | exact tree_named.mono _ _ _ _ _ | exact LeO.none _ | refine LeO.ite ?_ ?_ | refine LeO.bind ?_ (fun _ => ?_)
theorem tree_free.mono : ∀ a0 a1 a2 a3 a4 k, LeO (tree_free.f k a0 a1 a2 a3 a4) (tree_free.f (k + 1) a0 a1 a2 a3 a4) := by
  intro a0 a1 a2 a3 a4 k
  obtain ⟨ih0, ih1, ih2, ih3⟩ := tree_free.mono_l k
  exact ih0 a0 a1 a2 a3 a4
set_option maxHeartbeats 8000000 in
set_option maxRecDepth 100000 in
theorem tree_free.calls (k : Nat) : ∀ (a0_0 : Int) (a0_1 : ByteArray) (a0_2 : Int) (A0_3 : Option Addr) (c0_3 : Nat) (l0_3 : List (S66)) (A0_4 : Option Addr) (c0_4 : Nat) (l0_4 : List (S39)) (r1 : List ByteArray) (r2 : Int) (w : World) (hr0_3 : Kd.C k66 w A0_3 l0_3.length l0_3) (hc0_3 : l0_3.length ≤ c0_3) (hr0_4 : Kd.C k39 w A0_4 l0_4.length l0_4) (hc0_4 : l0_4.length ≤ c0_4) (h : tree_free.f k a0_0 a0_1 a0_2 l0_3 l0_4 = some (r1, r2)),
    Calls Try.prog 71 #[.agg #[.int .i64 a0_0, .string a0_1, .int .i64 a0_2, .slice A0_3 l0_3.length c0_3, .slice A0_4 l0_4.length c0_4]] w fun e w' => ∃ v0_ : Value, e = .returned (.tuple #[v0_, .int .i64 r2]) ∧ Kd.R Kd.string 9 w' w.heap.size (fun _ => True) v0_ r1 ∧ Below w.heap.size w w' := by
  induction k using Nat.strongRecOn with
  | _ k ih =>
  intro a0_0 a0_1 a0_2 A0_3 c0_3 l0_3 A0_4 c0_4 l0_4 r1 r2 w hr0_3 hc0_3 hr0_4 hc0_4 h
  cases k with
  | zero => exact absurd h (by simp [tree_free.f])
  | succ k =>
  simp only [tree_free.f] at h
  have hu39 := Try.underlying39
  have hu66 := Try.underlying66
  have HR0_3 := mk hr0_3
  have HC0_3 := mk hc0_3
  clear hr0_3 hc0_3
  have HR0_4 := mk hr0_4
  have HC0_4 := mk hc0_4
  clear hr0_4 hc0_4
  have HB := mk (Below.refl w.heap.size w)
  have H : (tree_free.l0 k ([] : List ByteArray) 0 l0_3 (l0_3.length : Int) 0 a0_0 a0_1 a0_2 l0_3 l0_4) = some (r1, r2) := h
  clear h
  have H' := mk H
  clear H
  go_enter Try.func71, Try.ntmps71
  go_wp2_with (first | ((with_reducible refine gate_dst (N := 1) rfl ?_); refine box_event ?hg (N := 1) ?hd (cs := #[.int .i64 a0_0, .string a0_1, .int .i64 a0_2, .slice A0_3 l0_3.length c0_3, .slice A0_4 l0_4.length c0_4]) (t := 39) ?hr ?_; (case hd => rfl); (case hg => rfl); (case hr => exact kq6); intro gb248 hg w2 hbox hb; have BK248 := mk (hbox); have GW248 := (gs_ hg kq15); have GE248 := GW248; replace HB := mk (below_step kq15 hb); clear hb hbox hg; obtain ⟨_, _, _, _, _, _, _, _, _, _⟩ := cz5_ BK248.out))
  go_loopg [4, 15] k (fun kq v4 v15 w' => ∃ (x4_1 : List ByteArray) (x15_1 : Int), v15 = .int .i64 x15_1 ∧ Aside0 (tree_free.l0 kq x4_1 0 l0_3 (l0_3.length : Int) x15_1 a0_0 a0_1 a0_2 l0_3 l0_4 = some (r1, r2)) ∧ Aside0 (kq ≤ k) ∧ Aside0 (Kd.R Kd.string 9 w' w.heap.size (fun _ => True) v4 x4_1) ∧ Aside0 (w'.heap[gb248]? = some (.cells #[.int .i64 a0_0, .string a0_1, .int .i64 a0_2, (.slice A0_3 l0_3.length c0_3), (.slice A0_4 l0_4.length c0_4)] 39 (0, 0))) ∧ Aside0 (Below w.heap.size w w'))
  case atStart => exact ⟨(([] : List ByteArray)), (0), kq10, H', ⟨Nat.le_refl _⟩, ⟨kq28⟩, ⟨(kq7 BK248)⟩, ⟨(kq16 GE248)⟩⟩
  case round =>
    clear H'
    obtain ⟨x4_1, x15_1, rfl, HA, HK1, HO_4, BK248, HB⟩ := hrel
    cases gk with
    | zero => exact absurd HA.out (by simp [tree_free.l0])
    | succ k1 =>
      (have H := HA.out); clear HA; (simp only [tree_free.l0] at H); replace H := ic_ H; obtain ⟨c4, H⟩ | ⟨c4, H⟩ := H
      · (have c4b0 := decide_eq_true c4); clear c4; replace H := ic_ H; obtain ⟨c5, H⟩ | ⟨c5, H⟩ := H
        · (have c5b0 := decide_eq_true c5); clear c5; replace H := ic_ H; obtain ⟨c6, H⟩ | ⟨c6, H⟩ := H
          · (have c6b0 : decide (x15_1 < (l0_3.length : Int)) = true := decide_eq_true c6); clear c6; (replace H := Option.bind_eq_some_iff.mp H); (obtain ⟨t251, A70, H⟩ := H); (replace H : (if x4_1.length + t251.length < 8796093022208 then (tree_free.l0 k1 (x4_1 ++ t251) 0 l0_3 (l0_3.length : Int) (wrap64 (x15_1 + 1)) a0_0 a0_1 a0_2 l0_3 l0_4) else (none)) = some (r1, r2) := H); (have A7 := mk A70); clear A70; replace H := ic_ H; obtain ⟨c8, H⟩ | ⟨c8, H⟩ := H
            · (have LMc8 := mk c8); clear c8; (obtain ⟨y254, hy254⟩ : ∃ y_ : List ByteArray, y_ = (x4_1 ++ t251) := ⟨_, rfl⟩); (replace H : (tree_free.l0 k1 y254 0 l0_3 (l0_3.length : Int) (wrap64 (x15_1 + 1)) a0_0 a0_1 a0_2 l0_3 l0_4) = some (r1, r2) := by first | (rw [hy254]; with_reducible exact H) | (have H2_ := (Option.bind_some _ _).symm.trans H; rw [hy254]; with_reducible exact H2_) | (have H2_ := (Option.bind_some _ _).symm.trans H; with_reducible exact H2_) | with_reducible exact H | (rw [hy254]; exact H) | exact H); (have Ny254 := mk hy254); clear hy254; (have H' := mk H); clear H; (have p249 : 0 ≤ (x15_1 : Int) := of_decide_eq_true kq19); (have q249 : x15_1 < (l0_3.length : Int) := of_decide_eq_true kq19); (obtain ⟨ad249, A249_3, c249_3, e249, hx249_0, hx249_1, hx249_2, hx249_3, hl249_3, hi249_3⟩ := at_T66 HR0_3.out x15_1 p249 q249); cases e249; (replace hx249_0 := hc_ HB hx249_0); (replace hx249_1 := hc_ HB hx249_1); (replace hx249_2 := hc_ HB hx249_2); (replace hx249_3 := hc_ HB hx249_3); (have HR249_3 := mk hi249_3); (have HC249_3 := mk hl249_3); clear hi249_3 hl249_3; replace p249 := eq_true p249; replace q249 := eq_true q249; (go_wp2_with (first | ((with_reducible refine gate_dst (N := 7) rfl ?_); refine box_event ?hg (N := 7) ?hd (cs := #[.int .i64 0, .int .i64 0, .string (⟨#[]⟩ : ByteArray), .slice none 0 0]) (t := 66) ?hr ?_; (case hd => rfl); (case hg => rfl); (case hr => exact kq6); intro gb250 hg w9 hbox hb; have BK250 := mk (hbox); have GW250 := (gs_ hg (kq16 GE248)); have GE250 := GW250; have NB248_250 := (nl_ hg BK248); have NB250_248 := (ng_ hg BK248); replace HO_4 := mk (Kd.R_below (kq23 HO_4) hb); replace BK248 := (bb_ BK248 hb); replace HB := mk (below_step (kq16 GE248) hb); clear hb hbox hg; have hnb10 := NB250_248.out; have hnc10 := NB248_250.out; obtain ⟨_, _, _, _, _, _, _, _⟩ := cz4_ BK250.out) | ((with_reducible refine gate_callee (f := 97) rfl ?_); refine goesL_ (some 21) rfl rfl Try.func97 kq0 rfl #[.agg #[.int .i64 ((rd_T66 l0_3 x15_1).f0), .int .i64 ((rd_T66 l0_3 x15_1).f1), .string ((rd_T66 l0_3 x15_1).f2), .slice A249_3 ((rd_T66 l0_3 x15_1).f3).length c249_3]] rfl kq14 ?_; (with_reducible refine (tree_named.calls k1 ((rd_T66 l0_3 x15_1).f0) ((rd_T66 l0_3 x15_1).f1) ((rd_T66 l0_3 x15_1).f2) _ _ ((rd_T66 l0_3 x15_1).f3) t251 _ ?side1 ?side2 A7.out).mono ?_); (case side1 => exact kq54 HR249_3 GE248 GE250); (case side2 => exact HC249_3.out); rintro e w12 ⟨v252, rfl, ho0, hb⟩; refine ⟨_, rfl, ?_⟩; have HO253 := mk (Kd.R_lower (Kd.R_new' ho0 (Kd.R_lt (kq50 HO_4 BK250))) (below_size (kq29 GE248 GE250))); replace HO_4 := mk (Kd.R_elder' (kq50 HO_4 BK250) (Kd.R_base ho0) hb); replace BK248 := mk (blk_below (g := gb248) (o := .cells #[.int .i64 a0_0, .string a0_1, .int .i64 a0_2, .slice (some ad249) l0_3.length c0_3, .slice A0_4 l0_4.length c0_4] 39 (0, 0)) (kq48 NB248_250 BK248) hb); replace BK250 := mk (blk_below (g := gb250) (o := .cells #[.int .i64 ((rd_T66 l0_3 x15_1).f0), .int .i64 ((rd_T66 l0_3 x15_1).f1), .string ((rd_T66 l0_3 x15_1).f2), .slice A249_3 ((rd_T66 l0_3 x15_1).f3).length c249_3] 66 (0, 0)) (by (with_reducible repeat (first | refine blk_drewN ?_ _ | refine blk_drew ?_ | refine blk_alloc ?_ _)); refine blk_put (cs := #[.int .i64 ((rd_T66 l0_3 x15_1).f0), .int .i64 ((rd_T66 l0_3 x15_1).f1), .string ((rd_T66 l0_3 x15_1).f2), .slice none 0 0]) ?_ 3 _ rfl; (with_reducible repeat (first | refine blk_drewN ?_ _ | refine blk_drew ?_ | refine blk_alloc ?_ _)); refine blk_put (cs := #[.int .i64 ((rd_T66 l0_3 x15_1).f0), .int .i64 ((rd_T66 l0_3 x15_1).f1), .string (⟨#[]⟩ : ByteArray), .slice none 0 0]) ?_ 2 _ rfl; (with_reducible repeat (first | refine blk_drewN ?_ _ | refine blk_drew ?_ | refine blk_alloc ?_ _)); refine blk_put (cs := #[.int .i64 ((rd_T66 l0_3 x15_1).f0), .int .i64 0, .string (⟨#[]⟩ : ByteArray), .slice none 0 0]) ?_ 1 _ rfl; (with_reducible repeat (first | refine blk_drewN ?_ _ | refine blk_drew ?_ | refine blk_alloc ?_ _)); refine blk_put (cs := #[.int .i64 0, .int .i64 0, .string (⟨#[]⟩ : ByteArray), .slice none 0 0]) ?_ 0 _ rfl; (with_reducible repeat (first | refine blk_drewN ?_ _ | refine blk_drew ?_ | refine blk_alloc ?_ _)); exact BK250.out) hb); replace HB := mk (below_step (kq29 GE248 GE250) hb); obtain ⟨Ao14, co14, eo14⟩ := Kd.R_slice HO253.out; subst eo14) | ((with_reducible refine gate_builtin (b := .append) (xs := #[.tmp 19, .tmp 21]) rfl ?_); at_builtin; refine Kd.R_append_rows Kd.string (w0 := w) w.heap.size rfl (.tmp 19) (.tmp 21) 22 9 (.string ⟨#[]⟩) 16 rfl Try.underlying22 info9 rfl kq2 kq1 u4 x4_1 t251 _ _ _ (fun k_ => some k_ ≠ (.slice Ao14 t251.length co14 : Value).ownBlock) (fun _ => False) rfl rfl ?aO ?aR (fun _ _ h => h) (fun _ h => h.elim) ?aF ?aB ?aS ?aL ?_; (case aR => exact kq55 HO253); (case aB => exact kq56 GE248 GE250); (case aF => exact kq57 HO253); (case aO => exact kq58 HO_4); (case aS => exact kq59 GE248 GE250); (case aL => have := LMc8.out; omega); intro v255 w13 ho hb hg hat; rw [← Ny254.out] at ho; have HO256 := mk (ho); replace BK248 := mk (blk_grown (g := gb248) (o := .cells #[.int .i64 a0_0, .string a0_1, .int .i64 a0_2, .slice (some ad249) l0_3.length c0_3, .slice A0_4 l0_4.length c0_4] 39 (0, 0)) (kq7 BK248) hg (Kd.R_ne HO_4.out BK248.out kq2)); replace BK250 := mk (blk_grown (g := gb250) (o := .cells #[.int .i64 ((rd_T66 l0_3 x15_1).f0), .int .i64 ((rd_T66 l0_3 x15_1).f1), .string ((rd_T66 l0_3 x15_1).f2), .slice A249_3 ((rd_T66 l0_3 x15_1).f3).length c249_3] 66 (0, 0)) (kq7 BK250) hg (Kd.R_ne HO_4.out BK250.out kq2)); replace HO253 := mk (Kd.R_after (ok := (fun _ => True)) (kq23 HO253) hg hat); replace HB := mk (hb); clear HO_4; clear ho hb hg hat))); (go_roundg k1)
              case measure => have := HK1.out; omega
              case rel => exact ⟨(y254), (wrap64 (x15_1 + 1)), kq10, H', ⟨kq24⟩, ⟨(kq60 HO256)⟩, ⟨(kq7 BK248)⟩, ⟨(kq29 GE248 GE250)⟩⟩
            · (exact absurd H (by simp))
          · (exact absurd H (by simp))
        · (exact absurd H (by simp))
      · (have c4b0 := decide_eq_false c4); clear c4; (have H' := mk H); clear H; (obtain ⟨_, _, _, _, _, _, _, _, _, _⟩ := cz5_ BK248.out); go_wp2; (go_loopg [4, 5, 27] k1 (fun kq v4 v5 v27 w' => ∃ (x4_2 : List ByteArray) (x5_2 : Int) (x27_2 : Int), v5 = .int .i64 x5_2 ∧ v27 = .int .i64 x27_2 ∧ Aside0 (tree_free.l1 kq x4_2 x5_2 l0_4 (l0_4.length : Int) x27_2 a0_0 a0_1 a0_2 l0_3 l0_4 = some (r1, r2)) ∧ Aside0 (kq ≤ k1) ∧ Aside0 (Kd.R Kd.string 9 w' w.heap.size (fun _ => True) v4 x4_2) ∧ Aside0 (w'.heap[gb248]? = some (.cells #[.int .i64 a0_0, .string a0_1, .int .i64 a0_2, (.slice A0_3 l0_3.length c0_3), (.slice A0_4 l0_4.length c0_4)] 39 (0, 0))) ∧ Aside0 (Below w.heap.size w w')))
        case atStart => exact ⟨(x4_1), (0), (0), kq10, kq10, H', ⟨Nat.le_refl _⟩, ⟨(kq23 HO_4)⟩, ⟨(kq7 BK248)⟩, ⟨(kq16 GE248)⟩⟩
        case round =>
          clear H'; (obtain ⟨x4_2, x5_2, x27_2, rfl, rfl, HA, HK2, HO_4, BK248, HB⟩ := hrel)
          cases gk with
          | zero => exact absurd HA.out (by simp [tree_free.l1])
          | succ k2 =>
            (have H := HA.out); clear HA; (simp only [tree_free.l1] at H); replace H := ic_ H; obtain ⟨c16, H⟩ | ⟨c16, H⟩ := H
            · (have c16b0 := decide_eq_true c16); clear c16; replace H := ic_ H; obtain ⟨c17, H⟩ | ⟨c17, H⟩ := H
              · (have c17b0 := decide_eq_true c17); clear c17; replace H := ic_ H; obtain ⟨c18, H⟩ | ⟨c18, H⟩ := H
                · (have c18b0 := decide_eq_true c18); clear c18; (replace H := Option.bind_eq_some_iff.mp H); (obtain ⟨⟨t259, t262⟩, A190, H⟩ := H); (replace H : (if x4_2.length + t259.length < 8796093022208 then (tree_free.l1 k2 (x4_2 ++ t259) (mx x5_2 t262) l0_4 (l0_4.length : Int) (wrap64 (x27_2 + 1)) a0_0 a0_1 a0_2 l0_3 l0_4) else (none)) = some (r1, r2) := H); (have A19 := mk A190); clear A190; replace H := ic_ H; obtain ⟨c20, H⟩ | ⟨c20, H⟩ := H
                  · (have LMc20 := mk c20); clear c20; (obtain ⟨y263, hy263⟩ : ∃ y_ : List ByteArray, y_ = (x4_2 ++ t259) := ⟨_, rfl⟩); (replace H : (tree_free.l1 k2 y263 (mx x5_2 t262) l0_4 (l0_4.length : Int) (wrap64 (x27_2 + 1)) a0_0 a0_1 a0_2 l0_3 l0_4) = some (r1, r2) := by first | (rw [hy263]; with_reducible exact H) | (have H2_ := (Option.bind_some _ _).symm.trans H; rw [hy263]; with_reducible exact H2_) | (have H2_ := (Option.bind_some _ _).symm.trans H; with_reducible exact H2_) | with_reducible exact H | (rw [hy263]; exact H) | exact H); (have Ny263 := mk hy263); clear hy263; (obtain ⟨ji21, hji21⟩ : ∃ j_ : Int, (mx x5_2 t262) = j_ := ⟨_, rfl⟩); (replace H : (tree_free.l1 k2 y263 ji21 l0_4 (l0_4.length : Int) (wrap64 (x27_2 + 1)) a0_0 a0_1 a0_2 l0_3 l0_4) = some (r1, r2) := by first | (rw [hji21] at H; exact H) | (simp only [hji21] at H ⊢; exact H)); ((try rw [hji21] at A19)); (have hji21_ : (if x5_2 < t262 then t262 else x5_2) = ji21 := hji21); (have H' := mk H); clear H; (have p257 : 0 ≤ (x27_2 : Int) := of_decide_eq_true kq19); (have q257 : x27_2 < (l0_4.length : Int) := of_decide_eq_true kq19); (obtain ⟨ad257, A257_3, c257_3, A257_4, c257_4, e257, hx257_0, hx257_1, hx257_2, hx257_3, hx257_4, hl257_3, hi257_3, hl257_4, hi257_4⟩ := at_T39 HR0_4.out x27_2 p257 q257); cases e257; (replace hx257_0 := hc_ HB hx257_0); (replace hx257_1 := hc_ HB hx257_1); (replace hx257_2 := hc_ HB hx257_2); (replace hx257_3 := hc_ HB hx257_3); (replace hx257_4 := hc_ HB hx257_4); (have HR257_3 := mk hi257_3); (have HC257_3 := mk hl257_3); clear hi257_3 hl257_3; (have HR257_4 := mk hi257_4); (have HC257_4 := mk hl257_4); clear hi257_4 hl257_4; replace p257 := eq_true p257; replace q257 := eq_true q257; (go_wp2_with (first | ((with_reducible refine gate_dst (N := 9) rfl ?_); refine box_event ?hg (N := 9) ?hd (cs := #[.int .i64 0, .string (⟨#[]⟩ : ByteArray), .int .i64 0, .slice none 0 0, .slice none 0 0]) (t := 39) ?hr ?_; (case hd => rfl); (case hg => rfl); (case hr => exact kq6); intro gb258 hg w22 hbox hb; have BK258 := mk (hbox); have GW258 := (gs_ hg (kq16 GE248)); have GE258 := GW258; have NB248_258 := (nl_ hg BK248); have NB258_248 := (ng_ hg BK248); replace HO_4 := mk (Kd.R_below (kq23 HO_4) hb); replace BK248 := (bb_ BK248 hb); replace HB := mk (below_step (kq16 GE248) hb); clear hb hbox hg; have hnb23 := NB258_248.out; have hnc23 := NB248_258.out; obtain ⟨_, _, _, _, _, _, _, _, _, _⟩ := cz5_ BK258.out) | ((with_reducible refine gate_callee (f := 71) rfl ?_); refine goesL_ (some 33) rfl rfl Try.func71 kq0 rfl #[.agg #[.int .i64 ((rd_T39 l0_4 x27_2).f0), .string ((rd_T39 l0_4 x27_2).f1), .int .i64 ((rd_T39 l0_4 x27_2).f2), .slice A257_3 ((rd_T39 l0_4 x27_2).f3).length c257_3, .slice A257_4 ((rd_T39 l0_4 x27_2).f4).length c257_4]] rfl kq14 ?_; (with_reducible refine (ih k2 kq39 ((rd_T39 l0_4 x27_2).f0) ((rd_T39 l0_4 x27_2).f1) ((rd_T39 l0_4 x27_2).f2) _ _ ((rd_T39 l0_4 x27_2).f3) _ _ ((rd_T39 l0_4 x27_2).f4) t259 t262 _ ?side1 ?side2 ?side3 ?side4 A19.out).mono ?_); (case side1 => exact kq54 HR257_3 GE248 GE258); (case side2 => exact HC257_3.out); (case side3 => exact kq54 HR257_4 GE248 GE258); (case side4 => exact HC257_4.out); rintro e w25 ⟨v260, rfl, ho0, hb⟩; refine ⟨_, rfl, ?_⟩; have HO261 := mk (Kd.R_lower (Kd.R_new' ho0 (Kd.R_lt (kq51 HO_4 BK258))) (below_size (kq29 GE248 GE258))); replace HO_4 := mk (Kd.R_elder' (kq51 HO_4 BK258) (Kd.R_base ho0) hb); replace BK248 := mk (blk_below (g := gb248) (o := .cells #[.int .i64 a0_0, .string a0_1, .int .i64 a0_2, .slice A0_3 l0_3.length c0_3, .slice (some ad257) l0_4.length c0_4] 39 (0, 0)) (kq52 NB248_258 BK248) hb); replace BK258 := mk (blk_below (g := gb258) (o := .cells #[.int .i64 ((rd_T39 l0_4 x27_2).f0), .string ((rd_T39 l0_4 x27_2).f1), .int .i64 ((rd_T39 l0_4 x27_2).f2), .slice A257_3 ((rd_T39 l0_4 x27_2).f3).length c257_3, .slice A257_4 ((rd_T39 l0_4 x27_2).f4).length c257_4] 39 (0, 0)) (by (with_reducible repeat (first | refine blk_drewN ?_ _ | refine blk_drew ?_ | refine blk_alloc ?_ _)); refine blk_put (cs := #[.int .i64 ((rd_T39 l0_4 x27_2).f0), .string ((rd_T39 l0_4 x27_2).f1), .int .i64 ((rd_T39 l0_4 x27_2).f2), .slice A257_3 ((rd_T39 l0_4 x27_2).f3).length c257_3, .slice none 0 0]) ?_ 4 _ rfl; (with_reducible repeat (first | refine blk_drewN ?_ _ | refine blk_drew ?_ | refine blk_alloc ?_ _)); refine blk_put (cs := #[.int .i64 ((rd_T39 l0_4 x27_2).f0), .string ((rd_T39 l0_4 x27_2).f1), .int .i64 ((rd_T39 l0_4 x27_2).f2), .slice none 0 0, .slice none 0 0]) ?_ 3 _ rfl; (with_reducible repeat (first | refine blk_drewN ?_ _ | refine blk_drew ?_ | refine blk_alloc ?_ _)); refine blk_put (cs := #[.int .i64 ((rd_T39 l0_4 x27_2).f0), .string ((rd_T39 l0_4 x27_2).f1), .int .i64 0, .slice none 0 0, .slice none 0 0]) ?_ 2 _ rfl; (with_reducible repeat (first | refine blk_drewN ?_ _ | refine blk_drew ?_ | refine blk_alloc ?_ _)); refine blk_put (cs := #[.int .i64 ((rd_T39 l0_4 x27_2).f0), .string (⟨#[]⟩ : ByteArray), .int .i64 0, .slice none 0 0, .slice none 0 0]) ?_ 1 _ rfl; (with_reducible repeat (first | refine blk_drewN ?_ _ | refine blk_drew ?_ | refine blk_alloc ?_ _)); refine blk_put (cs := #[.int .i64 0, .string (⟨#[]⟩ : ByteArray), .int .i64 0, .slice none 0 0, .slice none 0 0]) ?_ 0 _ rfl; (with_reducible repeat (first | refine blk_drewN ?_ _ | refine blk_drew ?_ | refine blk_alloc ?_ _)); exact BK258.out) hb); replace HB := mk (below_step (kq29 GE248 GE258) hb); obtain ⟨Ao27, co27, eo27⟩ := Kd.R_slice HO261.out; subst eo27) | ((with_reducible refine gate_builtin (b := .append) (xs := #[.tmp 36, .tmp 37]) rfl ?_); at_builtin; refine Kd.R_append_rows Kd.string (w0 := w) w.heap.size rfl (.tmp 36) (.tmp 37) 22 9 (.string ⟨#[]⟩) 16 rfl Try.underlying22 info9 rfl kq2 kq1 u4 x4_2 t259 _ _ _ (fun k_ => some k_ ≠ (.slice Ao27 t259.length co27 : Value).ownBlock) (fun _ => False) rfl rfl ?aO ?aR (fun _ _ h => h) (fun _ h => h.elim) ?aF ?aB ?aS ?aL ?_; (case aR => exact kq55 HO261); (case aB => exact kq56 GE248 GE258); (case aF => exact kq57 HO261); (case aO => exact kq58 HO_4); (case aS => exact kq59 GE248 GE258); (case aL => have := LMc20.out; omega); intro v264 w26 ho hb hg hat; rw [← Ny263.out] at ho; have HO265 := mk (ho); replace BK248 := mk (blk_grown (g := gb248) (o := .cells #[.int .i64 a0_0, .string a0_1, .int .i64 a0_2, .slice A0_3 l0_3.length c0_3, .slice (some ad257) l0_4.length c0_4] 39 (0, 0)) (kq7 BK248) hg (Kd.R_ne HO_4.out BK248.out kq2)); replace BK258 := mk (blk_grown (g := gb258) (o := .cells #[.int .i64 ((rd_T39 l0_4 x27_2).f0), .string ((rd_T39 l0_4 x27_2).f1), .int .i64 ((rd_T39 l0_4 x27_2).f2), .slice A257_3 ((rd_T39 l0_4 x27_2).f3).length c257_3, .slice A257_4 ((rd_T39 l0_4 x27_2).f4).length c257_4] 39 (0, 0)) (kq7 BK258) hg (Kd.R_ne HO_4.out BK258.out kq2)); replace HO261 := mk (Kd.R_after (ok := (fun _ => True)) (kq23 HO261) hg hat); replace HB := mk (hb); clear HO_4; clear ho hb hg hat))); (go_roundg k2)
                    case measure => have := HK1.out; have := HK2.out; omega
                    case rel => exact ⟨(y263), (ji21), (wrap64 (x27_2 + 1)), (by first | rfl | (simp; done) | (simp only [← hji21] <;> (first | rfl | simp)) | (simp [*]; done)), kq10, H', ⟨kq39⟩, ⟨(kq60 HO265)⟩, ⟨(kq7 BK248)⟩, ⟨(kq29 GE248 GE258)⟩⟩
                  · (exact absurd H (by simp))
                · (exact absurd H (by simp))
              · (exact absurd H (by simp))
            · (have c16b0 := decide_eq_false c16); clear c16; (have HC28 := mk H); clear H; (go_upto_region 15 with (fail)); (go_cut [50] (fun v50 wc => ∃ (kq : Nat) (x50_27 : Bool), v50 = .bool x50_27 ∧ Aside0 (tree_free.j2 kq x4_2 x5_2 x50_27 a0_0 a0_1 a0_2 l0_3 l0_4 = some (r1, r2)) ∧ Aside0 (kq ≤ k2) ∧ Aside0 (Kd.R Kd.string 9 wc w.heap.size (fun _ => True) u4 x4_2) ∧ Aside0 (wc.heap[gb248]? = some (.cells #[.int .i64 a0_0, .string a0_1, .int .i64 a0_2, (.slice A0_3 l0_3.length c0_3), (.slice A0_4 l0_4.length c0_4)] 39 (0, 0))) ∧ Aside0 (Below w.heap.size w wc)))
              case first =>
                (have H := HC28.out); clear HC28; replace H := ic_ H; obtain ⟨c29, H⟩ | ⟨c29, H⟩ := H
                · (obtain ⟨c29b0, c29b1⟩ := eTn_ c29); clear c29; ((first | rw [c29b0] | (simp only [i64_w, i32_w]; rw [c29b0]) | skip)); (have H' := mk H); clear H; (obtain ⟨_, _, _, _, _, _, _, _, _, _⟩ := cz5_ BK248.out); go_wp2; (go_meet)
                  case rel => exact ⟨_, (true), kq10, H', ⟨by have := HK1.out; have := HK2.out; first | omega | exact Nat.le_refl _⟩, ⟨(kq23 HO_4)⟩, ⟨(kq7 BK248)⟩, ⟨(kq16 GE248)⟩⟩
                · (obtain ⟨c29b0, c29b1⟩ := eFn_ c29); ((first | rw [c29b0] | (simp only [i64_w, i32_w]; rw [c29b0]) | skip)); (have H' := mk H); clear H; (obtain ⟨_, _, _, _, _, _, _, _, _, _⟩ := cz5_ BK248.out); go_wp2; (go_meet)
                  case rel => exact ⟨_, ((a0_0 == 8)), kq10, H', ⟨by have := HK1.out; have := HK2.out; first | omega | exact Nat.le_refl _⟩, ⟨(kq23 HO_4)⟩, ⟨(kq7 BK248)⟩, ⟨(kq16 GE248)⟩⟩
              case rest =>
                clear HC28; (obtain ⟨kq, x50_27, rfl, HA, HJ27, HO_4, BK248, HB⟩ := hcut)
                cases kq with
                | zero => exact absurd HA.out (by simp [tree_free.j2])
                | succ kj27 =>
                  (have H := HA.out); clear HA; (simp only [tree_free.j2] at H); (by_cases c32 : x50_27 = true)
                  · subst c32; (have H1 : ((slices_DeleteFunc_string_string.f x4_2 a0_1).bind fun t266 => ((tree_sorted.f t266).bind fun t269 => (some (t269, mx x5_2 (t269.length : Int))))) = some (r1, r2) := by rw [if_pos rfl] at H; exact H); clear H; (have H := H1); clear H1; (replace H := Option.bind_eq_some_iff.mp H); (obtain ⟨t266, A330, H⟩ := H); (replace H : ((tree_sorted.f t266).bind fun t269 => (some (t269, mx x5_2 (t269.length : Int)))) = some (r1, r2) := H); (have A33 := mk A330); clear A330; (replace H := Option.bind_eq_some_iff.mp H); (obtain ⟨t269, A340, H⟩ := H); (replace H : (some (t269, mx x5_2 (t269.length : Int))) = some (r1, r2) := H); (have A34 := mk A340); clear A340; (obtain ⟨ji35, hji35⟩ : ∃ j_ : Int, (mx x5_2 (t269.length : Int)) = j_ := ⟨_, rfl⟩); (replace H : (some (t269, ji35)) = some (r1, r2) := by first | (rw [hji35] at H; exact H) | (simp only [hji35] at H ⊢; exact H)); ((try rw [hji35] at A33)); ((try rw [hji35] at A34)); (have hji35_ : (if x5_2 < (t269.length : Int) then (t269.length : Int) else x5_2) = ji35 := hji35); (simp only [Option.some.injEq, Prod.mk.injEq] at H); (obtain ⟨rfl, rfl⟩ := H); (obtain ⟨_, _, _, _, _, _, _, _, _, _⟩ := cz5_ BK248.out); (obtain ⟨Ao37, co37, eo37⟩ := Kd.R_slice HO_4.out); subst eo37; (go_wp2_with (first | ((with_reducible refine gate_callee (f := 110) rfl ?_); refine goesL_ (some 53) rfl rfl Try.func110 kq0 rfl #[.slice Ao37 x4_2.length co37, .func (.func 111) #[] #[.pointer (some ⟨gb248, 0, none⟩)]] rfl kq14 ?_; (with_reducible refine (slices_DeleteFunc_string_string.calls gb248 (.int .i64 a0_0) (.int .i64 a0_2) (.slice A0_3 l0_3.length c0_3) (.slice A0_4 l0_4.length c0_4) (fun k_ => some k_ = (.slice Ao37 x4_2.length co37 : Value).ownBlock) (.slice Ao37 x4_2.length co37) x4_2 a0_1 t266 w _ ?side0 ?side1 ?side2 A33.out).mono ?_); (case side0 => exact kq7 BK248); (case side1 => exact kq16 GE248); (case side2 => exact Kd.R_tight rfl HO_4.out); rintro e w38 ⟨v267, rfl, ho0, hb, hkp⟩; refine ⟨_, rfl, ?_⟩; have HO268 := mk (Kd.R_mono (ok' := fun k_ => True) ho0 (fun k_ hk_ => trivial)); replace BK248 := mk (blk_kept (kq7 BK248) hkp (fun hs_ => (fun e_ => (Kd.R_ne HO_4.out BK248.out kq2) e_) hs_)); replace HB := mk (hb); clear HO_4; obtain ⟨Ao39, co39, eo39⟩ := Kd.R_slice HO268.out; subst eo39) | ((with_reducible refine gate_callee (f := 112) rfl ?_); refine goesL_ (some 55) rfl rfl Try.func112 kq0 rfl #[.slice Ao39 t266.length co39] rfl kq14 ?_; (with_reducible refine (tree_sorted.calls (fun k_ => some k_ = (.slice Ao39 t266.length co39 : Value).ownBlock) (.slice Ao39 t266.length co39) t266 t269 w _ ?side1 ?side2 A34.out).mono ?_); (case side1 => exact kq16 GE248); (case side2 => exact Kd.R_tight rfl HO268.out); rintro e w40 ⟨v270, rfl, ho0, hb, hkp⟩; refine ⟨_, rfl, ?_⟩; have HO271 := mk (Kd.R_mono (ok' := fun k_ => True) ho0 (fun k_ hk_ => trivial)); replace BK248 := mk (blk_kept (kq7 BK248) hkp (fun hs_ => (fun e_ => (Kd.R_ne HO268.out BK248.out kq2) e_) hs_)); replace HB := mk (hb); clear HO268; obtain ⟨Ao41, co41, eo41⟩ := Kd.R_slice HO271.out; subst eo41))); go_ret2; (exact ⟨_, by first | rfl | (simp [errW_none, errW_some] <;> rfl) | (simp only [← hji35]; first | rfl | (simp [errW_none, errW_some] <;> rfl)) | (simp [*, errW_none, errW_some] <;> rfl), (kq23 HO271), (kq16 GE248)⟩)
                  · (replace c32 := Bool.eq_false_iff.mpr c32); subst c32; (have H1 : ((tree_sorted.f x4_2).bind fun t272 => (some (t272, mx x5_2 (t272.length : Int)))) = some (r1, r2) := by rw [if_neg (show ¬ (false = true) by decide)] at H; exact H); clear H; (have H := H1); clear H1; (replace H := Option.bind_eq_some_iff.mp H); (obtain ⟨t272, A420, H⟩ := H); (replace H : (some (t272, mx x5_2 (t272.length : Int))) = some (r1, r2) := H); (have A42 := mk A420); clear A420; (obtain ⟨ji43, hji43⟩ : ∃ j_ : Int, (mx x5_2 (t272.length : Int)) = j_ := ⟨_, rfl⟩); (replace H : (some (t272, ji43)) = some (r1, r2) := by first | (rw [hji43] at H; exact H) | (simp only [hji43] at H ⊢; exact H)); ((try rw [hji43] at A42)); (have hji43_ : (if x5_2 < (t272.length : Int) then (t272.length : Int) else x5_2) = ji43 := hji43); (simp only [Option.some.injEq, Prod.mk.injEq] at H); (obtain ⟨rfl, rfl⟩ := H); (obtain ⟨Ao44, co44, eo44⟩ := Kd.R_slice HO_4.out); subst eo44; (go_wp2_with (first | ((with_reducible refine gate_callee (f := 112) rfl ?_); refine goesL_ (some 55) rfl rfl Try.func112 kq0 rfl #[.slice Ao44 x4_2.length co44] rfl kq14 ?_; (with_reducible refine (tree_sorted.calls (fun k_ => some k_ = (.slice Ao44 x4_2.length co44 : Value).ownBlock) (.slice Ao44 x4_2.length co44) x4_2 t272 w _ ?side1 ?side2 A42.out).mono ?_); (case side1 => exact kq16 GE248); (case side2 => exact Kd.R_tight rfl HO_4.out); rintro e w45 ⟨v273, rfl, ho0, hb, hkp⟩; refine ⟨_, rfl, ?_⟩; have HO274 := mk (Kd.R_mono (ok' := fun k_ => True) ho0 (fun k_ hk_ => trivial)); replace BK248 := mk (blk_kept (kq7 BK248) hkp (fun hs_ => (fun e_ => (Kd.R_ne HO_4.out BK248.out kq2) e_) hs_)); replace HB := mk (hb); clear HO_4; obtain ⟨Ao46, co46, eo46⟩ := Kd.R_slice HO274.out; subst eo46))); go_ret2; (exact ⟨_, by first | rfl | (simp [errW_none, errW_some] <;> rfl) | (simp only [← hji43]; first | rfl | (simp [errW_none, errW_some] <;> rfl)) | (simp [*, errW_none, errW_some] <;> rfl), (kq23 HO274), (kq16 GE248)⟩)
end Go.Proofs.Ytjknpmibdkoklaa.U
namespace Go.Proofs.Ytjknpmibdkoklaa.U
open Go.RowKit Go.Proofs.YtjknpmibdkoklaaW.PrintWords Go.Proofs.YtjknpmibdkoklaaW.PrintLast Go.Proofs.YtjknpmibdkoklaaW.PrintMore
open Aside0 (mk)
open List (setIfInBounds_toArray set_cons_zero set_cons_succ)
attribute [local go_sem] max2_int min2_int max_two min_two max_three min_three max_four min_four
set_option linter.unusedVariables false
set_option linter.unusedSimpArgs false
attribute [local go_sem] fld99_2 fld103_2 fld172_1
def tree_Free.f (k : Nat) (a0_0 : Int) (a0_1 : ByteArray) (a0_2 : Int) (l0_3 : List (S66)) (l0_4 : List (S39)) : Option (List ByteArray × Int) := (tree_Check.f a0_0 a0_1 a0_2 l0_3 l0_4).bind fun t276 => (if t276 = 0 then ((tree_free.f k a0_0 a0_1 a0_2 l0_3 l0_4).bind fun bt277 => (some (bt277.1, 0))) else (some (([] : List ByteArray), t276)))
theorem tree_Free.mono : ∀ a0 a1 a2 a3 a4 k, LeO (tree_Free.f k a0 a1 a2 a3 a4) (tree_Free.f (k + 1) a0 a1 a2 a3 a4) := by
  intro a0 a1 a2 a3 a4 k
  unfold tree_Free.f
  repeat' first
      | (with_reducible exact tree_free.mono _ _ _ _ _ _)
      | (with_reducible exact LeO.refl _)
      | (with_reducible exact LeO.none _)
      | (with_reducible refine LeO.ite ?_ ?_)
      | (with_reducible refine LeO.bind ?_ (fun _ => ?_))
      | exact tree_free.mono _ _ _ _ _ _
      | exact LeO.none _
      | refine LeO.ite ?_ ?_
      | refine LeO.bind ?_ (fun _ => ?_)
set_option maxHeartbeats 8000000 in
set_option maxRecDepth 100000 in
theorem tree_Free.calls (k : Nat) (a0_0 : Int) (a0_1 : ByteArray) (a0_2 : Int) (A0_3 : Option Addr) (c0_3 : Nat) (l0_3 : List (S66)) (A0_4 : Option Addr) (c0_4 : Nat) (l0_4 : List (S39)) (r1 : List ByteArray) (r2 : Int) (w : World) (hr0_3 : Kd.C k66 w A0_3 l0_3.length l0_3) (hc0_3 : l0_3.length ≤ c0_3) (hr0_4 : Kd.C k39 w A0_4 l0_4.length l0_4) (hc0_4 : l0_4.length ≤ c0_4) (h : tree_Free.f k a0_0 a0_1 a0_2 l0_3 l0_4 = some (r1, r2)) :
    Calls Try.prog 30 #[.agg #[.int .i64 a0_0, .string a0_1, .int .i64 a0_2, .slice A0_3 l0_3.length c0_3, .slice A0_4 l0_4.length c0_4]] w fun e w' => ∃ v0_ : Value, e = .returned (.tuple #[v0_, .int .i64 r2]) ∧ Kd.R Kd.string 9 w' w.heap.size (fun _ => True) v0_ r1 ∧ Below w.heap.size w w' := by
  have hu39 := Try.underlying39
  have HR0_3 := mk hr0_3
  have HC0_3 := mk hc0_3
  clear hr0_3 hc0_3
  have HR0_4 := mk hr0_4
  have HC0_4 := mk hc0_4
  clear hr0_4 hc0_4
  have HB := mk (Below.refl w.heap.size w)
  have H : ((tree_Check.f a0_0 a0_1 a0_2 l0_3 l0_4).bind fun t276 => (if t276 = 0 then ((tree_free.f k a0_0 a0_1 a0_2 l0_3 l0_4).bind fun bt277 => (some (bt277.1, 0))) else (some (([] : List ByteArray), t276)))) = some (r1, r2) := h
  clear h
  replace H := Option.bind_eq_some_iff.mp H
  obtain ⟨t276, A20, H⟩ := H
  replace H : (if t276 = 0 then ((tree_free.f k a0_0 a0_1 a0_2 l0_3 l0_4).bind fun bt277 => (some (bt277.1, 0))) else (some (([] : List ByteArray), t276))) = some (r1, r2) := H
  have A2 := mk A20
  clear A20
  by_cases c3 : t276 = 0
  · rw [if_pos c3] at H
    have c3b0 := eT_ c3
    have c3b1 := nF_ c3
    clear c3
    replace H := Option.bind_eq_some_iff.mp H
    obtain ⟨⟨t277, t280⟩, A40, H⟩ := H
    replace H : (some (t277, 0)) = some (r1, r2) := H
    have A4 := mk A40
    clear A40
    simp only [Option.some.injEq, Prod.mk.injEq] at H
    obtain ⟨rfl, rfl⟩ := H
    go_enter Try.func30, Try.ntmps30
    go_wp2_with (first | ((with_reducible refine gate_dst (N := 1) rfl ?_); refine box_event ?hg (N := 1) ?hd (cs := #[.int .i64 a0_0, .string a0_1, .int .i64 a0_2, .slice A0_3 l0_3.length c0_3, .slice A0_4 l0_4.length c0_4]) (t := 39) ?hr ?_; (case hd => rfl); (case hg => rfl); (case hr => exact kq6); intro gb275 hg w5 hbox hb; have BK275 := mk (hbox); have GW275 := (gs_ hg kq15); have GE275 := GW275; replace HB := mk (below_step kq15 hb); clear hb hbox hg; obtain ⟨_, _, _, _, _, _, _, _, _, _⟩ := cz5_ BK275.out) | ((with_reducible refine gate_callee (f := 36) rfl ?_); refine goesL_ (some 8) rfl rfl Try.func36 kq0 rfl #[.agg #[.int .i64 a0_0, .string a0_1, .int .i64 a0_2, .slice A0_3 l0_3.length c0_3, .slice A0_4 l0_4.length c0_4]] rfl kq14 ?_; (with_reducible refine (tree_Check.calls a0_0 a0_1 a0_2 _ _ l0_3 _ _ l0_4 t276 _ ?side1 ?side2 ?side3 ?side4 A2.out).mono ?_); (case side1 => exact kq25 HR0_3); (case side2 => exact HC0_3.out); (case side3 => exact kq25 HR0_4); (case side4 => exact HC0_4.out); rintro e w7 ⟨rfl, hb⟩; refine ⟨_, rfl, ?_⟩; replace BK275 := (bb_ BK275 hb); replace HB := mk (below_step (kq16 GE275) hb); obtain ⟨_, _, _, _, _, _, _, _, _, _⟩ := cz5_ BK275.out) | ((with_reducible refine gate_callee (f := 71) rfl ?_); refine goesL_ (some 14) rfl rfl Try.func71 kq0 rfl #[.agg #[.int .i64 a0_0, .string a0_1, .int .i64 a0_2, .slice A0_3 l0_3.length c0_3, .slice A0_4 l0_4.length c0_4]] rfl kq14 ?_; (with_reducible refine (tree_free.calls k a0_0 a0_1 a0_2 _ _ l0_3 _ _ l0_4 t277 t280 _ ?side1 ?side2 ?side3 ?side4 A4.out).mono ?_); (case side1 => exact kq25 HR0_3); (case side2 => exact HC0_3.out); (case side3 => exact kq25 HR0_4); (case side4 => exact HC0_4.out); rintro e w9 ⟨v278, rfl, ho0, hb⟩; refine ⟨_, rfl, ?_⟩; have HO279 := mk (Kd.R_lower ho0 (below_size (kq16 GE275))); replace BK275 := (bb_ BK275 hb); replace HB := mk (below_step (kq16 GE275) hb)))
    go_ret2
    exact ⟨_, kq21, (kq23 HO279), (kq16 GE275)⟩
  · rw [if_neg c3] at H
    have c3b0 := eF_ c3
    have c3b1 := nT_ c3
    simp only [Option.some.injEq, Prod.mk.injEq] at H
    obtain ⟨rfl, rfl⟩ := H
    go_enter Try.func30, Try.ntmps30
    go_wp2_with (first | ((with_reducible refine gate_dst (N := 1) rfl ?_); refine box_event ?hg (N := 1) ?hd (cs := #[.int .i64 a0_0, .string a0_1, .int .i64 a0_2, .slice A0_3 l0_3.length c0_3, .slice A0_4 l0_4.length c0_4]) (t := 39) ?hr ?_; (case hd => rfl); (case hg => rfl); (case hr => exact kq6); intro gb275 hg w10 hbox hb; have BK275 := mk (hbox); have GW275 := (gs_ hg kq15); have GE275 := GW275; replace HB := mk (below_step kq15 hb); clear hb hbox hg; obtain ⟨_, _, _, _, _, _, _, _, _, _⟩ := cz5_ BK275.out) | ((with_reducible refine gate_callee (f := 36) rfl ?_); refine goesL_ (some 8) rfl rfl Try.func36 kq0 rfl #[.agg #[.int .i64 a0_0, .string a0_1, .int .i64 a0_2, .slice A0_3 l0_3.length c0_3, .slice A0_4 l0_4.length c0_4]] rfl kq14 ?_; (with_reducible refine (tree_Check.calls a0_0 a0_1 a0_2 _ _ l0_3 _ _ l0_4 t276 _ ?side1 ?side2 ?side3 ?side4 A2.out).mono ?_); (case side1 => exact kq25 HR0_3); (case side2 => exact HC0_3.out); (case side3 => exact kq25 HR0_4); (case side4 => exact HC0_4.out); rintro e w12 ⟨rfl, hb⟩; refine ⟨_, rfl, ?_⟩; replace BK275 := (bb_ BK275 hb); replace HB := mk (below_step (kq16 GE275) hb)))
    go_ret2
    exact ⟨_, kq21, kq28, (kq16 GE275)⟩
end Go.Proofs.Ytjknpmibdkoklaa.U
set_option maxRecDepth 100000
namespace Go.Proofs.Ytjknpmibdkoklaa.U
open Go.RowKit Go.Proofs.YtjknpmibdkoklaaW.PrintWords Go.Proofs.YtjknpmibdkoklaaW.PrintLast Go.Proofs.YtjknpmibdkoklaaW.PrintMore
open Aside0 (mk)
mutual
def plainF : S39 → Bool
  | ⟨a, _, _, _, q⟩ => (a != 7) && ((a != 8) && plainFs q)
def plainFs : List S39 → Bool
  | [] => true
  | t :: l => plainF t && plainFs l
end
theorem plainF_eq (t : S39) : plainF t = ((t.f0 != 7) && ((t.f0 != 8) && plainFs t.f4)) := by cases t; rw [plainF]
theorem plainFs_drop {l : List S39} {i : Nat} (h : i < l.length) : plainFs (l.drop i) = (plainF l[i] && plainFs (l.drop (i + 1))) := by
  rw [List.drop_eq_getElem_cons h, plainFs]
set_option maxHeartbeats 8000000 in
theorem idxP_calls (l0 : List S39) (A0 : Option Addr) (c0 : Nat) (w : World) (hr0 : Kd.C k39 w A0 l0.length l0)
    (ih : ∀ (i : Nat) (h0 : i < l0.length) (Af3 : Option Addr) (af3 : Nat) (Af4 : Option Addr) (af4 : Nat) (W : World), Below w.heap.size w W → Kd.C k66 W Af3 l0[i].f3.length l0[i].f3 → l0[i].f3.length ≤ af3 → Kd.C k39 W Af4 l0[i].f4.length l0[i].f4 → l0[i].f4.length ≤ af4 → Calls Try.prog 120 #[.agg #[.int .i64 l0[i].f0, .string l0[i].f1, .int .i64 l0[i].f2, .slice Af3 l0[i].f3.length af3, .slice Af4 l0[i].f4.length af4]] W fun e w' => e = .returned (.bool (!plainF l0[i])) ∧ Below W.heap.size W w') :
    Calls Try.prog 163 #[.slice A0 l0.length c0, .func (.func 120) #[] #[]] w fun e w' => ∃ r : Int, e = .returned (.int .i64 r) ∧ decide (0 ≤ r) = (!plainFs l0) ∧ Below w.heap.size w w' := by
  have hu66 := Try.underlying66
  have hu39 := Try.underlying39
  have IH := mk ih
  have hlen0 := hr0.2.1
  clear ih
  have HR0 := mk hr0
  clear hr0
  have HB0 := mk (Below.refl w.heap.size w)
  go_enter Try.func163, Try.ntmps163
  go_wp2
  go_loopg [8] l0.length (fun gq v8 wr => ∃ (i : Nat), v8 = .int .i64 i ∧ Aside0 (i ≤ l0.length) ∧ Aside0 (l0.length - i ≤ gq) ∧ Aside0 (plainFs (l0.drop i) = plainFs l0) ∧ Aside0 (Below w.heap.size w wr))
  case atStart => exact ⟨0, rfl, ⟨Nat.zero_le _⟩, ⟨kq1⟩, ⟨by rw [List.drop_zero]⟩, ⟨HB0.out⟩⟩
  case round =>
    obtain ⟨i, rfl, HI, HQ, HM, HB⟩ := hrel
    by_cases hi : i < l0.length
    · have hiz : (i : Int) < (l0.length : Int) := by omega
      have hi0 : (0 : Int) ≤ (i : Int) := by omega
      obtain ⟨ad, Af3, af3, Af4, af4, ae, ax0, ax1, ax2, ax3, ax4, alf3, aif3, alf4, aif4⟩ := at_T39 HR0.out (i : Int) hi0 hiz
      cases ae
      have ahx : rd_T39 l0 (i : Int) = l0[i] := by simp [rd_T39, hi]
      rw [ahx] at ax0 ax1 ax2 ax3 ax4 alf3 aif3 alf4 aif4
      rw [Int.toNat_natCast] at ax0 ax1 ax2 ax3 ax4
      replace ax0 := (HB.out.cell (World.block_lt_of_cell? _ _ ax0)).trans ax0
      replace ax1 := (HB.out.cell (World.block_lt_of_cell? _ _ ax1)).trans ax1
      replace ax2 := (HB.out.cell (World.block_lt_of_cell? _ _ ax2)).trans ax2
      replace ax3 := (HB.out.cell (World.block_lt_of_cell? _ _ ax3)).trans ax3
      replace ax4 := (HB.out.cell (World.block_lt_of_cell? _ _ ax4)).trans ax4
      have hcall := fun (W : World) (hW : Below w.heap.size w W) => IH.out i hi Af3 af3 Af4 af4 W hW (Kd.C_below aif3 hW) alf3 (Kd.C_below aif4 hW) alf4
      have HMD := mk ((plainFs_drop hi).symm.trans HM.out)
      have HCALL := mk hcall
      clear hcall HM ahx alf3 aif3 alf4 aif4
      generalize l0[i] = x at ax0 ax1 ax2 ax3 ax4 HMD HCALL
      cases hy : plainF x with
      | true =>
        rw [hy] at HMD HCALL
        go_wp2_with (go_at_call 120; refine (HCALL.out _ HB.out).mono ?_; rintro e w6 ⟨rfl, hb⟩; have HB6 := mk (below_step HB.out hb); clear hb)
        go_roundg (l0.length - (i + 1))
        case measure => have := HQ.out; omega
        case rel => exact ⟨i + 1, kq22, ⟨kq1⟩, ⟨kq1⟩, ⟨by have := HMD.out; simpa using this⟩, HB6⟩
      | false =>
        rw [hy] at HMD HCALL
        go_wp2_with (go_at_call 120; refine (HCALL.out _ HB.out).mono ?_; rintro e w6 ⟨rfl, hb⟩; have HB6 := mk (below_step HB.out hb); clear hb)
        go_ret
        exact ⟨_, rfl, by rw [← HMD.out]; simp, HB6.out⟩
    · have hiz : ¬ (i : Int) < (l0.length : Int) := by omega
      have HE := mk (show plainFs l0 = true by rw [← HM.out, List.drop_of_length_le kq1]; rfl)
      clear HM hi
      go_wp2
      go_ret
      exact ⟨_, rfl, by rw [HE.out]; rfl, HB.out⟩
set_option maxHeartbeats 8000000 in
theorem hasP_calls (l0 : List S39) (A0 : Option Addr) (c0 : Nat) (w : World) (hr0 : Kd.C k39 w A0 l0.length l0)
    (ih : ∀ (i : Nat) (h0 : i < l0.length) (Af3 : Option Addr) (af3 : Nat) (Af4 : Option Addr) (af4 : Nat) (W : World), Below w.heap.size w W → Kd.C k66 W Af3 l0[i].f3.length l0[i].f3 → l0[i].f3.length ≤ af3 → Kd.C k39 W Af4 l0[i].f4.length l0[i].f4 → l0[i].f4.length ≤ af4 → Calls Try.prog 120 #[.agg #[.int .i64 l0[i].f0, .string l0[i].f1, .int .i64 l0[i].f2, .slice Af3 l0[i].f3.length af3, .slice Af4 l0[i].f4.length af4]] W fun e w' => e = .returned (.bool (!plainF l0[i])) ∧ Below W.heap.size W w') :
    Calls Try.prog 119 #[.slice A0 l0.length c0, .func (.func 120) #[] #[]] w fun e w' => e = .returned (.bool (!plainFs l0)) ∧ Below w.heap.size w w' := by
  have HI := mk (idxP_calls l0 A0 c0 w hr0 ih)
  have HI2 := mk (fun (W : World) (h : Below w.heap.size w W) => idxP_calls l0 A0 c0 W (Kd.C_below hr0 h) (fun i h0 a b c d W2 h2 => ih i h0 a b c d W2 (below_step h h2)))
  clear ih hr0
  go_enter Try.func119, Try.ntmps119
  go_wp2_with (go_at_call 163; refine (HI2.out _ (by repeat (first | exact Below.refl _ _ | apply below_alloc | apply pw_below_drewN | apply below_drew1))).mono ?_; rintro e w6 ⟨r, rfl, hd, hb⟩; have HB6 := mk hb; have HD := mk hd; clear hb hd)
  go_ret
  exact ⟨by rw [← HD.out]; rfl, by first | exact HB6.out | exact below_step (by repeat (first | exact Below.refl _ _ | apply below_alloc | apply pw_below_drewN | apply below_drew1)) HB6.out⟩
set_option maxHeartbeats 8000000 in
theorem plain_calls : ∀ (n : Nat) (t : S39), SizeOf.sizeOf t < n → ∀ (Af3 : Option Addr) (af3 : Nat) (Af4 : Option Addr) (af4 : Nat) (w : World), Kd.C k66 w Af3 t.f3.length t.f3 → t.f3.length ≤ af3 → Kd.C k39 w Af4 t.f4.length t.f4 → t.f4.length ≤ af4 →
    Calls Try.prog 80 #[.agg #[.int .i64 t.f0, .string t.f1, .int .i64 t.f2, .slice Af3 t.f3.length af3, .slice Af4 t.f4.length af4]] w fun e w' => e = .returned (.bool (plainF t)) ∧ Below w.heap.size w w' := by
  intro n
  induction n with
  | zero => exact fun t h => absurd h (Nat.not_lt_zero _)
  | succ n ih =>
  intro t ht Af3 af3 Af4 af4 w hr3 hc3 hr4 hc4
  have hu66 := Try.underlying66
  have hu39 := Try.underlying39
  have one : ∀ (u : S39), SizeOf.sizeOf u < n → ∀ (Af3 : Option Addr) (af3 : Nat) (Af4 : Option Addr) (af4 : Nat) (w : World), Kd.C k66 w Af3 u.f3.length u.f3 → u.f3.length ≤ af3 → Kd.C k39 w Af4 u.f4.length u.f4 → u.f4.length ≤ af4 →
      Calls Try.prog 120 #[.agg #[.int .i64 u.f0, .string u.f1, .int .i64 u.f2, .slice Af3 u.f3.length af3, .slice Af4 u.f4.length af4]] w fun e w' => e = .returned (.bool (!plainF u)) ∧ Below w.heap.size w w' := by
    intro u hu Af3 af3 Af4 af4 w hr3 hc3 hr4 hc4
    have HI := mk (fun (W : World) (h : Below w.heap.size w W) => ih u hu Af3 af3 Af4 af4 W (Kd.C_below hr3 h) hc3 (Kd.C_below hr4 h) hc4)
    clear ih hr3 hr4 hc3 hc4
    go_enter Try.func120, Try.ntmps120
    go_wp2_with (first | ((with_reducible refine gate_dst (N := 1) rfl ?_); refine box_event ?hg (N := 1) ?hd (cs := #[.int .i64 u.f0, .string u.f1, .int .i64 u.f2, .slice Af3 u.f3.length af3, .slice Af4 u.f4.length af4]) (t := 39) ?hr ?_; (case hd => rfl); (case hg => rfl); (case hr => exact kq6); intro g2 hg2 w2 hbox hb; have BK2 := mk hbox; have HB2 := mk (below_step (Below.refl w.heap.size w) hb); clear hb hbox hg2; obtain ⟨_, _, _, _, _⟩ := cy5_ BK2.out) | (go_at_call 80; refine (HI.out _ kq53).mono ?_; rintro e w6 ⟨rfl, hb⟩; have HB6 := mk (below_step HB2.out hb); clear hb))
    go_ret
    exact ⟨rfl, HB6.out⟩
  have HI := mk (fun (W : World) (h : Below w.heap.size w W) => hasP_calls t.f4 Af4 af4 W (Kd.C_below hr4 h) (fun i h0 a b c d W2 h2 r3 c3 r4 c4 => one t.f4[i] (by have h1 := List.sizeOf_lt_of_mem (List.getElem_mem h0); have h2 : SizeOf.sizeOf t.f4 < SizeOf.sizeOf t := (by cases t; simp; omega); omega) a b c d W2 r3 c3 r4 c4))
  clear one ih ht hr3 hr4 hc3 hc4
  rw [plainF_eq]
  by_cases h7 : t.f0 = 7
  · have b7 : (t.f0 != 7) = false := bne_eq_false_iff_eq.mpr h7
    rw [b7]
    go_enter Try.func80, Try.ntmps80
    go_wp2_with (first | ((with_reducible refine gate_dst (N := 1) rfl ?_); refine box_event ?hg (N := 1) ?hd (cs := #[.int .i64 t.f0, .string t.f1, .int .i64 t.f2, .slice Af3 t.f3.length af3, .slice Af4 t.f4.length af4]) (t := 39) ?hr ?_; (case hd => rfl); (case hg => rfl); (case hr => exact kq6); intro g2 hg2 w2 hbox hb; have BK2 := mk hbox; have HB2 := mk (below_step (Below.refl w.heap.size w) hb); clear hb hbox hg2; have xc0 : w2.cell? ⟨g2, 0, none⟩ = some (.int .i64 t.f0) := bk_ BK2 0; have xc4 : w2.cell? ⟨g2, 4, none⟩ = some (.slice Af4 t.f4.length af4) := bk_ BK2 4))
    go_ret
    exact ⟨rfl, kq53⟩
  · have b7 : (t.f0 != 7) = true := bne_iff_ne.mpr h7
    by_cases h8 : t.f0 = 8
    · have b8 : (t.f0 != 8) = false := bne_eq_false_iff_eq.mpr h8
      rw [b7, b8]
      go_enter Try.func80, Try.ntmps80
      go_wp2_with (first | ((with_reducible refine gate_dst (N := 1) rfl ?_); refine box_event ?hg (N := 1) ?hd (cs := #[.int .i64 t.f0, .string t.f1, .int .i64 t.f2, .slice Af3 t.f3.length af3, .slice Af4 t.f4.length af4]) (t := 39) ?hr ?_; (case hd => rfl); (case hg => rfl); (case hr => exact kq6); intro g2 hg2 w2 hbox hb; have BK2 := mk hbox; have HB2 := mk (below_step (Below.refl w.heap.size w) hb); clear hb hbox hg2; have xc0 : w2.cell? ⟨g2, 0, none⟩ = some (.int .i64 t.f0) := bk_ BK2 0; have xc4 : w2.cell? ⟨g2, 4, none⟩ = some (.slice Af4 t.f4.length af4) := bk_ BK2 4))
      go_ret
      exact ⟨rfl, kq53⟩
    · have b8 : (t.f0 != 8) = true := bne_iff_ne.mpr h8
      rw [b7, b8]
      go_enter Try.func80, Try.ntmps80
      go_wp2_with (first | ((with_reducible refine gate_dst (N := 1) rfl ?_); refine box_event ?hg (N := 1) ?hd (cs := #[.int .i64 t.f0, .string t.f1, .int .i64 t.f2, .slice Af3 t.f3.length af3, .slice Af4 t.f4.length af4]) (t := 39) ?hr ?_; (case hd => rfl); (case hg => rfl); (case hr => exact kq6); intro g2 hg2 w2 hbox hb; have BK2 := mk hbox; have HB2 := mk (below_step (Below.refl w.heap.size w) hb); clear hb hbox hg2; have xc0 : w2.cell? ⟨g2, 0, none⟩ = some (.int .i64 t.f0) := bk_ BK2 0; have xc4 : w2.cell? ⟨g2, 4, none⟩ = some (.slice Af4 t.f4.length af4) := bk_ BK2 4) | (go_at_call 119; refine (HI.out _ kq53).mono ?_; rintro e w6 ⟨rfl, hb⟩; have HB6 := mk (below_step kq53 hb); clear hb))
      go_ret
      exact ⟨by simp, by first | exact HB6.out | (repeat (first | exact HB6.out | apply below_alloc | apply pw_below_drewN | apply below_drew1))⟩
def tree_plain.f (a0_0 : Int) (a0_1 : ByteArray) (a0_2 : Int) (l0_3 : List (S66)) (l0_4 : List (S39)) : Option Bool := some (plainF ⟨a0_0, a0_1, a0_2, l0_3, l0_4⟩)
theorem tree_plain.calls (a0_0 : Int) (a0_1 : ByteArray) (a0_2 : Int) (A0_3 : Option Addr) (c0_3 : Nat) (l0_3 : List (S66)) (A0_4 : Option Addr) (c0_4 : Nat) (l0_4 : List (S39)) (r : Bool) (w : World) (hr0_3 : Kd.C k66 w A0_3 l0_3.length l0_3) (hc0_3 : l0_3.length ≤ c0_3) (hr0_4 : Kd.C k39 w A0_4 l0_4.length l0_4) (hc0_4 : l0_4.length ≤ c0_4) (h : tree_plain.f a0_0 a0_1 a0_2 l0_3 l0_4 = some r) :
    Calls Try.prog 80 #[.agg #[.int .i64 a0_0, .string a0_1, .int .i64 a0_2, .slice A0_3 l0_3.length c0_3, .slice A0_4 l0_4.length c0_4]] w fun e w' => e = .returned (.bool r) ∧ Below w.heap.size w w' := by
  have h1 := Option.some.inj h
  have := plain_calls _ ⟨a0_0, a0_1, a0_2, l0_3, l0_4⟩ (Nat.lt_succ_self _) A0_3 c0_3 A0_4 c0_4 w hr0_3 hc0_3 hr0_4 hc0_4
  rw [h1] at this
  exact this
end Go.Proofs.Ytjknpmibdkoklaa.U
namespace Go.Proofs.Ytjknpmibdkoklaa.U
open Go.RowKit Go.Proofs.YtjknpmibdkoklaaW.PrintWords Go.Proofs.YtjknpmibdkoklaaW.PrintLast Go.Proofs.YtjknpmibdkoklaaW.PrintMore
open Aside0 (mk)
open List (setIfInBounds_toArray set_cons_zero set_cons_succ)
attribute [local go_sem] max2_int min2_int max_two min_two max_three min_three max_four min_four
set_option linter.unusedVariables false
set_option linter.unusedSimpArgs false
attribute [local go_sem] fld99_2 fld103_2 fld172_1
def tree_Plain.f (a0_0 : Int) (a0_1 : ByteArray) (a0_2 : Int) (l0_3 : List (S66)) (l0_4 : List (S39)) : Option (Bool × Int) := (tree_Check.f a0_0 a0_1 a0_2 l0_3 l0_4).bind fun t634 => (if t634 = 0 then ((tree_plain.f a0_0 a0_1 a0_2 l0_3 l0_4).bind fun t635 => (some (t635, 0))) else (some (false, t634)))
set_option maxHeartbeats 8000000 in
set_option maxRecDepth 100000 in
theorem tree_Plain.calls (a0_0 : Int) (a0_1 : ByteArray) (a0_2 : Int) (A0_3 : Option Addr) (c0_3 : Nat) (l0_3 : List (S66)) (A0_4 : Option Addr) (c0_4 : Nat) (l0_4 : List (S39)) (r1 : Bool) (r2 : Int) (w : World) (hr0_3 : Kd.C k66 w A0_3 l0_3.length l0_3) (hc0_3 : l0_3.length ≤ c0_3) (hr0_4 : Kd.C k39 w A0_4 l0_4.length l0_4) (hc0_4 : l0_4.length ≤ c0_4) (h : tree_Plain.f a0_0 a0_1 a0_2 l0_3 l0_4 = some (r1, r2)) :
    Calls Try.prog 42 #[.agg #[.int .i64 a0_0, .string a0_1, .int .i64 a0_2, .slice A0_3 l0_3.length c0_3, .slice A0_4 l0_4.length c0_4]] w fun e w' => e = .returned (.tuple #[.bool r1, .int .i64 r2]) ∧ Below w.heap.size w w' := by
  have hu39 := Try.underlying39
  have HR0_3 := mk hr0_3
  have HC0_3 := mk hc0_3
  clear hr0_3 hc0_3
  have HR0_4 := mk hr0_4
  have HC0_4 := mk hc0_4
  clear hr0_4 hc0_4
  have HB := mk (Below.refl w.heap.size w)
  have H : ((tree_Check.f a0_0 a0_1 a0_2 l0_3 l0_4).bind fun t634 => (if t634 = 0 then ((tree_plain.f a0_0 a0_1 a0_2 l0_3 l0_4).bind fun t635 => (some (t635, 0))) else (some (false, t634)))) = some (r1, r2) := h
  clear h
  replace H := Option.bind_eq_some_iff.mp H
  obtain ⟨t634, A20, H⟩ := H
  replace H : (if t634 = 0 then ((tree_plain.f a0_0 a0_1 a0_2 l0_3 l0_4).bind fun t635 => (some (t635, 0))) else (some (false, t634))) = some (r1, r2) := H
  have A2 := mk A20
  clear A20
  by_cases c3 : t634 = 0
  · rw [if_pos c3] at H
    have c3b0 := eT_ c3
    have c3b1 := nF_ c3
    clear c3
    replace H := Option.bind_eq_some_iff.mp H
    obtain ⟨t635, A40, H⟩ := H
    replace H : (some (t635, 0)) = some (r1, r2) := H
    have A4 := mk A40
    clear A40
    simp only [Option.some.injEq, Prod.mk.injEq] at H
    obtain ⟨rfl, rfl⟩ := H
    go_enter Try.func42, Try.ntmps42
    go_wp2_with (first | ((with_reducible refine gate_dst (N := 1) rfl ?_); refine box_event ?hg (N := 1) ?hd (cs := #[.int .i64 a0_0, .string a0_1, .int .i64 a0_2, .slice A0_3 l0_3.length c0_3, .slice A0_4 l0_4.length c0_4]) (t := 39) ?hr ?_; (case hd => rfl); (case hg => rfl); (case hr => exact kq6); intro gb633 hg w5 hbox hb; have BK633 := mk (hbox); have GW633 := (gs_ hg kq15); have GE633 := GW633; replace HB := mk (below_step kq15 hb); clear hb hbox hg; obtain ⟨_, _, _, _, _, _, _, _, _, _⟩ := cz5_ BK633.out) | ((with_reducible refine gate_callee (f := 36) rfl ?_); refine goesL_ (some 6) rfl rfl Try.func36 kq0 rfl #[.agg #[.int .i64 a0_0, .string a0_1, .int .i64 a0_2, .slice A0_3 l0_3.length c0_3, .slice A0_4 l0_4.length c0_4]] rfl kq14 ?_; (with_reducible refine (tree_Check.calls a0_0 a0_1 a0_2 _ _ l0_3 _ _ l0_4 t634 _ ?side1 ?side2 ?side3 ?side4 A2.out).mono ?_); (case side1 => exact kq25 HR0_3); (case side2 => exact HC0_3.out); (case side3 => exact kq25 HR0_4); (case side4 => exact HC0_4.out); rintro e w7 ⟨rfl, hb⟩; refine ⟨_, rfl, ?_⟩; replace BK633 := (bb_ BK633 hb); replace HB := mk (below_step (kq16 GE633) hb); obtain ⟨_, _, _, _, _, _, _, _, _, _⟩ := cz5_ BK633.out) | ((with_reducible refine gate_callee (f := 80) rfl ?_); refine goesL_ (some 11) rfl rfl Try.func80 kq0 rfl #[.agg #[.int .i64 a0_0, .string a0_1, .int .i64 a0_2, .slice A0_3 l0_3.length c0_3, .slice A0_4 l0_4.length c0_4]] rfl kq14 ?_; (with_reducible refine (tree_plain.calls a0_0 a0_1 a0_2 _ _ l0_3 _ _ l0_4 t635 _ ?side1 ?side2 ?side3 ?side4 A4.out).mono ?_); (case side1 => exact kq25 HR0_3); (case side2 => exact HC0_3.out); (case side3 => exact kq25 HR0_4); (case side4 => exact HC0_4.out); rintro e w9 ⟨rfl, hb⟩; refine ⟨_, rfl, ?_⟩; replace BK633 := (bb_ BK633 hb); replace HB := mk (below_step (kq16 GE633) hb)))
    go_ret2
    exact ⟨kq21, (kq16 GE633)⟩
  · rw [if_neg c3] at H
    have c3b0 := eF_ c3
    have c3b1 := nT_ c3
    simp only [Option.some.injEq, Prod.mk.injEq] at H
    obtain ⟨rfl, rfl⟩ := H
    go_enter Try.func42, Try.ntmps42
    go_wp2_with (first | ((with_reducible refine gate_dst (N := 1) rfl ?_); refine box_event ?hg (N := 1) ?hd (cs := #[.int .i64 a0_0, .string a0_1, .int .i64 a0_2, .slice A0_3 l0_3.length c0_3, .slice A0_4 l0_4.length c0_4]) (t := 39) ?hr ?_; (case hd => rfl); (case hg => rfl); (case hr => exact kq6); intro gb633 hg w10 hbox hb; have BK633 := mk (hbox); have GW633 := (gs_ hg kq15); have GE633 := GW633; replace HB := mk (below_step kq15 hb); clear hb hbox hg; obtain ⟨_, _, _, _, _, _, _, _, _, _⟩ := cz5_ BK633.out) | ((with_reducible refine gate_callee (f := 36) rfl ?_); refine goesL_ (some 6) rfl rfl Try.func36 kq0 rfl #[.agg #[.int .i64 a0_0, .string a0_1, .int .i64 a0_2, .slice A0_3 l0_3.length c0_3, .slice A0_4 l0_4.length c0_4]] rfl kq14 ?_; (with_reducible refine (tree_Check.calls a0_0 a0_1 a0_2 _ _ l0_3 _ _ l0_4 t634 _ ?side1 ?side2 ?side3 ?side4 A2.out).mono ?_); (case side1 => exact kq25 HR0_3); (case side2 => exact HC0_3.out); (case side3 => exact kq25 HR0_4); (case side4 => exact HC0_4.out); rintro e w12 ⟨rfl, hb⟩; refine ⟨_, rfl, ?_⟩; replace BK633 := (bb_ BK633 hb); replace HB := mk (below_step (kq16 GE633) hb)))
    go_ret2
    exact ⟨kq21, (kq16 GE633)⟩
end Go.Proofs.Ytjknpmibdkoklaa.U
namespace Go.Proofs.Ytjknpmibdkoklaa.U
open Go.RowKit Go.Proofs.YtjknpmibdkoklaaW.PrintWords Go.Proofs.YtjknpmibdkoklaaW.PrintLast Go.Proofs.YtjknpmibdkoklaaW.PrintMore
open Aside0 (mk)
open List (setIfInBounds_toArray set_cons_zero set_cons_succ)
attribute [local go_sem] max2_int min2_int max_two min_two max_three min_three max_four min_four
set_option linter.unusedVariables false
set_option linter.unusedSimpArgs false
attribute [local go_sem] fld99_2 fld103_2 fld172_1
mutual
def truth_fit.j0 : Nat → List ByteArray → List ByteArray → Bool → Option (Int)
  | 0, _, _, _ => none
  | k + 1, x0, x1, x18 => if x18 = true then (some 3) else (truth_fit.l0 k x1 x0 (x0.length : Int) 0)
def truth_fit.l0 : Nat → List ByteArray → List ByteArray → Int → Int → Option (Int)
  | 0, _, _, _, _ => none
  | k + 1, x1, x19, x20, x21 => if x21 < x20 then (if 0 ≤ x21 then (if x21 < (x19.length : Int) then ((glyph_Index.f k x1 (rdOf ByteArray.empty x19 x21)).bind fun t671 => (if t671 < 0 then (some 4) else (truth_fit.l0 k x1 x19 x20 (wrap64 (x21 + 1))))) else (none)) else (none)) else (some 0)
end
def truth_fit.f (k : Nat) (l0 : List ByteArray) (l1 : List ByteArray) (l2 : List Int) : Option (Int) := (glyph_Rises.f k l1).bind fun t669 => (if t669 = true then (truth_fit.j0 k l0 l1 ((l1.length : Int) != (l2.length : Int))) else (truth_fit.j0 k l0 l1 true))
theorem truth_fit.mono_l : ∀ k, (∀ y0 y1 y2, LeO (truth_fit.j0 k y0 y1 y2) (truth_fit.j0 (k + 1) y0 y1 y2)) ∧ (∀ y0 y1 y2 y3, LeO (truth_fit.l0 k y0 y1 y2 y3) (truth_fit.l0 (k + 1) y0 y1 y2 y3))
  | 0 => ⟨fun _ _ _ r h => by simp [truth_fit.j0] at h, fun _ _ _ _ r h => by simp [truth_fit.l0] at h⟩
  | k + 1 => by
    obtain ⟨ih0, ih1⟩ := truth_fit.mono_l k
    refine ⟨?_, ?_⟩ <;> intros <;> (first | unfold truth_fit.j0 | unfold truth_fit.l0) <;> repeat' first | (with_reducible first | exact ih0 _ _ _ | exact ih1 _ _ _ _ | exact glyph_Index.mono _ _ _ | exact glyph_Rises.mono _ _ | exact LeO.refl _ | exact LeO.none _ | refine LeO.ite ?_ ?_ | refine LeO.bind ?_ (fun _ => ?_)) | exact ih0 _ _ _ | exact ih1 _ _ _ _ | exact glyph_Index.mono _ _ _ | exact glyph_Rises.mono _ _ | exact LeO.none _ | refine LeO.ite ?_ ?_ | refine LeO.bind ?_ (fun _ => ?_)
theorem truth_fit.mono : ∀ a0 a1 a2 k, LeO (truth_fit.f k a0 a1 a2) (truth_fit.f (k + 1) a0 a1 a2) := by
  intro a0 a1 a2 k
  obtain ⟨ih0, ih1⟩ := truth_fit.mono_l k
  unfold truth_fit.f
  repeat' first
      | (with_reducible exact ih0 _ _ _)
      | (with_reducible exact ih1 _ _ _ _)
      | (with_reducible exact glyph_Index.mono _ _ _)
      | (with_reducible exact glyph_Rises.mono _ _)
      | (with_reducible exact LeO.refl _)
      | (with_reducible exact LeO.none _)
      | (with_reducible refine LeO.ite ?_ ?_)
      | (with_reducible refine LeO.bind ?_ (fun _ => ?_))
      | exact ih0 _ _ _
      | exact ih1 _ _ _ _
      | exact glyph_Index.mono _ _ _
      | exact glyph_Rises.mono _ _
      | exact LeO.none _
      | refine LeO.ite ?_ ?_
      | refine LeO.bind ?_ (fun _ => ?_)
set_option maxHeartbeats 8000000 in
set_option maxRecDepth 100000 in
theorem truth_fit.calls (k : Nat) (A0 : Option Addr) (c0 : Nat) (l0 : List ByteArray) (A1 : Option Addr) (c1 : Nat) (l1 : List ByteArray) (A2 : Option Addr) (c2 : Nat) (l2 : List Int) (r : Int) (w : World) (hr0 : Kd.C Kd.string w A0 l0.length l0) (hc0 : l0.length ≤ c0) (hr1 : Kd.C Kd.string w A1 l1.length l1) (hc1 : l1.length ≤ c1) (hr2 : Kd.C (Kd.int .i64) w A2 l2.length l2) (hc2 : l2.length ≤ c2) (h : truth_fit.f k l0 l1 l2 = some r) :
    Calls Try.prog 98 #[.slice A0 l0.length c0, .slice A1 l1.length c1, .slice A2 l2.length c2] w fun e w' => e = .returned (.int .i64 r) ∧ Below w.heap.size w w' := by
  have HR0 := mk hr0
  have HC0 := mk hc0
  clear hr0 hc0
  have HR1 := mk hr1
  have HC1 := mk hc1
  clear hr1 hc1
  have HR2 := mk hr2
  have HC2 := mk hc2
  clear hr2 hc2
  have HB := mk (Below.refl w.heap.size w)
  have H : ((glyph_Rises.f k l1).bind fun t669 => (if t669 = true then (truth_fit.j0 k l0 l1 ((l1.length : Int) != (l2.length : Int))) else (truth_fit.j0 k l0 l1 true))) = some r := h
  clear h
  have HC4 := mk H
  clear H
  go_enter Try.func98, Try.ntmps98
  go_upto_region 1 with (fail)
  go_cut [18] (fun v18 wc => ∃ (kq : Nat) (x18_3 : Bool), v18 = .bool x18_3 ∧ Aside0 (truth_fit.j0 kq l0 l1 x18_3 = some r) ∧ Aside0 (kq ≤ k) ∧ Aside0 (Below w.heap.size w wc))
  case first =>
    have H := HC4.out
    clear HC4
    replace H := Option.bind_eq_some_iff.mp H
    obtain ⟨t669, A50, H⟩ := H
    replace H : (if t669 = true then (truth_fit.j0 k l0 l1 ((l1.length : Int) != (l2.length : Int))) else (truth_fit.j0 k l0 l1 true)) = some r := H
    have A5 := mk A50
    clear A50
    by_cases c6 : t669 = true
    · subst c6; (have H1 : (truth_fit.j0 k l0 l1 ((l1.length : Int) != (l2.length : Int))) = some r := by rw [if_pos rfl] at H; exact H); clear H; (have H := H1); clear H1; (have H' := mk H); clear H; (go_wp2_with (first | ((with_reducible refine gate_callee (f := 25) rfl ?_); refine goesL_ (some 10) rfl rfl Try.func25 kq0 rfl #[.slice A1 l1.length c1] rfl kq14 ?_; (with_reducible refine (glyph_Rises.calls k _ _ l1 true _ ?side1 ?side2 A5.out).mono ?_); (case side1 => exact kq25 HR1); (case side2 => exact HC1.out); rintro e w7 ⟨rfl, hb⟩; refine ⟨_, rfl, ?_⟩; replace HB := mk (below_step kq15 hb)))); (go_meet)
      case rel => exact ⟨_, (((l1.length : Int) != (l2.length : Int))), kq10, H', ⟨kq11⟩, ⟨kq15⟩⟩
    · (replace c6 := Bool.eq_false_iff.mpr c6); subst c6; (have H1 : (truth_fit.j0 k l0 l1 true) = some r := by rw [if_neg (show ¬ (false = true) by decide)] at H; exact H); clear H; (have H := H1); clear H1; (have H' := mk H); clear H; (go_wp2_with (first | ((with_reducible refine gate_callee (f := 25) rfl ?_); refine goesL_ (some 10) rfl rfl Try.func25 kq0 rfl #[.slice A1 l1.length c1] rfl kq14 ?_; (with_reducible refine (glyph_Rises.calls k _ _ l1 false _ ?side1 ?side2 A5.out).mono ?_); (case side1 => exact kq25 HR1); (case side2 => exact HC1.out); rintro e w8 ⟨rfl, hb⟩; refine ⟨_, rfl, ?_⟩; replace HB := mk (below_step kq15 hb)))); (go_meet)
      case rel => exact ⟨_, (true), kq10, H', ⟨kq11⟩, ⟨kq15⟩⟩
  case rest =>
    clear HC4
    obtain ⟨kq, x18_3, rfl, HA, HJ3, HB⟩ := hcut
    cases kq with
    | zero => exact absurd HA.out (by simp [truth_fit.j0])
    | succ kj3 =>
      (have H := HA.out); clear HA; (simp only [truth_fit.j0] at H); (by_cases c9 : x18_3 = true)
      · subst c9; (have H1 : (some 3) = some r := by rw [if_pos rfl] at H; exact H); clear H; (have H := H1); clear H1; (obtain rfl := Option.some.inj H); go_wp2; go_ret; (exact ⟨kq21, kq15⟩)
      · (replace c9 := Bool.eq_false_iff.mpr c9); subst c9; (have H1 : (truth_fit.l0 kj3 l1 l0 (l0.length : Int) 0) = some r := by rw [if_neg (show ¬ (false = true) by decide)] at H; exact H); clear H; (have H := H1); clear H1; (have H' := mk H); clear H; go_wp2; (go_loopg [21] kj3 (fun kq v21 w' => ∃ (x21_2 : Int), v21 = .int .i64 x21_2 ∧ Aside0 (truth_fit.l0 kq l1 l0 (l0.length : Int) x21_2 = some r) ∧ Aside0 (kq ≤ kj3) ∧ Aside0 (Below w.heap.size w w')))
        case atStart => exact ⟨(0), kq10, H', ⟨Nat.le_refl _⟩, ⟨kq15⟩⟩
        case round =>
          clear H'; (obtain ⟨x21_2, rfl, HA, HK2, HB⟩ := hrel)
          cases gk with
          | zero => exact absurd HA.out (by simp [truth_fit.l0])
          | succ k2 =>
            (have H := HA.out); clear HA; (simp only [truth_fit.l0] at H); replace H := ic_ H; obtain ⟨c10, H⟩ | ⟨c10, H⟩ := H
            · (have c10b0 : decide (x21_2 < (l0.length : Int)) = true := decide_eq_true c10); clear c10; replace H := ic_ H; obtain ⟨c11, H⟩ | ⟨c11, H⟩ := H
              · (have c11b0 : decide (0 ≤ x21_2) = true := decide_eq_true c11); clear c11; replace H := ic_ H; obtain ⟨c12, H⟩ | ⟨c12, H⟩ := H
                · (have c12b0 : decide (x21_2 < (l0.length : Int)) = true := decide_eq_true c12); clear c12; (replace H := Option.bind_eq_some_iff.mp H); (obtain ⟨t671, A130, H⟩ := H); (replace H : (if t671 < 0 then (some 4) else (truth_fit.l0 k2 l1 l0 (l0.length : Int) (wrap64 (x21_2 + 1)))) = some r := H); (have A13 := mk A130); clear A130; replace H := ic_ H; obtain ⟨c14, H⟩ | ⟨c14, H⟩ := H
                  · (have c14b0 : decide (t671 < 0) = true := decide_eq_true c14); clear c14; (obtain rfl := Option.some.inj H); (have p670 : 0 ≤ (x21_2 : Int) := of_decide_eq_true kq19); (have q670 : x21_2 < (l0.length : Int) := of_decide_eq_true kq19); (obtain ⟨ad670, e670, hx670_0⟩ := Kd.at_string HR0.out x21_2 p670 q670); cases e670; (replace hx670_0 := hc_ HB hx670_0); replace p670 := eq_true p670; replace q670 := eq_true q670; (go_wp2_with (first | ((with_reducible refine gate_callee (f := 27) rfl ?_); refine goesL_ (some 27) rfl rfl Try.func27 kq0 rfl #[.slice A1 l1.length c1, .string (rdOf ByteArray.empty l0 x21_2)] rfl kq14 ?_; (with_reducible refine (glyph_Index.calls k2 _ _ l1 (rdOf ByteArray.empty l0 x21_2) t671 _ ?side1 ?side2 A13.out).mono ?_); (case side1 => exact kq25 HR1); (case side2 => exact HC1.out); rintro e w' ⟨rfl, ⟨nd, rfl⟩⟩; refine ⟨_, rfl, ?_⟩))); go_ret; (exact ⟨kq21, kq15⟩)
                  · (have c14b0 : decide (t671 < 0) = false := decide_eq_false c14); clear c14; (have H' := mk H); clear H; (have p670 : 0 ≤ (x21_2 : Int) := of_decide_eq_true kq19); (have q670 : x21_2 < (l0.length : Int) := of_decide_eq_true kq19); (obtain ⟨ad670, e670, hx670_0⟩ := Kd.at_string HR0.out x21_2 p670 q670); cases e670; (replace hx670_0 := hc_ HB hx670_0); replace p670 := eq_true p670; replace q670 := eq_true q670; (go_wp2_with (first | ((with_reducible refine gate_callee (f := 27) rfl ?_); refine goesL_ (some 27) rfl rfl Try.func27 kq0 rfl #[.slice A1 l1.length c1, .string (rdOf ByteArray.empty l0 x21_2)] rfl kq14 ?_; (with_reducible refine (glyph_Index.calls k2 _ _ l1 (rdOf ByteArray.empty l0 x21_2) t671 _ ?side1 ?side2 A13.out).mono ?_); (case side1 => exact kq25 HR1); (case side2 => exact HC1.out); rintro e w' ⟨rfl, ⟨nd, rfl⟩⟩; refine ⟨_, rfl, ?_⟩))); (go_roundg k2)
                    case measure => have := HJ3.out; have := HK2.out; omega
                    case rel => exact ⟨(wrap64 (x21_2 + 1)), kq10, H', ⟨by have := HJ3.out; have := HK2.out; omega⟩, ⟨kq15⟩⟩
                · (exact absurd H (by simp))
              · (exact absurd H (by simp))
            · (have c10b0 : decide (x21_2 < (l0.length : Int)) = false := decide_eq_false c10); clear c10; (obtain rfl := Option.some.inj H); go_wp2; go_ret; (exact ⟨kq21, kq15⟩)
end Go.Proofs.Ytjknpmibdkoklaa.U
