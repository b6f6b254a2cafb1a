/- Functions of the given program as Lean functions, each with its contract, and what they answer; words for it. No condition but those of each. -/
import Derived.Test.YtjknpmibdkoklaaPCS
import Derived.Test.YtjknpmibdkoklaaPC5
import Derived.Test.YtjknpmibdkoklaaPC6
import Derived.Test.YtjknpmibdkoklaaPC3
import Derived.Test.YtjknpmibdkoklaaPC2
set_option linter.unusedVariables false
set_option linter.unusedSimpArgs false
set_option maxRecDepth 100000
namespace Go.Proofs.Ytjknpmibdkoklaa.U
open Go.RowKit Go.Proofs.YtjknpmibdkoklaaW.PrintWords Go.Proofs.YtjknpmibdkoklaaW.PrintLast Go.Proofs.YtjknpmibdkoklaaW.PrintMore
def risesB : Option ByteArray → List ByteArray → Bool
  | _, [] => true
  | p, x :: l => nameB x && ((match p with | none => true | some y => decide (bl y < bl x)) && risesB (some x) l)
theorem risesB_some : ∀ (l : List ByteArray) (y : ByteArray), risesB (some y) l = true ↔ (∀ x ∈ l, nameB x = true) ∧ Rise (y :: l)
  | [], y => by simp [risesB, Rise]
  | x :: l, y => by
    unfold risesB
    rw [Bool.and_eq_true, Bool.and_eq_true, risesB_some l x]
    simp only [decide_eq_true_eq, Rise, List.pairwise_cons]
    constructor
    · rintro ⟨h1, h2, h3, h4, h5⟩
      refine ⟨fun z hz => ?_, fun z hz => ?_, h4, h5⟩
      · rcases List.mem_cons.1 hz with rfl | hz
        · exact h1
        · exact h3 z hz
      · rcases List.mem_cons.1 hz with rfl | hz
        · exact h2
        · exact ltt h2 (h4 z hz)
    · rintro ⟨h1, h2, h4, h5⟩
      exact ⟨h1 x (List.mem_cons_self ..), h2 x (List.mem_cons_self ..), fun z hz => h1 z (List.mem_cons_of_mem _ hz), h4, h5⟩
theorem risesB_none (l : List ByteArray) : risesB none l = true ↔ (∀ x ∈ l, nameB x = true) ∧ Rise l := by
  cases l with
  | nil => simp [risesB, Rise]
  | cons x l =>
    unfold risesB
    rw [Bool.and_eq_true, Bool.and_eq_true, risesB_some l x]
    constructor
    · rintro ⟨h1, _, h3, h4⟩
      refine ⟨fun z hz => ?_, h4⟩
      rcases List.mem_cons.1 hz with rfl | hz
      · exact h1
      · exact h3 z hz
    · rintro ⟨h1, h4⟩
      exact ⟨h1 x (List.mem_cons_self ..), rfl, fun z hz => h1 z (List.mem_cons_of_mem _ hz), h4⟩
theorem rd_nat {l : List ByteArray} {i : Nat} (h : i < l.length) : rdOf ByteArray.empty l (i : Int) = l[i] := by rw [rdOf_nat, List.getD_eq_getElem?_getD, List.getElem?_eq_getElem h]; rfl
def prevS (l : List ByteArray) (i : Nat) : Option ByteArray := if i = 0 then none else l[i - 1]?
theorem prevS_succ {l : List ByteArray} {i : Nat} (h : i < l.length) : prevS l (i + 1) = some l[i] := by
  unfold prevS
  rw [if_neg kq1]
  exact List.getElem?_eq_getElem h
theorem rises_loop (l : List ByteArray) (hl : l.length < 4611686018427387904) : ∀ (n i : Nat), i ≤ l.length → l.length - i = n → Ev (fun k => glyph_Rises.l0 k l l (l.length : Int) (i : Int)) (risesB (prevS l i) (l.drop i))
  | 0, i, hi, hn => by
    rw [List.drop_of_length_le kq1]
    exact Ev.step (f := fun _ => some true) (fun k => by
      show glyph_Rises.l0 (k + 1) l l (l.length : Int) (i : Int) = _
      conv => lhs; unfold glyph_Rises.l0
      rw [if_neg kq1]) (Ev.now _)
  | n + 1, i, hi, hn => by
    have hlt : i < l.length := by omega
    have ih := rises_loop l hl n (i + 1) kq1 kq1
    rw [prevS_succ hlt] at ih
    rw [List.drop_eq_getElem_cons hlt]
    have hw : wrap64 ((i : Int) + 1) = ((i + 1 : Nat) : Int) := by unfold wrap64; omega
    have hw2 : wrap64 ((i : Int) - 1) = (i : Int) - 1 := by unfold wrap64; omega
    have step : ∀ k, glyph_Rises.l0 (k + 1) l l (l.length : Int) (i : Int) = (if nameB l[i] = true then (if (match prevS l i with | none => true | some y => decide (bl y < bl l[i])) = true then glyph_Rises.l0 k l l (l.length : Int) ((i + 1 : Nat) : Int) else some false) else some false) := fun k => by
      conv => lhs; unfold glyph_Rises.l0
      rw [if_pos kq1, if_pos kq1, if_pos kq1, rd_nat hlt, hw]
      unfold glyph_Name.f
      rw [Option.bind_some]
      by_cases hnm : nameB l[i] = true
      · rw [if_pos hnm, if_pos hnm]
        by_cases h0 : i = 0
        · subst h0
          rw [if_neg kq1]
          simp [prevS]
        · have hp : prevS l i = some l[i - 1] := by
            unfold prevS
            rw [if_neg h0]
            exact List.getElem?_eq_getElem kq1
          rw [if_pos kq1, hw2, if_pos kq1, if_pos kq1, show (i : Int) - 1 = ((i - 1 : Nat) : Int) by omega, rd_nat kq1, less_eq, hp]
      · rw [if_neg hnm, if_neg hnm]
    refine Ev.step step ?_
    unfold risesB
    by_cases h1 : nameB l[i] = true
    · refine Ev.congr (fun k => if_pos h1) ?_
      rw [h1, Bool.true_and]
      by_cases h2 : (match prevS l i with | none => true | some y => decide (bl y < bl l[i])) = true
      · refine Ev.congr (fun k => if_pos h2) ?_
        rw [h2, Bool.true_and]
        exact ih
      · refine Ev.congr (fun k => if_neg h2) ?_
        rw [Bool.eq_false_iff.mpr h2, Bool.false_and]
        exact Ev.now _
    · refine Ev.congr (fun k => if_neg h1) ?_
      rw [Bool.eq_false_iff.mpr h1, Bool.false_and]
      exact Ev.now _
theorem rises_ev (l : List ByteArray) (hl : l.length < 4611686018427387904) : Ev (fun k => glyph_Rises.f k l) (risesB none l) := rises_loop l hl _ 0 (Nat.zero_le _) rfl
def unionA (a b : List ByteArray) : List ByteArray × Int := if risesB none a = true then (if risesB none b = true then (canon (a ++ b), 0) else ([], 3)) else ([], 3)
theorem union_ev (a b : List ByteArray) (ha : a.length ≤ 1000000) (hb : b.length ≤ 1000000) : Ev (fun k => glyph_Union.f k a b) (unionA a b) := by
  have stop : ∀ r, r = true → Ev (fun k => glyph_Union.j0 k a b r) ([], 3) := fun r hr => Ev.step (f := fun _ => some ([], 3)) (fun k => by
    show glyph_Union.j0 (k + 1) a b r = _
    simp only [glyph_Union.j0]
    rw [if_pos hr]) (Ev.now _)
  refine Ev.bind (rises_ev a kq1) ?_
  unfold unionA
  by_cases h1 : risesB none a = true
  · rw [if_pos h1]
    refine Ev.congr (fun k => if_pos h1) (Ev.bind (rises_ev b kq1) ?_)
    by_cases h2 : risesB none b = true
    · rw [if_pos h2, h2]
      refine Ev.step (f := fun _ => some (canon (a ++ b), 0)) (fun k => ?_) (Ev.now _)
      show glyph_Union.j0 (k + 1) a b (!true) = _
      simp only [glyph_Union.j0]
      unfold slices_Clone_string_string.f slices_Sort_string_string.f slices_Compact_string_string.f
      rw [if_neg kq2, if_pos kq1, Option.bind_some, if_pos kq1, if_pos (by rw [List.length_append]; omega), Option.bind_some, if_pos (by rw [sortedS_length, List.length_append]; omega), Option.bind_some]
      rfl
    · rw [if_neg h2]
      exact stop _ (by rw [Bool.eq_false_iff.mpr h2]; rfl)
  · rw [if_neg h1]
    exact Ev.congr (fun k => if_neg h1) (stop true rfl)
end Go.Proofs.Ytjknpmibdkoklaa.U
namespace Go.Proofs.Ytjknpmibdkoklaa.U
open Go.RowKit Go.Proofs.YtjknpmibdkoklaaW.PrintWords Go.Proofs.YtjknpmibdkoklaaW.PrintLast Go.Proofs.YtjknpmibdkoklaaW.PrintMore
open Aside0 (mk)
open List (setIfInBounds_toArray set_cons_zero set_cons_succ)
attribute [local go_sem] max2_int min2_int max_two min_two max_three min_three max_four min_four
set_option linter.unusedVariables false
set_option linter.unusedSimpArgs false
attribute [local go_sem] fld99_2 fld103_2 fld172_1
def slices_Index_string_string.l0 : Nat → List ByteArray → ByteArray → Int → Int → Option (Int)
  | 0, _, _, _, _ => none
  | k + 1, x0, x1, x7, x8 => if x8 < x7 then (if 0 ≤ x8 then (if x8 < (x0.length : Int) then (if x1.toList = (rdOf ByteArray.empty x0 x8).toList then (some x8) else (slices_Index_string_string.l0 k x0 x1 x7 (wrap64 (x8 + 1)))) else (none)) else (none)) else (some (-1))
def slices_Index_string_string.f (k : Nat) (l0 : List ByteArray) (a1 : ByteArray) : Option (Int) := slices_Index_string_string.l0 k l0 a1 (l0.length : Int) 0
theorem slices_Index_string_string.mono_l : ∀ k, (∀ y0 y1 y2 y3, LeO (slices_Index_string_string.l0 k y0 y1 y2 y3) (slices_Index_string_string.l0 (k + 1) y0 y1 y2 y3))
  | 0 => fun _ _ _ _ r h => by simp [slices_Index_string_string.l0] at h
  | k + 1 => by
    have ih0 := slices_Index_string_string.mono_l k
    · intro y0 y1 y2 y3; (unfold slices_Index_string_string.l0)
      repeat' first
      | (with_reducible exact ih0 _ _ _ _)
      | (with_reducible exact LeO.refl _)
      | (with_reducible exact LeO.none _)
      | (with_reducible refine LeO.ite ?_ ?_)
      | (with_reducible refine LeO.bind ?_ (fun _ => ?_))
      | exact ih0 _ _ _ _
      | exact LeO.none _
      | refine LeO.ite ?_ ?_
      | refine LeO.bind ?_ (fun _ => ?_)
theorem slices_Index_string_string.mono : ∀ a0 a1 k, LeO (slices_Index_string_string.f k a0 a1) (slices_Index_string_string.f (k + 1) a0 a1) := by
  intro a0 a1 k
  have ih0 := slices_Index_string_string.mono_l k
  unfold slices_Index_string_string.f
  repeat' first
      | (with_reducible exact ih0 _ _ _ _)
      | (with_reducible exact LeO.refl _)
      | (with_reducible exact LeO.none _)
      | (with_reducible refine LeO.ite ?_ ?_)
      | (with_reducible refine LeO.bind ?_ (fun _ => ?_))
      | exact ih0 _ _ _ _
      | exact LeO.none _
      | refine LeO.ite ?_ ?_
      | refine LeO.bind ?_ (fun _ => ?_)
set_option maxHeartbeats 8000000 in
set_option maxRecDepth 100000 in
theorem slices_Index_string_string.calls (k : Nat) (A0 : Option Addr) (c0 : Nat) (l0 : List ByteArray) (a1 : ByteArray) (r : Int) (w : World) (hr0 : Kd.C Kd.string w A0 l0.length l0) (hc0 : l0.length ≤ c0) (h : slices_Index_string_string.f k l0 a1 = some r) :
    Calls Try.prog 69 #[.slice A0 l0.length c0, .string a1] w fun e w' => e = .returned (.int .i64 r) ∧ Drawn0 w w' := by
  have HR0 := mk hr0
  have HC0 := mk hc0
  clear hr0 hc0
  have H : (slices_Index_string_string.l0 k l0 a1 (l0.length : Int) 0) = some r := h
  clear h
  have H' := mk H
  clear H
  go_enter Try.func69, Try.ntmps69
  go_wp2
  go_loopg [8] k (fun kq v8 w' => ∃ (x8_1 : Int), v8 = .int .i64 x8_1 ∧ Aside0 (slices_Index_string_string.l0 kq l0 a1 (l0.length : Int) x8_1 = some r) ∧ Aside0 (kq ≤ k) ∧ Drawn0 w w')
  case atStart => exact ⟨(0), kq10, H', ⟨Nat.le_refl _⟩, kq12⟩
  case round =>
    clear H'
    obtain ⟨x8_1, rfl, HA, HK1, ⟨m1, rfl⟩⟩ := hrel
    cases gk with
    | zero => exact absurd HA.out (by simp [slices_Index_string_string.l0])
    | succ k1 =>
      (have H := HA.out); clear HA; (simp only [slices_Index_string_string.l0] at H); replace H := ic_ H; obtain ⟨c3, H⟩ | ⟨c3, H⟩ := H
      · (have c3b0 : decide (x8_1 < (l0.length : Int)) = true := decide_eq_true c3); clear c3; replace H := ic_ H; obtain ⟨c4, H⟩ | ⟨c4, H⟩ := H
        · (have c4b0 : decide (0 ≤ x8_1) = true := decide_eq_true c4); clear c4; replace H := ic_ H; obtain ⟨c5, H⟩ | ⟨c5, H⟩ := H
          · (have c5b0 : decide (x8_1 < (l0.length : Int)) = true := decide_eq_true c5); clear c5; replace H := ic_ H; obtain ⟨c6, H⟩ | ⟨c6, H⟩ := H
            · (obtain ⟨c6b0, c6b1⟩ := eTn_ c6); clear c6; (obtain rfl := Option.some.inj H); (have p667 : 0 ≤ (x8_1 : Int) := of_decide_eq_true kq19); (have q667 : x8_1 < (l0.length : Int) := of_decide_eq_true kq19); (obtain ⟨ad667, e667, hx667_0⟩ := Kd.at_string HR0.out x8_1 p667 q667); cases e667; replace p667 := eq_true p667; replace q667 := eq_true q667; go_wp2; go_ret; (exact ⟨kq10, kq12⟩)
            · (obtain ⟨c6b0, c6b1⟩ := eFn_ c6); (have H' := mk H); clear H; (have p667 : 0 ≤ (x8_1 : Int) := of_decide_eq_true kq19); (have q667 : x8_1 < (l0.length : Int) := of_decide_eq_true kq19); (obtain ⟨ad667, e667, hx667_0⟩ := Kd.at_string HR0.out x8_1 p667 q667); cases e667; replace p667 := eq_true p667; replace q667 := eq_true q667; go_wp2; (go_roundg k1)
              case measure => have := HK1.out; omega
              case rel => exact ⟨(wrap64 (x8_1 + 1)), kq10, H', ⟨kq24⟩, kq12⟩
          · (exact absurd H (by simp))
        · (exact absurd H (by simp))
      · (have c3b0 : decide (x8_1 < (l0.length : Int)) = false := decide_eq_false c3); clear c3; (obtain rfl := Option.some.inj H); go_wp2; go_ret; (exact ⟨kq10, kq12⟩)
def glyph_Index.f (k : Nat) (l0 : List ByteArray) (a1 : ByteArray) : Option (Int) := (slices_Index_string_string.f k l0 a1).bind fun t668 => (some t668)
theorem glyph_Index.mono : ∀ a0 a1 k, LeO (glyph_Index.f k a0 a1) (glyph_Index.f (k + 1) a0 a1) := by
  intro a0 a1 k
  unfold glyph_Index.f
  repeat' first
      | (with_reducible exact slices_Index_string_string.mono _ _ _)
      | (with_reducible exact LeO.refl _)
      | (with_reducible exact LeO.none _)
      | (with_reducible refine LeO.ite ?_ ?_)
      | (with_reducible refine LeO.bind ?_ (fun _ => ?_))
      | exact slices_Index_string_string.mono _ _ _
      | exact LeO.none _
      | refine LeO.ite ?_ ?_
      | refine LeO.bind ?_ (fun _ => ?_)
set_option maxHeartbeats 8000000 in
set_option maxRecDepth 100000 in
theorem glyph_Index.calls (k : Nat) (A0 : Option Addr) (c0 : Nat) (l0 : List ByteArray) (a1 : ByteArray) (r : Int) (w : World) (hr0 : Kd.C Kd.string w A0 l0.length l0) (hc0 : l0.length ≤ c0) (h : glyph_Index.f k l0 a1 = some r) :
    Calls Try.prog 27 #[.slice A0 l0.length c0, .string a1] w fun e w' => e = .returned (.int .i64 r) ∧ Drawn0 w w' := by
  have HR0 := mk hr0
  have HC0 := mk hc0
  clear hr0 hc0
  have H : ((slices_Index_string_string.f k l0 a1).bind fun t668 => (some t668)) = some r := h
  clear h
  replace H := Option.bind_eq_some_iff.mp H
  obtain ⟨t668, A30, H⟩ := H
  replace H : (some t668) = some r := H
  have A3 := mk A30
  clear A30
  obtain rfl := Option.some.inj H
  go_enter Try.func27, Try.ntmps27
  go_wp2_with (first | ((with_reducible refine gate_callee (f := 69) rfl ?_); refine goesL_ (some 7) rfl rfl Try.func69 kq0 rfl #[.slice A0 l0.length c0, .string a1] rfl kq14 ?_; (with_reducible refine (slices_Index_string_string.calls k _ _ l0 a1 t668 _ ?side1 ?side2 A3.out).mono ?_); (case side1 => exact kq30 HR0); (case side2 => exact HC0.out); rintro e w' ⟨rfl, ⟨nd, rfl⟩⟩; refine ⟨_, rfl, ?_⟩))
  go_ret
  exact ⟨kq10, kq12⟩
end Go.Proofs.Ytjknpmibdkoklaa.U
set_option maxRecDepth 100000
namespace Go.Proofs.Ytjknpmibdkoklaa.U
open Go.RowKit Go.Proofs.YtjknpmibdkoklaaW.PrintWords Go.Proofs.YtjknpmibdkoklaaW.PrintLast Go.Proofs.YtjknpmibdkoklaaW.PrintMore
def idxFrom (s : ByteArray) : Int → List ByteArray → Int
  | _, [] => -1
  | i, x :: l => if x = s then i else idxFrom s (i + 1) l
theorem index_loop (l : List ByteArray) (s : ByteArray) (hl : l.length < 4611686018427387904) : ∀ (n i : Nat), i ≤ l.length → l.length - i = n → Ev (fun k => slices_Index_string_string.l0 k l s (l.length : Int) (i : Int)) (idxFrom s (i : Int) (l.drop i))
  | 0, i, hi, hn => by
    rw [List.drop_of_length_le kq1]
    exact Ev.step (f := fun _ => some (-1)) (fun k => by
      show slices_Index_string_string.l0 (k + 1) l s (l.length : Int) (i : Int) = _
      rw [slices_Index_string_string.l0, if_neg kq1]) (Ev.now _)
  | n + 1, i, hi, hn => by
    have hlt : i < l.length := by omega
    have ih := index_loop l s hl n (i + 1) kq1 kq1
    rw [List.drop_eq_getElem_cons hlt]
    unfold idxFrom
    have hw : wrap64 ((i : Int) + 1) = ((i + 1 : Nat) : Int) := by unfold wrap64; omega
    by_cases h : l[i] = s
    · rw [if_pos h]
      refine Ev.step (f := fun _ => some (i : Int)) (fun k => ?_) (Ev.now _)
      show slices_Index_string_string.l0 (k + 1) l s (l.length : Int) (i : Int) = _
      rw [slices_Index_string_string.l0, if_pos kq1, if_pos kq1, if_pos kq1, rd_nat hlt, if_pos (by rw [h])]
    · rw [if_neg h, show (i : Int) + 1 = ((i + 1 : Nat) : Int) by omega]
      refine Ev.step (f := fun k => slices_Index_string_string.l0 k l s (l.length : Int) ((i + 1 : Nat) : Int)) (fun k => ?_) ih
      show slices_Index_string_string.l0 (k + 1) l s (l.length : Int) (i : Int) = _
      rw [slices_Index_string_string.l0, if_pos kq1, if_pos kq1, if_pos kq1, rd_nat hlt, if_neg (fun e => h (bl_inj (by rw [← bl_eq, ← bl_eq, e]))), hw]
theorem index_ev (l : List ByteArray) (s : ByteArray) (hl : l.length < 4611686018427387904) : Ev (fun k => glyph_Index.f k l s) (idxFrom s 0 l) := by
  refine Ev.bind (a := idxFrom s 0 l) ?_ (Ev.now _)
  exact index_loop l s hl _ 0 (Nat.zero_le _) rfl
end Go.Proofs.Ytjknpmibdkoklaa.U
namespace Go.Proofs.Ytjknpmibdkoklaa.U
open Go.RowKit Go.Proofs.YtjknpmibdkoklaaW.PrintWords Go.Proofs.YtjknpmibdkoklaaW.PrintLast Go.Proofs.YtjknpmibdkoklaaW.PrintMore
open Aside0 (mk)
open List (setIfInBounds_toArray set_cons_zero set_cons_succ)
attribute [local go_sem] max2_int min2_int max_two min_two max_three min_three max_four min_four
set_option linter.unusedVariables false
set_option linter.unusedSimpArgs false
attribute [local go_sem] fld99_2 fld103_2 fld172_1
def truth_whole_minus.f (a0_0 : Bool) (l0_1 : List Int) : Option (Bool × List Int) := (truth_made.f (!a0_0) l0_1).bind fun bt866 => (some (bt866.1, bt866.2))
set_option maxHeartbeats 8000000 in
set_option maxRecDepth 100000 in
theorem truth_whole_minus.calls (a0_0 : Bool) (P0_1_ : Nat → Prop) (A0_1 : Option Addr) (c0_1 : Nat) (l0_1 : List Int) (r1 : Bool) (r2 : List Int) (w : World) (hs0_1 : Kd.V (Kd.int .u32) 185 w w.heap.size (fun k_ => P0_1_ k_) (.slice A0_1 l0_1.length c0_1) l0_1) (h : truth_whole_minus.f a0_0 l0_1 = some (r1, r2)) :
    Calls Try.prog 175 #[.agg #[.bool a0_0, .slice A0_1 l0_1.length c0_1]] w fun e w' => ∃ v1_ : Value, e = .returned (.agg #[.bool r1, v1_]) ∧ Kd.V (Kd.int .u32) 185 w' w.heap.size (fun k_ => (P0_1_ k_ ∨ w.heap.size ≤ k_)) v1_ r2 ∧ Below w.heap.size w w' := by
  have hu172 := Try.underlying172
  have HO0_1 := mk (show Kd.V (Kd.int .u32) 185 w w.heap.size (fun k_ => (P0_1_ k_ ∨ w.heap.size ≤ k_)) (.slice A0_1 l0_1.length c0_1) l0_1 from Kd.V_mono hs0_1 (fun k_ hk => .inl hk))
  have HB := mk (Below.refl w.heap.size w)
  have H : ((truth_made.f (!a0_0) l0_1).bind fun bt866 => (some (bt866.1, bt866.2))) = some (r1, r2) := h
  clear h
  replace H := Option.bind_eq_some_iff.mp H
  obtain ⟨⟨t866, t867⟩, A20, H⟩ := H
  replace H : (some (t866, t867)) = some (r1, r2) := H
  have A2 := mk A20
  clear A20
  simp only [Option.some.injEq, Prod.mk.injEq] at H
  obtain ⟨rfl, rfl⟩ := H
  go_enter Try.func175, Try.ntmps175
  go_wp2_with (first | ((with_reducible refine gate_dst (N := 1) rfl ?_); refine box_event ?hg (N := 1) ?hd (cs := #[.bool a0_0, .slice A0_1 l0_1.length c0_1]) (t := 172) ?hr ?_; (case hd => rfl); (case hg => rfl); (case hr => exact kq6); intro gb864 hg w3 hbox hb; have BK864 := mk (hbox); have GW864 := (gs_ hg kq15); have GE864 := GW864; replace HO0_1 := mk (Kd.V_below (Kd.V_elderB (kq3 HO0_1) gb864 (Nat.le_of_eq hg.symm)) hb); replace HB := mk (below_step kq15 hb); clear hb hbox hg) | ((with_reducible refine gate_dst (N := 2) rfl ?_); refine box_event ?hg (N := 2) ?hd (cs := #[.bool false, .slice none 0 0]) (t := 172) ?hr ?_; (case hd => rfl); (case hg => rfl); (case hr => exact kq6); intro gb865 hg w4 hbox hb; have BK865 := mk (hbox); have GW865 := (gs_ hg (kq16 GE864)); have GE865 := GW865; have NB864_865 := (nl_ hg BK864); have NB865_864 := (ng_ hg BK864); replace HO0_1 := mk (Kd.V_below (Kd.V_elderB (kq3 HO0_1) gb865 (Nat.le_of_eq hg.symm)) hb); replace BK864 := (bb_ BK864 hb); replace HB := mk (below_step (kq16 GE864) hb); clear hb hbox hg; have hnb5 := NB864_865.out; have hnc5 := NB865_864.out; obtain ⟨_, _, _, _⟩ := cz2_ BK864.out) | ((with_reducible refine gate_callee (f := 189) rfl ?_); refine goesL_ (some 8) rfl rfl Try.func189 kq0 rfl #[.bool (!a0_0), .slice A0_1 l0_1.length c0_1] rfl kq14 ?_; (with_reducible refine (truth_made.calls (!a0_0) (fun k_ => (((P0_1_ k_ ∨ w.heap.size ≤ k_) ∧ k_ ≠ gb864) ∧ k_ ≠ gb865)) _ _ l0_1 t866 t867 _ ?side1 A2.out).mono ?_); (case side1 => exact HO0_1.out); rintro e w7 ⟨v868, rfl, ho0, hb⟩; refine ⟨_, rfl, ?_⟩; have HO869 := mk (Kd.V_lower (Kd.V_mono (ok' := fun k_ => (P0_1_ k_ ∨ w.heap.size ≤ k_) ∧ k_ ≠ gb864 ∧ k_ ≠ gb865) ho0 (fun k_ hk_ => ⟨Or.elim hk_ (fun hs_ => hs_.1.1) (fun hn_ => (.inr (Nat.le_trans (below_size (kq29 GE864 GE865)) hn_))), Or.elim hk_ (fun hs_ => hs_.1.2) (fun hn_ => (Kd.freshB (g := gb864) (o := .cells #[.bool a0_0, .slice A0_1 l0_1.length c0_1] 172 (0, 0)) (kq7 BK864) k_ hn_)), Or.elim hk_ (fun hs_ => hs_.2) (fun hn_ => (Kd.freshB (g := gb865) (o := .cells #[.bool false, .slice none 0 0] 172 (0, 0)) (kq7 BK865) k_ hn_))⟩)) (below_size (kq29 GE864 GE865))); replace HO0_1 := mk (Kd.V_below (kq3 HO0_1) hb); replace BK864 := (bb_ BK864 hb); replace BK865 := (bb_ BK865 hb); replace HB := mk (below_step (kq29 GE864 GE865) hb); obtain ⟨_, _, _, _⟩ := cz2_ BK865.out; obtain ⟨Ao9, co9, eo9⟩ := Kd.V_slice HO869.out; subst eo9))
  refine bodyPost_ret (results_cell_row rfl _ _ gb865 172 #[.bool t866, .slice Ao9 t867.length co9] (0, 0) _ rfl (by (with_reducible repeat (first | refine blk_drewN ?_ _ | refine blk_drew ?_ | refine blk_alloc ?_ _)); refine blk_put (cs := #[.bool t866, .slice none 0 0]) ?_ 1 _ rfl; (with_reducible repeat (first | refine blk_drewN ?_ _ | refine blk_drew ?_ | refine blk_alloc ?_ _)); refine blk_put (cs := #[.bool false, .slice none 0 0]) ?_ 0 _ rfl; (with_reducible repeat (first | refine blk_drewN ?_ _ | refine blk_drew ?_ | refine blk_alloc ?_ _)); exact BK865.out) Try.underlying172 rfl kq0) rfl ?_
  exact ⟨_, kq21, by (with_reducible repeat (first | apply Kd.V_alloc | apply Kd.V_drewN | apply Kd.V_drew)); exact Kd.V_mono (Kd.V_far (p := ⟨gb865, 1, none⟩) (Kd.V_far (p := ⟨gb865, 0, none⟩) (Kd.V_mono HO869.out (fun k_ hk => (⟨hk, hk.2.2⟩ : _ ∧ k_ ≠ gb865))) (fun _ hk => hk.2) (.bool t866)) (fun _ hk => hk.2) (.slice Ao9 t867.length co9)) (fun _ hk => hk.1.1), (kq29 GE864 GE865)⟩
def truth_size.l0 : Nat → List Int → List Int → Int → Option (Int)
  | 0, _, _, _ => none
  | k + 1, x0, x1, x5 => if x5 ≥ 0 then (if 0 ≤ x5 then (if x5 < (x0.length : Int) then (if x5 < (x1.length : Int) then (if (rd x0 x5) = (rd x1 x5) then (truth_size.l0 k x0 x1 (wrap64 (x5 - 1))) else (some (wrap64 ((wrap64 (rd x0 x5)) - (wrap64 (rd x1 x5)))))) else (none)) else (none)) else (none)) else (some 0)
def truth_size.f (k : Nat) (l0 : List Int) (l1 : List Int) : Option (Int) := if (l0.length : Int) = (l1.length : Int) then (truth_size.l0 k l0 l1 (wrap64 ((l0.length : Int) - 1))) else (some (wrap64 ((l0.length : Int) - (l1.length : Int))))
theorem truth_size.mono_l : ∀ k, (∀ y0 y1 y2, LeO (truth_size.l0 k y0 y1 y2) (truth_size.l0 (k + 1) y0 y1 y2))
  | 0 => fun _ _ _ r h => by simp [truth_size.l0] at h
  | k + 1 => by
    have ih0 := truth_size.mono_l k
    · intro y0 y1 y2; (unfold truth_size.l0)
      repeat' first
      | (with_reducible exact ih0 _ _ _)
      | (with_reducible exact LeO.refl _)
      | (with_reducible exact LeO.none _)
      | (with_reducible refine LeO.ite ?_ ?_)
      | (with_reducible refine LeO.bind ?_ (fun _ => ?_))
      | exact ih0 _ _ _
      | exact LeO.none _
      | refine LeO.ite ?_ ?_
      | refine LeO.bind ?_ (fun _ => ?_)
theorem truth_size.mono : ∀ a0 a1 k, LeO (truth_size.f k a0 a1) (truth_size.f (k + 1) a0 a1) := by
  intro a0 a1 k
  have ih0 := truth_size.mono_l k
  unfold truth_size.f
  repeat' first
      | (with_reducible exact ih0 _ _ _)
      | (with_reducible exact LeO.refl _)
      | (with_reducible exact LeO.none _)
      | (with_reducible refine LeO.ite ?_ ?_)
      | (with_reducible refine LeO.bind ?_ (fun _ => ?_))
      | exact ih0 _ _ _
      | exact LeO.none _
      | refine LeO.ite ?_ ?_
      | refine LeO.bind ?_ (fun _ => ?_)
set_option maxHeartbeats 8000000 in
set_option maxRecDepth 100000 in
theorem truth_size.calls (k : Nat) (A0 : Option Addr) (c0 : Nat) (l0 : List Int) (A1 : Option Addr) (c1 : Nat) (l1 : List Int) (r : Int) (w : World) (hr0 : Kd.C (Kd.int .u32) w A0 l0.length l0) (hc0 : l0.length ≤ c0) (hr1 : Kd.C (Kd.int .u32) w A1 l1.length l1) (hc1 : l1.length ≤ c1) (h : truth_size.f k l0 l1 = some r) :
    Calls Try.prog 193 #[.slice A0 l0.length c0, .slice A1 l1.length c1] w fun e w' => e = .returned (.int .i64 r) ∧ Drawn0 w w' := by
  have HR0 := mk hr0
  have HC0 := mk hc0
  clear hr0 hc0
  have HR1 := mk hr1
  have HC1 := mk hc1
  clear hr1 hc1
  have H : (if (l0.length : Int) = (l1.length : Int) then (truth_size.l0 k l0 l1 (wrap64 ((l0.length : Int) - 1))) else (some (wrap64 ((l0.length : Int) - (l1.length : Int))))) = some r := h
  clear h
  by_cases c3 : (l0.length : Int) = (l1.length : Int)
  · rw [if_pos c3] at H
    have c3b0 := eT_ c3
    have c3b1 := nF_ c3
    have c3b2 : (l0.length == l1.length) = true := by first | simpa using c3 | (simp at c3 ⊢; omega)
    clear c3
    have H' := mk H
    clear H
    go_enter Try.func193, Try.ntmps193
    go_wp2
    repeat (go_quiet (fail); try go_wp2)
    go_loopg [5] k (fun kq v5 w' => ∃ (x5_1 : Int), v5 = .int .i64 x5_1 ∧ Aside0 (truth_size.l0 kq l0 l1 x5_1 = some r) ∧ Aside0 (kq ≤ k) ∧ Drawn0 w w')
    case atStart => exact ⟨(wrap64 ((l0.length : Int) - 1)), kq10, H', ⟨Nat.le_refl _⟩, kq12⟩
    case round =>
      clear H'; (obtain ⟨x5_1, rfl, HA, HK1, ⟨m1, rfl⟩⟩ := hrel)
      cases gk with
      | zero => exact absurd HA.out (by simp [truth_size.l0])
      | succ k1 =>
        (have H := HA.out); clear HA; (simp only [truth_size.l0] at H); replace H := ic_ H; obtain ⟨c4, H⟩ | ⟨c4, H⟩ := H
        · (have c4b0 : decide (0 ≤ x5_1) = true := decide_eq_true c4); clear c4; replace H := ic_ H; obtain ⟨c5, H⟩ | ⟨c5, H⟩ := H
          · (have c5b0 : decide (0 ≤ x5_1) = true := decide_eq_true c5); clear c5; replace H := ic_ H; obtain ⟨c6, H⟩ | ⟨c6, H⟩ := H
            · (have c6b0 : decide (x5_1 < (l0.length : Int)) = true := decide_eq_true c6); clear c6; replace H := ic_ H; obtain ⟨c7, H⟩ | ⟨c7, H⟩ := H
              · (have c7b0 : decide (x5_1 < (l1.length : Int)) = true := decide_eq_true c7); clear c7; replace H := ic_ H; obtain ⟨c8, H⟩ | ⟨c8, H⟩ := H
                · (obtain ⟨c8b0, c8b1⟩ := eTn_ c8); clear c8; (have H' := mk H); clear H; (have p870 : 0 ≤ (x5_1 : Int) := of_decide_eq_true kq19); (have q870 : x5_1 < (l0.length : Int) := of_decide_eq_true kq19); (obtain ⟨ad870, e870, hx870_0⟩ := Kd.at_int HR0.out x5_1 p870 q870); cases e870; replace p870 := eq_true p870; replace q870 := eq_true q870; (have p871 : 0 ≤ (x5_1 : Int) := of_decide_eq_true kq19); (have q871 : x5_1 < (l1.length : Int) := of_decide_eq_true kq19); (obtain ⟨ad871, e871, hx871_0⟩ := Kd.at_int HR1.out x5_1 p871 q871); cases e871; replace p871 := eq_true p871; replace q871 := eq_true q871; go_wp2; (repeat (go_quiet (fail); try go_wp2)); (go_roundg k1)
                  case measure => have := HK1.out; omega
                  case rel => exact ⟨(wrap64 (x5_1 - 1)), kq10, H', ⟨kq24⟩, kq12⟩
                · (obtain ⟨c8b0, c8b1⟩ := eFn_ c8); (obtain rfl := Option.some.inj H); (have p870 : 0 ≤ (x5_1 : Int) := of_decide_eq_true kq19); (have q870 : x5_1 < (l0.length : Int) := of_decide_eq_true kq19); (obtain ⟨ad870, e870, hx870_0⟩ := Kd.at_int HR0.out x5_1 p870 q870); cases e870; replace p870 := eq_true p870; replace q870 := eq_true q870; (have p871 : 0 ≤ (x5_1 : Int) := of_decide_eq_true kq19); (have q871 : x5_1 < (l1.length : Int) := of_decide_eq_true kq19); (obtain ⟨ad871, e871, hx871_0⟩ := Kd.at_int HR1.out x5_1 p871 q871); cases e871; replace p871 := eq_true p871; replace q871 := eq_true q871; (have p872 : 0 ≤ (x5_1 : Int) := of_decide_eq_true kq19); (have q872 : x5_1 < (l0.length : Int) := of_decide_eq_true kq19); (obtain ⟨ad872, e872, hx872_0⟩ := Kd.at_int HR0.out x5_1 p872 q872); (obtain rfl : ad870 = ad872 := (by injection e872)); replace p872 := eq_true p872; replace q872 := eq_true q872; (have p873 : 0 ≤ (x5_1 : Int) := of_decide_eq_true kq19); (have q873 : x5_1 < (l1.length : Int) := of_decide_eq_true kq19); (obtain ⟨ad873, e873, hx873_0⟩ := Kd.at_int HR1.out x5_1 p873 q873); (obtain rfl : ad871 = ad873 := (by injection e873)); replace p873 := eq_true p873; replace q873 := eq_true q873; go_wp2; (repeat (go_quiet (fail); try go_wp2)); go_ret; (exact ⟨kq10, kq12⟩)
              · (exact absurd H (by simp))
            · (exact absurd H (by simp))
          · (exact absurd H (by simp))
        · (have c4b0 : decide (0 ≤ x5_1) = false := decide_eq_false c4); clear c4; (obtain rfl := Option.some.inj H); go_wp2; (repeat (go_quiet (fail); try go_wp2)); go_ret; (exact ⟨kq10, kq12⟩)
  · rw [if_neg c3] at H
    have c3b0 := eF_ c3
    have c3b1 := nT_ c3
    have c3b2 : (l0.length == l1.length) = false := by first | simpa using c3 | (simp at c3 ⊢; omega)
    obtain rfl := Option.some.inj H
    go_enter Try.func193, Try.ntmps193
    go_wp2
    repeat (go_quiet (fail); try go_wp2)
    go_ret
    exact ⟨kq10, kq12⟩
end Go.Proofs.Ytjknpmibdkoklaa.U
namespace Go.Proofs.Ytjknpmibdkoklaa.U
open Go.RowKit Go.Proofs.YtjknpmibdkoklaaW.PrintWords Go.Proofs.YtjknpmibdkoklaaW.PrintLast Go.Proofs.YtjknpmibdkoklaaW.PrintMore
open Aside0 (mk)
open List (setIfInBounds_toArray set_cons_zero set_cons_succ)
attribute [local go_sem] max2_int min2_int max_two min_two max_three min_three max_four min_four
set_option linter.unusedVariables false
set_option linter.unusedSimpArgs false
attribute [local go_sem] fld99_2 fld103_2 fld172_1
def truth_of.f (a0 : Int) : Option (Bool × List Int) := if a0 < 0 then ((truth_made.f true (([(IntKind.u64.wrap (-(IntKind.u64.wrap (a0)))) % 4294967296, ((IntKind.u64.wrap (-(IntKind.u64.wrap (a0)))) / 4294967296) % 4294967296] : List Int))).bind fun bt955 => (some (bt955.1, bt955.2))) else ((truth_made.f false (([(IntKind.u64.wrap (a0)) % 4294967296, ((IntKind.u64.wrap (a0)) / 4294967296) % 4294967296] : List Int))).bind fun bt962 => (some (bt962.1, bt962.2)))
set_option maxHeartbeats 8000000 in
set_option maxRecDepth 100000 in
theorem truth_of.calls (a0 : Int) (r1 : Bool) (r2 : List Int) (w : World) (h : truth_of.f a0 = some (r1, r2)) :
    Calls Try.prog 174 #[.int .i64 a0] w fun e w' => ∃ v1_ : Value, e = .returned (.agg #[.bool r1, v1_]) ∧ Kd.V (Kd.int .u32) 185 w' w.heap.size (fun k_ => (w.heap.size ≤ k_)) v1_ r2 ∧ Below w.heap.size w w' := by
  have hu172 := Try.underlying172
  have HB := mk (Below.refl w.heap.size w)
  have H : (if a0 < 0 then ((truth_made.f true (([(IntKind.u64.wrap (-(IntKind.u64.wrap (a0)))) % 4294967296, ((IntKind.u64.wrap (-(IntKind.u64.wrap (a0)))) / 4294967296) % 4294967296] : List Int))).bind fun bt955 => (some (bt955.1, bt955.2))) else ((truth_made.f false (([(IntKind.u64.wrap (a0)) % 4294967296, ((IntKind.u64.wrap (a0)) / 4294967296) % 4294967296] : List Int))).bind fun bt962 => (some (bt962.1, bt962.2)))) = some (r1, r2) := h
  clear h
  by_cases c2 : a0 < 0
  · rw [if_pos c2] at H
    have c2b0 : decide (a0 < 0) = true := decide_eq_true c2
    clear c2
    obtain ⟨y952, hy952⟩ : ∃ y_ : List Int, y_ = (([(IntKind.u64.wrap (-(IntKind.u64.wrap (a0)))) % 4294967296, ((IntKind.u64.wrap (-(IntKind.u64.wrap (a0)))) / 4294967296) % 4294967296] : List Int)) := ⟨_, rfl⟩
    replace H : ((truth_made.f true y952).bind fun bt955 => (some (bt955.1, bt955.2))) = some (r1, r2) := by first | (rw [hy952]; with_reducible exact H) | (have H2_ := (Option.bind_some _ _).symm.trans H; rw [hy952]; with_reducible exact H2_) | (have H2_ := (Option.bind_some _ _).symm.trans H; with_reducible exact H2_) | with_reducible exact H | (rw [hy952]; exact H) | exact H
    have Ny952 := mk hy952
    clear hy952
    replace H := Option.bind_eq_some_iff.mp H
    obtain ⟨⟨t955, t956⟩, A30, H⟩ := H
    replace H : (some (t955, t956)) = some (r1, r2) := H
    have A3 := mk A30
    clear A30
    simp only [Option.some.injEq, Prod.mk.injEq] at H
    obtain ⟨rfl, rfl⟩ := H
    go_enter Try.func174, Try.ntmps174
    go_wp2_with (first | ((with_reducible refine gate_dst (N := 2) rfl ?_); refine box_event ?hg (N := 2) ?hd (cs := #[.bool false, .slice none 0 0]) (t := 172) ?hr ?_; (case hd => rfl); (case hg => rfl); (case hr => exact kq6); intro gb951 hg w4 hbox hb; have BK951 := mk (hbox); have GW951 := (gs_ hg kq15); have GE951 := GW951; replace HB := mk (below_step kq15 hb); clear hb hbox hg) | ((with_reducible refine gate_dst (N := 17) rfl ?_); refine Kd.R_lit (Kd.int .u32) _ 185 ?hg (N := 17) ?hd (xs := ([(IntKind.u64.wrap (-(IntKind.u64.wrap (a0)))) % 4294967296, ((IntKind.u64.wrap (-(IntKind.u64.wrap (a0)))) / 4294967296) % 4294967296] : List Int)) (inner := [.int .u32 ((IntKind.u64.wrap (-(IntKind.u64.wrap (a0)))) % 4294967296), .int .u32 (((IntKind.u64.wrap (-(IntKind.u64.wrap (a0)))) / 4294967296) % 4294967296)]) (ok := fun _ => True) (okp := fun _ => True) ?hr ?hp (fun _ hk => hk) trivial (Below.refl _ _) (Nat.le_refl _) (by simp) ?_; (case hd => rfl); (case hg => rfl); (case hr => exact kq6); (case hp => exact (Reps.one (show Kd.M (Kd.int .u32) _ _ _ ((IntKind.u64.wrap (-(IntKind.u64.wrap (a0)))) % 4294967296) [.int .u32 ((IntKind.u64.wrap (-(IntKind.u64.wrap (a0)))) % 4294967296)] from rfl) (Reps.one (show Kd.M (Kd.int .u32) _ _ _ (((IntKind.u64.wrap (-(IntKind.u64.wrap (a0)))) / 4294967296) % 4294967296) [.int .u32 (((IntKind.u64.wrap (-(IntKind.u64.wrap (a0)))) / 4294967296) % 4294967296)] from rfl) (Reps.none _ _)))); intro v953 w5 ho6 hb hg_ hnew_; clear hg_ hnew_; (first | rw [← Ny952.out] at ho6 | (simp only [Int.reduceToNat] at ho6; rw [← Ny952.out] at ho6)); have HO954 := mk (Kd.R_lower (Kd.R_newM (M := fun k_ => (w.heap.size ≤ k_)) ho6 (below_size (kq16 GE951)) (fun k_ h_ => h_)) (below_size (kq16 GE951))); replace BK951 := (bb_ BK951 hb); replace HB := mk (below_step (kq16 GE951) hb); clear hb ho6; obtain ⟨Ao7, co7, eo7⟩ := Kd.R_slice HO954.out; subst eo7) | ((with_reducible refine gate_callee (f := 189) rfl ?_); refine goesL_ (some 18) rfl rfl Try.func189 kq0 rfl #[.bool true, .slice Ao7 y952.length co7] rfl kq14 ?_; (with_reducible refine (truth_made.calls true (fun k_ => some k_ = (.slice Ao7 y952.length co7 : Value).ownBlock) _ _ y952 t955 t956 _ ?side1 A3.out).mono ?_); (case side1 => exact Kd.R_V (Kd.R_tight rfl (Kd.R_types (HO954.out) BK951.out kq2))); rintro e w8 ⟨v957, rfl, ho0, hb⟩; refine ⟨_, rfl, ?_⟩; have HO958 := mk (Kd.V_lower (Kd.V_mono (ok' := fun k_ => (w.heap.size ≤ k_) ∧ k_ ≠ gb951) ho0 (fun k_ hk_ => ⟨Or.elim hk_ (fun hs_ => ((Kd.R_types (HO954.out) BK951.out kq2).1 k_ hs_.symm).1.1) (fun hn_ => (Nat.le_trans (below_size (kq16 GE951)) hn_)), Or.elim hk_ (fun hs_ => ((Kd.R_types (HO954.out) BK951.out kq2).1 k_ hs_.symm).2) (fun hn_ => (Kd.freshB (g := gb951) (o := .cells #[.bool false, .slice none 0 0] 172 (0, 0)) (kq7 BK951) k_ hn_))⟩)) (below_size (kq16 GE951))); replace HO954 := mk (Kd.R_below (kq23 HO954) hb); replace BK951 := (bb_ BK951 hb); replace HB := mk (below_step (kq16 GE951) hb); obtain ⟨_, _, _, _⟩ := cz2_ BK951.out; obtain ⟨Ao10, co10, eo10⟩ := Kd.V_slice HO958.out; subst eo10))
    refine bodyPost_ret (results_cell_row rfl _ _ gb951 172 #[.bool t955, .slice Ao10 t956.length co10] (0, 0) _ rfl (by (with_reducible repeat (first | refine blk_drewN ?_ _ | refine blk_drew ?_ | refine blk_alloc ?_ _)); refine blk_put (cs := #[.bool t955, .slice none 0 0]) ?_ 1 _ rfl; (with_reducible repeat (first | refine blk_drewN ?_ _ | refine blk_drew ?_ | refine blk_alloc ?_ _)); refine blk_put (cs := #[.bool false, .slice none 0 0]) ?_ 0 _ rfl; (with_reducible repeat (first | refine blk_drewN ?_ _ | refine blk_drew ?_ | refine blk_alloc ?_ _)); exact BK951.out) Try.underlying172 rfl kq0) rfl ?_
    exact ⟨_, kq21, by (with_reducible repeat (first | apply Kd.V_alloc | apply Kd.V_drewN | apply Kd.V_drew)); exact Kd.V_mono (Kd.V_far (p := ⟨gb951, 1, none⟩) (Kd.V_far (p := ⟨gb951, 0, none⟩) (Kd.V_mono HO958.out (fun k_ hk => (⟨hk, hk.2⟩ : _ ∧ k_ ≠ gb951))) (fun _ hk => hk.2) (.bool t955)) (fun _ hk => hk.2) (.slice Ao10 t956.length co10)) (fun _ hk => hk.1.1), (kq16 GE951)⟩
  · rw [if_neg c2] at H
    have c2b0 : decide (a0 < 0) = false := decide_eq_false c2
    clear c2
    obtain ⟨y959, hy959⟩ : ∃ y_ : List Int, y_ = (([(IntKind.u64.wrap (a0)) % 4294967296, ((IntKind.u64.wrap (a0)) / 4294967296) % 4294967296] : List Int)) := ⟨_, rfl⟩
    replace H : ((truth_made.f false y959).bind fun bt962 => (some (bt962.1, bt962.2))) = some (r1, r2) := by first | (rw [hy959]; with_reducible exact H) | (have H2_ := (Option.bind_some _ _).symm.trans H; rw [hy959]; with_reducible exact H2_) | (have H2_ := (Option.bind_some _ _).symm.trans H; with_reducible exact H2_) | with_reducible exact H | (rw [hy959]; exact H) | exact H
    have Ny959 := mk hy959
    clear hy959
    replace H := Option.bind_eq_some_iff.mp H
    obtain ⟨⟨t962, t963⟩, A110, H⟩ := H
    replace H : (some (t962, t963)) = some (r1, r2) := H
    have A11 := mk A110
    clear A110
    simp only [Option.some.injEq, Prod.mk.injEq] at H
    obtain ⟨rfl, rfl⟩ := H
    go_enter Try.func174, Try.ntmps174
    go_wp2_with (first | ((with_reducible refine gate_dst (N := 2) rfl ?_); refine box_event ?hg (N := 2) ?hd (cs := #[.bool false, .slice none 0 0]) (t := 172) ?hr ?_; (case hd => rfl); (case hg => rfl); (case hr => exact kq6); intro gb951 hg w12 hbox hb; have BK951 := mk (hbox); have GW951 := (gs_ hg kq15); have GE951 := GW951; replace HB := mk (below_step kq15 hb); clear hb hbox hg) | ((with_reducible refine gate_dst (N := 17) rfl ?_); refine Kd.R_lit (Kd.int .u32) _ 185 ?hg (N := 17) ?hd (xs := ([(IntKind.u64.wrap (a0)) % 4294967296, ((IntKind.u64.wrap (a0)) / 4294967296) % 4294967296] : List Int)) (inner := [.int .u32 ((IntKind.u64.wrap (a0)) % 4294967296), .int .u32 (((IntKind.u64.wrap (a0)) / 4294967296) % 4294967296)]) (ok := fun _ => True) (okp := fun _ => True) ?hr ?hp (fun _ hk => hk) trivial (Below.refl _ _) (Nat.le_refl _) (by simp) ?_; (case hd => rfl); (case hg => rfl); (case hr => exact kq6); (case hp => exact (Reps.one (show Kd.M (Kd.int .u32) _ _ _ ((IntKind.u64.wrap (a0)) % 4294967296) [.int .u32 ((IntKind.u64.wrap (a0)) % 4294967296)] from rfl) (Reps.one (show Kd.M (Kd.int .u32) _ _ _ (((IntKind.u64.wrap (a0)) / 4294967296) % 4294967296) [.int .u32 (((IntKind.u64.wrap (a0)) / 4294967296) % 4294967296)] from rfl) (Reps.none _ _)))); intro v960 w13 ho14 hb hg_ hnew_; clear hg_ hnew_; (first | rw [← Ny959.out] at ho14 | (simp only [Int.reduceToNat] at ho14; rw [← Ny959.out] at ho14)); have HO961 := mk (Kd.R_lower (Kd.R_newM (M := fun k_ => (w.heap.size ≤ k_)) ho14 (below_size (kq16 GE951)) (fun k_ h_ => h_)) (below_size (kq16 GE951))); replace BK951 := (bb_ BK951 hb); replace HB := mk (below_step (kq16 GE951) hb); clear hb ho14; obtain ⟨Ao15, co15, eo15⟩ := Kd.R_slice HO961.out; subst eo15) | ((with_reducible refine gate_callee (f := 189) rfl ?_); refine goesL_ (some 18) rfl rfl Try.func189 kq0 rfl #[.bool false, .slice Ao15 y959.length co15] rfl kq14 ?_; (with_reducible refine (truth_made.calls false (fun k_ => some k_ = (.slice Ao15 y959.length co15 : Value).ownBlock) _ _ y959 t962 t963 _ ?side1 A11.out).mono ?_); (case side1 => exact Kd.R_V (Kd.R_tight rfl (Kd.R_types (HO961.out) BK951.out kq2))); rintro e w16 ⟨v964, rfl, ho0, hb⟩; refine ⟨_, rfl, ?_⟩; have HO965 := mk (Kd.V_lower (Kd.V_mono (ok' := fun k_ => (w.heap.size ≤ k_) ∧ k_ ≠ gb951) ho0 (fun k_ hk_ => ⟨Or.elim hk_ (fun hs_ => ((Kd.R_types (HO961.out) BK951.out kq2).1 k_ hs_.symm).1.1) (fun hn_ => (Nat.le_trans (below_size (kq16 GE951)) hn_)), Or.elim hk_ (fun hs_ => ((Kd.R_types (HO961.out) BK951.out kq2).1 k_ hs_.symm).2) (fun hn_ => (Kd.freshB (g := gb951) (o := .cells #[.bool false, .slice none 0 0] 172 (0, 0)) (kq7 BK951) k_ hn_))⟩)) (below_size (kq16 GE951))); replace HO961 := mk (Kd.R_below (kq23 HO961) hb); replace BK951 := (bb_ BK951 hb); replace HB := mk (below_step (kq16 GE951) hb); obtain ⟨_, _, _, _⟩ := cz2_ BK951.out; obtain ⟨Ao18, co18, eo18⟩ := Kd.V_slice HO965.out; subst eo18))
    refine bodyPost_ret (results_cell_row rfl _ _ gb951 172 #[.bool t962, .slice Ao18 t963.length co18] (0, 0) _ rfl (by (with_reducible repeat (first | refine blk_drewN ?_ _ | refine blk_drew ?_ | refine blk_alloc ?_ _)); refine blk_put (cs := #[.bool t962, .slice none 0 0]) ?_ 1 _ rfl; (with_reducible repeat (first | refine blk_drewN ?_ _ | refine blk_drew ?_ | refine blk_alloc ?_ _)); refine blk_put (cs := #[.bool false, .slice none 0 0]) ?_ 0 _ rfl; (with_reducible repeat (first | refine blk_drewN ?_ _ | refine blk_drew ?_ | refine blk_alloc ?_ _)); exact BK951.out) Try.underlying172 rfl kq0) rfl ?_
    exact ⟨_, kq21, by (with_reducible repeat (first | apply Kd.V_alloc | apply Kd.V_drewN | apply Kd.V_drew)); exact Kd.V_mono (Kd.V_far (p := ⟨gb951, 1, none⟩) (Kd.V_far (p := ⟨gb951, 0, none⟩) (Kd.V_mono HO965.out (fun k_ hk => (⟨hk, hk.2⟩ : _ ∧ k_ ≠ gb951))) (fun _ hk => hk.2) (.bool t962)) (fun _ hk => hk.2) (.slice Ao18 t963.length co18)) (fun _ hk => hk.1.1), (kq16 GE951)⟩
def truth_connected.f (a0 : Int) (a1 : Bool) (a2 : Bool) : Option (Bool) := if a0 = 3 then (if a1 = true then (some a2) else (some false)) else (if a0 = 4 then (if a1 = true then (some true) else (some a2)) else (if a0 = 5 then (if a1 = true then (some a2) else (some true)) else (some (a1 == a2))))
set_option maxHeartbeats 8000000 in
set_option maxRecDepth 100000 in
theorem truth_connected.calls (a0 : Int) (a1 : Bool) (a2 : Bool) (r : Bool) (w : World) (h : truth_connected.f a0 a1 a2 = some r) :
    Calls Try.prog 144 #[.int .i64 a0, .bool a1, .bool a2] w fun e w' => e = .returned (.bool r) ∧ Drawn0 w w' := by
  have H : (if a0 = 3 then (if a1 = true then (some a2) else (some false)) else (if a0 = 4 then (if a1 = true then (some true) else (some a2)) else (if a0 = 5 then (if a1 = true then (some a2) else (some true)) else (some (a1 == a2))))) = some r := h
  clear h
  by_cases c4 : a0 = 3
  · rw [if_pos c4] at H
    have c4b0 := eT_ c4
    have c4b1 := nF_ c4
    clear c4
    by_cases c5 : a1 = true
    · subst c5; (have H1 : (some a2) = some r := by rw [if_pos rfl] at H; exact H); clear H; (have H := H1); clear H1; (obtain rfl := Option.some.inj H); (go_enter Try.func144, Try.ntmps144); go_wp2; go_ret; (exact ⟨kq10, kq12⟩)
    · (replace c5 := Bool.eq_false_iff.mpr c5); subst c5; (have H1 : (some false) = some r := by rw [if_neg (show ¬ (false = true) by decide)] at H; exact H); clear H; (have H := H1); clear H1; (obtain rfl := Option.some.inj H); (go_enter Try.func144, Try.ntmps144); go_wp2; go_ret; (exact ⟨kq10, kq12⟩)
  · rw [if_neg c4] at H
    have c4b0 := eF_ c4
    have c4b1 := nT_ c4
    replace H := ic_ H; obtain ⟨c6, H⟩ | ⟨c6, H⟩ := H
    · (obtain ⟨c6b0, c6b1⟩ := eTn_ c6); clear c6; (by_cases c7 : a1 = true)
      · subst c7; (have H1 : (some true) = some r := by rw [if_pos rfl] at H; exact H); clear H; (have H := H1); clear H1; (obtain rfl := Option.some.inj H); (go_enter Try.func144, Try.ntmps144); go_wp2; go_ret; (exact ⟨kq10, kq12⟩)
      · (replace c7 := Bool.eq_false_iff.mpr c7); subst c7; (have H1 : (some a2) = some r := by rw [if_neg (show ¬ (false = true) by decide)] at H; exact H); clear H; (have H := H1); clear H1; (obtain rfl := Option.some.inj H); (go_enter Try.func144, Try.ntmps144); go_wp2; go_ret; (exact ⟨kq10, kq12⟩)
    · (obtain ⟨c6b0, c6b1⟩ := eFn_ c6); replace H := ic_ H; obtain ⟨c8, H⟩ | ⟨c8, H⟩ := H
      · (obtain ⟨c8b0, c8b1⟩ := eTn_ c8); clear c8; (by_cases c9 : a1 = true)
        · subst c9; (have H1 : (some a2) = some r := by rw [if_pos rfl] at H; exact H); clear H; (have H := H1); clear H1; (obtain rfl := Option.some.inj H); (go_enter Try.func144, Try.ntmps144); go_wp2; go_ret; (exact ⟨kq10, kq12⟩)
        · (replace c9 := Bool.eq_false_iff.mpr c9); subst c9; (have H1 : (some true) = some r := by rw [if_neg (show ¬ (false = true) by decide)] at H; exact H); clear H; (have H := H1); clear H1; (obtain rfl := Option.some.inj H); (go_enter Try.func144, Try.ntmps144); go_wp2; go_ret; (exact ⟨kq10, kq12⟩)
      · (obtain ⟨c8b0, c8b1⟩ := eFn_ c8); (obtain rfl := Option.some.inj H); (go_enter Try.func144, Try.ntmps144); go_wp2; go_ret; (exact ⟨kq10, kq12⟩)
end Go.Proofs.Ytjknpmibdkoklaa.U
set_option maxRecDepth 100000
namespace Go.Proofs.Ytjknpmibdkoklaa.U
open Go.RowKit Go.Proofs.YtjknpmibdkoklaaW.PrintWords Go.Proofs.YtjknpmibdkoklaaW.PrintLast Go.Proofs.YtjknpmibdkoklaaW.PrintMore
theorem mtr_val (l : List Int) : ∀ n, n ≤ l.length → val32 (l.take (mtr l n)) = val32 (l.take n)
  | 0, _ => rfl
  | n + 1, h => by
    unfold mtr
    split
    · rename_i h0
      rw [mtr_val l n kq1, val_take32 l n kq1, h0]
      simp
    · rfl
theorem mtr_top (l : List Int) : ∀ n, mtr l n = 0 ∨ ∃ j, mtr l n = j + 1 ∧ j < n ∧ rd l (j : Int) ≠ 0
  | 0 => .inl rfl
  | n + 1 => by
    unfold mtr
    split
    · rcases mtr_top l n with h | ⟨j, h, hj, hr⟩
      · exact .inl h
      · exact .inr ⟨j, h, kq1, hr⟩
    · rename_i h0
      exact .inr ⟨n, rfl, kq1, h0⟩
theorem made_num {l : List Int} (h : D32 l) (a : Bool) : ∃ n d, truth_made.f a l = some (n, d) ∧ NumOf n d (if a then - val32 l else val32 l) := by
  refine ⟨_, _, rfl, ?_⟩
  have hv := mtr_val l l.length (Nat.le_refl _)
  rw [List.take_length] at hv
  have hle := mtr_le l l.length
  refine ⟨D32_take h _, fun d hd => ?_, fun hz => ?_, ?_⟩
  · rcases mtr_top l l.length with h0 | ⟨j, h0, hj, hr⟩
    · rw [h0] at hd; simp at hd
    · rw [h0, List.take_succ_eq_append_getElem hj, List.getLast?_append] at hd
      simp at hd
      rw [rd_of_lt32 hj] at hr
      rw [← hd]; exact hr
  · have : (l.take (mtr l l.length)).length = 0 := by rw [hz]; rfl
    rw [List.length_take] at this
    have : mtr l l.length = 0 := by omega
    simp [this]
  · rw [hv]
    cases a
    · rfl
    · by_cases h0 : 0 < mtr l l.length
      · simp [h0]
      · have h1 : mtr l l.length = 0 := by omega
        rw [h1] at hv
        have : val32 l = 0 := by rw [← hv]; rfl
        simp [this]
theorem of_num {a : Int} (h0 : -9223372036854775808 ≤ a) (h1 : a < 9223372036854775808) : ∃ neg ds, truth_of.f a = some (neg, ds) ∧ NumOf neg ds a := by
  have key : ∀ x : Int, 0 ≤ x → x < 18446744073709551616 → ∀ b, ∃ n d, truth_made.f b [x % 4294967296, (x / 4294967296) % 4294967296] = some (n, d) ∧ NumOf n d (if b then - x else x) := by
    intro x hx0 hx1 b
    obtain ⟨n, d, h, hn⟩ := made_num (l := [x % 4294967296, (x / 4294967296) % 4294967296]) (by
      intro d hd
      simp at hd
      rcases hd with rfl | rfl <;> omega) b
    refine ⟨n, d, h, ?_⟩
    have : val32 [x % 4294967296, (x / 4294967296) % 4294967296] = x := by simp only [val32]; omega
    rw [this] at hn
    exact hn
  unfold truth_of.f
  by_cases hn : a < 0
  · rw [if_pos hn]
    have e : IntKind.u64.wrap (-(IntKind.u64.wrap a)) = -a := by rw [uwrap32, uwrap32]; omega
    rw [e]
    obtain ⟨n, d, h, hnum⟩ := key (-a) kq1 kq1 true
    rw [h]
    exact ⟨n, d, rfl, by simpa using hnum⟩
  · rw [if_neg hn, uwrap_in32 kq1 kq1]
    obtain ⟨n, d, h, hnum⟩ := key a kq1 kq1 false
    rw [h]
    exact ⟨n, d, rfl, by simpa using hnum⟩
theorem minus_num {neg : Bool} {ds : List Int} {z : Int} (h : NumOf neg ds z) : ∃ n d, truth_whole_minus.f neg ds = some (n, d) ∧ NumOf n d (-z) := by
  obtain ⟨n, d, hf, hn⟩ := made_num (l := ds) h.dig (!neg)
  refine ⟨n, d, ?_, ?_⟩
  · unfold truth_whole_minus.f
    rw [hf]
    rfl
  · have e : (if (!neg) = true then - val32 ds else val32 ds) = -z := by rw [h.val]; cases neg <;> simp
    rw [e] at hn
    exact hn
theorem num_len {neg : Bool} {ds : List Int} {z : Int} {m : Nat} (h : NumOf neg ds z) (hz : z.natAbs < 4294967296 ^ m) : ds.length ≤ m := by
  have hd : ds = [] ∨ ∃ m d, ds = m ++ [d] ∧ d ≠ 0 := by
    rcases List.eq_nil_or_concat ds with e | ⟨l, d, e⟩
    · exact .inl e
    · rw [List.concat_eq_append] at e
      exact .inr ⟨l, d, e, h.top d (by rw [e]; simp)⟩
  have h1 := dig_of32 h.dig hd
  have h2 : (val32 ds).toNat = z.natAbs := by
    have h0 := val_nonneg32 h.dig
    rw [h.val]
    split <;> omega
  rw [← h1, h2]
  exact dig_len32 _ _ hz
end Go.Proofs.Ytjknpmibdkoklaa.U
namespace Go.Proofs.Ytjknpmibdkoklaa.U
open Go.RowKit Go.Proofs.YtjknpmibdkoklaaW.PrintWords Go.Proofs.YtjknpmibdkoklaaW.PrintLast Go.Proofs.YtjknpmibdkoklaaW.PrintMore
open Aside0 (mk)
open List (setIfInBounds_toArray set_cons_zero set_cons_succ)
attribute [local go_sem] max2_int min2_int max_two min_two max_three min_three max_four min_four
set_option linter.unusedVariables false
set_option linter.unusedSimpArgs false
attribute [local go_sem] fld99_2 fld103_2 fld172_1
def truth_added.l0 : Nat → List Int → List Int → Int → Int → Int → Option (List Int)
  | 0, _, _, _, _, _ => none
  | k + 1, x1, x5, x6, x12, x13 => if x13 < x12 then (if 0 ≤ x13 then (if x13 < (x5.length : Int) then (if x13 < (x1.length : Int) then (truth_added.l0 k x1 (x5.set (x13 : Int).toNat ((IntKind.u64.wrap ((IntKind.u64.wrap ((IntKind.u64.wrap (rd x5 x13)) + x6)) + (IntKind.u64.wrap (rd x1 x13)))) % 4294967296)) ((IntKind.u64.wrap ((IntKind.u64.wrap ((IntKind.u64.wrap (rd x5 x13)) + x6)) + (IntKind.u64.wrap (rd x1 x13)))) / 4294967296) x12 (wrap64 (x13 + 1))) else (truth_added.l0 k x1 (x5.set (x13 : Int).toNat ((IntKind.u64.wrap ((IntKind.u64.wrap (rd x5 x13)) + x6)) % 4294967296)) ((IntKind.u64.wrap ((IntKind.u64.wrap (rd x5 x13)) + x6)) / 4294967296) x12 (wrap64 (x13 + 1)))) else (none)) else (none)) else (if x5.length < 35184372088832 then (some (x5 ++ [(x6) % 4294967296])) else (none))
def truth_added.f (k : Nat) (l0 : List Int) (l1 : List Int) : Option (List Int) := (slices_Clone_uint32_uint32.f l0).bind fun t874 => (truth_added.l0 k l1 t874 0 (t874.length : Int) 0)
theorem truth_added.mono_l : ∀ k, (∀ y0 y1 y2 y3 y4, LeO (truth_added.l0 k y0 y1 y2 y3 y4) (truth_added.l0 (k + 1) y0 y1 y2 y3 y4))
  | 0 => fun _ _ _ _ _ r h => by simp [truth_added.l0] at h
  | k + 1 => by
    have ih0 := truth_added.mono_l k
    · intro y0 y1 y2 y3 y4; (unfold truth_added.l0)
      repeat' first
      | (with_reducible exact ih0 _ _ _ _ _)
      | (with_reducible exact LeO.refl _)
      | (with_reducible exact LeO.none _)
      | (with_reducible refine LeO.ite ?_ ?_)
      | (with_reducible refine LeO.bind ?_ (fun _ => ?_))
      | exact ih0 _ _ _ _ _
      | exact LeO.none _
      | refine LeO.ite ?_ ?_
      | refine LeO.bind ?_ (fun _ => ?_)
theorem truth_added.mono : ∀ a0 a1 k, LeO (truth_added.f k a0 a1) (truth_added.f (k + 1) a0 a1) := by
  intro a0 a1 k
  have ih0 := truth_added.mono_l k
  unfold truth_added.f
  repeat' first
      | (with_reducible exact ih0 _ _ _ _ _)
      | (with_reducible exact LeO.refl _)
      | (with_reducible exact LeO.none _)
      | (with_reducible refine LeO.ite ?_ ?_)
      | (with_reducible refine LeO.bind ?_ (fun _ => ?_))
      | exact ih0 _ _ _ _ _
      | exact LeO.none _
      | refine LeO.ite ?_ ?_
      | refine LeO.bind ?_ (fun _ => ?_)
set_option maxHeartbeats 8000000 in
set_option maxRecDepth 100000 in
theorem truth_added.calls (k : Nat) (A0 : Option Addr) (c0 : Nat) (l0 : List Int) (A1 : Option Addr) (c1 : Nat) (l1 : List Int) (r : List Int) (w : World) (hr0 : Kd.C (Kd.int .u32) w A0 l0.length l0) (hc0 : l0.length ≤ c0) (hr1 : Kd.C (Kd.int .u32) w A1 l1.length l1) (hc1 : l1.length ≤ c1) (h : truth_added.f k l0 l1 = some r) :
    Calls Try.prog 194 #[.slice A0 l0.length c0, .slice A1 l1.length c1] w fun e w' => ∃ v0_ : Value, e = .returned (v0_) ∧ Kd.R (Kd.int .u32) 185 w' w.heap.size (fun _ => True) v0_ r ∧ Below w.heap.size w w' := by
  have HR0 := mk hr0
  have HC0 := mk hc0
  clear hr0 hc0
  have HR1 := mk hr1
  have HC1 := mk hc1
  clear hr1 hc1
  have HB := mk (Below.refl w.heap.size w)
  have H : ((slices_Clone_uint32_uint32.f l0).bind fun t874 => (truth_added.l0 k l1 t874 0 (t874.length : Int) 0)) = some r := h
  clear h
  replace H := Option.bind_eq_some_iff.mp H
  obtain ⟨t874, A30, H⟩ := H
  replace H : (truth_added.l0 k l1 t874 0 (t874.length : Int) 0) = some r := H
  have A3 := mk A30
  clear A30
  have H' := mk H
  clear H
  go_enter Try.func194, Try.ntmps194
  go_wp2_with (first | ((with_reducible refine gate_callee (f := 191) rfl ?_); refine goesL_ (some 10) rfl rfl Try.func191 kq0 rfl #[.slice A0 l0.length c0] rfl kq14 ?_; (with_reducible refine (slices_Clone_uint32_uint32.calls _ _ l0 t874 _ ?side1 ?side2 A3.out).mono ?_); (case side1 => exact kq30 HR0); (case side2 => exact HC0.out); rintro e w4 ⟨v875, rfl, ho0, hb⟩; refine ⟨_, rfl, ?_⟩; have HO876 := mk (Kd.R_lower ho0 (below_size kq15)); replace HB := mk (below_step kq15 hb); obtain ⟨Ao5, co5, eo5⟩ := Kd.R_slice HO876.out; subst eo5))
  go_loopg [6, 13] k (fun kq v6 v13 w' => ∃ (x5_1 : List Int) (x6_1 : Int) (x13_1 : Int), v6 = .int .u64 x6_1 ∧ v13 = .int .i64 x13_1 ∧ Aside0 (truth_added.l0 kq l1 x5_1 x6_1 (t874.length : Int) x13_1 = some r) ∧ Aside0 (kq ≤ k) ∧ Aside0 (Kd.R (Kd.int .u32) 185 w' w.heap.size (fun _ => True) (.slice Ao5 t874.length co5) x5_1) ∧ Aside0 (Below w.heap.size w w'))
  case atStart => exact ⟨(t874), (0), (0), kq10, kq10, H', ⟨Nat.le_refl _⟩, ⟨(kq23 HO876)⟩, ⟨kq15⟩⟩
  case round =>
    clear H'
    obtain ⟨x5_1, x6_1, x13_1, rfl, rfl, HA, HK1, HO_5, HB⟩ := hrel
    have hl5_1 := (Kd.R_reads' HO_5.out).1
    rw [hl5_1] at HO_5
    (try simp only [hl5_1])
    cases gk with
    | zero => exact absurd HA.out (by simp [truth_added.l0])
    | succ k1 =>
      (have H := HA.out); clear HA; (simp only [truth_added.l0] at H); replace H := ic_ H; obtain ⟨c6, H⟩ | ⟨c6, H⟩ := H
      · (have c6b0 : decide (x13_1 < (t874.length : Int)) = true := decide_eq_true c6); ((try (have c6q := c6b0; rw [hl5_1] at c6q))); clear c6; replace H := ic_ H; obtain ⟨c7, H⟩ | ⟨c7, H⟩ := H
        · (have c7b0 : decide (0 ≤ x13_1) = true := decide_eq_true c7); clear c7; replace H := ic_ H; obtain ⟨c8, H⟩ | ⟨c8, H⟩ := H
          · (have c8b0 : decide (x13_1 < (x5_1.length : Int)) = true := decide_eq_true c8); ((try (have c8q := c8b0; rw [hl5_1] at c8q))); clear c8; replace H := ic_ H; obtain ⟨c9, H⟩ | ⟨c9, H⟩ := H
            · (have c9b0 : decide (x13_1 < (l1.length : Int)) = true := decide_eq_true c9); ((try (have c9q := c9b0; rw [hl5_1] at c9q))); clear c9; (obtain ⟨y879, hy879⟩ : ∃ y_ : List Int, y_ = (x5_1.set (x13_1 : Int).toNat ((IntKind.u64.wrap ((IntKind.u64.wrap ((IntKind.u64.wrap (rd x5_1 x13_1)) + x6_1)) + (IntKind.u64.wrap (rd l1 x13_1)))) % 4294967296)) := ⟨_, rfl⟩); (replace H : (truth_added.l0 k1 l1 y879 ((IntKind.u64.wrap ((IntKind.u64.wrap ((IntKind.u64.wrap (rd x5_1 x13_1)) + x6_1)) + (IntKind.u64.wrap (rd l1 x13_1)))) / 4294967296) (t874.length : Int) (wrap64 (x13_1 + 1))) = some r := by first | (rw [hy879]; with_reducible exact H) | (have H2_ := (Option.bind_some _ _).symm.trans H; rw [hy879]; with_reducible exact H2_) | (have H2_ := (Option.bind_some _ _).symm.trans H; with_reducible exact H2_) | with_reducible exact H | (rw [hy879]; exact H) | exact H); (have Ny879 := mk hy879); clear hy879; (have H' := mk H); clear H; (have p877 : 0 ≤ (x13_1 : Int) := of_decide_eq_true kq19); (have q877 : x13_1 < (x5_1.length : Int) := of_decide_eq_true kq19); (obtain ⟨ad877, e877, hx877_0⟩ := Kd.at_int (Kd.R_reads' HO_5.out).2.2 x13_1 p877 q877); cases e877; replace p877 := eq_true p877; replace q877 := eq_true q877; (have p878 : 0 ≤ (x13_1 : Int) := of_decide_eq_true kq19); (have q878 : x13_1 < (l1.length : Int) := of_decide_eq_true kq19); (obtain ⟨ad878, e878, hx878_0⟩ := Kd.at_int HR1.out x13_1 p878 q878); cases e878; (replace hx878_0 := hc_ HB hx878_0); replace p878 := eq_true p878; replace q878 := eq_true q878; (have p10 : 0 ≤ (x13_1 : Int) := of_decide_eq_true kq19); (have q10 : (x13_1 : Int) < ((x5_1.length : Int) : Int) := of_decide_eq_true kq19); (obtain ⟨go10, co10, eo10, gb10, gl10, cl10, HG10⟩ := Kd.R_form HO_5.out kq1); ((first | cases eo10 | (injection eo10 with ea_ en_ ec_; (first | subst ea_ | (injection ea_ with ea_; subst ea_)); subst ec_; clear en_))); (have GB10 := mk gb10); (have GG10 := mk HG10); clear gb10 gl10 HG10; ((first | simp only [add_plain] at hx877_0 | skip)); (obtain ⟨hx10_0, hf10_0⟩ := Kd.R_celln 0 HO_5.out (x13_1 : Int) p10 q10); replace p10 := eq_true p10; replace q10 := eq_true q10; (have HP11 := Kd.R_putg HO_5.out (x13_1 : Int) ((IntKind.u64.wrap ((IntKind.u64.wrap ((IntKind.u64.wrap (rd x5_1 x13_1)) + x6_1)) + (IntKind.u64.wrap (rd l1 x13_1)))) % 4294967296)); (go_wp2_with (first | ((with_reducible refine gate_store (t := 185) (p := 40) rfl ?_); refine store_event (t := 185) (p := 40) (v := ?vo_w12) (w1 := (wr.setCell ⟨go10, (x13_1 : Int).toNat, none⟩ (.int .u32 ((IntKind.u64.wrap ((IntKind.u64.wrap ((IntKind.u64.wrap (rd x5_1 x13_1)) + x6_1)) + (IntKind.u64.wrap (rd l1 x13_1)))) % 4294967296)))) ?hg ?ho ?hn ?hr ?_; (case ho => rfl); (case hg => rfl); (case hn => rfl); (case hr => exact kq6); intro w12 hw; have hg : wr.grownBy w12 (some go10) := (by rw [hw]; exact HP11.2); have hp_ : Kd.R (Kd.int .u32) 185 w12 w.heap.size (fun _ => True) (.slice (some ⟨go10, 0, none⟩) x5_1.length co5) y879 := (by rw [hw, Ny879.out]; exact HP11.1); clear HP11; replace HO_5 := mk (hp_); replace HB := mk ((by rw [hw]; exact below_set (HB.out) GB10.out : Below w.heap.size w w12)); clear hg hw hp_))); ((try simp only [← hl5_1])); (go_roundg k1)
              case measure => have := HK1.out; omega
              case rel => exact ⟨(y879), ((IntKind.u64.wrap ((IntKind.u64.wrap ((IntKind.u64.wrap (rd x5_1 x13_1)) + x6_1)) + (IntKind.u64.wrap (rd l1 x13_1)))) / 4294967296), (wrap64 (x13_1 + 1)), kq10, kq10, H', ⟨kq24⟩, ⟨(kq31 HO_5)⟩, ⟨kq15⟩⟩
            · (have c9b0 : decide (x13_1 < (l1.length : Int)) = false := decide_eq_false c9); ((try (have c9q := c9b0; rw [hl5_1] at c9q))); clear c9; (obtain ⟨y880, hy880⟩ : ∃ y_ : List Int, y_ = (x5_1.set (x13_1 : Int).toNat ((IntKind.u64.wrap ((IntKind.u64.wrap (rd x5_1 x13_1)) + x6_1)) % 4294967296)) := ⟨_, rfl⟩); (replace H : (truth_added.l0 k1 l1 y880 ((IntKind.u64.wrap ((IntKind.u64.wrap (rd x5_1 x13_1)) + x6_1)) / 4294967296) (t874.length : Int) (wrap64 (x13_1 + 1))) = some r := by first | (rw [hy880]; with_reducible exact H) | (have H2_ := (Option.bind_some _ _).symm.trans H; rw [hy880]; with_reducible exact H2_) | (have H2_ := (Option.bind_some _ _).symm.trans H; with_reducible exact H2_) | with_reducible exact H | (rw [hy880]; exact H) | exact H); (have Ny880 := mk hy880); clear hy880; (have H' := mk H); clear H; (have p877 : 0 ≤ (x13_1 : Int) := of_decide_eq_true kq19); (have q877 : x13_1 < (x5_1.length : Int) := of_decide_eq_true kq19); (obtain ⟨ad877, e877, hx877_0⟩ := Kd.at_int (Kd.R_reads' HO_5.out).2.2 x13_1 p877 q877); cases e877; replace p877 := eq_true p877; replace q877 := eq_true q877; (have p13 : 0 ≤ (x13_1 : Int) := of_decide_eq_true kq19); (have q13 : (x13_1 : Int) < ((x5_1.length : Int) : Int) := of_decide_eq_true kq19); (obtain ⟨go13, co13, eo13, gb13, gl13, cl13, HG13⟩ := Kd.R_form HO_5.out kq1); ((first | cases eo13 | (injection eo13 with ea_ en_ ec_; (first | subst ea_ | (injection ea_ with ea_; subst ea_)); subst ec_; clear en_))); (have GB13 := mk gb13); (have GG13 := mk HG13); clear gb13 gl13 HG13; ((first | simp only [add_plain] at hx877_0 | skip)); (obtain ⟨hx13_0, hf13_0⟩ := Kd.R_celln 0 HO_5.out (x13_1 : Int) p13 q13); replace p13 := eq_true p13; replace q13 := eq_true q13; (have HP14 := Kd.R_putg HO_5.out (x13_1 : Int) ((IntKind.u64.wrap ((IntKind.u64.wrap (rd x5_1 x13_1)) + x6_1)) % 4294967296)); (go_wp2_with (first | ((with_reducible refine gate_store (t := 185) (p := 40) rfl ?_); refine store_event (t := 185) (p := 40) (v := ?vo_w15) (w1 := (wr.setCell ⟨go13, (x13_1 : Int).toNat, none⟩ (.int .u32 ((IntKind.u64.wrap ((IntKind.u64.wrap (rd x5_1 x13_1)) + x6_1)) % 4294967296)))) ?hg ?ho ?hn ?hr ?_; (case ho => rfl); (case hg => rfl); (case hn => rfl); (case hr => exact kq6); intro w15 hw; have hg : wr.grownBy w15 (some go13) := (by rw [hw]; exact HP14.2); have hp_ : Kd.R (Kd.int .u32) 185 w15 w.heap.size (fun _ => True) (.slice (some ⟨go13, 0, none⟩) x5_1.length co5) y880 := (by rw [hw, Ny880.out]; exact HP14.1); clear HP14; replace HO_5 := mk (hp_); replace HB := mk ((by rw [hw]; exact below_set (HB.out) GB13.out : Below w.heap.size w w15)); clear hg hw hp_))); ((try simp only [← hl5_1])); (go_roundg k1)
              case measure => have := HK1.out; omega
              case rel => exact ⟨(y880), ((IntKind.u64.wrap ((IntKind.u64.wrap (rd x5_1 x13_1)) + x6_1)) / 4294967296), (wrap64 (x13_1 + 1)), kq10, kq10, H', ⟨kq24⟩, ⟨(kq31 HO_5)⟩, ⟨kq15⟩⟩
          · (exact absurd H (by simp))
        · (exact absurd H (by simp))
      · (have c6b0 : decide (x13_1 < (t874.length : Int)) = false := decide_eq_false c6); ((try (have c6q := c6b0; rw [hl5_1] at c6q))); clear c6; replace H := ic_ H; obtain ⟨c16, H⟩ | ⟨c16, H⟩ := H
        · (have LMc16 := mk c16); clear c16; (obtain ⟨y881, hy881⟩ : ∃ y_ : List Int, y_ = (x5_1 ++ [(x6_1) % 4294967296]) := ⟨_, rfl⟩); (replace H : (some y881) = some r := by first | (rw [hy881]; with_reducible exact H) | (have H2_ := (Option.bind_some _ _).symm.trans H; rw [hy881]; with_reducible exact H2_) | (have H2_ := (Option.bind_some _ _).symm.trans H; with_reducible exact H2_) | with_reducible exact H | (rw [hy881]; exact H) | exact H); (have Ny881 := mk hy881); clear hy881; (obtain rfl := Option.some.inj H); (go_wp2_with (first | ((with_reducible refine gate_builtin (b := .append) (xs := #[.tmp 42, .tmp 45]) rfl ?_); at_builtin; refine Kd.R_append (Kd.int .u32) (w0 := w) w.heap.size rfl (.tmp 42) (.tmp 45) 170 185 (.int .u32 0) 4 rfl Try.underlying170 info185 rfl kq2 kq1 (.slice Ao5 x5_1.length co5) x5_1 ((x6_1) % 4294967296) [.int .u32 ((x6_1) % 4294967296)] (fun _ => True) (fun _ => False) rfl rfl ?aP (fun _ hk => hk.elim) ?aF ?aO ?aB ?aS ?aL ?_; (case aP => exact rfl); (case aB => exact kq15); (case aF => exact (fun _ _ => trivial)); (case aO => exact kq26 HO_5); (case aS => exact kq27); (case aL => have := LMc16.out; omega); intro v882 w17 ho hb hg hat; rw [← Ny881.out] at ho; have HO883 := mk (ho); replace HB := mk (hb); clear HO_5; clear ho hb hg hat))); go_ret; (exact ⟨_, kq21, (kq23 HO883), kq15⟩)
        · (exact absurd H (by simp))
end Go.Proofs.Ytjknpmibdkoklaa.U
set_option maxRecDepth 100000
namespace Go.Proofs.Ytjknpmibdkoklaa.U
open Go.RowKit Go.Proofs.YtjknpmibdkoklaaW.PrintWords Go.Proofs.YtjknpmibdkoklaaW.PrintLast Go.Proofs.YtjknpmibdkoklaaW.PrintMore
theorem wrap_dif {x y : Int} (hx : 0 ≤ x ∧ x < 4294967296) (hy : 0 ≤ y ∧ y < 4294967296) : wrap64 (wrap64 x - wrap64 y) = x - y := by
  rw [wrap_in32 (a := x) ⟨kq1, kq1⟩, wrap_in32 (a := y) ⟨kq1, kq1⟩, wrap_in32 ⟨kq1, kq1⟩]
theorem size_loop32 {a b : List Int} (ha : D32 a) (hb : D32 b) (hl : a.length = b.length) (hM : a.length < 1000000000000) :
    ∀ (j : Nat), j ≤ a.length → val32 (a.drop j) = val32 (b.drop j) → ∀ k, j < k → ∃ r, truth_size.l0 k a b ((j : Int) - 1) = some r ∧ (if r < 0 then val32 a < val32 b else val32 b ≤ val32 a) := by
  intro j
  induction j with
  | zero =>
    intro _ hv k hk
    obtain ⟨k, rfl⟩ : ∃ q, k = q + 1 := ⟨k - 1, kq1⟩
    rw [truth_size.l0, if_neg kq1]
    refine ⟨0, rfl, ?_⟩
    simp only [List.drop_zero] at hv
    rw [if_neg kq1]
    omega
  | succ j ih =>
    intro hj hv k hk
    obtain ⟨k, rfl⟩ : ∃ q, k = q + 1 := ⟨k - 1, kq1⟩
    have e : ((j + 1 : Nat) : Int) - 1 = (j : Int) := by omega
    rw [e, truth_size.l0, if_pos kq1, if_pos kq1, if_pos kq1, if_pos kq1]
    have da := val_drop32 a j
    have db := val_drop32 b j
    by_cases hr : rd a (j : Int) = rd b (j : Int)
    · rw [if_pos hr, wrap_in32 ⟨kq1, kq1⟩]
      exact ih kq1 (by rw [da, db, hr, hv]) k kq1
    · rw [if_neg hr, wrap_dif (rd_D32 ha j) (rd_D32 hb j)]
      refine ⟨_, rfl, ?_⟩
      split
      · exact above32 ha hb j kq1
      · exact Int.le_of_lt (above32 hb ha j kq1)
theorem val_top {l : List Int} (h : D32 l) (ht : ∀ d, l.getLast? = some d → d ≠ 0) (hn : l ≠ []) : 4294967296 ^ (l.length - 1) ≤ val32 l := by
  rcases List.eq_nil_or_concat l with e | ⟨m, d, e⟩
  · exact absurd e hn
  · rw [List.concat_eq_append] at e
    have h0 := ht d (by rw [e]; simp)
    have h1 := h d (by rw [e]; simp)
    rw [e, val_append32]
    have h2 := val_nonneg32 (l := m) (fun x hx => h x (by rw [e]; simp [hx]))
    have h3 : 4294967296 ^ m.length * 1 ≤ (4294967296 : Int) ^ m.length * val32 [d] := Int.mul_le_mul_of_nonneg_left (by simp only [val32]; omega) (Int.le_of_lt (pow_pos32 _))
    simp only [List.length_append, List.length_cons, List.length_nil]
    have e2 : m.length + (0 + 1) - 1 = m.length := by omega
    rw [e2]
    omega
theorem shorter {a b : List Int} (ha : D32 a) (hb : D32 b) (ht : ∀ d, b.getLast? = some d → d ≠ 0) (hl : a.length < b.length) : val32 a < val32 b := by
  have h1 := val_lt32 ha
  have h2 := val_top hb ht (fun e => by rw [e] at hl; simp at hl)
  have h3 : (4294967296 : Int) ^ a.length ≤ 4294967296 ^ (b.length - 1) := pow_mono32 kq1
  omega
theorem size_num {n1 n2 : Bool} {a b : List Int} {x y : Int} (h1 : NumOf n1 a x) (h2 : NumOf n2 b y) (la : a.length < 1000000000000) (lb : b.length < 1000000000000) :
    ∀ k, a.length < k → ∃ r, truth_size.f k a b = some r ∧ (if r < 0 then val32 a < val32 b else val32 b ≤ val32 a) := by
  intro k hk
  unfold truth_size.f
  by_cases hl : a.length = b.length
  · rw [if_pos kq1, wrap_in32 ⟨kq1, kq1⟩]
    exact size_loop32 h1.dig h2.dig hl la a.length (Nat.le_refl _) (by rw [List.drop_length, hl, List.drop_length]) k hk
  · rw [if_neg kq1, wrap_in32 ⟨kq1, kq1⟩]
    refine ⟨_, rfl, ?_⟩
    split
    · exact shorter h1.dig h2.dig h2.top kq1
    · exact Int.le_of_lt (shorter h2.dig h1.dig h1.top kq1)
theorem added_loop {a b : List Int} (ha : D32 a) (hb : D32 b) (hlen : b.length ≤ a.length) (hM : a.length < 1000000000) :
    ∀ (n i : Nat) (x : List Int) (c : Int), i + n = a.length → x.length = a.length → D32 x → x.drop i = a.drop i → 0 ≤ c → c ≤ 1 → val32 (x.take i) + 4294967296 ^ i * c = val32 (a.take i) + val32 (b.take i) →
    ∀ k, n < k → ∃ r, truth_added.l0 k b x c (a.length : Int) (i : Int) = some r ∧ D32 r ∧ val32 r = val32 a + val32 b := by
  intro n
  induction n with
  | zero =>
    intro i x c hi hx hd hdr h0 h1 hv k hk
    obtain ⟨k, rfl⟩ : ∃ q, k = q + 1 := ⟨k - 1, kq1⟩
    rw [truth_added.l0, if_neg kq1, if_pos kq1]
    refine ⟨_, rfl, D32_append hd (D32_one kq1 kq1), ?_⟩
    have e : i = x.length := by omega
    have e2 : c % 4294967296 = c := by omega
    rw [val_append32, e2]
    rw [e, List.take_length, List.take_of_length_le kq1, List.take_of_length_le kq1] at hv
    simp only [val32]
    rw [← hv]
    simp
  | succ n ih =>
    intro i x c hi hx hd hdr h0 h1 hv k hk
    obtain ⟨k, rfl⟩ : ∃ q, k = q + 1 := ⟨k - 1, kq1⟩
    have hx1 : i < x.length := by omega
    have ha1 : i < a.length := by omega
    have hxi : rd x (i : Int) = rd a (i : Int) := by
      rw [rd_of_lt32 hx1, rd_of_lt32 ha1]
      have h2 : x.drop i = a.drop i := hdr
      rw [List.drop_eq_getElem_cons hx1, List.drop_eq_getElem_cons ha1] at h2
      exact (List.cons.inj h2).1
    have hra := rd_D32 ha i
    have hrb := rd_D32 hb i
    have hs := Aside0.mk (show wrap64 ((i : Int) + 1) = ((i + 1 : Nat) : Int) from wrap_succ32 kq1)

    have step : ∀ s : Int, s = rd a (i : Int) + c + rd b (i : Int) → ∃ r, truth_added.l0 k b (x.set i (s % 4294967296)) (s / 4294967296) (a.length : Int) ((i + 1 : Nat) : Int) = some r ∧ D32 r ∧ val32 r = val32 a + val32 b := by
      intro s es
      have hm : 0 ≤ s % 4294967296 ∧ s % 4294967296 < 4294967296 := by omega
      refine ih (i + 1) _ _ kq1 (by simp; omega) (D32_set hd i hm.1 hm.2) ?_ kq1 kq1 ?_ k kq1
      · rw [List.drop_set_of_lt kq1]
        have h2 := congrArg (List.drop 1) hdr
        rw [List.drop_drop, List.drop_drop] at h2
        exact h2
      · rw [val_take32 _ i (by simp; omega), val_take_rd32 a i, val_take_rd32 b i, List.take_set_of_le (Nat.le_refl i)]
        have e1 : rd (x.set i (s % 4294967296)) (i : Int) = s % 4294967296 := by
          rw [rd_of_lt32 (l := x.set i (s % 4294967296)) (i := i) (by simp; omega)]
          simp
        rw [e1, Int.pow_succ]
        have e2 : (4294967296 : Int) ^ i * 4294967296 * (s / 4294967296) + 4294967296 ^ i * (s % 4294967296) = 4294967296 ^ i * s := by
          rw [Int.mul_assoc, ← Int.mul_add]
          congr 1
          omega
        have e3 : (4294967296 : Int) ^ i * s = 4294967296 ^ i * rd a (i : Int) + 4294967296 ^ i * c + 4294967296 ^ i * rd b (i : Int) := by rw [es, Int.mul_add, Int.mul_add]
        omega
    rw [truth_added.l0, if_pos kq1, if_pos kq1, if_pos kq1]
    rw [hxi, uwrap_in32 (n := rd a (i : Int)) kq1 kq1, uwrap_in32 (n := rd a (i : Int) + c) kq1 kq1, hs.out, Int.toNat_natCast]
    by_cases hib : i < b.length
    · rw [if_pos kq1, uwrap_in32 (n := rd b (i : Int)) kq1 kq1, uwrap_in32 (n := rd a (i : Int) + c + rd b (i : Int)) kq1 kq1]
      exact step _ rfl
    · rw [if_neg kq1]
      exact step _ (by rw [rd_ge32 (l := b) (i := i) kq1]; omega)
theorem added_num {a b : List Int} (ha : D32 a) (hb : D32 b) (hlen : b.length ≤ a.length) (hM : a.length < 1000000000) :
    ∀ k, a.length < k → ∃ r, truth_added.f k a b = some r ∧ D32 r ∧ val32 r = val32 a + val32 b := by
  intro k hk
  obtain ⟨r, h, hd, hv⟩ := added_loop ha hb hlen hM a.length 0 a 0 kq1 rfl ha rfl kq1 kq1 (by simp [val32]) k hk
  refine ⟨r, ?_, hd, hv⟩
  unfold truth_added.f slices_Clone_uint32_uint32.f
  rw [if_pos kq1]
  exact h
end Go.Proofs.Ytjknpmibdkoklaa.U
namespace Go.Proofs.Ytjknpmibdkoklaa.U
open Go.RowKit Go.Proofs.YtjknpmibdkoklaaW.PrintWords Go.Proofs.YtjknpmibdkoklaaW.PrintLast Go.Proofs.YtjknpmibdkoklaaW.PrintMore
open Aside0 (mk)
open List (setIfInBounds_toArray set_cons_zero set_cons_succ)
attribute [local go_sem] max2_int min2_int max_two min_two max_three min_three max_four min_four
set_option linter.unusedVariables false
set_option linter.unusedSimpArgs false
attribute [local go_sem] fld99_2 fld103_2 fld172_1
def truth_taken.l0 : Nat → List Int → List Int → Int → Int → Int → Option (List Int)
  | 0, _, _, _, _, _ => none
  | k + 1, x1, x5, x6, x12, x13 => if x13 < x12 then (if 0 ≤ x13 then (if x13 < (x5.length : Int) then (if x13 < (x1.length : Int) then (if (wrap64 ((wrap64 ((wrap64 (rd x5 x13)) - x6)) - (wrap64 (rd x1 x13)))) < 0 then (truth_taken.l0 k x1 (x5.set (x13 : Int).toNat ((wrap64 ((wrap64 ((wrap64 ((wrap64 (rd x5 x13)) - x6)) - (wrap64 (rd x1 x13)))) + 4294967296)) % 4294967296)) 1 x12 (wrap64 (x13 + 1))) else (truth_taken.l0 k x1 (x5.set (x13 : Int).toNat ((wrap64 ((wrap64 ((wrap64 (rd x5 x13)) - x6)) - (wrap64 (rd x1 x13)))) % 4294967296)) 0 x12 (wrap64 (x13 + 1)))) else (if (wrap64 ((wrap64 (rd x5 x13)) - x6)) < 0 then (truth_taken.l0 k x1 (x5.set (x13 : Int).toNat ((wrap64 ((wrap64 ((wrap64 (rd x5 x13)) - x6)) + 4294967296)) % 4294967296)) 1 x12 (wrap64 (x13 + 1))) else (truth_taken.l0 k x1 (x5.set (x13 : Int).toNat ((wrap64 ((wrap64 (rd x5 x13)) - x6)) % 4294967296)) 0 x12 (wrap64 (x13 + 1))))) else (none)) else (none)) else (some x5)
def truth_taken.f (k : Nat) (l0 : List Int) (l1 : List Int) : Option (List Int) := (slices_Clone_uint32_uint32.f l0).bind fun t884 => (truth_taken.l0 k l1 t884 0 (t884.length : Int) 0)
theorem truth_taken.mono_l : ∀ k, (∀ y0 y1 y2 y3 y4, LeO (truth_taken.l0 k y0 y1 y2 y3 y4) (truth_taken.l0 (k + 1) y0 y1 y2 y3 y4))
  | 0 => fun _ _ _ _ _ r h => by simp [truth_taken.l0] at h
  | k + 1 => by
    have ih0 := truth_taken.mono_l k
    · intro y0 y1 y2 y3 y4; (unfold truth_taken.l0)
      repeat' first
      | (with_reducible exact ih0 _ _ _ _ _)
      | (with_reducible exact LeO.refl _)
      | (with_reducible exact LeO.none _)
      | (with_reducible refine LeO.ite ?_ ?_)
      | (with_reducible refine LeO.bind ?_ (fun _ => ?_))
      | exact ih0 _ _ _ _ _
      | exact LeO.none _
      | refine LeO.ite ?_ ?_
      | refine LeO.bind ?_ (fun _ => ?_)
theorem truth_taken.mono : ∀ a0 a1 k, LeO (truth_taken.f k a0 a1) (truth_taken.f (k + 1) a0 a1) := by
  intro a0 a1 k
  have ih0 := truth_taken.mono_l k
  unfold truth_taken.f
  repeat' first
      | (with_reducible exact ih0 _ _ _ _ _)
      | (with_reducible exact LeO.refl _)
      | (with_reducible exact LeO.none _)
      | (with_reducible refine LeO.ite ?_ ?_)
      | (with_reducible refine LeO.bind ?_ (fun _ => ?_))
      | exact ih0 _ _ _ _ _
      | exact LeO.none _
      | refine LeO.ite ?_ ?_
      | refine LeO.bind ?_ (fun _ => ?_)
set_option maxHeartbeats 8000000 in
set_option maxRecDepth 100000 in
theorem truth_taken.calls (k : Nat) (A0 : Option Addr) (c0 : Nat) (l0 : List Int) (A1 : Option Addr) (c1 : Nat) (l1 : List Int) (r : List Int) (w : World) (hr0 : Kd.C (Kd.int .u32) w A0 l0.length l0) (hc0 : l0.length ≤ c0) (hr1 : Kd.C (Kd.int .u32) w A1 l1.length l1) (hc1 : l1.length ≤ c1) (h : truth_taken.f k l0 l1 = some r) :
    Calls Try.prog 195 #[.slice A0 l0.length c0, .slice A1 l1.length c1] w fun e w' => ∃ v0_ : Value, e = .returned (v0_) ∧ Kd.R (Kd.int .u32) 185 w' w.heap.size (fun _ => True) v0_ r ∧ Below w.heap.size w w' := by
  have HR0 := mk hr0
  have HC0 := mk hc0
  clear hr0 hc0
  have HR1 := mk hr1
  have HC1 := mk hc1
  clear hr1 hc1
  have HB := mk (Below.refl w.heap.size w)
  have H : ((slices_Clone_uint32_uint32.f l0).bind fun t884 => (truth_taken.l0 k l1 t884 0 (t884.length : Int) 0)) = some r := h
  clear h
  replace H := Option.bind_eq_some_iff.mp H
  obtain ⟨t884, A30, H⟩ := H
  replace H : (truth_taken.l0 k l1 t884 0 (t884.length : Int) 0) = some r := H
  have A3 := mk A30
  clear A30
  have H' := mk H
  clear H
  go_enter Try.func195, Try.ntmps195
  go_wp2_with (first | ((with_reducible refine gate_callee (f := 191) rfl ?_); refine goesL_ (some 10) rfl rfl Try.func191 kq0 rfl #[.slice A0 l0.length c0] rfl kq14 ?_; (with_reducible refine (slices_Clone_uint32_uint32.calls _ _ l0 t884 _ ?side1 ?side2 A3.out).mono ?_); (case side1 => exact kq30 HR0); (case side2 => exact HC0.out); rintro e w4 ⟨v885, rfl, ho0, hb⟩; refine ⟨_, rfl, ?_⟩; have HO886 := mk (Kd.R_lower ho0 (below_size kq15)); replace HB := mk (below_step kq15 hb); obtain ⟨Ao5, co5, eo5⟩ := Kd.R_slice HO886.out; subst eo5))
  go_loopg [6, 13] k (fun kq v6 v13 w' => ∃ (x5_1 : List Int) (x6_1 : Int) (x13_1 : Int), v6 = .int .i64 x6_1 ∧ v13 = .int .i64 x13_1 ∧ Aside0 (truth_taken.l0 kq l1 x5_1 x6_1 (t884.length : Int) x13_1 = some r) ∧ Aside0 (kq ≤ k) ∧ Aside0 (Kd.R (Kd.int .u32) 185 w' w.heap.size (fun _ => True) (.slice Ao5 t884.length co5) x5_1) ∧ Aside0 (Below w.heap.size w w'))
  case atStart => exact ⟨(t884), (0), (0), kq10, kq10, H', ⟨Nat.le_refl _⟩, ⟨(kq23 HO886)⟩, ⟨kq15⟩⟩
  case round =>
    clear H'
    obtain ⟨x5_1, x6_1, x13_1, rfl, rfl, HA, HK1, HO_5, HB⟩ := hrel
    have hl5_1 := (Kd.R_reads' HO_5.out).1
    rw [hl5_1] at HO_5
    (try simp only [hl5_1])
    cases gk with
    | zero => exact absurd HA.out (by simp [truth_taken.l0])
    | succ k1 =>
      (have H := HA.out); clear HA; (simp only [truth_taken.l0] at H); replace H := ic_ H; obtain ⟨c6, H⟩ | ⟨c6, H⟩ := H
      · (have c6b0 : decide (x13_1 < (t884.length : Int)) = true := decide_eq_true c6); ((try (have c6q := c6b0; rw [hl5_1] at c6q))); clear c6; replace H := ic_ H; obtain ⟨c7, H⟩ | ⟨c7, H⟩ := H
        · (have c7b0 : decide (0 ≤ x13_1) = true := decide_eq_true c7); clear c7; replace H := ic_ H; obtain ⟨c8, H⟩ | ⟨c8, H⟩ := H
          · (have c8b0 : decide (x13_1 < (x5_1.length : Int)) = true := decide_eq_true c8); ((try (have c8q := c8b0; rw [hl5_1] at c8q))); clear c8; replace H := ic_ H; obtain ⟨c9, H⟩ | ⟨c9, H⟩ := H
            · (have c9b0 : decide (x13_1 < (l1.length : Int)) = true := decide_eq_true c9); ((try (have c9q := c9b0; rw [hl5_1] at c9q))); clear c9; replace H := ic_ H; obtain ⟨c10, H⟩ | ⟨c10, H⟩ := H
              · (have c10b0 := decide_eq_true c10); clear c10; (obtain ⟨y889, hy889⟩ : ∃ y_ : List Int, y_ = (x5_1.set (x13_1 : Int).toNat ((wrap64 ((wrap64 ((wrap64 ((wrap64 (rd x5_1 x13_1)) - x6_1)) - (wrap64 (rd l1 x13_1)))) + 4294967296)) % 4294967296)) := ⟨_, rfl⟩); (replace H : (truth_taken.l0 k1 l1 y889 1 (t884.length : Int) (wrap64 (x13_1 + 1))) = some r := by first | (rw [hy889]; with_reducible exact H) | (have H2_ := (Option.bind_some _ _).symm.trans H; rw [hy889]; with_reducible exact H2_) | (have H2_ := (Option.bind_some _ _).symm.trans H; with_reducible exact H2_) | with_reducible exact H | (rw [hy889]; exact H) | exact H); (have Ny889 := mk hy889); clear hy889; (have H' := mk H); clear H; (have p887 : 0 ≤ (x13_1 : Int) := of_decide_eq_true kq19); (have q887 : x13_1 < (x5_1.length : Int) := of_decide_eq_true kq19); (obtain ⟨ad887, e887, hx887_0⟩ := Kd.at_int (Kd.R_reads' HO_5.out).2.2 x13_1 p887 q887); cases e887; replace p887 := eq_true p887; replace q887 := eq_true q887; (have p888 : 0 ≤ (x13_1 : Int) := of_decide_eq_true kq19); (have q888 : x13_1 < (l1.length : Int) := of_decide_eq_true kq19); (obtain ⟨ad888, e888, hx888_0⟩ := Kd.at_int HR1.out x13_1 p888 q888); cases e888; (replace hx888_0 := hc_ HB hx888_0); replace p888 := eq_true p888; replace q888 := eq_true q888; (have p11 : 0 ≤ (x13_1 : Int) := of_decide_eq_true kq19); (have q11 : (x13_1 : Int) < ((x5_1.length : Int) : Int) := of_decide_eq_true kq19); (obtain ⟨go11, co11, eo11, gb11, gl11, cl11, HG11⟩ := Kd.R_form HO_5.out kq1); ((first | cases eo11 | (injection eo11 with ea_ en_ ec_; (first | subst ea_ | (injection ea_ with ea_; subst ea_)); subst ec_; clear en_))); (have GB11 := mk gb11); (have GG11 := mk HG11); clear gb11 gl11 HG11; ((first | simp only [add_plain] at hx887_0 | skip)); (obtain ⟨hx11_0, hf11_0⟩ := Kd.R_celln 0 HO_5.out (x13_1 : Int) p11 q11); replace p11 := eq_true p11; replace q11 := eq_true q11; (have HP12 := Kd.R_putg HO_5.out (x13_1 : Int) ((wrap64 ((wrap64 ((wrap64 ((wrap64 (rd x5_1 x13_1)) - x6_1)) - (wrap64 (rd l1 x13_1)))) + 4294967296)) % 4294967296)); (go_wp2_with (first | ((with_reducible refine gate_store (t := 185) (p := 42) rfl ?_); refine store_event (t := 185) (p := 42) (v := ?vo_w13) (w1 := (wr.setCell ⟨go11, (x13_1 : Int).toNat, none⟩ (.int .u32 ((wrap64 ((wrap64 ((wrap64 ((wrap64 (rd x5_1 x13_1)) - x6_1)) - (wrap64 (rd l1 x13_1)))) + 4294967296)) % 4294967296)))) ?hg ?ho ?hn ?hr ?_; (case ho => rfl); (case hg => rfl); (case hn => rfl); (case hr => exact kq6); intro w13 hw; have hg : wr.grownBy w13 (some go11) := (by rw [hw]; exact HP12.2); have hp_ : Kd.R (Kd.int .u32) 185 w13 w.heap.size (fun _ => True) (.slice (some ⟨go11, 0, none⟩) x5_1.length co5) y889 := (by rw [hw, Ny889.out]; exact HP12.1); clear HP12; replace HO_5 := mk (hp_); replace HB := mk ((by rw [hw]; exact below_set (HB.out) GB11.out : Below w.heap.size w w13)); clear hg hw hp_))); ((try simp only [← hl5_1])); (go_roundg k1)
                case measure => have := HK1.out; omega
                case rel => exact ⟨(y889), (1), (wrap64 (x13_1 + 1)), kq10, kq10, H', ⟨kq24⟩, ⟨(kq31 HO_5)⟩, ⟨kq15⟩⟩
              · (have c10b0 := decide_eq_false c10); clear c10; (obtain ⟨y890, hy890⟩ : ∃ y_ : List Int, y_ = (x5_1.set (x13_1 : Int).toNat ((wrap64 ((wrap64 ((wrap64 (rd x5_1 x13_1)) - x6_1)) - (wrap64 (rd l1 x13_1)))) % 4294967296)) := ⟨_, rfl⟩); (replace H : (truth_taken.l0 k1 l1 y890 0 (t884.length : Int) (wrap64 (x13_1 + 1))) = some r := by first | (rw [hy890]; with_reducible exact H) | (have H2_ := (Option.bind_some _ _).symm.trans H; rw [hy890]; with_reducible exact H2_) | (have H2_ := (Option.bind_some _ _).symm.trans H; with_reducible exact H2_) | with_reducible exact H | (rw [hy890]; exact H) | exact H); (have Ny890 := mk hy890); clear hy890; (have H' := mk H); clear H; (have p887 : 0 ≤ (x13_1 : Int) := of_decide_eq_true kq19); (have q887 : x13_1 < (x5_1.length : Int) := of_decide_eq_true kq19); (obtain ⟨ad887, e887, hx887_0⟩ := Kd.at_int (Kd.R_reads' HO_5.out).2.2 x13_1 p887 q887); cases e887; replace p887 := eq_true p887; replace q887 := eq_true q887; (have p888 : 0 ≤ (x13_1 : Int) := of_decide_eq_true kq19); (have q888 : x13_1 < (l1.length : Int) := of_decide_eq_true kq19); (obtain ⟨ad888, e888, hx888_0⟩ := Kd.at_int HR1.out x13_1 p888 q888); cases e888; (replace hx888_0 := hc_ HB hx888_0); replace p888 := eq_true p888; replace q888 := eq_true q888; (have p14 : 0 ≤ (x13_1 : Int) := of_decide_eq_true kq19); (have q14 : (x13_1 : Int) < ((x5_1.length : Int) : Int) := of_decide_eq_true kq19); (obtain ⟨go14, co14, eo14, gb14, gl14, cl14, HG14⟩ := Kd.R_form HO_5.out kq1); ((first | cases eo14 | (injection eo14 with ea_ en_ ec_; (first | subst ea_ | (injection ea_ with ea_; subst ea_)); subst ec_; clear en_))); (have GB14 := mk gb14); (have GG14 := mk HG14); clear gb14 gl14 HG14; ((first | simp only [add_plain] at hx887_0 | skip)); (obtain ⟨hx14_0, hf14_0⟩ := Kd.R_celln 0 HO_5.out (x13_1 : Int) p14 q14); replace p14 := eq_true p14; replace q14 := eq_true q14; (have HP15 := Kd.R_putg HO_5.out (x13_1 : Int) ((wrap64 ((wrap64 ((wrap64 (rd x5_1 x13_1)) - x6_1)) - (wrap64 (rd l1 x13_1)))) % 4294967296)); (go_wp2_with (first | ((with_reducible refine gate_store (t := 185) (p := 42) rfl ?_); refine store_event (t := 185) (p := 42) (v := ?vo_w16) (w1 := (wr.setCell ⟨go14, (x13_1 : Int).toNat, none⟩ (.int .u32 ((wrap64 ((wrap64 ((wrap64 (rd x5_1 x13_1)) - x6_1)) - (wrap64 (rd l1 x13_1)))) % 4294967296)))) ?hg ?ho ?hn ?hr ?_; (case ho => rfl); (case hg => rfl); (case hn => rfl); (case hr => exact kq6); intro w16 hw; have hg : wr.grownBy w16 (some go14) := (by rw [hw]; exact HP15.2); have hp_ : Kd.R (Kd.int .u32) 185 w16 w.heap.size (fun _ => True) (.slice (some ⟨go14, 0, none⟩) x5_1.length co5) y890 := (by rw [hw, Ny890.out]; exact HP15.1); clear HP15; replace HO_5 := mk (hp_); replace HB := mk ((by rw [hw]; exact below_set (HB.out) GB14.out : Below w.heap.size w w16)); clear hg hw hp_))); ((try simp only [← hl5_1])); (go_roundg k1)
                case measure => have := HK1.out; omega
                case rel => exact ⟨(y890), (0), (wrap64 (x13_1 + 1)), kq10, kq10, H', ⟨kq24⟩, ⟨(kq31 HO_5)⟩, ⟨kq15⟩⟩
            · (have c9b0 : decide (x13_1 < (l1.length : Int)) = false := decide_eq_false c9); ((try (have c9q := c9b0; rw [hl5_1] at c9q))); clear c9; replace H := ic_ H; obtain ⟨c17, H⟩ | ⟨c17, H⟩ := H
              · (have c17b0 := decide_eq_true c17); clear c17; (obtain ⟨y891, hy891⟩ : ∃ y_ : List Int, y_ = (x5_1.set (x13_1 : Int).toNat ((wrap64 ((wrap64 ((wrap64 (rd x5_1 x13_1)) - x6_1)) + 4294967296)) % 4294967296)) := ⟨_, rfl⟩); (replace H : (truth_taken.l0 k1 l1 y891 1 (t884.length : Int) (wrap64 (x13_1 + 1))) = some r := by first | (rw [hy891]; with_reducible exact H) | (have H2_ := (Option.bind_some _ _).symm.trans H; rw [hy891]; with_reducible exact H2_) | (have H2_ := (Option.bind_some _ _).symm.trans H; with_reducible exact H2_) | with_reducible exact H | (rw [hy891]; exact H) | exact H); (have Ny891 := mk hy891); clear hy891; (have H' := mk H); clear H; (have p887 : 0 ≤ (x13_1 : Int) := of_decide_eq_true kq19); (have q887 : x13_1 < (x5_1.length : Int) := of_decide_eq_true kq19); (obtain ⟨ad887, e887, hx887_0⟩ := Kd.at_int (Kd.R_reads' HO_5.out).2.2 x13_1 p887 q887); cases e887; replace p887 := eq_true p887; replace q887 := eq_true q887; (have p18 : 0 ≤ (x13_1 : Int) := of_decide_eq_true kq19); (have q18 : (x13_1 : Int) < ((x5_1.length : Int) : Int) := of_decide_eq_true kq19); (obtain ⟨go18, co18, eo18, gb18, gl18, cl18, HG18⟩ := Kd.R_form HO_5.out kq1); ((first | cases eo18 | (injection eo18 with ea_ en_ ec_; (first | subst ea_ | (injection ea_ with ea_; subst ea_)); subst ec_; clear en_))); (have GB18 := mk gb18); (have GG18 := mk HG18); clear gb18 gl18 HG18; ((first | simp only [add_plain] at hx887_0 | skip)); (obtain ⟨hx18_0, hf18_0⟩ := Kd.R_celln 0 HO_5.out (x13_1 : Int) p18 q18); replace p18 := eq_true p18; replace q18 := eq_true q18; (have HP19 := Kd.R_putg HO_5.out (x13_1 : Int) ((wrap64 ((wrap64 ((wrap64 (rd x5_1 x13_1)) - x6_1)) + 4294967296)) % 4294967296)); (go_wp2_with (first | ((with_reducible refine gate_store (t := 185) (p := 42) rfl ?_); refine store_event (t := 185) (p := 42) (v := ?vo_w20) (w1 := (wr.setCell ⟨go18, (x13_1 : Int).toNat, none⟩ (.int .u32 ((wrap64 ((wrap64 ((wrap64 (rd x5_1 x13_1)) - x6_1)) + 4294967296)) % 4294967296)))) ?hg ?ho ?hn ?hr ?_; (case ho => rfl); (case hg => rfl); (case hn => rfl); (case hr => exact kq6); intro w20 hw; have hg : wr.grownBy w20 (some go18) := (by rw [hw]; exact HP19.2); have hp_ : Kd.R (Kd.int .u32) 185 w20 w.heap.size (fun _ => True) (.slice (some ⟨go18, 0, none⟩) x5_1.length co5) y891 := (by rw [hw, Ny891.out]; exact HP19.1); clear HP19; replace HO_5 := mk (hp_); replace HB := mk ((by rw [hw]; exact below_set (HB.out) GB18.out : Below w.heap.size w w20)); clear hg hw hp_))); ((try simp only [← hl5_1])); (go_roundg k1)
                case measure => have := HK1.out; omega
                case rel => exact ⟨(y891), (1), (wrap64 (x13_1 + 1)), kq10, kq10, H', ⟨kq24⟩, ⟨(kq31 HO_5)⟩, ⟨kq15⟩⟩
              · (have c17b0 := decide_eq_false c17); clear c17; (obtain ⟨y892, hy892⟩ : ∃ y_ : List Int, y_ = (x5_1.set (x13_1 : Int).toNat ((wrap64 ((wrap64 (rd x5_1 x13_1)) - x6_1)) % 4294967296)) := ⟨_, rfl⟩); (replace H : (truth_taken.l0 k1 l1 y892 0 (t884.length : Int) (wrap64 (x13_1 + 1))) = some r := by first | (rw [hy892]; with_reducible exact H) | (have H2_ := (Option.bind_some _ _).symm.trans H; rw [hy892]; with_reducible exact H2_) | (have H2_ := (Option.bind_some _ _).symm.trans H; with_reducible exact H2_) | with_reducible exact H | (rw [hy892]; exact H) | exact H); (have Ny892 := mk hy892); clear hy892; (have H' := mk H); clear H; (have p887 : 0 ≤ (x13_1 : Int) := of_decide_eq_true kq19); (have q887 : x13_1 < (x5_1.length : Int) := of_decide_eq_true kq19); (obtain ⟨ad887, e887, hx887_0⟩ := Kd.at_int (Kd.R_reads' HO_5.out).2.2 x13_1 p887 q887); cases e887; replace p887 := eq_true p887; replace q887 := eq_true q887; (have p21 : 0 ≤ (x13_1 : Int) := of_decide_eq_true kq19); (have q21 : (x13_1 : Int) < ((x5_1.length : Int) : Int) := of_decide_eq_true kq19); (obtain ⟨go21, co21, eo21, gb21, gl21, cl21, HG21⟩ := Kd.R_form HO_5.out kq1); ((first | cases eo21 | (injection eo21 with ea_ en_ ec_; (first | subst ea_ | (injection ea_ with ea_; subst ea_)); subst ec_; clear en_))); (have GB21 := mk gb21); (have GG21 := mk HG21); clear gb21 gl21 HG21; ((first | simp only [add_plain] at hx887_0 | skip)); (obtain ⟨hx21_0, hf21_0⟩ := Kd.R_celln 0 HO_5.out (x13_1 : Int) p21 q21); replace p21 := eq_true p21; replace q21 := eq_true q21; (have HP22 := Kd.R_putg HO_5.out (x13_1 : Int) ((wrap64 ((wrap64 (rd x5_1 x13_1)) - x6_1)) % 4294967296)); (go_wp2_with (first | ((with_reducible refine gate_store (t := 185) (p := 42) rfl ?_); refine store_event (t := 185) (p := 42) (v := ?vo_w23) (w1 := (wr.setCell ⟨go21, (x13_1 : Int).toNat, none⟩ (.int .u32 ((wrap64 ((wrap64 (rd x5_1 x13_1)) - x6_1)) % 4294967296)))) ?hg ?ho ?hn ?hr ?_; (case ho => rfl); (case hg => rfl); (case hn => rfl); (case hr => exact kq6); intro w23 hw; have hg : wr.grownBy w23 (some go21) := (by rw [hw]; exact HP22.2); have hp_ : Kd.R (Kd.int .u32) 185 w23 w.heap.size (fun _ => True) (.slice (some ⟨go21, 0, none⟩) x5_1.length co5) y892 := (by rw [hw, Ny892.out]; exact HP22.1); clear HP22; replace HO_5 := mk (hp_); replace HB := mk ((by rw [hw]; exact below_set (HB.out) GB21.out : Below w.heap.size w w23)); clear hg hw hp_))); ((try simp only [← hl5_1])); (go_roundg k1)
                case measure => have := HK1.out; omega
                case rel => exact ⟨(y892), (0), (wrap64 (x13_1 + 1)), kq10, kq10, H', ⟨kq24⟩, ⟨(kq31 HO_5)⟩, ⟨kq15⟩⟩
          · (exact absurd H (by simp))
        · (exact absurd H (by simp))
      · (have c6b0 : decide (x13_1 < (t884.length : Int)) = false := decide_eq_false c6); ((try (have c6q := c6b0; rw [hl5_1] at c6q))); clear c6; (obtain rfl := Option.some.inj H); go_wp2; go_ret; (exact ⟨_, kq21, (kq23 HO_5), kq15⟩)
end Go.Proofs.Ytjknpmibdkoklaa.U
