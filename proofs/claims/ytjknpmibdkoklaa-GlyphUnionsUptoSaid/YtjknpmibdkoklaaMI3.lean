/- Functions of the given program as Lean functions, each with its contract, and what they answer; words for it. No condition but those of each. -/
import Derived.Test.YtjknpmibdkoklaaProg
import Derived.Below
import Derived.Deep.Draws
import Derived.Deep.AppendLies
import Derived.Maps.AppendAt
import Derived.OwnWalk
import Derived.Laws.BytesArg
import Derived.Laws.MakeOwn
import Derived.Laws.OwnMore
import Derived.Deep.OwnRows
import Derived.Tactics
import Derived.Lib.ConvBytes
import Derived.Laws.Slices
import Derived.WalkKit
import Derived.KernelRfl
import Derived.RowKit3
import Derived.Deep.LoopGhost
import Derived.Deep.QuietTactic
import Derived.BigQuiet
import Derived.WideLaws
import Derived.Deep.DeepCutAuto
import Derived.Deep.CutBlock
import Derived.Deep.RegionHeld3
import Derived.Laws.Rows
import Derived.Lib.AppendStr
import Derived.ArgAppend
import Derived.Laws.IdiomCopy
import Derived.OrdersHeld
import Derived.Laws.BitsLemmas
import Derived.RowKit
import Derived.Test.YtjknpmibdkoklaaMI1
import Derived.Test.YtjknpmibdkoklaaMI0
import Derived.Test.YtjknpmibdkoklaaMI2
import Derived.Laws.Strings
import Derived.SliceStrings
import Derived.SizedLaws
import Derived.ChangeSlices
namespace Go.Proofs.Ytjknpmibdkoklaa.G
open Go.RowKit Go.Proofs.YtjknpmibdkoklaaW.PrintWords Go.Proofs.YtjknpmibdkoklaaW.PrintLast Go.Proofs.YtjknpmibdkoklaaW.PrintMore
attribute [local go_sem] max2_int min2_int max_two min_two max_three min_three max_four min_four
set_option linter.unusedVariables false
set_option linter.unusedSimpArgs false
def errW : Option Int → Value
  | none => .nilIface
  | some c => .iface 0 (.int .i64 c)
theorem errW_none : errW none = .nilIface := rfl
theorem errW_some (c : Int) : errW (some c) = .iface 0 (.int .i64 c) := rfl
theorem info9 : (Try.prog.info? 9).map (fun i => (i.zero, i.size, i.bytes)) = some (some (.string ⟨#[]⟩), 1, 16) := by kernel_rfl
end Go.Proofs.Ytjknpmibdkoklaa.G
namespace Go.Proofs.Ytjknpmibdkoklaa.G
open Go.RowKit Go.Proofs.YtjknpmibdkoklaaW.PrintWords Go.Proofs.YtjknpmibdkoklaaW.PrintLast Go.Proofs.YtjknpmibdkoklaaW.PrintMore
attribute [local go_sem] max2_int min2_int max_two min_two max_three min_three max_four min_four
set_option linter.unusedVariables false
set_option linter.unusedSimpArgs false
end Go.Proofs.Ytjknpmibdkoklaa.G
namespace Go.Proofs.Ytjknpmibdkoklaa.G
open Go.RowKit Go.Proofs.YtjknpmibdkoklaaW.PrintWords Go.Proofs.YtjknpmibdkoklaaW.PrintLast Go.Proofs.YtjknpmibdkoklaaW.PrintMore
attribute [local go_sem] max2_int min2_int max_two min_two max_three min_three max_four min_four
set_option linter.unusedVariables false
set_option linter.unusedSimpArgs false
end Go.Proofs.Ytjknpmibdkoklaa.G
namespace Go.Proofs.Ytjknpmibdkoklaa.G
open Go.RowKit Go.Proofs.YtjknpmibdkoklaaW.PrintWords Go.Proofs.YtjknpmibdkoklaaW.PrintLast Go.Proofs.YtjknpmibdkoklaaW.PrintMore
attribute [local go_sem] max2_int min2_int max_two min_two max_three min_three max_four min_four
set_option linter.unusedVariables false
set_option linter.unusedSimpArgs false
end Go.Proofs.Ytjknpmibdkoklaa.G
namespace Go.Proofs.Ytjknpmibdkoklaa.G
open Go.RowKit Go.Proofs.YtjknpmibdkoklaaW.PrintWords Go.Proofs.YtjknpmibdkoklaaW.PrintLast Go.Proofs.YtjknpmibdkoklaaW.PrintMore
attribute [local go_sem] max2_int min2_int max_two min_two max_three min_three max_four min_four
set_option linter.unusedVariables false
set_option linter.unusedSimpArgs false
end Go.Proofs.Ytjknpmibdkoklaa.G
namespace Go.Proofs.Ytjknpmibdkoklaa.G
open Go.RowKit Go.Proofs.YtjknpmibdkoklaaW.PrintWords Go.Proofs.YtjknpmibdkoklaaW.PrintLast Go.Proofs.YtjknpmibdkoklaaW.PrintMore
attribute [local go_sem] max2_int min2_int max_two min_two max_three min_three max_four min_four
set_option linter.unusedVariables false
set_option linter.unusedSimpArgs false
end Go.Proofs.Ytjknpmibdkoklaa.G
namespace Go.Proofs.Ytjknpmibdkoklaa.G
open Go.RowKit Go.Proofs.YtjknpmibdkoklaaW.PrintWords Go.Proofs.YtjknpmibdkoklaaW.PrintLast Go.Proofs.YtjknpmibdkoklaaW.PrintMore
attribute [local go_sem] max2_int min2_int max_two min_two max_three min_three max_four min_four
set_option linter.unusedVariables false
set_option linter.unusedSimpArgs false
end Go.Proofs.Ytjknpmibdkoklaa.G
set_option maxRecDepth 100000
namespace Go.Proofs.Ytjknpmibdkoklaa.G
open Go.RowKit Go.Sort Go.Lib Go.Proofs.YtjknpmibdkoklaaW.PrintWords Go.Proofs.YtjknpmibdkoklaaW.PrintLast Go.Proofs.YtjknpmibdkoklaaW.PrintMore
theorem bl_eq (s : ByteArray) : s.toList = bl s := by unfold bl; rw [ByteArray.toList_eq]
theorem bl_lb' (l : List UInt8) : bl (lb l) = l := by simp [bl, lb]
theorem bl_inj {a b : ByteArray} (h : bl a = bl b) : a = b := by rw [← lb_bl a, h, lb_bl]
theorem less_eq (a b : ByteArray) : Op.bytesLess a.toList b.toList = decide (bl a < bl b) := by rw [bytesLess_eq, bl_eq, bl_eq]
theorem ltt {a b c : List UInt8} (h : a < b) (k : b < c) : a < c := List.lt_trans h k
theorem lti (a : List UInt8) : ¬ a < a := List.lt_irrefl a
theorem lle {a b : List UInt8} (h : a ≤ b) (k : a ≠ b) : a < b := Classical.byContradiction fun n => k (List.le_antisymm h (List.not_lt.1 n))
abbrev Rise (l : List ByteArray) : Prop := l.Pairwise fun a b => bl a < bl b
theorem rise_unique : ∀ {l m : List ByteArray}, Rise l → Rise m → (∀ x, x ∈ l ↔ x ∈ m) → l = m
  | [], [], _, _, _ => rfl
  | [], y :: m, _, _, h => absurd ((h y).2 (List.mem_cons_self ..)) List.not_mem_nil
  | x :: l, [], _, _, h => absurd ((h x).1 (List.mem_cons_self ..)) List.not_mem_nil
  | x :: l, y :: m, hl, hm, h => by
    rw [Rise, List.pairwise_cons] at hl hm
    have e : x = y := by
      rcases List.mem_cons.1 ((h x).1 (List.mem_cons_self ..)) with e | e
      · exact e
      · rcases List.mem_cons.1 ((h y).2 (List.mem_cons_self ..)) with e2 | e2
        · exact e2.symm
        · exact absurd (ltt (hm.1 x e) (hl.1 y e2)) (lti _)
    subst e
    refine congrArg (x :: ·) (rise_unique hl.2 hm.2 fun z => ⟨fun hz => ?_, fun hz => ?_⟩)
    · rcases List.mem_cons.1 ((h z).1 (List.mem_cons_of_mem _ hz)) with e | e
      · subst e; exact absurd (hl.1 _ hz) (lti _)
      · exact e
    · rcases List.mem_cons.1 ((h z).2 (List.mem_cons_of_mem _ hz)) with e | e
      · subst e; exact absurd (hm.1 _ hz) (lti _)
      · exact e
theorem compact_snoc (zs : List (List UInt8)) (x : List UInt8) : Lib.compact (zs ++ [x]) = Lib.compact zs ++ (if zs.getLast? = some x then [] else [x]) := by
  unfold Lib.compact
  rw [List.length_append, List.length_singleton, compactUpTo_succ]
  have h1 : ∀ j, j < zs.length → (zs ++ [x]).toArray[j]! = zs.toArray[j]! := fun j hj => by simp [getElem!_pos, hj, List.getElem_append_left hj, show j < zs.length + 1 by omega]
  have h2 : (zs ++ [x]).toArray[zs.length]! = x := by simp
  congr 1
  · unfold compactUpTo
    have e : (List.range zs.length).filter (keeps (zs ++ [x]).toArray) = (List.range zs.length).filter (keeps zs.toArray) := List.filter_congr fun j hj => by
      have := List.mem_range.1 hj
      unfold keeps
      rw [h1 j this, h1 (j - 1) (by omega)]
    rw [e]
    exact List.map_congr_left fun j hj => h1 j (List.mem_range.1 (List.mem_filter.1 hj).1)
  · rw [h2]
    unfold keeps
    rw [h2]
    cases hz : zs.length with
    | zero =>
      obtain rfl := List.eq_nil_of_length_eq_zero hz
      simp
    | succ n =>
      rw [h1 (n + 1 - 1) (by omega)]
      have e : zs.getLast? = some zs.toArray[n]! := by rw [List.getLast?_eq_getElem?, hz, List.getElem?_eq_getElem (by omega)]; simp [getElem!_pos, show n < zs.length by omega]
      rw [show n + 1 - 1 = n from rfl, e]
      generalize zs.toArray[n]! = y
      by_cases hx : x = y
      · subst hx; simp
      · have hx2 : ¬ y = x := fun h => hx h.symm
        simp [hx, hx2]
theorem snoc_ind {α : Type} {P : List α → Prop} (h0 : P []) (h1 : ∀ l x, P l → P (l ++ [x])) (l : List α) : P l := by
  have : ∀ r : List α, P r.reverse := fun r => by
    induction r with
    | nil => exact h0
    | cons x r ih => rw [List.reverse_cons]; exact h1 _ _ ih
  simpa using this l.reverse
theorem compact_spec (zs : List (List UInt8)) : zs.Pairwise (· ≤ ·) → (Lib.compact zs).Pairwise (· < ·) ∧ ∀ y, y ∈ Lib.compact zs ↔ y ∈ zs := by
  induction zs using snoc_ind with
  | h0 => exact fun _ => ⟨List.Pairwise.nil, fun y => Iff.rfl⟩
  | h1 l x ih =>
    intro h
    rw [List.pairwise_append] at h
    obtain ⟨p1, p2⟩ := ih h.1
    rw [compact_snoc]
    split
    · rename_i e
      refine ⟨by simpa using p1, fun y => ?_⟩
      have hx : x ∈ l := List.mem_of_getLast? e
      rw [List.append_nil, p2, List.mem_append, List.mem_singleton]
      constructor
      · exact .inl
      · rintro (k | rfl) <;> assumption
    · rename_i e
      refine ⟨List.pairwise_append.2 ⟨p1, by simp, fun a ha b hb => ?_⟩, fun y => by rw [List.mem_append, List.mem_append, p2]⟩
      obtain rfl := List.mem_singleton.1 hb
      have ha2 := (p2 a).1 ha
      refine lle (h.2.2 a ha2 b (List.mem_singleton_self _)) fun hab => ?_
      subst hab

      cases hl : l.getLast? with
      | none => rw [List.getLast?_eq_none_iff] at hl; subst hl; cases ha2
      | some z =>
        obtain ⟨l', rfl⟩ := List.getLast?_eq_some_iff.1 hl
        have hz : z ≤ a := h.2.2 z (by simp) a (List.mem_singleton_self _)
        rcases List.mem_append.1 ha2 with k | k
        · have := (List.pairwise_append.1 h.1).2.2 a k z (List.mem_singleton_self _)
          exact e (by rw [hl, List.le_antisymm hz this])
        · obtain rfl := List.mem_singleton.1 k
          exact e hl
def canon (l : List ByteArray) : List ByteArray := compactS (sortedS l)
theorem map_bl_lb (l : List (List UInt8)) : (l.map lb).map bl = l := by
  rw [List.map_map]
  exact (congrArg (fun q => List.map q l) (funext fun s => bl_lb' s)).trans (List.map_id l)
theorem mem_sortedS {x : ByteArray} {l : List ByteArray} : x ∈ sortedS l ↔ x ∈ l := by
  unfold sortedS
  rw [List.mem_map]
  constructor
  · rintro ⟨a, ha, rfl⟩
    obtain ⟨b, hb, rfl⟩ := List.mem_map.1 (List.mem_mergeSort.1 ha)
    rwa [lb_bl]
  · exact fun h => ⟨bl x, List.mem_mergeSort.2 (List.mem_map.2 ⟨x, h, rfl⟩), lb_bl x⟩
theorem sortedS_le (l : List ByteArray) : ((sortedS l).map bl).Pairwise (· ≤ ·) := by
  unfold sortedS
  rw [map_bl_lb]
  have := List.pairwise_mergeSort (le := fun x y : List UInt8 => decide (x ≤ y)) (fun a b c h1 h2 => by simp at *; exact List.le_trans h1 h2) (fun a b => by simp; exact List.le_total a b) (l.map bl)
  exact this.imp (fun h => of_decide_eq_true h)
theorem canon_rise (l : List ByteArray) : Rise (canon l) := by
  have h := (compact_spec _ (sortedS_le l)).1
  unfold canon compactS
  rw [Rise, List.pairwise_map]
  exact h.imp (fun {a b} h => by rw [bl_lb', bl_lb']; exact h)
theorem mem_canon {x : ByteArray} {l : List ByteArray} : x ∈ canon l ↔ x ∈ l := by
  have h := (compact_spec _ (sortedS_le l)).2
  unfold canon compactS
  rw [List.mem_map]
  constructor
  · rintro ⟨a, ha, rfl⟩
    obtain ⟨b, hb, rfl⟩ := List.mem_map.1 ((h a).1 ha)
    rw [lb_bl]
    exact mem_sortedS.1 hb
  · exact fun hx => ⟨bl x, (h _).2 (List.mem_map.2 ⟨x, mem_sortedS.2 hx, rfl⟩), lb_bl x⟩
theorem canon_length (l : List ByteArray) : (canon l).length ≤ l.length := by
  unfold canon compactS
  rw [List.length_map]
  exact Nat.le_trans (compact_le _) (by rw [List.length_map, sortedS_length]; exact Nat.le_refl _)
theorem canon_of_rise {l : List ByteArray} (h : Rise l) : canon l = l := rise_unique (canon_rise l) h fun _ => mem_canon
theorem rdOf_nat {α : Type} (d : α) (l : List α) (i : Nat) : rdOf d l (i : Int) = l.getD i d := rfl
end Go.Proofs.Ytjknpmibdkoklaa.G
namespace Go.Proofs.Ytjknpmibdkoklaa.G
open Go.RowKit Go.Proofs.YtjknpmibdkoklaaW.PrintWords Go.Proofs.YtjknpmibdkoklaaW.PrintLast Go.Proofs.YtjknpmibdkoklaaW.PrintMore
attribute [local go_sem] max2_int min2_int max_two min_two max_three min_three max_four min_four
set_option linter.unusedVariables false
set_option linter.unusedSimpArgs false
def slices_Index_string_string.l0 : Nat → List ByteArray → ByteArray → Int → Int → Option (Int)
  | 0, _, _, _, _ => none
  | k + 1, x0, x1, x7, x8 => if x8 < x7 then (if 0 ≤ x8 then (if x8 < (x0.length : Int) then (if x1.toList = (rdOf ByteArray.empty x0 x8).toList then (some x8) else (slices_Index_string_string.l0 k x0 x1 x7 (wrap64 (x8 + 1)))) else (none)) else (none)) else (some (-1))
def slices_Index_string_string.f (k : Nat) (l0 : List ByteArray) (a1 : ByteArray) : Option (Int) := slices_Index_string_string.l0 k l0 a1 (l0.length : Int) 0
theorem slices_Index_string_string.mono_l : ∀ k, (∀ y0 y1 y2 y3, LeO (slices_Index_string_string.l0 k y0 y1 y2 y3) (slices_Index_string_string.l0 (k + 1) y0 y1 y2 y3))
  | 0 => fun _ _ _ _ r h => by simp [slices_Index_string_string.l0] at h
  | k + 1 => by
    have ih0 := slices_Index_string_string.mono_l k
    · intro y0 y1 y2 y3; (unfold slices_Index_string_string.l0)
      repeat' first
      | (with_reducible exact ih0 _ _ _ _)
      | (with_reducible exact LeO.refl _)
      | (with_reducible exact LeO.none _)
      | (with_reducible refine LeO.ite ?_ ?_)
      | (with_reducible refine LeO.bind ?_ (fun _ => ?_))
      | exact ih0 _ _ _ _
      | exact LeO.none _
      | refine LeO.ite ?_ ?_
      | refine LeO.bind ?_ (fun _ => ?_)
theorem slices_Index_string_string.mono : ∀ a0 a1 k, LeO (slices_Index_string_string.f k a0 a1) (slices_Index_string_string.f (k + 1) a0 a1) := by
  intro a0 a1 k
  have ih0 := slices_Index_string_string.mono_l k
  unfold slices_Index_string_string.f
  repeat' first
      | (with_reducible exact ih0 _ _ _ _)
      | (with_reducible exact LeO.refl _)
      | (with_reducible exact LeO.none _)
      | (with_reducible refine LeO.ite ?_ ?_)
      | (with_reducible refine LeO.bind ?_ (fun _ => ?_))
      | exact ih0 _ _ _ _
      | exact LeO.none _
      | refine LeO.ite ?_ ?_
      | refine LeO.bind ?_ (fun _ => ?_)
set_option maxHeartbeats 8000000 in
set_option maxRecDepth 100000 in
theorem slices_Index_string_string.calls (k : Nat) (A0 : Option Addr) (c0 : Nat) (l0 : List ByteArray) (a1 : ByteArray) (r : Int) (w : World) (hr0 : Kd.C Kd.string w A0 l0.length l0) (hc0 : l0.length ≤ c0) (h : slices_Index_string_string.f k l0 a1 = some r) :
    Calls Try.prog 69 #[.slice A0 l0.length c0, .string a1] w fun e w' => e = .returned (.int .i64 r) ∧ Drawn0 w w' := by
  have HR0 := Aside0.mk hr0
  have HC0 := Aside0.mk hc0
  clear hr0 hc0
  have H : (slices_Index_string_string.l0 k l0 a1 (l0.length : Int) 0) = some r := h
  clear h
  have H' := Aside0.mk H
  clear H
  go_enter Try.func69, Try.ntmps69
  go_wp2
  go_loopg [8] k (fun kq v8 w' => ∃ (x8_1 : Int), v8 = .int .i64 x8_1 ∧ Aside0 (slices_Index_string_string.l0 kq l0 a1 (l0.length : Int) x8_1 = some r) ∧ Aside0 (kq ≤ k) ∧ Drawn0 w w')
  case atStart => exact ⟨(0), (by first | rfl | (simp; done) | (simp [*]; done)), H', ⟨Nat.le_refl _⟩, by repeat (first | exact Drawn0.refl _ | apply Drawn0.step)⟩
  case round =>
    clear H'
    try clear p2
    obtain ⟨x8_1, rfl, HA, HK1, ⟨m1, rfl⟩⟩ := hrel
    cases gk with
    | zero => exact absurd HA.out (by simp [slices_Index_string_string.l0])
    | succ k1 =>
      (have H := HA.out); clear HA; (simp only [slices_Index_string_string.l0] at H); (by_cases c3 : x8_1 < (l0.length : Int))
      · (rw [if_pos c3] at H); (have c3b0 : decide (x8_1 < (l0.length : Int)) = true := decide_eq_true c3); clear c3; (by_cases c4 : 0 ≤ x8_1)
        · (rw [if_pos c4] at H); (have c4b0 : decide (0 ≤ x8_1) = true := decide_eq_true c4); clear c4; (by_cases c5 : x8_1 < (l0.length : Int))
          · (rw [if_pos c5] at H); (have c5b0 : decide (x8_1 < (l0.length : Int)) = true := decide_eq_true c5); clear c5; (by_cases c6 : a1.toList = (rdOf ByteArray.empty l0 x8_1).toList)
            · (rw [if_pos c6] at H); (have c6b0 : (a1.toList == (rdOf ByteArray.empty l0 x8_1).toList) = true := beq_iff_eq.mpr c6); (have c6b1 : (a1.toList != (rdOf ByteArray.empty l0 x8_1).toList) = false := bne_eq_false_iff_eq.mpr c6); clear c6; (obtain rfl := Option.some.inj H); (have p314 : 0 ≤ (x8_1 : Int) := of_decide_eq_true (by first | (with_reducible assumption) | assumption)); (have q314 : x8_1 < (l0.length : Int) := of_decide_eq_true (by first | (with_reducible assumption) | assumption)); (obtain ⟨ad314, e314, hx314_0⟩ := Kd.at_string HR0.out x8_1 p314 q314); cases e314; replace p314 := eq_true p314; replace q314 := eq_true q314; go_wp2; go_ret; (exact ⟨by first | rfl | (simp; done) | (simp [*]; done), by repeat (first | exact Drawn0.refl _ | apply Drawn0.step)⟩)
            · (rw [if_neg c6] at H); (have c6b0 : (a1.toList == (rdOf ByteArray.empty l0 x8_1).toList) = false := beq_eq_false_iff_ne.mpr c6); (have c6b1 : (a1.toList != (rdOf ByteArray.empty l0 x8_1).toList) = true := bne_iff_ne.mpr c6); (have H' := Aside0.mk H); clear H; (have p314 : 0 ≤ (x8_1 : Int) := of_decide_eq_true (by first | (with_reducible assumption) | assumption)); (have q314 : x8_1 < (l0.length : Int) := of_decide_eq_true (by first | (with_reducible assumption) | assumption)); (obtain ⟨ad314, e314, hx314_0⟩ := Kd.at_string HR0.out x8_1 p314 q314); cases e314; replace p314 := eq_true p314; replace q314 := eq_true q314; go_wp2; (go_roundg k1)
              case measure => have := HK1.out; omega
              case rel => exact ⟨(wrap64 (x8_1 + 1)), (by first | rfl | (simp; done) | (simp [*]; done)), H', ⟨by have := HK1.out; omega⟩, by repeat (first | exact Drawn0.refl _ | apply Drawn0.step)⟩
          · (rw [if_neg c5] at H); (exact absurd H (by simp))
        · (rw [if_neg c4] at H); (exact absurd H (by simp))
      · (rw [if_neg c3] at H); (have c3b0 : decide (x8_1 < (l0.length : Int)) = false := decide_eq_false c3); clear c3; (obtain rfl := Option.some.inj H); go_wp2; go_ret; (exact ⟨by first | rfl | (simp; done) | (simp [*]; done), by repeat (first | exact Drawn0.refl _ | apply Drawn0.step)⟩)
def glyph_Index.f (k : Nat) (l0 : List ByteArray) (a1 : ByteArray) : Option (Int) := (slices_Index_string_string.f k l0 a1).bind fun t315 => (some t315)
theorem glyph_Index.mono : ∀ a0 a1 k, LeO (glyph_Index.f k a0 a1) (glyph_Index.f (k + 1) a0 a1) := by
  intro a0 a1 k
  unfold glyph_Index.f
  repeat' first
      | (with_reducible exact slices_Index_string_string.mono _ _ _)
      | (with_reducible exact LeO.refl _)
      | (with_reducible exact LeO.none _)
      | (with_reducible refine LeO.ite ?_ ?_)
      | (with_reducible refine LeO.bind ?_ (fun _ => ?_))
      | exact slices_Index_string_string.mono _ _ _
      | exact LeO.none _
      | refine LeO.ite ?_ ?_
      | refine LeO.bind ?_ (fun _ => ?_)
set_option maxHeartbeats 8000000 in
set_option maxRecDepth 100000 in
theorem glyph_Index.calls (k : Nat) (A0 : Option Addr) (c0 : Nat) (l0 : List ByteArray) (a1 : ByteArray) (r : Int) (w : World) (hr0 : Kd.C Kd.string w A0 l0.length l0) (hc0 : l0.length ≤ c0) (h : glyph_Index.f k l0 a1 = some r) :
    Calls Try.prog 27 #[.slice A0 l0.length c0, .string a1] w fun e w' => e = .returned (.int .i64 r) ∧ Drawn0 w w' := by
  have HR0 := Aside0.mk hr0
  have HC0 := Aside0.mk hc0
  clear hr0 hc0
  have H : ((slices_Index_string_string.f k l0 a1).bind fun t315 => (some t315)) = some r := h
  clear h
  replace H := Option.bind_eq_some_iff.mp H
  obtain ⟨t315, A30, H⟩ := H
  replace H : (some t315) = some r := H
  have A3 := Aside0.mk A30
  clear A30
  obtain rfl := Option.some.inj H
  go_enter Try.func27, Try.ntmps27
  go_wp2_with (first | ((with_reducible refine gate_callee (f := 69) rfl ?_); refine goesL_ (some 7) rfl rfl Try.func69 (by kernel_rfl) rfl #[.slice A0 l0.length c0, .string a1] rfl (by (try simp only [List.map_toArray, List.map_cons, List.map_nil]); first | done | rfl | (simp only [List.length_drop, List.length_take]; rfl)) ?_; (with_reducible refine (slices_Index_string_string.calls k _ _ l0 a1 t315 _ ?side1 ?side2 A3.out).mono ?_); (case side1 => repeat (first | exact HR0.out | (with_reducible refine Kd.C_alloc ?_ _) | (with_reducible refine Kd.C_drewN ?_ _) | (with_reducible refine Kd.C_drew ?_))); (case side2 => exact HC0.out); rintro e w' ⟨rfl, ⟨nd, rfl⟩⟩; refine ⟨_, rfl, ?_⟩))
  go_ret
  exact ⟨by first | rfl | (simp; done) | (simp [*]; done), by repeat (first | exact Drawn0.refl _ | apply Drawn0.step)⟩
end Go.Proofs.Ytjknpmibdkoklaa.G
namespace Go.Proofs.Ytjknpmibdkoklaa.G
open Go.RowKit Go.Proofs.YtjknpmibdkoklaaW.PrintWords Go.Proofs.YtjknpmibdkoklaaW.PrintLast Go.Proofs.YtjknpmibdkoklaaW.PrintMore
attribute [local go_sem] max2_int min2_int max_two min_two max_three min_three max_four min_four
set_option linter.unusedVariables false
set_option linter.unusedSimpArgs false
end Go.Proofs.Ytjknpmibdkoklaa.G
namespace Go.Proofs.Ytjknpmibdkoklaa.G
open Go.RowKit Go.Proofs.YtjknpmibdkoklaaW.PrintWords Go.Proofs.YtjknpmibdkoklaaW.PrintLast Go.Proofs.YtjknpmibdkoklaaW.PrintMore
attribute [local go_sem] max2_int min2_int max_two min_two max_three min_three max_four min_four
set_option linter.unusedVariables false
set_option linter.unusedSimpArgs false
end Go.Proofs.Ytjknpmibdkoklaa.G
namespace Go.Proofs.Ytjknpmibdkoklaa.G
open Go.RowKit Go.Proofs.YtjknpmibdkoklaaW.PrintWords Go.Proofs.YtjknpmibdkoklaaW.PrintLast Go.Proofs.YtjknpmibdkoklaaW.PrintMore
attribute [local go_sem] max2_int min2_int max_two min_two max_three min_three max_four min_four
set_option linter.unusedVariables false
set_option linter.unusedSimpArgs false
theorem eqA92 (d : Nat) (w : World) (x0 y0 : Int) (x1 y1 : Int) :
    (Op.equalIn (d + 2) 92 (.agg #[.int .i64 x0, .int .i64 x1]) (.agg #[.int .i64 y0, .int .i64 y1])).run Try.prog w = .ok (x0 == y0 && (x1 == y1)) w := by
  refine eqA_of Try.underlying92 (by kernel_rfl) ?_
  refine eqf_cons (by rfl) (by go_simp; rfl) (by go_simp; rfl) (by go_simp) ?_
  exact eqf_last (by rfl) (by go_simp; rfl) (by go_simp; rfl) (by go_simp)
end Go.Proofs.Ytjknpmibdkoklaa.G
namespace Go.Proofs.Ytjknpmibdkoklaa.G
open Go.RowKit Go.Proofs.YtjknpmibdkoklaaW.PrintWords Go.Proofs.YtjknpmibdkoklaaW.PrintLast Go.Proofs.YtjknpmibdkoklaaW.PrintMore
attribute [local go_sem] max2_int min2_int max_two min_two max_three min_three max_four min_four
set_option linter.unusedVariables false
set_option linter.unusedSimpArgs false
def tabardlaw04_same.l0 : Nat → List ByteArray → List ByteArray → Int → Int → Option (Bool)
  | 0, _, _, _, _ => none
  | k + 1, x0, x1, x12, x13 => if x13 < x12 then (if 0 ≤ x13 then (if x13 < (x0.length : Int) then (if x13 < (x1.length : Int) then (if (rdOf ByteArray.empty x0 x13).toList = (rdOf ByteArray.empty x1 x13).toList then (tabardlaw04_same.l0 k x0 x1 x12 (wrap64 (x13 + 1))) else (some false)) else (none)) else (none)) else (none)) else (some true)
def tabardlaw04_same.f (k : Nat) (l0 : List ByteArray) (l1 : List ByteArray) : Option (Bool) := if (l0.length : Int) = (l1.length : Int) then (tabardlaw04_same.l0 k l0 l1 (l0.length : Int) 0) else (some false)
theorem tabardlaw04_same.mono_l : ∀ k, (∀ y0 y1 y2 y3, LeO (tabardlaw04_same.l0 k y0 y1 y2 y3) (tabardlaw04_same.l0 (k + 1) y0 y1 y2 y3))
  | 0 => fun _ _ _ _ r h => by simp [tabardlaw04_same.l0] at h
  | k + 1 => by
    have ih0 := tabardlaw04_same.mono_l k
    · intro y0 y1 y2 y3; (unfold tabardlaw04_same.l0)
      repeat' first
      | (with_reducible exact ih0 _ _ _ _)
      | (with_reducible exact LeO.refl _)
      | (with_reducible exact LeO.none _)
      | (with_reducible refine LeO.ite ?_ ?_)
      | (with_reducible refine LeO.bind ?_ (fun _ => ?_))
      | exact ih0 _ _ _ _
      | exact LeO.none _
      | refine LeO.ite ?_ ?_
      | refine LeO.bind ?_ (fun _ => ?_)
theorem tabardlaw04_same.mono : ∀ a0 a1 k, LeO (tabardlaw04_same.f k a0 a1) (tabardlaw04_same.f (k + 1) a0 a1) := by
  intro a0 a1 k
  have ih0 := tabardlaw04_same.mono_l k
  unfold tabardlaw04_same.f
  repeat' first
      | (with_reducible exact ih0 _ _ _ _)
      | (with_reducible exact LeO.refl _)
      | (with_reducible exact LeO.none _)
      | (with_reducible refine LeO.ite ?_ ?_)
      | (with_reducible refine LeO.bind ?_ (fun _ => ?_))
      | exact ih0 _ _ _ _
      | exact LeO.none _
      | refine LeO.ite ?_ ?_
      | refine LeO.bind ?_ (fun _ => ?_)
set_option maxHeartbeats 8000000 in
set_option maxRecDepth 100000 in
theorem tabardlaw04_same.calls (k : Nat) (A0 : Option Addr) (c0 : Nat) (l0 : List ByteArray) (A1 : Option Addr) (c1 : Nat) (l1 : List ByteArray) (r : Bool) (w : World) (hr0 : Kd.C Kd.string w A0 l0.length l0) (hc0 : l0.length ≤ c0) (hr1 : Kd.C Kd.string w A1 l1.length l1) (hc1 : l1.length ≤ c1) (h : tabardlaw04_same.f k l0 l1 = some r) :
    Calls Try.prog 24 #[.slice A0 l0.length c0, .slice A1 l1.length c1] w fun e w' => e = .returned (.bool r) ∧ Drawn0 w w' := by
  have HR0 := Aside0.mk hr0
  have HC0 := Aside0.mk hc0
  clear hr0 hc0
  have HR1 := Aside0.mk hr1
  have HC1 := Aside0.mk hc1
  clear hr1 hc1
  have H : (if (l0.length : Int) = (l1.length : Int) then (tabardlaw04_same.l0 k l0 l1 (l0.length : Int) 0) else (some false)) = some r := h
  clear h
  by_cases c3 : (l0.length : Int) = (l1.length : Int)
  · rw [if_pos c3] at H
    have c3b0 : ((l0.length : Int) == (l1.length : Int)) = true := beq_iff_eq.mpr c3
    have c3b1 : ((l0.length : Int) != (l1.length : Int)) = false := bne_eq_false_iff_eq.mpr c3
    have c3b2 : (l0.length == l1.length) = true := by first | simpa using c3 | (simp at c3 ⊢; omega)
    clear c3
    have H' := Aside0.mk H
    clear H
    go_enter Try.func24, Try.ntmps24
    go_wp2
    repeat (go_quiet (fail); try go_wp2)
    go_loopg [13] k (fun kq v13 w' => ∃ (x13_1 : Int), v13 = .int .i64 x13_1 ∧ Aside0 (tabardlaw04_same.l0 kq l0 l1 (l0.length : Int) x13_1 = some r) ∧ Aside0 (kq ≤ k) ∧ Drawn0 w w')
    case atStart => exact ⟨(0), (by first | rfl | (simp; done) | (simp [*]; done)), H', ⟨Nat.le_refl _⟩, by repeat (first | exact Drawn0.refl _ | apply Drawn0.step)⟩
    case round =>
      clear H'; (try clear c1); (try clear c2); (try clear p2); (try clear c3); (try clear c3b0); (try clear c3b1); (try clear c3b2); (obtain ⟨x13_1, rfl, HA, HK1, ⟨m1, rfl⟩⟩ := hrel)
      cases gk with
      | zero => exact absurd HA.out (by simp [tabardlaw04_same.l0])
      | succ k1 =>
        (have H := HA.out); clear HA; (simp only [tabardlaw04_same.l0] at H); (by_cases c4 : x13_1 < (l0.length : Int))
        · (rw [if_pos c4] at H); (have c4b0 : decide (x13_1 < (l0.length : Int)) = true := decide_eq_true c4); clear c4; (by_cases c5 : 0 ≤ x13_1)
          · (rw [if_pos c5] at H); (have c5b0 : decide (0 ≤ x13_1) = true := decide_eq_true c5); clear c5; (by_cases c6 : x13_1 < (l0.length : Int))
            · (rw [if_pos c6] at H); (have c6b0 : decide (x13_1 < (l0.length : Int)) = true := decide_eq_true c6); clear c6; (by_cases c7 : x13_1 < (l1.length : Int))
              · (rw [if_pos c7] at H); (have c7b0 : decide (x13_1 < (l1.length : Int)) = true := decide_eq_true c7); clear c7; (by_cases c8 : (rdOf ByteArray.empty l0 x13_1).toList = (rdOf ByteArray.empty l1 x13_1).toList)
                · (rw [if_pos c8] at H); (have c8b0 : ((rdOf ByteArray.empty l0 x13_1).toList == (rdOf ByteArray.empty l1 x13_1).toList) = true := beq_iff_eq.mpr c8); (have c8b1 : ((rdOf ByteArray.empty l0 x13_1).toList != (rdOf ByteArray.empty l1 x13_1).toList) = false := bne_eq_false_iff_eq.mpr c8); clear c8; (have H' := Aside0.mk H); clear H; (have p312 : 0 ≤ (x13_1 : Int) := of_decide_eq_true (by first | (with_reducible assumption) | assumption)); (have q312 : x13_1 < (l0.length : Int) := of_decide_eq_true (by first | (with_reducible assumption) | assumption)); (obtain ⟨ad312, e312, hx312_0⟩ := Kd.at_string HR0.out x13_1 p312 q312); cases e312; replace p312 := eq_true p312; replace q312 := eq_true q312; (have p313 : 0 ≤ (x13_1 : Int) := of_decide_eq_true (by first | (with_reducible assumption) | assumption)); (have q313 : x13_1 < (l1.length : Int) := of_decide_eq_true (by first | (with_reducible assumption) | assumption)); (obtain ⟨ad313, e313, hx313_0⟩ := Kd.at_string HR1.out x13_1 p313 q313); cases e313; replace p313 := eq_true p313; replace q313 := eq_true q313; go_wp2; (repeat (go_quiet (fail); try go_wp2)); (go_roundg k1)
                  case measure => have := HK1.out; omega
                  case rel => exact ⟨(wrap64 (x13_1 + 1)), (by first | rfl | (simp; done) | (simp [*]; done)), H', ⟨by have := HK1.out; omega⟩, by repeat (first | exact Drawn0.refl _ | apply Drawn0.step)⟩
                · (rw [if_neg c8] at H); (have c8b0 : ((rdOf ByteArray.empty l0 x13_1).toList == (rdOf ByteArray.empty l1 x13_1).toList) = false := beq_eq_false_iff_ne.mpr c8); (have c8b1 : ((rdOf ByteArray.empty l0 x13_1).toList != (rdOf ByteArray.empty l1 x13_1).toList) = true := bne_iff_ne.mpr c8); (obtain rfl := Option.some.inj H); (have p312 : 0 ≤ (x13_1 : Int) := of_decide_eq_true (by first | (with_reducible assumption) | assumption)); (have q312 : x13_1 < (l0.length : Int) := of_decide_eq_true (by first | (with_reducible assumption) | assumption)); (obtain ⟨ad312, e312, hx312_0⟩ := Kd.at_string HR0.out x13_1 p312 q312); cases e312; replace p312 := eq_true p312; replace q312 := eq_true q312; (have p313 : 0 ≤ (x13_1 : Int) := of_decide_eq_true (by first | (with_reducible assumption) | assumption)); (have q313 : x13_1 < (l1.length : Int) := of_decide_eq_true (by first | (with_reducible assumption) | assumption)); (obtain ⟨ad313, e313, hx313_0⟩ := Kd.at_string HR1.out x13_1 p313 q313); cases e313; replace p313 := eq_true p313; replace q313 := eq_true q313; go_wp2; (repeat (go_quiet (fail); try go_wp2)); go_ret; (exact ⟨by first | rfl | (simp; done) | (simp [*]; done), by repeat (first | exact Drawn0.refl _ | apply Drawn0.step)⟩)
              · (rw [if_neg c7] at H); (exact absurd H (by simp))
            · (rw [if_neg c6] at H); (exact absurd H (by simp))
          · (rw [if_neg c5] at H); (exact absurd H (by simp))
        · (rw [if_neg c4] at H); (have c4b0 : decide (x13_1 < (l0.length : Int)) = false := decide_eq_false c4); clear c4; (obtain rfl := Option.some.inj H); go_wp2; (repeat (go_quiet (fail); try go_wp2)); go_ret; (exact ⟨by first | rfl | (simp; done) | (simp [*]; done), by repeat (first | exact Drawn0.refl _ | apply Drawn0.step)⟩)
  · rw [if_neg c3] at H
    have c3b0 : ((l0.length : Int) == (l1.length : Int)) = false := beq_eq_false_iff_ne.mpr c3
    have c3b1 : ((l0.length : Int) != (l1.length : Int)) = true := bne_iff_ne.mpr c3
    have c3b2 : (l0.length == l1.length) = false := by first | simpa using c3 | (simp at c3 ⊢; omega)
    obtain rfl := Option.some.inj H
    go_enter Try.func24, Try.ntmps24
    go_wp2
    repeat (go_quiet (fail); try go_wp2)
    go_ret
    exact ⟨by first | rfl | (simp; done) | (simp [*]; done), by repeat (first | exact Drawn0.refl _ | apply Drawn0.step)⟩
end Go.Proofs.Ytjknpmibdkoklaa.G
namespace Go.Proofs.Ytjknpmibdkoklaa.Open
open Go.ChangeShapes Go.WideShapes Go.Proofs.YtjknpmibdkoklaaW.PrintWords
section
variable {H : Type} {enc : TypeId × Value → H} {P : Program} {W : World} {base : Nat} {spare : Nat → Bool} {held : Bool}
theorem mem_weightsAll {e : TypeId} : ∀ {l : List (DataW H)} {d : DataW H} {n : Nat}, d ∈ l → n ∈ d.weights P e → n ∈ DataW.weightsAll P e l
  | x :: l, d, n, hd, hn => by
    simp only [DataW.weightsAll, List.mem_append]
    rcases List.mem_cons.1 hd with rfl | hd
    · exact .inl hn
    · exact .inr (mem_weightsAll hd hn)
theorem mem_weights_slice {t e : TypeId} {l r : List (DataW H)} {d : DataW H} {n : Nat} (hu : P.underlying t = some (.slice e)) (hd : d ∈ l) (hn : n ∈ d.weights P e) : n ∈ (DataW.slice l r).weights P t := by
  simp only [DataW.weights, hu, List.mem_cons, List.mem_append]
  exact .inr (.inl (mem_weightsAll hd hn))
theorem strs_arg {t e : TypeId} {a : Option Addr} {len cap : Nat} {d : DataW H} {ps : List MemPlace} (hsz : ∀ n ∈ d.weights P t, n ≤ reachBytes) (hu : P.underlying t = some (.slice e)) (he : P.underlying e = some .string) (hc : P.cellsOf e = 1) (hB : P.bytesOf e = 16)
    (h : DataW.Trod enc P W base spare held t (.slice a len cap) d ps) : ∃ l : List ByteArray, len = l.length ∧ Kd.C Kd.string W a l.length l ∧ len ≤ cap ∧ l.length * 16 ≤ 140737488351232 ∧ ∀ s ∈ l, s.size ≤ 140737488351232 := by
  obtain ⟨fuel, hf⟩ := h
  rcases open_strings hu he hc hf with ⟨hcs, _⟩ | ⟨x, l, c, zs, hcs, _, hl, hm, hz, hx, hcell, _⟩
  · simp [Value.cells] at hcs
    obtain ⟨rfl, rfl, rfl⟩ := hcs
    exact ⟨[], rfl, ⟨rfl, by decide, fun h => absurd h (by decide)⟩, by decide, by decide, fun s hs => absurd hs List.not_mem_nil⟩
  · simp [Value.cells] at hcs
    obtain ⟨rfl, rfl, rfl⟩ := hcs
    obtain ⟨hx, _⟩ := Prod.mk.inj hx
    subst hx
    have hl2 : len ≤ zs.length := by
      rw [hz]
      split
      · exact hl
      · exact Nat.le_refl _
    have ht : (zs.take len).length = len := by simp; omega
    have hm2 : maxLen = 9223372036854775807 := rfl
    refine ⟨zs.take len, ht.symm, ⟨rfl, by rw [ht]; omega, fun _ => ⟨x, rfl, fun j p hj => ⟨[.string p], rfl, rfl, fun i u hi => ?_⟩⟩⟩, hl, ?_, fun s hs => ?_⟩
    · have hi0 : i = 0 := by
        have := (List.getElem?_eq_some_iff.1 hi).1
        simp at this
        omega
      subst hi0
      have hu2 : Value.string p = u := by simpa using hi
      subst hu2
      have hj2 : zs[j]? = some p := by
        have h1 := (List.getElem?_eq_some_iff.1 hj).1
        rw [List.getElem?_take] at hj
        split at hj
        · exact hj
        · cases hj
      have h2 := hcell j (List.getElem?_eq_some_iff.1 hj2).1
      rw [List.getD_eq_getElem?_getD, hj2] at h2
      exact (by simpa [Kd.string, Kd.scalar] using h2)
    · have z := hsz _ (show ((strs (H := H) (zs.take len)).length + (strs (H := H) (zs.drop len)).length) * P.bytesOf e ∈ _ by simp [DataW.weights, hu])
      rw [hB] at z
      have h1 : (strs (H := H) (zs.take len)).length = len := by simp [strs]; omega
      rw [ht]
      rw [h1] at z
      have hr : reachBytes = 140737488351232 := rfl
      omega
    · have z := hsz s.data.toList.length (mem_weights_slice hu (d := .lit (.string s.data.toList)) (by unfold strs; exact List.mem_map.2 ⟨s, hs, rfl⟩) (by simp [DataW.weights]))
      have hr : reachBytes = 140737488351232 := rfl
      have hs2 : s.size = s.data.toList.length := by simp
      omega
theorem sized_at {ts : List TypeId} {ds : List (DataW H)} {j : Nat} {t : TypeId} {d : DataW H} (hsz : (DataW.weightsEach P ts ds).all (· ≤ reachBytes) = true) (ht : ts[j]? = some t) (hd : ds[j]? = some d) : ∀ n ∈ d.weights P t, n ≤ reachBytes := fun n hn => by
  simpa using List.all_eq_true.1 hsz _ (DataW.weights_mem_each ht hd n hn)
end
end Go.Proofs.Ytjknpmibdkoklaa.Open
