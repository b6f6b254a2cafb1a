/- Functions of the given program as Lean functions, each with its contract, and what they answer; words for it. No condition but those of each. -/
import Derived.Test.YtjknpmibdkoklaaMRS
import Derived.Test.YtjknpmibdkoklaaMR1
import Derived.Test.YtjknpmibdkoklaaMR2
import Derived.Laws.Strings
import Derived.Lib.OthersKept
import Derived.Laws.RangeAny
import Derived.LoopTactic
set_option linter.unusedVariables false
set_option linter.unusedSimpArgs false
set_option maxRecDepth 100000
namespace Go.Proofs.Ytjknpmibdkoklaa.Q
open Go.RowKit Go.Sort Go.Lib Go.Proofs.YtjknpmibdkoklaaW.PrintWords Go.Proofs.YtjknpmibdkoklaaW.PrintLast Go.Proofs.YtjknpmibdkoklaaW.PrintMore
theorem bl_eq (s : ByteArray) : s.toList = bl s := by unfold bl; rw [ByteArray.toList_eq]
theorem bl_lb' (l : List UInt8) : bl (lb l) = l := by simp [bl, lb]
theorem bl_inj {a b : ByteArray} (h : bl a = bl b) : a = b := by rw [← lb_bl a, h, lb_bl]
theorem less_eq (a b : ByteArray) : Op.bytesLess a.toList b.toList = decide (bl a < bl b) := by rw [bytesLess_eq, bl_eq, bl_eq]
theorem ltt {a b c : List UInt8} (h : a < b) (k : b < c) : a < c := List.lt_trans h k
theorem lle {a b : List UInt8} (h : a ≤ b) (k : a ≠ b) : a < b := Classical.byContradiction fun n => k (List.le_antisymm h (List.not_lt.1 n))
abbrev Rise (l : List ByteArray) : Prop := l.Pairwise fun a b => bl a < bl b
theorem compact_snoc (zs : List (List UInt8)) (x : List UInt8) : Lib.compact (zs ++ [x]) = Lib.compact zs ++ (if zs.getLast? = some x then [] else [x]) := by
  unfold Lib.compact
  rw [List.length_append, List.length_singleton, compactUpTo_succ]
  have h1 : ∀ j, j < zs.length → (zs ++ [x]).toArray[j]! = zs.toArray[j]! := fun j hj => by simp [getElem!_pos, hj, List.getElem_append_left hj, show j < zs.length + 1 by omega]
  have h2 : (zs ++ [x]).toArray[zs.length]! = x := by simp
  congr 1
  · unfold compactUpTo
    have e : (List.range zs.length).filter (keeps (zs ++ [x]).toArray) = (List.range zs.length).filter (keeps zs.toArray) := List.filter_congr fun j hj => by
      have := List.mem_range.1 hj
      unfold keeps
      rw [h1 j this, h1 (j - 1) kq1]
    rw [e]
    exact List.map_congr_left fun j hj => h1 j (List.mem_range.1 (List.mem_filter.1 hj).1)
  · rw [h2]
    unfold keeps
    rw [h2]
    cases hz : zs.length with
    | zero =>
      obtain rfl := List.eq_nil_of_length_eq_zero hz
      simp
    | succ n =>
      rw [h1 (n + 1 - 1) kq1]
      have e : zs.getLast? = some zs.toArray[n]! := by rw [List.getLast?_eq_getElem?, hz, List.getElem?_eq_getElem kq1]; simp [getElem!_pos, show n < zs.length by omega]
      rw [show n + 1 - 1 = n from rfl, e]
      generalize zs.toArray[n]! = y
      by_cases hx : x = y
      · subst hx; simp
      · have hx2 : ¬ y = x := fun h => hx h.symm
        simp [hx, hx2]
theorem snoc_ind {α : Type} {P : List α → Prop} (h0 : P []) (h1 : ∀ l x, P l → P (l ++ [x])) (l : List α) : P l := by
  have : ∀ r : List α, P r.reverse := fun r => by
    induction r with
    | nil => exact h0
    | cons x r ih => rw [List.reverse_cons]; exact h1 _ _ ih
  simpa using this l.reverse
theorem compact_spec (zs : List (List UInt8)) : zs.Pairwise (· ≤ ·) → (Lib.compact zs).Pairwise (· < ·) ∧ ∀ y, y ∈ Lib.compact zs ↔ y ∈ zs := by
  induction zs using snoc_ind with
  | h0 => exact fun _ => ⟨List.Pairwise.nil, fun y => Iff.rfl⟩
  | h1 l x ih =>
    intro h
    rw [List.pairwise_append] at h
    obtain ⟨p1, p2⟩ := ih h.1
    rw [compact_snoc]
    split
    · rename_i e
      refine ⟨by simpa using p1, fun y => ?_⟩
      have hx : x ∈ l := List.mem_of_getLast? e
      rw [List.append_nil, p2, List.mem_append, List.mem_singleton]
      constructor
      · exact .inl
      · rintro (k | rfl) <;> assumption
    · rename_i e
      refine ⟨List.pairwise_append.2 ⟨p1, by simp, fun a ha b hb => ?_⟩, fun y => by rw [List.mem_append, List.mem_append, p2]⟩
      obtain rfl := List.mem_singleton.1 hb
      have ha2 := (p2 a).1 ha
      refine lle (h.2.2 a ha2 b (List.mem_singleton_self _)) fun hab => ?_
      subst hab

      cases hl : l.getLast? with
      | none => rw [List.getLast?_eq_none_iff] at hl; subst hl; cases ha2
      | some z =>
        obtain ⟨l', rfl⟩ := List.getLast?_eq_some_iff.1 hl
        have hz : z ≤ a := h.2.2 z (by simp) a (List.mem_singleton_self _)
        rcases List.mem_append.1 ha2 with k | k
        · have := (List.pairwise_append.1 h.1).2.2 a k z (List.mem_singleton_self _)
          exact e (by rw [hl, List.le_antisymm hz this])
        · obtain rfl := List.mem_singleton.1 k
          exact e hl
def canon (l : List ByteArray) : List ByteArray := compactS (sortedS l)
theorem map_bl_lb (l : List (List UInt8)) : (l.map lb).map bl = l := by
  rw [List.map_map]
  exact (congrArg (fun q => List.map q l) (funext fun s => bl_lb' s)).trans (List.map_id l)
theorem mem_sortedS {x : ByteArray} {l : List ByteArray} : x ∈ sortedS l ↔ x ∈ l := by
  unfold sortedS
  rw [List.mem_map]
  constructor
  · rintro ⟨a, ha, rfl⟩
    obtain ⟨b, hb, rfl⟩ := List.mem_map.1 (List.mem_mergeSort.1 ha)
    rwa [lb_bl]
  · exact fun h => ⟨bl x, List.mem_mergeSort.2 (List.mem_map.2 ⟨x, h, rfl⟩), lb_bl x⟩
theorem sortedS_le (l : List ByteArray) : ((sortedS l).map bl).Pairwise (· ≤ ·) := by
  unfold sortedS
  rw [map_bl_lb]
  have := List.pairwise_mergeSort (le := fun x y : List UInt8 => decide (x ≤ y)) (fun a b c h1 h2 => by simp at *; exact List.le_trans h1 h2) (fun a b => by simp; exact List.le_total a b) (l.map bl)
  exact this.imp (fun h => of_decide_eq_true h)
theorem canon_rise (l : List ByteArray) : Rise (canon l) := by
  have h := (compact_spec _ (sortedS_le l)).1
  unfold canon compactS
  rw [Rise, List.pairwise_map]
  exact h.imp (fun {a b} h => by rw [bl_lb', bl_lb']; exact h)
theorem mem_canon {x : ByteArray} {l : List ByteArray} : x ∈ canon l ↔ x ∈ l := by
  have h := (compact_spec _ (sortedS_le l)).2
  unfold canon compactS
  rw [List.mem_map]
  constructor
  · rintro ⟨a, ha, rfl⟩
    obtain ⟨b, hb, rfl⟩ := List.mem_map.1 ((h a).1 ha)
    rw [lb_bl]
    exact mem_sortedS.1 hb
  · exact fun hx => ⟨bl x, (h _).2 (List.mem_map.2 ⟨x, mem_sortedS.2 hx, rfl⟩), lb_bl x⟩
theorem canon_length (l : List ByteArray) : (canon l).length ≤ l.length := by
  unfold canon compactS
  rw [List.length_map]
  exact Nat.le_trans (compact_le _) (by rw [List.length_map, sortedS_length]; exact Nat.le_refl _)
theorem rdOf_nat {α : Type} (d : α) (l : List α) (i : Nat) : rdOf d l (i : Int) = l.getD i d := rfl
end Go.Proofs.Ytjknpmibdkoklaa.Q
namespace Go.Proofs.Ytjknpmibdkoklaa.Q
open Go.RowKit Go.Proofs.YtjknpmibdkoklaaW.PrintWords Go.Proofs.YtjknpmibdkoklaaW.PrintLast Go.Proofs.YtjknpmibdkoklaaW.PrintMore
open Aside0 (mk)
open List (setIfInBounds_toArray set_cons_zero set_cons_succ)
attribute [local go_sem] max2_int min2_int max_two min_two max_three min_three max_four min_four
set_option linter.unusedVariables false
set_option linter.unusedSimpArgs false
attribute [local go_sem] fld99_2 fld103_2 fld160_0 fld160_1
def glyph_Rest.f (k : Nat) (a0 : Int) : Option (Bool) := (glyph_Start.f k a0).bind fun t101 => (if t101 = true then (some true) else (if a0 ≥ 48 then (if a0 ≤ 57 then (some true) else (if a0 = 8242 then (some true) else (if a0 ≥ 8320 then (some (decide (a0 ≤ 8329))) else (some false)))) else (if a0 = 8242 then (some true) else (if a0 ≥ 8320 then (some (decide (a0 ≤ 8329))) else (some false)))))
theorem glyph_Rest.mono : ∀ a0 k, LeO (glyph_Rest.f k a0) (glyph_Rest.f (k + 1) a0) := by
  intro a0 k
  unfold glyph_Rest.f
  repeat' first
      | (with_reducible exact glyph_Start.mono _ _)
      | (with_reducible exact LeO.refl _)
      | (with_reducible exact LeO.none _)
      | (with_reducible refine LeO.ite ?_ ?_)
      | (with_reducible refine LeO.bind ?_ (fun _ => ?_))
      | exact glyph_Start.mono _ _
      | exact LeO.none _
      | refine LeO.ite ?_ ?_
      | refine LeO.bind ?_ (fun _ => ?_)
set_option maxHeartbeats 8000000 in
set_option maxRecDepth 100000 in
theorem glyph_Rest.calls (k : Nat) (a0 : Int) (r : Bool) (w : World) (h : glyph_Rest.f k a0 = some r) :
    Calls Try.prog 78 #[.int .i32 a0] w fun e w' => e = .returned (.bool r) ∧ Drawn0 w w' := by
  have H : ((glyph_Start.f k a0).bind fun t101 => (if t101 = true then (some true) else (if a0 ≥ 48 then (if a0 ≤ 57 then (some true) else (if a0 = 8242 then (some true) else (if a0 ≥ 8320 then (some (decide (a0 ≤ 8329))) else (some false)))) else (if a0 = 8242 then (some true) else (if a0 ≥ 8320 then (some (decide (a0 ≤ 8329))) else (some false)))))) = some r := h
  clear h
  replace H := Option.bind_eq_some_iff.mp H
  obtain ⟨t101, A20, H⟩ := H
  replace H : (if t101 = true then (some true) else (if a0 ≥ 48 then (if a0 ≤ 57 then (some true) else (if a0 = 8242 then (some true) else (if a0 ≥ 8320 then (some (decide (a0 ≤ 8329))) else (some false)))) else (if a0 = 8242 then (some true) else (if a0 ≥ 8320 then (some (decide (a0 ≤ 8329))) else (some false))))) = some r := H
  have A2 := mk A20
  clear A20
  by_cases c3 : t101 = true
  · subst c3
    have H1 : (some true) = some r := by rw [if_pos rfl] at H; exact H
    clear H
    have H := H1
    clear H1
    obtain rfl := Option.some.inj H
    go_enter Try.func78, Try.ntmps78
    go_wp2_with (first | ((with_reducible refine gate_callee (f := 77) rfl ?_); refine goesL_ (some 4) rfl rfl Try.func77 kq0 rfl #[.int .i32 a0] rfl kq7 ?_; (with_reducible refine (glyph_Start.calls k a0 true _ A2.out).mono ?_); rintro e w' ⟨rfl, ⟨nd, rfl⟩⟩; refine ⟨_, rfl, ?_⟩))
    go_ret
    exact ⟨kq3, kq5⟩
  · replace c3 := Bool.eq_false_iff.mpr c3
    subst c3
    have H1 : (if a0 ≥ 48 then (if a0 ≤ 57 then (some true) else (if a0 = 8242 then (some true) else (if a0 ≥ 8320 then (some (decide (a0 ≤ 8329))) else (some false)))) else (if a0 = 8242 then (some true) else (if a0 ≥ 8320 then (some (decide (a0 ≤ 8329))) else (some false)))) = some r := by rw [if_neg (show ¬ (false = true) by decide)] at H; exact H
    clear H
    have H := H1
    clear H1
    replace H := ic_ H; obtain ⟨c4, H⟩ | ⟨c4, H⟩ := H
    · (have c4b0 : decide (48 ≤ a0) = true := decide_eq_true c4); clear c4; replace H := ic_ H; obtain ⟨c5, H⟩ | ⟨c5, H⟩ := H
      · (have c5b0 : decide (a0 ≤ 57) = true := decide_eq_true c5); clear c5; (obtain rfl := Option.some.inj H); (go_enter Try.func78, Try.ntmps78); (go_wp2_with (first | ((with_reducible refine gate_callee (f := 77) rfl ?_); refine goesL_ (some 4) rfl rfl Try.func77 kq0 rfl #[.int .i32 a0] rfl kq7 ?_; (with_reducible refine (glyph_Start.calls k a0 false _ A2.out).mono ?_); rintro e w' ⟨rfl, ⟨nd, rfl⟩⟩; refine ⟨_, rfl, ?_⟩))); go_ret; (exact ⟨kq3, kq5⟩)
      · (have c5b0 : decide (a0 ≤ 57) = false := decide_eq_false c5); clear c5; replace H := ic_ H; obtain ⟨c6, H⟩ | ⟨c6, H⟩ := H
        · (obtain ⟨c6b0, c6b1⟩ := eTn_ c6); clear c6; (obtain rfl := Option.some.inj H); (go_enter Try.func78, Try.ntmps78); (go_wp2_with (first | ((with_reducible refine gate_callee (f := 77) rfl ?_); refine goesL_ (some 4) rfl rfl Try.func77 kq0 rfl #[.int .i32 a0] rfl kq7 ?_; (with_reducible refine (glyph_Start.calls k a0 false _ A2.out).mono ?_); rintro e w' ⟨rfl, ⟨nd, rfl⟩⟩; refine ⟨_, rfl, ?_⟩))); go_ret; (exact ⟨kq3, kq5⟩)
        · (obtain ⟨c6b0, c6b1⟩ := eFn_ c6); replace H := ic_ H; obtain ⟨c7, H⟩ | ⟨c7, H⟩ := H
          · (have c7b0 : decide (8320 ≤ a0) = true := decide_eq_true c7); clear c7; (obtain rfl := Option.some.inj H); (go_enter Try.func78, Try.ntmps78); (go_wp2_with (first | ((with_reducible refine gate_callee (f := 77) rfl ?_); refine goesL_ (some 4) rfl rfl Try.func77 kq0 rfl #[.int .i32 a0] rfl kq7 ?_; (with_reducible refine (glyph_Start.calls k a0 false _ A2.out).mono ?_); rintro e w' ⟨rfl, ⟨nd, rfl⟩⟩; refine ⟨_, rfl, ?_⟩))); go_ret; (exact ⟨kq3, kq5⟩)
          · (have c7b0 : decide (8320 ≤ a0) = false := decide_eq_false c7); clear c7; (obtain rfl := Option.some.inj H); (go_enter Try.func78, Try.ntmps78); (go_wp2_with (first | ((with_reducible refine gate_callee (f := 77) rfl ?_); refine goesL_ (some 4) rfl rfl Try.func77 kq0 rfl #[.int .i32 a0] rfl kq7 ?_; (with_reducible refine (glyph_Start.calls k a0 false _ A2.out).mono ?_); rintro e w' ⟨rfl, ⟨nd, rfl⟩⟩; refine ⟨_, rfl, ?_⟩))); go_ret; (exact ⟨kq3, kq5⟩)
    · (have c4b0 : decide (48 ≤ a0) = false := decide_eq_false c4); clear c4; replace H := ic_ H; obtain ⟨c8, H⟩ | ⟨c8, H⟩ := H
      · (obtain ⟨c8b0, c8b1⟩ := eTn_ c8); clear c8; (obtain rfl := Option.some.inj H); (go_enter Try.func78, Try.ntmps78); (go_wp2_with (first | ((with_reducible refine gate_callee (f := 77) rfl ?_); refine goesL_ (some 4) rfl rfl Try.func77 kq0 rfl #[.int .i32 a0] rfl kq7 ?_; (with_reducible refine (glyph_Start.calls k a0 false _ A2.out).mono ?_); rintro e w' ⟨rfl, ⟨nd, rfl⟩⟩; refine ⟨_, rfl, ?_⟩))); go_ret; (exact ⟨kq3, kq5⟩)
      · (obtain ⟨c8b0, c8b1⟩ := eFn_ c8); replace H := ic_ H; obtain ⟨c9, H⟩ | ⟨c9, H⟩ := H
        · (have c9b0 : decide (8320 ≤ a0) = true := decide_eq_true c9); clear c9; (obtain rfl := Option.some.inj H); (go_enter Try.func78, Try.ntmps78); (go_wp2_with (first | ((with_reducible refine gate_callee (f := 77) rfl ?_); refine goesL_ (some 4) rfl rfl Try.func77 kq0 rfl #[.int .i32 a0] rfl kq7 ?_; (with_reducible refine (glyph_Start.calls k a0 false _ A2.out).mono ?_); rintro e w' ⟨rfl, ⟨nd, rfl⟩⟩; refine ⟨_, rfl, ?_⟩))); go_ret; (exact ⟨kq3, kq5⟩)
        · (have c9b0 : decide (8320 ≤ a0) = false := decide_eq_false c9); clear c9; (obtain rfl := Option.some.inj H); (go_enter Try.func78, Try.ntmps78); (go_wp2_with (first | ((with_reducible refine gate_callee (f := 77) rfl ?_); refine goesL_ (some 4) rfl rfl Try.func77 kq0 rfl #[.int .i32 a0] rfl kq7 ?_; (with_reducible refine (glyph_Start.calls k a0 false _ A2.out).mono ?_); rintro e w' ⟨rfl, ⟨nd, rfl⟩⟩; refine ⟨_, rfl, ?_⟩))); go_ret; (exact ⟨kq3, kq5⟩)
def glyph_Reserved.f (a0 : ByteArray) : Option (Bool) := if a0.toList = ([97, 110, 100] : List UInt8) then (some true) else (if a0.toList = ([111, 114] : List UInt8) then (some true) else (if a0.toList = ([110, 111, 116] : List UInt8) then (some true) else (if a0.toList = ([101, 120] : List UInt8) then (some true) else (if a0.toList = ([97, 108, 108] : List UInt8) then (some true) else (if a0.toList = ([109, 111, 100] : List UInt8) then (some true) else (if a0.toList = ([116, 114, 117, 101] : List UInt8) then (some true) else (if a0.toList = ([102, 97, 108, 115, 101] : List UInt8) then (some true) else (some false))))))))
set_option maxHeartbeats 8000000 in
set_option maxRecDepth 100000 in
theorem glyph_Reserved.calls (a0 : ByteArray) (r : Bool) (w : World) (h : glyph_Reserved.f a0 = some r) :
    Calls Try.prog 79 #[.string a0] w fun e w' => e = .returned (.bool r) ∧ Drawn0 w w' := by
  have H : (if a0.toList = ([97, 110, 100] : List UInt8) then (some true) else (if a0.toList = ([111, 114] : List UInt8) then (some true) else (if a0.toList = ([110, 111, 116] : List UInt8) then (some true) else (if a0.toList = ([101, 120] : List UInt8) then (some true) else (if a0.toList = ([97, 108, 108] : List UInt8) then (some true) else (if a0.toList = ([109, 111, 100] : List UInt8) then (some true) else (if a0.toList = ([116, 114, 117, 101] : List UInt8) then (some true) else (if a0.toList = ([102, 97, 108, 115, 101] : List UInt8) then (some true) else (some false))))))))) = some r := h
  clear h
  by_cases c2 : a0.toList = ([97, 110, 100] : List UInt8)
  · rw [if_pos c2] at H
    have c2b0 := eT_ c2
    have c2b1 := nF_ c2
    clear c2
    obtain rfl := Option.some.inj H
    go_enter Try.func79, Try.ntmps79
    go_wp2
    go_ret
    exact ⟨kq3, kq5⟩
  · rw [if_neg c2] at H
    have c2b0 := eF_ c2
    have c2b1 := nT_ c2
    replace H := ic_ H; obtain ⟨c3, H⟩ | ⟨c3, H⟩ := H
    · (obtain ⟨c3b0, c3b1⟩ := eTn_ c3); clear c3; (obtain rfl := Option.some.inj H); (go_enter Try.func79, Try.ntmps79); go_wp2; go_ret; (exact ⟨kq3, kq5⟩)
    · (obtain ⟨c3b0, c3b1⟩ := eFn_ c3); replace H := ic_ H; obtain ⟨c4, H⟩ | ⟨c4, H⟩ := H
      · (obtain ⟨c4b0, c4b1⟩ := eTn_ c4); clear c4; (obtain rfl := Option.some.inj H); (go_enter Try.func79, Try.ntmps79); go_wp2; go_ret; (exact ⟨kq3, kq5⟩)
      · (obtain ⟨c4b0, c4b1⟩ := eFn_ c4); replace H := ic_ H; obtain ⟨c5, H⟩ | ⟨c5, H⟩ := H
        · (obtain ⟨c5b0, c5b1⟩ := eTn_ c5); clear c5; (obtain rfl := Option.some.inj H); (go_enter Try.func79, Try.ntmps79); go_wp2; go_ret; (exact ⟨kq3, kq5⟩)
        · (obtain ⟨c5b0, c5b1⟩ := eFn_ c5); replace H := ic_ H; obtain ⟨c6, H⟩ | ⟨c6, H⟩ := H
          · (obtain ⟨c6b0, c6b1⟩ := eTn_ c6); clear c6; (obtain rfl := Option.some.inj H); (go_enter Try.func79, Try.ntmps79); go_wp2; go_ret; (exact ⟨kq3, kq5⟩)
          · (obtain ⟨c6b0, c6b1⟩ := eFn_ c6); replace H := ic_ H; obtain ⟨c7, H⟩ | ⟨c7, H⟩ := H
            · (obtain ⟨c7b0, c7b1⟩ := eTn_ c7); clear c7; (obtain rfl := Option.some.inj H); (go_enter Try.func79, Try.ntmps79); go_wp2; go_ret; (exact ⟨kq3, kq5⟩)
            · (obtain ⟨c7b0, c7b1⟩ := eFn_ c7); replace H := ic_ H; obtain ⟨c8, H⟩ | ⟨c8, H⟩ := H
              · (obtain ⟨c8b0, c8b1⟩ := eTn_ c8); clear c8; (obtain rfl := Option.some.inj H); (go_enter Try.func79, Try.ntmps79); go_wp2; go_ret; (exact ⟨kq3, kq5⟩)
              · (obtain ⟨c8b0, c8b1⟩ := eFn_ c8); replace H := ic_ H; obtain ⟨c9, H⟩ | ⟨c9, H⟩ := H
                · (obtain ⟨c9b0, c9b1⟩ := eTn_ c9); clear c9; (obtain rfl := Option.some.inj H); (go_enter Try.func79, Try.ntmps79); go_wp2; go_ret; (exact ⟨kq3, kq5⟩)
                · (obtain ⟨c9b0, c9b1⟩ := eFn_ c9); (obtain rfl := Option.some.inj H); (go_enter Try.func79, Try.ntmps79); go_wp2; go_ret; (exact ⟨kq3, kq5⟩)
end Go.Proofs.Ytjknpmibdkoklaa.Q
set_option maxRecDepth 100000
namespace Go.Proofs.Ytjknpmibdkoklaa.Q
open Go.RowKit Go.Proofs.YtjknpmibdkoklaaW.PrintWords Go.Proofs.YtjknpmibdkoklaaW.PrintLast Go.Proofs.YtjknpmibdkoklaaW.PrintMore
open Aside0 (mk)
def startB (r : Int) : Bool := decide ((65 ≤ r ∧ r ≤ 90) ∨ (97 ≤ r ∧ r ≤ 122) ∨ r = 95 ∨ (913 ≤ r ∧ r ≤ 929) ∨ (931 ≤ r ∧ r ≤ 937) ∨ (945 ≤ r ∧ r ≤ 969))
def restB (r : Int) : Bool := startB r || decide ((48 ≤ r ∧ r ≤ 57) ∨ r = 8242 ∨ (8320 ≤ r ∧ r ≤ 8329))
theorem start_j3 (k : Nat) (r : Int) (b : Bool) : glyph_Start.j3 (k + 1) r b = some (b || decide (945 ≤ r ∧ r ≤ 969)) := by
  simp only [glyph_Start.j3]
  cases b
  · by_cases h1 : r ≥ 945 <;> by_cases h2 : r ≤ 969 <;> simp [h1, h2] <;> omega
  · simp
theorem start_j2 (k : Nat) (r : Int) (b : Bool) : glyph_Start.j2 (k + 2) r b = some (b || decide ((931 ≤ r ∧ r ≤ 937) ∨ (945 ≤ r ∧ r ≤ 969))) := by
  simp only [glyph_Start.j2, start_j3]
  cases b
  · by_cases h1 : r ≥ 931 <;> by_cases h2 : r ≤ 937 <;> simp [h1, h2] <;> omega
  · simp
theorem start_j1 (k : Nat) (r : Int) (b : Bool) : glyph_Start.j1 (k + 3) r b = some (b || decide ((913 ≤ r ∧ r ≤ 929) ∨ (931 ≤ r ∧ r ≤ 937) ∨ (945 ≤ r ∧ r ≤ 969))) := by
  simp only [glyph_Start.j1, start_j2]
  cases b
  · by_cases h1 : r ≥ 913 <;> by_cases h2 : r ≤ 929 <;> simp [h1, h2] <;> omega
  · simp
theorem start_j0 (k : Nat) (r : Int) (b : Bool) : glyph_Start.j0 (k + 4) r b = some (b || decide ((97 ≤ r ∧ r ≤ 122) ∨ r = 95 ∨ (913 ≤ r ∧ r ≤ 929) ∨ (931 ≤ r ∧ r ≤ 937) ∨ (945 ≤ r ∧ r ≤ 969))) := by
  simp only [glyph_Start.j0, start_j1]
  cases b
  · by_cases h1 : r ≥ 97 <;> by_cases h2 : r ≤ 122 <;> by_cases h3 : r = 95 <;> simp [h1, h2, h3] <;> omega
  · simp
theorem start_ev (k : Nat) (r : Int) : glyph_Start.f (k + 4) r = some (startB r) := by
  simp only [glyph_Start.f, start_j0, startB]
  by_cases h1 : r ≥ 65 <;> by_cases h2 : r ≤ 90 <;> simp [h1, h2] <;> omega
theorem start_at (r : Int) : glyph_Start.f 6 r = some (startB r) := start_ev 2 r
theorem rest_ev (k : Nat) (r : Int) : glyph_Rest.f (k + 4) r = some (restB r) := by
  unfold glyph_Rest.f
  rw [start_ev]
  unfold restB
  cases h : startB r
  · simp only [Option.bind_some, Bool.false_or]
    by_cases h1 : r ≥ 48 <;> by_cases h2 : r ≤ 57 <;> by_cases h3 : r = 8242 <;> by_cases h4 : r ≥ 8320 <;> by_cases h5 : r ≤ 8329 <;> simp [h1, h2, h3, h4, h5] <;> omega
  · simp
theorem rest_at (r : Int) : glyph_Rest.f 6 r = some (restB r) := rest_ev 2 r
def reservedB (s : ByteArray) : Bool := (glyph_Reserved.f s).getD false
theorem reserved_at (s : ByteArray) : glyph_Reserved.f s = some (reservedB s) := by
  unfold reservedB glyph_Reserved.f
  repeat' split
  all_goals rfl
theorem decode_pos (s : ByteArray) (p : Nat) (h : p < s.size) : 1 ≤ (Utf8.decode s p).2 := by
  by_cases ha : (s[p]'h).toNat < 128
  · rw [decode_ascii s p h ha]
    exact Nat.le_refl 1
  · exact (decode_high s p h kq1).2
def nameGo (s : ByteArray) (pos : Nat) (n : Int) : Bool × Int :=
  if h : pos < s.size then
    if ((pos == 0 && !startB ((Utf8.decode s pos).1 : Nat)) || !restB ((Utf8.decode s pos).1 : Nat)) = true then (false, 0) else nameGo s (pos + (Utf8.decode s pos).2) (wrap64 (n + 1))
  else (true, n)
termination_by s.size - pos
decreasing_by
  have := decode_pos s pos h
  omega
def nameB (s : ByteArray) : Bool := (nameGo s 0 0).1 && decide ((nameGo s 0 0).2 > 0) && decide ((nameGo s 0 0).2 ≤ 16) && !reservedB s
def glyph_Name.f (a0 : ByteArray) : Option Bool := some (nameB a0)
theorem name_end {s : ByteArray} {pos : Nat} {n : Int} (h : ¬ pos < s.size) (e : nameGo s pos n = nameGo s 0 0) : nameGo s 0 0 = (true, n) := by
  rw [← e, nameGo, dif_neg h]
theorem name_bad {s : ByteArray} {pos : Nat} {n : Int} (h : pos < s.size) (e : nameGo s pos n = nameGo s 0 0) (hb : ((pos == 0 && !startB ((Utf8.decode s pos).1 : Nat)) || !restB ((Utf8.decode s pos).1 : Nat)) = true) : nameB s = false := by
  unfold nameB
  rw [← e, nameGo, dif_pos h, if_pos hb]
  rfl
theorem name_go {s : ByteArray} {pos : Nat} {n : Int} (h : pos < s.size) (e : nameGo s pos n = nameGo s 0 0) (hb : ((pos == 0 && !startB ((Utf8.decode s pos).1 : Nat)) || !restB ((Utf8.decode s pos).1 : Nat)) = false) : nameGo s (pos + (Utf8.decode s pos).2) (wrap64 (n + 1)) = nameGo s 0 0 := by
  rw [← e]
  conv => rhs; rw [nameGo, dif_pos h, if_neg (by rw [hb]; decide)]
theorem name_val {s : ByteArray} {m : Int} (e : nameGo s 0 0 = (true, m)) : nameB s = (decide (m > 0) && decide (m ≤ 16) && !reservedB s) := by
  unfold nameB
  rw [e]
  rfl
theorem below_draw0 {B : Nat} {a w w' : World} (h : Below B a w) (hd : Drawn0 w w') : Below B a w' := by
  obtain ⟨n, rfl⟩ := hd
  exact pw_below_drewN h n
set_option maxHeartbeats 4000000 in
theorem glyph_Name.calls (a0 : ByteArray) (r : Bool) (w : World) (h : glyph_Name.f a0 = some r) :
    Calls Try.prog 41 #[.string a0] w fun e w' => e = .returned (.bool r) ∧ Below w.heap.size w w' := by
  have HR := mk (Option.some.inj h)
  clear h
  go_enter Try.func41, Try.ntmps41
  go_wp2
  go_loopw [3] (fun n wr => ∃ (pos : Nat) (m : Int), n = .int .i64 m ∧ Aside0 (nameGo a0 pos m = nameGo a0 0 0) ∧ Aside0 (wr.heap[w.heap.size]? = some (.stringIter a0 pos)) ∧ Aside0 (Below w.heap.size w wr)) (fun _ wr => a0.size - wr.iterPos w.heap.size)
  case atStart => exact ⟨0, 0, rfl, ⟨rfl⟩, ⟨World.iter_heap w a0 0⟩, ⟨below_alloc (Below.refl _ _) _⟩⟩
  case round =>
    obtain ⟨pos, m, rfl, HN, HI, HB⟩ := hrel
    by_cases hp : pos < a0.size
    · have hnx := fun ty => Lib.run_next_any_at (P := Try.prog) wr w.heap.size a0 pos ty HI.out hp
      have HI2 := mk (Lib.iterAt_heap wr w.heap.size a0 pos (pos + (Utf8.decode a0 pos).2) HI.out)
      have HB2 := mk (Lib.below_iterAt HB.out (Nat.le_refl _) a0 (pos + (Utf8.decode a0 pos).2))
      have hd := decode_pos a0 pos hp
      have HM := mk (show a0.size - (pos + (Utf8.decode a0 pos).2) < a0.size - pos by omega)
      have HG := mk (name_go hp HN.out)
      have HX := mk (name_bad hp HN.out)
      have HS := mk (start_at ((Utf8.decode a0 pos).1 : Nat))
      have HT := mk (rest_at ((Utf8.decode a0 pos).1 : Nat))
      clear HN HB hd hp
      have hz : (pos == 0) = ((pos : Int) == 0) := by
        by_cases h : pos = 0
        · subst h; rfl
        · rw [beq_eq_false_iff_ne.2 h, beq_eq_false_iff_ne.2 kq1]
      rw [hz] at HG HX
      clear hz
      generalize startB ((Utf8.decode a0 pos).1 : Nat) = sb at HS HG HX
      generalize restB ((Utf8.decode a0 pos).1 : Nat) = rb at HT HG HX
      cases hz : ((pos : Int) == 0) <;> cases sb <;> cases rb <;> rw [hz] at HG HX
      all_goals
        go_wp2_with (first | (go_at_call 77; (with_reducible refine (glyph_Start.calls 6 _ _ _ HS.out).mono ?_); rintro e w' ⟨rfl, ⟨nd, rfl⟩⟩) | (go_at_call 78; (with_reducible refine (glyph_Rest.calls 6 _ _ _ HT.out).mono ?_); rintro e w' ⟨rfl, ⟨nd, rfl⟩⟩))
        first
          | (go_ret; exact ⟨by rw [← HR.out, HX.out rfl]; rfl, by repeat (first | exact HB2.out | apply pw_below_drewN)⟩)
          | (go_roundw; (case rel => exact ⟨_, _, rfl, ⟨HG.out rfl⟩, ⟨HI2.out⟩, ⟨by repeat (first | exact HB2.out | apply pw_below_drewN)⟩⟩); (case measure => simpa [World.iterPos, HI.out, HI2.out] using HM.out))
    · have hnx := fun ty => Lib.run_next_end_at (P := Try.prog) wr w.heap.size a0 pos ty HI.out hp
      have HE := mk (name_end hp HN.out)
      have HV := mk (reserved_at a0)
      clear hp
      go_wp2_with (go_at_call 79; (with_reducible refine (glyph_Reserved.calls a0 _ _ HV.out).mono ?_); rintro e w' ⟨rfl, HD⟩)
      all_goals go_ret
      · exact ⟨by rw [← HR.out, name_val HE.out, decide_eq_true (show m > 0 by assumption), decide_eq_true (show m ≤ 16 by assumption)]; rfl, below_draw0 HB.out HD⟩
      · exact ⟨by rw [← HR.out, name_val HE.out, decide_eq_true (show m > 0 by assumption), decide_eq_false (show ¬ m ≤ 16 by omega)]; rfl, HB.out⟩
      · exact ⟨by rw [← HR.out, name_val HE.out, decide_eq_false (show ¬ m > 0 by omega)]; rfl, HB.out⟩
end Go.Proofs.Ytjknpmibdkoklaa.Q
namespace Go.Proofs.Ytjknpmibdkoklaa.Q
open Go.RowKit Go.Proofs.YtjknpmibdkoklaaW.PrintWords Go.Proofs.YtjknpmibdkoklaaW.PrintLast Go.Proofs.YtjknpmibdkoklaaW.PrintMore
open Aside0 (mk)
open List (setIfInBounds_toArray set_cons_zero set_cons_succ)
attribute [local go_sem] max2_int min2_int max_two min_two max_three min_three max_four min_four
set_option linter.unusedVariables false
set_option linter.unusedSimpArgs false
attribute [local go_sem] fld99_2 fld103_2 fld160_0 fld160_1
def glyph_Rises.l0 : Nat → List ByteArray → List ByteArray → Int → Int → Option (Bool)
  | 0, _, _, _, _ => none
  | k + 1, x0, x5, x6, x7 => if x7 < x6 then (if 0 ≤ x7 then (if x7 < (x5.length : Int) then ((glyph_Name.f (rdOf ByteArray.empty x5 x7)).bind fun t537 => (if t537 = true then (if x7 > 0 then (if 0 ≤ (wrap64 (x7 - 1)) then (if (wrap64 (x7 - 1)) < (x0.length : Int) then (if ((Op.bytesLess ((rdOf ByteArray.empty x0 (wrap64 (x7 - 1))).toList) ((rdOf ByteArray.empty x5 x7).toList)) = true) then (glyph_Rises.l0 k x0 x5 x6 (wrap64 (x7 + 1))) else (some false)) else (none)) else (none)) else (glyph_Rises.l0 k x0 x5 x6 (wrap64 (x7 + 1)))) else (some false))) else (none)) else (none)) else (some true)
def glyph_Rises.f (k : Nat) (l0 : List ByteArray) : Option (Bool) := glyph_Rises.l0 k l0 l0 (l0.length : Int) 0
theorem glyph_Rises.mono_l : ∀ k, (∀ y0 y1 y2 y3, LeO (glyph_Rises.l0 k y0 y1 y2 y3) (glyph_Rises.l0 (k + 1) y0 y1 y2 y3))
  | 0 => fun _ _ _ _ r h => by simp [glyph_Rises.l0] at h
  | k + 1 => by
    have ih0 := glyph_Rises.mono_l k
    · intro y0 y1 y2 y3; (unfold glyph_Rises.l0)
      repeat' first
      | (with_reducible exact ih0 _ _ _ _)
      | (with_reducible exact LeO.refl _)
      | (with_reducible exact LeO.none _)
      | (with_reducible refine LeO.ite ?_ ?_)
      | (with_reducible refine LeO.bind ?_ (fun _ => ?_))
      | exact ih0 _ _ _ _
      | exact LeO.none _
      | refine LeO.ite ?_ ?_
      | refine LeO.bind ?_ (fun _ => ?_)
theorem glyph_Rises.mono : ∀ a0 k, LeO (glyph_Rises.f k a0) (glyph_Rises.f (k + 1) a0) := by
  intro a0 k
  have ih0 := glyph_Rises.mono_l k
  unfold glyph_Rises.f
  repeat' first
      | (with_reducible exact ih0 _ _ _ _)
      | (with_reducible exact LeO.refl _)
      | (with_reducible exact LeO.none _)
      | (with_reducible refine LeO.ite ?_ ?_)
      | (with_reducible refine LeO.bind ?_ (fun _ => ?_))
      | exact ih0 _ _ _ _
      | exact LeO.none _
      | refine LeO.ite ?_ ?_
      | refine LeO.bind ?_ (fun _ => ?_)
set_option maxHeartbeats 8000000 in
set_option maxRecDepth 100000 in
theorem glyph_Rises.calls (k : Nat) (A0 : Option Addr) (c0 : Nat) (l0 : List ByteArray) (r : Bool) (w : World) (hr0 : Kd.C Kd.string w A0 l0.length l0) (hc0 : l0.length ≤ c0) (h : glyph_Rises.f k l0 = some r) :
    Calls Try.prog 25 #[.slice A0 l0.length c0] w fun e w' => e = .returned (.bool r) ∧ Below w.heap.size w w' := by
  have HR0 := mk hr0
  have HC0 := mk hc0
  clear hr0 hc0
  have HB := mk (Below.refl w.heap.size w)
  have H : (glyph_Rises.l0 k l0 l0 (l0.length : Int) 0) = some r := h
  clear h
  have H' := mk H
  clear H
  go_enter Try.func25, Try.ntmps25
  go_wp2
  go_loopg [7] k (fun kq v7 w' => ∃ (x7_1 : Int), v7 = .int .i64 x7_1 ∧ Aside0 (glyph_Rises.l0 kq l0 l0 (l0.length : Int) x7_1 = some r) ∧ Aside0 (kq ≤ k) ∧ Aside0 (Below w.heap.size w w'))
  case atStart => exact ⟨(0), kq3, H', ⟨Nat.le_refl _⟩, ⟨kq9⟩⟩
  case round =>
    clear H'
    obtain ⟨x7_1, rfl, HA, HK1, HB⟩ := hrel
    cases gk with
    | zero => exact absurd HA.out (by simp [glyph_Rises.l0])
    | succ k1 =>
      (have H := HA.out); clear HA; (simp only [glyph_Rises.l0] at H); replace H := ic_ H; obtain ⟨c2, H⟩ | ⟨c2, H⟩ := H
      · (have c2b0 : decide (x7_1 < (l0.length : Int)) = true := decide_eq_true c2); clear c2; replace H := ic_ H; obtain ⟨c3, H⟩ | ⟨c3, H⟩ := H
        · (have c3b0 : decide (0 ≤ x7_1) = true := decide_eq_true c3); clear c3; replace H := ic_ H; obtain ⟨c4, H⟩ | ⟨c4, H⟩ := H
          · (have c4b0 : decide (x7_1 < (l0.length : Int)) = true := decide_eq_true c4); clear c4; (replace H := Option.bind_eq_some_iff.mp H); (obtain ⟨t537, A50, H⟩ := H); (replace H : (if t537 = true then (if x7_1 > 0 then (if 0 ≤ (wrap64 (x7_1 - 1)) then (if (wrap64 (x7_1 - 1)) < (l0.length : Int) then (if ((Op.bytesLess ((rdOf ByteArray.empty l0 (wrap64 (x7_1 - 1))).toList) ((rdOf ByteArray.empty l0 x7_1).toList)) = true) then (glyph_Rises.l0 k1 l0 l0 (l0.length : Int) (wrap64 (x7_1 + 1))) else (some false)) else (none)) else (none)) else (glyph_Rises.l0 k1 l0 l0 (l0.length : Int) (wrap64 (x7_1 + 1)))) else (some false)) = some r := H); (have A5 := mk A50); clear A50; (by_cases c6 : t537 = true)
            · subst c6; (have H1 : (if x7_1 > 0 then (if 0 ≤ (wrap64 (x7_1 - 1)) then (if (wrap64 (x7_1 - 1)) < (l0.length : Int) then (if ((Op.bytesLess ((rdOf ByteArray.empty l0 (wrap64 (x7_1 - 1))).toList) ((rdOf ByteArray.empty l0 x7_1).toList)) = true) then (glyph_Rises.l0 k1 l0 l0 (l0.length : Int) (wrap64 (x7_1 + 1))) else (some false)) else (none)) else (none)) else (glyph_Rises.l0 k1 l0 l0 (l0.length : Int) (wrap64 (x7_1 + 1)))) = some r := by rw [if_pos rfl] at H; exact H); clear H; (have H := H1); clear H1; replace H := ic_ H; obtain ⟨c7, H⟩ | ⟨c7, H⟩ := H
              · (have c7b0 : decide (0 < x7_1) = true := decide_eq_true c7); clear c7; (obtain ⟨ji8, hji8⟩ : ∃ j_ : Int, (wrap64 (x7_1 - 1)) = j_ := ⟨_, rfl⟩); (replace H : (if 0 ≤ (ji8) then (if (ji8) < (l0.length : Int) then (if ((Op.bytesLess ((rdOf ByteArray.empty l0 (ji8)).toList) ((rdOf ByteArray.empty l0 x7_1).toList)) = true) then (glyph_Rises.l0 k1 l0 l0 (l0.length : Int) (wrap64 (x7_1 + 1))) else (some false)) else (none)) else (none)) = some r := by first | (rw [hji8] at H; exact H) | (simp only [hji8] at H ⊢; exact H)); ((try rw [hji8] at A5)); (have hji8w : (IntKind.i64.wrap (x7_1 - 1)) = ji8 := (i64_w _).trans hji8); replace H := ic_ H; obtain ⟨c9, H⟩ | ⟨c9, H⟩ := H
                · (have c9b0 : decide (0 ≤ (ji8)) = true := decide_eq_true c9); clear c9; replace H := ic_ H; obtain ⟨c10, H⟩ | ⟨c10, H⟩ := H
                  · (have c10b0 := decide_eq_true c10); clear c10; replace H := ic_ H; obtain ⟨c11, H⟩ | ⟨c11, H⟩ := H
                    · (have c11b0 : (Op.bytesLess ((rdOf ByteArray.empty l0 (ji8)).toList) ((rdOf ByteArray.empty l0 x7_1).toList)) = true := c11); clear c11; (have H' := mk H); clear H; (have p536 : 0 ≤ (x7_1 : Int) := of_decide_eq_true kq8); (have q536 : x7_1 < (l0.length : Int) := of_decide_eq_true kq8); (obtain ⟨ad536, e536, hx536_0⟩ := Kd.at_string HR0.out x7_1 p536 q536); cases e536; (replace hx536_0 := hc_ HB hx536_0); replace p536 := eq_true p536; replace q536 := eq_true q536; (go_wp2_with (first | ((with_reducible refine gate_callee (f := 41) rfl ?_); refine goesL_ (some 13) rfl rfl Try.func41 kq0 rfl #[.string (rdOf ByteArray.empty l0 x7_1)] rfl kq7 ?_; (with_reducible refine (glyph_Name.calls (rdOf ByteArray.empty l0 x7_1) true _ A5.out).mono ?_); rintro e w12 ⟨rfl, hb⟩; refine ⟨_, rfl, ?_⟩; replace HB := mk (below_step kq9 hb); have p538 : 0 ≤ ((ji8) : Int) := of_decide_eq_true kq8; have q538 : (ji8) < (l0.length : Int) := of_decide_eq_true kq8; obtain ⟨ad538, e538, hx538_0⟩ := Kd.at_string HR0.out (ji8) p538 q538; obtain rfl : ad536 = ad538 := (by injection e538); replace hx538_0 := hc_ HB hx538_0; replace p538 := eq_true p538; replace q538 := eq_true q538))); (go_roundg k1)
                      case measure => have := HK1.out; omega
                      case rel => exact ⟨(wrap64 (x7_1 + 1)), kq3, H', ⟨by have := HK1.out; omega⟩, ⟨kq9⟩⟩
                    · (have c11b0 : (Op.bytesLess ((rdOf ByteArray.empty l0 (ji8)).toList) ((rdOf ByteArray.empty l0 x7_1).toList)) = false := by simpa using c11); clear c11; (obtain rfl := Option.some.inj H); (have p536 : 0 ≤ (x7_1 : Int) := of_decide_eq_true kq8); (have q536 : x7_1 < (l0.length : Int) := of_decide_eq_true kq8); (obtain ⟨ad536, e536, hx536_0⟩ := Kd.at_string HR0.out x7_1 p536 q536); cases e536; (replace hx536_0 := hc_ HB hx536_0); replace p536 := eq_true p536; replace q536 := eq_true q536; (go_wp2_with (first | ((with_reducible refine gate_callee (f := 41) rfl ?_); refine goesL_ (some 13) rfl rfl Try.func41 kq0 rfl #[.string (rdOf ByteArray.empty l0 x7_1)] rfl kq7 ?_; (with_reducible refine (glyph_Name.calls (rdOf ByteArray.empty l0 x7_1) true _ A5.out).mono ?_); rintro e w13 ⟨rfl, hb⟩; refine ⟨_, rfl, ?_⟩; replace HB := mk (below_step kq9 hb); have p538 : 0 ≤ ((ji8) : Int) := of_decide_eq_true kq8; have q538 : (ji8) < (l0.length : Int) := of_decide_eq_true kq8; obtain ⟨ad538, e538, hx538_0⟩ := Kd.at_string HR0.out (ji8) p538 q538; obtain rfl : ad536 = ad538 := (by injection e538); replace hx538_0 := hc_ HB hx538_0; replace p538 := eq_true p538; replace q538 := eq_true q538))); go_ret; (exact ⟨by first | rfl | (simp [errW_none, errW_some] <;> rfl) | (simp only [← hji8]; first | rfl | (simp [errW_none, errW_some] <;> rfl)) | (simp [*, errW_none, errW_some] <;> rfl), kq9⟩)
                  · (exact absurd H (by simp))
                · (exact absurd H (by simp))
              · (have c7b0 : decide (0 < x7_1) = false := decide_eq_false c7); clear c7; (have H' := mk H); clear H; (have p536 : 0 ≤ (x7_1 : Int) := of_decide_eq_true kq8); (have q536 : x7_1 < (l0.length : Int) := of_decide_eq_true kq8); (obtain ⟨ad536, e536, hx536_0⟩ := Kd.at_string HR0.out x7_1 p536 q536); cases e536; (replace hx536_0 := hc_ HB hx536_0); replace p536 := eq_true p536; replace q536 := eq_true q536; (go_wp2_with (first | ((with_reducible refine gate_callee (f := 41) rfl ?_); refine goesL_ (some 13) rfl rfl Try.func41 kq0 rfl #[.string (rdOf ByteArray.empty l0 x7_1)] rfl kq7 ?_; (with_reducible refine (glyph_Name.calls (rdOf ByteArray.empty l0 x7_1) true _ A5.out).mono ?_); rintro e w14 ⟨rfl, hb⟩; refine ⟨_, rfl, ?_⟩; replace HB := mk (below_step kq9 hb)))); (go_roundg k1)
                case measure => have := HK1.out; omega
                case rel => exact ⟨(wrap64 (x7_1 + 1)), kq3, H', ⟨by have := HK1.out; omega⟩, ⟨kq9⟩⟩
            · (replace c6 := Bool.eq_false_iff.mpr c6); subst c6; (have H1 : (some false) = some r := by rw [if_neg (show ¬ (false = true) by decide)] at H; exact H); clear H; (have H := H1); clear H1; (obtain rfl := Option.some.inj H); (have p536 : 0 ≤ (x7_1 : Int) := of_decide_eq_true kq8); (have q536 : x7_1 < (l0.length : Int) := of_decide_eq_true kq8); (obtain ⟨ad536, e536, hx536_0⟩ := Kd.at_string HR0.out x7_1 p536 q536); cases e536; (replace hx536_0 := hc_ HB hx536_0); replace p536 := eq_true p536; replace q536 := eq_true q536; (go_wp2_with (first | ((with_reducible refine gate_callee (f := 41) rfl ?_); refine goesL_ (some 13) rfl rfl Try.func41 kq0 rfl #[.string (rdOf ByteArray.empty l0 x7_1)] rfl kq7 ?_; (with_reducible refine (glyph_Name.calls (rdOf ByteArray.empty l0 x7_1) false _ A5.out).mono ?_); rintro e w15 ⟨rfl, hb⟩; refine ⟨_, rfl, ?_⟩; replace HB := mk (below_step kq9 hb)))); go_ret; (exact ⟨kq12, kq9⟩)
          · (exact absurd H (by simp))
        · (exact absurd H (by simp))
      · (have c2b0 : decide (x7_1 < (l0.length : Int)) = false := decide_eq_false c2); clear c2; (obtain rfl := Option.some.inj H); go_wp2; go_ret; (exact ⟨kq12, kq9⟩)
end Go.Proofs.Ytjknpmibdkoklaa.Q
namespace Go.Proofs.Ytjknpmibdkoklaa.Q
open Go.RowKit Go.Proofs.YtjknpmibdkoklaaW.PrintWords Go.Proofs.YtjknpmibdkoklaaW.PrintLast Go.Proofs.YtjknpmibdkoklaaW.PrintMore
theorem w64 {a : Int} (h0 : -9223372036854775808 ≤ a) (h1 : a ≤ 9223372036854775807) : wrap64 a = a := by unfold wrap64; omega
section
variable {s : ByteArray} {p : Nat} (hs : s.size ≤ 140737488351232) (hp : p < s.size)
include hs
include hp
end
end Go.Proofs.Ytjknpmibdkoklaa.Q
namespace Go.Proofs.Ytjknpmibdkoklaa.Q
open Go.RowKit Go.Proofs.YtjknpmibdkoklaaW.PrintWords Go.Proofs.YtjknpmibdkoklaaW.PrintLast Go.Proofs.YtjknpmibdkoklaaW.PrintMore
open Aside0 (mk)
open List (setIfInBounds_toArray set_cons_zero set_cons_succ)
attribute [local go_sem] max2_int min2_int max_two min_two max_three min_three max_four min_four
set_option linter.unusedVariables false
set_option linter.unusedSimpArgs false
attribute [local go_sem] fld99_2 fld103_2 fld160_0 fld160_1
def tree_term.f (a0_0 : Int) (a0_1 : Int) (a0_2 : ByteArray) (l0_3 : List (S66)) : Option (Bool) := if a0_0 = 0 then (if a0_1 ≥ 0 then (if a0_2.toList = ([] : List UInt8) then (some ((l0_3.length : Int) == 0)) else (some false)) else (some false)) else (if a0_0 = 1 then (if a0_1 = 0 then ((glyph_Name.f a0_2).bind fun t103 => (if t103 = true then (some ((l0_3.length : Int) == 0)) else (some false))) else (some false)) else (if a0_0 = 2 then (if a0_1 = 0 then (if a0_2.toList = ([] : List UInt8) then (some ((l0_3.length : Int) == 1)) else (some false)) else (some false)) else (if a0_0 = 3 then (if a0_1 = 0 then (if a0_2.toList = ([] : List UInt8) then (some ((l0_3.length : Int) == 2)) else (some false)) else (some false)) else (if a0_0 = 4 then (if a0_1 = 0 then (if a0_2.toList = ([] : List UInt8) then (some ((l0_3.length : Int) == 2)) else (some false)) else (some false)) else (if a0_0 = 5 then (if a0_1 = 0 then (if a0_2.toList = ([] : List UInt8) then (some ((l0_3.length : Int) == 2)) else (some false)) else (some false)) else (some false))))))
set_option maxHeartbeats 8000000 in
set_option maxRecDepth 100000 in
theorem tree_term.calls (a0_0 : Int) (a0_1 : Int) (a0_2 : ByteArray) (A0_3 : Option Addr) (c0_3 : Nat) (l0_3 : List (S66)) (r : Bool) (w : World) (hr0_3 : Kd.C k66 w A0_3 l0_3.length l0_3) (hc0_3 : l0_3.length ≤ c0_3) (h : tree_term.f a0_0 a0_1 a0_2 l0_3 = some r) :
    Calls Try.prog 165 #[.agg #[.int .i64 a0_0, .int .i64 a0_1, .string a0_2, .slice A0_3 l0_3.length c0_3]] w fun e w' => e = .returned (.bool r) ∧ Below w.heap.size w w' := by
  have hu66 := Try.underlying66
  have HR0_3 := mk hr0_3
  have HC0_3 := mk hc0_3
  clear hr0_3 hc0_3
  have HB := mk (Below.refl w.heap.size w)
  have H : (if a0_0 = 0 then (if a0_1 ≥ 0 then (if a0_2.toList = ([] : List UInt8) then (some ((l0_3.length : Int) == 0)) else (some false)) else (some false)) else (if a0_0 = 1 then (if a0_1 = 0 then ((glyph_Name.f a0_2).bind fun t103 => (if t103 = true then (some ((l0_3.length : Int) == 0)) else (some false))) else (some false)) else (if a0_0 = 2 then (if a0_1 = 0 then (if a0_2.toList = ([] : List UInt8) then (some ((l0_3.length : Int) == 1)) else (some false)) else (some false)) else (if a0_0 = 3 then (if a0_1 = 0 then (if a0_2.toList = ([] : List UInt8) then (some ((l0_3.length : Int) == 2)) else (some false)) else (some false)) else (if a0_0 = 4 then (if a0_1 = 0 then (if a0_2.toList = ([] : List UInt8) then (some ((l0_3.length : Int) == 2)) else (some false)) else (some false)) else (if a0_0 = 5 then (if a0_1 = 0 then (if a0_2.toList = ([] : List UInt8) then (some ((l0_3.length : Int) == 2)) else (some false)) else (some false)) else (some false))))))) = some r := h
  clear h
  by_cases c2 : a0_0 = 0
  · rw [if_pos c2] at H
    have c2b0 := eT_ c2
    have c2b1 := nF_ c2
    clear c2
    replace H := ic_ H; obtain ⟨c3, H⟩ | ⟨c3, H⟩ := H
    · (have c3b0 : decide (0 ≤ a0_1) = true := decide_eq_true c3); clear c3; replace H := ic_ H; obtain ⟨c4, H⟩ | ⟨c4, H⟩ := H
      · (obtain ⟨c4b0, c4b1⟩ := eTn_ c4); clear c4; (obtain rfl := Option.some.inj H); (go_enter Try.func165, Try.ntmps165); (go_wp2_with (first | ((with_reducible refine gate_dst (N := 1) rfl ?_); refine box_event ?hg (N := 1) ?hd (cs := #[.int .i64 a0_0, .int .i64 a0_1, .string a0_2, .slice A0_3 l0_3.length c0_3]) (t := 66) ?hr ?_; (case hd => rfl); (case hg => rfl); (case hr => exact kq11); intro gb102 hg w5 hbox hb; have BK102 := mk (hbox); have GW102 := (gs_ hg kq9); have GE102 := GW102; replace HB := mk (below_step kq9 hb); clear hb hbox hg; obtain ⟨_, _, _, _, _, _, _, _⟩ := cz4_ BK102.out))); (repeat (go_quiet (fail); try go_wp2)); go_ret; (exact ⟨kq12, (kq10 GE102)⟩)
      · (obtain ⟨c4b0, c4b1⟩ := eFn_ c4); (obtain rfl := Option.some.inj H); (go_enter Try.func165, Try.ntmps165); (go_wp2_with (first | ((with_reducible refine gate_dst (N := 1) rfl ?_); refine box_event ?hg (N := 1) ?hd (cs := #[.int .i64 a0_0, .int .i64 a0_1, .string a0_2, .slice A0_3 l0_3.length c0_3]) (t := 66) ?hr ?_; (case hd => rfl); (case hg => rfl); (case hr => exact kq11); intro gb102 hg w7 hbox hb; have BK102 := mk (hbox); have GW102 := (gs_ hg kq9); have GE102 := GW102; replace HB := mk (below_step kq9 hb); clear hb hbox hg; obtain ⟨_, _, _, _, _, _, _, _⟩ := cz4_ BK102.out))); (repeat (go_quiet (fail); try go_wp2)); go_ret; (exact ⟨kq12, (kq10 GE102)⟩)
    · (have c3b0 : decide (0 ≤ a0_1) = false := decide_eq_false c3); clear c3; (obtain rfl := Option.some.inj H); (go_enter Try.func165, Try.ntmps165); (go_wp2_with (first | ((with_reducible refine gate_dst (N := 1) rfl ?_); refine box_event ?hg (N := 1) ?hd (cs := #[.int .i64 a0_0, .int .i64 a0_1, .string a0_2, .slice A0_3 l0_3.length c0_3]) (t := 66) ?hr ?_; (case hd => rfl); (case hg => rfl); (case hr => exact kq11); intro gb102 hg w9 hbox hb; have BK102 := mk (hbox); have GW102 := (gs_ hg kq9); have GE102 := GW102; replace HB := mk (below_step kq9 hb); clear hb hbox hg; obtain ⟨_, _, _, _, _, _, _, _⟩ := cz4_ BK102.out))); (repeat (go_quiet (fail); try go_wp2)); go_ret; (exact ⟨kq12, (kq10 GE102)⟩)
  · rw [if_neg c2] at H
    have c2b0 := eF_ c2
    have c2b1 := nT_ c2
    replace H := ic_ H; obtain ⟨c11, H⟩ | ⟨c11, H⟩ := H
    · (obtain ⟨c11b0, c11b1⟩ := eTn_ c11); clear c11; replace H := ic_ H; obtain ⟨c12, H⟩ | ⟨c12, H⟩ := H
      · (obtain ⟨c12b0, c12b1⟩ := eTn_ c12); clear c12; (replace H := Option.bind_eq_some_iff.mp H); (obtain ⟨t103, A130, H⟩ := H); (replace H : (if t103 = true then (some ((l0_3.length : Int) == 0)) else (some false)) = some r := H); (have A13 := mk A130); clear A130; (by_cases c14 : t103 = true)
        · subst c14; (have H1 : (some ((l0_3.length : Int) == 0)) = some r := by rw [if_pos rfl] at H; exact H); clear H; (have H := H1); clear H1; (obtain rfl := Option.some.inj H); (go_enter Try.func165, Try.ntmps165); (go_wp2_with (first | ((with_reducible refine gate_dst (N := 1) rfl ?_); refine box_event ?hg (N := 1) ?hd (cs := #[.int .i64 a0_0, .int .i64 a0_1, .string a0_2, .slice A0_3 l0_3.length c0_3]) (t := 66) ?hr ?_; (case hd => rfl); (case hg => rfl); (case hr => exact kq11); intro gb102 hg w15 hbox hb; have BK102 := mk (hbox); have GW102 := (gs_ hg kq9); have GE102 := GW102; replace HB := mk (below_step kq9 hb); clear hb hbox hg; obtain ⟨_, _, _, _, _, _, _, _⟩ := cz4_ BK102.out) | (go_at_call 41; (with_reducible refine (glyph_Name.calls a0_2 true _ A13.out).mono ?_); rintro e w17 ⟨rfl, hb⟩; replace BK102 := (bb_ BK102 hb); replace HB := mk (below_step (kq10 GE102) hb)))); (repeat (go_quiet (first | (go_at_call 41; (with_reducible refine (glyph_Name.calls a0_2 true _ A13.out).mono ?_); rintro e w17 ⟨rfl, hb⟩; replace BK102 := (bb_ BK102 hb); replace HB := mk (below_step (kq10 GE102) hb))); try go_wp2_with (first | (go_at_call 41; (with_reducible refine (glyph_Name.calls a0_2 true _ A13.out).mono ?_); rintro e w17 ⟨rfl, hb⟩; replace BK102 := (bb_ BK102 hb); replace HB := mk (below_step (kq10 GE102) hb))))); go_ret; (exact ⟨kq12, (kq10 GE102)⟩)
        · (replace c14 := Bool.eq_false_iff.mpr c14); subst c14; (have H1 : (some false) = some r := by rw [if_neg (show ¬ (false = true) by decide)] at H; exact H); clear H; (have H := H1); clear H1; (obtain rfl := Option.some.inj H); (go_enter Try.func165, Try.ntmps165); (go_wp2_with (first | ((with_reducible refine gate_dst (N := 1) rfl ?_); refine box_event ?hg (N := 1) ?hd (cs := #[.int .i64 a0_0, .int .i64 a0_1, .string a0_2, .slice A0_3 l0_3.length c0_3]) (t := 66) ?hr ?_; (case hd => rfl); (case hg => rfl); (case hr => exact kq11); intro gb102 hg w18 hbox hb; have BK102 := mk (hbox); have GW102 := (gs_ hg kq9); have GE102 := GW102; replace HB := mk (below_step kq9 hb); clear hb hbox hg; obtain ⟨_, _, _, _, _, _, _, _⟩ := cz4_ BK102.out) | (go_at_call 41; (with_reducible refine (glyph_Name.calls a0_2 false _ A13.out).mono ?_); rintro e w20 ⟨rfl, hb⟩; replace BK102 := (bb_ BK102 hb); replace HB := mk (below_step (kq10 GE102) hb)))); (repeat (go_quiet (first | (go_at_call 41; (with_reducible refine (glyph_Name.calls a0_2 false _ A13.out).mono ?_); rintro e w20 ⟨rfl, hb⟩; replace BK102 := (bb_ BK102 hb); replace HB := mk (below_step (kq10 GE102) hb))); try go_wp2_with (first | (go_at_call 41; (with_reducible refine (glyph_Name.calls a0_2 false _ A13.out).mono ?_); rintro e w20 ⟨rfl, hb⟩; replace BK102 := (bb_ BK102 hb); replace HB := mk (below_step (kq10 GE102) hb))))); go_ret; (exact ⟨kq12, (kq10 GE102)⟩)
      · (obtain ⟨c12b0, c12b1⟩ := eFn_ c12); (obtain rfl := Option.some.inj H); (go_enter Try.func165, Try.ntmps165); (go_wp2_with (first | ((with_reducible refine gate_dst (N := 1) rfl ?_); refine box_event ?hg (N := 1) ?hd (cs := #[.int .i64 a0_0, .int .i64 a0_1, .string a0_2, .slice A0_3 l0_3.length c0_3]) (t := 66) ?hr ?_; (case hd => rfl); (case hg => rfl); (case hr => exact kq11); intro gb102 hg w21 hbox hb; have BK102 := mk (hbox); have GW102 := (gs_ hg kq9); have GE102 := GW102; replace HB := mk (below_step kq9 hb); clear hb hbox hg; obtain ⟨_, _, _, _, _, _, _, _⟩ := cz4_ BK102.out))); (repeat (go_quiet (fail); try go_wp2)); go_ret; (exact ⟨kq12, (kq10 GE102)⟩)
    · (obtain ⟨c11b0, c11b1⟩ := eFn_ c11); replace H := ic_ H; obtain ⟨c23, H⟩ | ⟨c23, H⟩ := H
      · (obtain ⟨c23b0, c23b1⟩ := eTn_ c23); clear c23; replace H := ic_ H; obtain ⟨c24, H⟩ | ⟨c24, H⟩ := H
        · (obtain ⟨c24b0, c24b1⟩ := eTn_ c24); clear c24; replace H := ic_ H; obtain ⟨c25, H⟩ | ⟨c25, H⟩ := H
          · (obtain ⟨c25b0, c25b1⟩ := eTn_ c25); clear c25; (obtain rfl := Option.some.inj H); (go_enter Try.func165, Try.ntmps165); (go_wp2_with (first | ((with_reducible refine gate_dst (N := 1) rfl ?_); refine box_event ?hg (N := 1) ?hd (cs := #[.int .i64 a0_0, .int .i64 a0_1, .string a0_2, .slice A0_3 l0_3.length c0_3]) (t := 66) ?hr ?_; (case hd => rfl); (case hg => rfl); (case hr => exact kq11); intro gb102 hg w26 hbox hb; have BK102 := mk (hbox); have GW102 := (gs_ hg kq9); have GE102 := GW102; replace HB := mk (below_step kq9 hb); clear hb hbox hg; obtain ⟨_, _, _, _, _, _, _, _⟩ := cz4_ BK102.out))); (repeat (go_quiet (fail); try go_wp2)); go_ret; (exact ⟨kq12, (kq10 GE102)⟩)
          · (obtain ⟨c25b0, c25b1⟩ := eFn_ c25); (obtain rfl := Option.some.inj H); (go_enter Try.func165, Try.ntmps165); (go_wp2_with (first | ((with_reducible refine gate_dst (N := 1) rfl ?_); refine box_event ?hg (N := 1) ?hd (cs := #[.int .i64 a0_0, .int .i64 a0_1, .string a0_2, .slice A0_3 l0_3.length c0_3]) (t := 66) ?hr ?_; (case hd => rfl); (case hg => rfl); (case hr => exact kq11); intro gb102 hg w28 hbox hb; have BK102 := mk (hbox); have GW102 := (gs_ hg kq9); have GE102 := GW102; replace HB := mk (below_step kq9 hb); clear hb hbox hg; obtain ⟨_, _, _, _, _, _, _, _⟩ := cz4_ BK102.out))); (repeat (go_quiet (fail); try go_wp2)); go_ret; (exact ⟨kq12, (kq10 GE102)⟩)
        · (obtain ⟨c24b0, c24b1⟩ := eFn_ c24); (obtain rfl := Option.some.inj H); (go_enter Try.func165, Try.ntmps165); (go_wp2_with (first | ((with_reducible refine gate_dst (N := 1) rfl ?_); refine box_event ?hg (N := 1) ?hd (cs := #[.int .i64 a0_0, .int .i64 a0_1, .string a0_2, .slice A0_3 l0_3.length c0_3]) (t := 66) ?hr ?_; (case hd => rfl); (case hg => rfl); (case hr => exact kq11); intro gb102 hg w30 hbox hb; have BK102 := mk (hbox); have GW102 := (gs_ hg kq9); have GE102 := GW102; replace HB := mk (below_step kq9 hb); clear hb hbox hg; obtain ⟨_, _, _, _, _, _, _, _⟩ := cz4_ BK102.out))); (repeat (go_quiet (fail); try go_wp2)); go_ret; (exact ⟨kq12, (kq10 GE102)⟩)
      · (obtain ⟨c23b0, c23b1⟩ := eFn_ c23); replace H := ic_ H; obtain ⟨c32, H⟩ | ⟨c32, H⟩ := H
        · (obtain ⟨c32b0, c32b1⟩ := eTn_ c32); clear c32; replace H := ic_ H; obtain ⟨c33, H⟩ | ⟨c33, H⟩ := H
          · (obtain ⟨c33b0, c33b1⟩ := eTn_ c33); clear c33; replace H := ic_ H; obtain ⟨c34, H⟩ | ⟨c34, H⟩ := H
            · (obtain ⟨c34b0, c34b1⟩ := eTn_ c34); clear c34; (obtain rfl := Option.some.inj H); (go_enter Try.func165, Try.ntmps165); (go_wp2_with (first | ((with_reducible refine gate_dst (N := 1) rfl ?_); refine box_event ?hg (N := 1) ?hd (cs := #[.int .i64 a0_0, .int .i64 a0_1, .string a0_2, .slice A0_3 l0_3.length c0_3]) (t := 66) ?hr ?_; (case hd => rfl); (case hg => rfl); (case hr => exact kq11); intro gb102 hg w35 hbox hb; have BK102 := mk (hbox); have GW102 := (gs_ hg kq9); have GE102 := GW102; replace HB := mk (below_step kq9 hb); clear hb hbox hg; obtain ⟨_, _, _, _, _, _, _, _⟩ := cz4_ BK102.out))); (repeat (go_quiet (fail); try go_wp2)); go_ret; (exact ⟨kq12, (kq10 GE102)⟩)
            · (obtain ⟨c34b0, c34b1⟩ := eFn_ c34); (obtain rfl := Option.some.inj H); (go_enter Try.func165, Try.ntmps165); (go_wp2_with (first | ((with_reducible refine gate_dst (N := 1) rfl ?_); refine box_event ?hg (N := 1) ?hd (cs := #[.int .i64 a0_0, .int .i64 a0_1, .string a0_2, .slice A0_3 l0_3.length c0_3]) (t := 66) ?hr ?_; (case hd => rfl); (case hg => rfl); (case hr => exact kq11); intro gb102 hg w37 hbox hb; have BK102 := mk (hbox); have GW102 := (gs_ hg kq9); have GE102 := GW102; replace HB := mk (below_step kq9 hb); clear hb hbox hg; obtain ⟨_, _, _, _, _, _, _, _⟩ := cz4_ BK102.out))); (repeat (go_quiet (fail); try go_wp2)); go_ret; (exact ⟨kq12, (kq10 GE102)⟩)
          · (obtain ⟨c33b0, c33b1⟩ := eFn_ c33); (obtain rfl := Option.some.inj H); (go_enter Try.func165, Try.ntmps165); (go_wp2_with (first | ((with_reducible refine gate_dst (N := 1) rfl ?_); refine box_event ?hg (N := 1) ?hd (cs := #[.int .i64 a0_0, .int .i64 a0_1, .string a0_2, .slice A0_3 l0_3.length c0_3]) (t := 66) ?hr ?_; (case hd => rfl); (case hg => rfl); (case hr => exact kq11); intro gb102 hg w39 hbox hb; have BK102 := mk (hbox); have GW102 := (gs_ hg kq9); have GE102 := GW102; replace HB := mk (below_step kq9 hb); clear hb hbox hg; obtain ⟨_, _, _, _, _, _, _, _⟩ := cz4_ BK102.out))); (repeat (go_quiet (fail); try go_wp2)); go_ret; (exact ⟨kq12, (kq10 GE102)⟩)
        · (obtain ⟨c32b0, c32b1⟩ := eFn_ c32); replace H := ic_ H; obtain ⟨c41, H⟩ | ⟨c41, H⟩ := H
          · (obtain ⟨c41b0, c41b1⟩ := eTn_ c41); clear c41; replace H := ic_ H; obtain ⟨c42, H⟩ | ⟨c42, H⟩ := H
            · (obtain ⟨c42b0, c42b1⟩ := eTn_ c42); clear c42; replace H := ic_ H; obtain ⟨c43, H⟩ | ⟨c43, H⟩ := H
              · (obtain ⟨c43b0, c43b1⟩ := eTn_ c43); clear c43; (obtain rfl := Option.some.inj H); (go_enter Try.func165, Try.ntmps165); (go_wp2_with (first | ((with_reducible refine gate_dst (N := 1) rfl ?_); refine box_event ?hg (N := 1) ?hd (cs := #[.int .i64 a0_0, .int .i64 a0_1, .string a0_2, .slice A0_3 l0_3.length c0_3]) (t := 66) ?hr ?_; (case hd => rfl); (case hg => rfl); (case hr => exact kq11); intro gb102 hg w44 hbox hb; have BK102 := mk (hbox); have GW102 := (gs_ hg kq9); have GE102 := GW102; replace HB := mk (below_step kq9 hb); clear hb hbox hg; obtain ⟨_, _, _, _, _, _, _, _⟩ := cz4_ BK102.out))); (repeat (go_quiet (fail); try go_wp2)); go_ret; (exact ⟨kq12, (kq10 GE102)⟩)
              · (obtain ⟨c43b0, c43b1⟩ := eFn_ c43); (obtain rfl := Option.some.inj H); (go_enter Try.func165, Try.ntmps165); (go_wp2_with (first | ((with_reducible refine gate_dst (N := 1) rfl ?_); refine box_event ?hg (N := 1) ?hd (cs := #[.int .i64 a0_0, .int .i64 a0_1, .string a0_2, .slice A0_3 l0_3.length c0_3]) (t := 66) ?hr ?_; (case hd => rfl); (case hg => rfl); (case hr => exact kq11); intro gb102 hg w46 hbox hb; have BK102 := mk (hbox); have GW102 := (gs_ hg kq9); have GE102 := GW102; replace HB := mk (below_step kq9 hb); clear hb hbox hg; obtain ⟨_, _, _, _, _, _, _, _⟩ := cz4_ BK102.out))); (repeat (go_quiet (fail); try go_wp2)); go_ret; (exact ⟨kq12, (kq10 GE102)⟩)
            · (obtain ⟨c42b0, c42b1⟩ := eFn_ c42); (obtain rfl := Option.some.inj H); (go_enter Try.func165, Try.ntmps165); (go_wp2_with (first | ((with_reducible refine gate_dst (N := 1) rfl ?_); refine box_event ?hg (N := 1) ?hd (cs := #[.int .i64 a0_0, .int .i64 a0_1, .string a0_2, .slice A0_3 l0_3.length c0_3]) (t := 66) ?hr ?_; (case hd => rfl); (case hg => rfl); (case hr => exact kq11); intro gb102 hg w48 hbox hb; have BK102 := mk (hbox); have GW102 := (gs_ hg kq9); have GE102 := GW102; replace HB := mk (below_step kq9 hb); clear hb hbox hg; obtain ⟨_, _, _, _, _, _, _, _⟩ := cz4_ BK102.out))); (repeat (go_quiet (fail); try go_wp2)); go_ret; (exact ⟨kq12, (kq10 GE102)⟩)
          · (obtain ⟨c41b0, c41b1⟩ := eFn_ c41); replace H := ic_ H; obtain ⟨c50, H⟩ | ⟨c50, H⟩ := H
            · (obtain ⟨c50b0, c50b1⟩ := eTn_ c50); clear c50; replace H := ic_ H; obtain ⟨c51, H⟩ | ⟨c51, H⟩ := H
              · (obtain ⟨c51b0, c51b1⟩ := eTn_ c51); clear c51; replace H := ic_ H; obtain ⟨c52, H⟩ | ⟨c52, H⟩ := H
                · (obtain ⟨c52b0, c52b1⟩ := eTn_ c52); clear c52; (obtain rfl := Option.some.inj H); (go_enter Try.func165, Try.ntmps165); (go_wp2_with (first | ((with_reducible refine gate_dst (N := 1) rfl ?_); refine box_event ?hg (N := 1) ?hd (cs := #[.int .i64 a0_0, .int .i64 a0_1, .string a0_2, .slice A0_3 l0_3.length c0_3]) (t := 66) ?hr ?_; (case hd => rfl); (case hg => rfl); (case hr => exact kq11); intro gb102 hg w53 hbox hb; have BK102 := mk (hbox); have GW102 := (gs_ hg kq9); have GE102 := GW102; replace HB := mk (below_step kq9 hb); clear hb hbox hg; obtain ⟨_, _, _, _, _, _, _, _⟩ := cz4_ BK102.out))); (repeat (go_quiet (fail); try go_wp2)); go_ret; (exact ⟨kq12, (kq10 GE102)⟩)
                · (obtain ⟨c52b0, c52b1⟩ := eFn_ c52); (obtain rfl := Option.some.inj H); (go_enter Try.func165, Try.ntmps165); (go_wp2_with (first | ((with_reducible refine gate_dst (N := 1) rfl ?_); refine box_event ?hg (N := 1) ?hd (cs := #[.int .i64 a0_0, .int .i64 a0_1, .string a0_2, .slice A0_3 l0_3.length c0_3]) (t := 66) ?hr ?_; (case hd => rfl); (case hg => rfl); (case hr => exact kq11); intro gb102 hg w55 hbox hb; have BK102 := mk (hbox); have GW102 := (gs_ hg kq9); have GE102 := GW102; replace HB := mk (below_step kq9 hb); clear hb hbox hg; obtain ⟨_, _, _, _, _, _, _, _⟩ := cz4_ BK102.out))); (repeat (go_quiet (fail); try go_wp2)); go_ret; (exact ⟨kq12, (kq10 GE102)⟩)
              · (obtain ⟨c51b0, c51b1⟩ := eFn_ c51); (obtain rfl := Option.some.inj H); (go_enter Try.func165, Try.ntmps165); (go_wp2_with (first | ((with_reducible refine gate_dst (N := 1) rfl ?_); refine box_event ?hg (N := 1) ?hd (cs := #[.int .i64 a0_0, .int .i64 a0_1, .string a0_2, .slice A0_3 l0_3.length c0_3]) (t := 66) ?hr ?_; (case hd => rfl); (case hg => rfl); (case hr => exact kq11); intro gb102 hg w57 hbox hb; have BK102 := mk (hbox); have GW102 := (gs_ hg kq9); have GE102 := GW102; replace HB := mk (below_step kq9 hb); clear hb hbox hg; obtain ⟨_, _, _, _, _, _, _, _⟩ := cz4_ BK102.out))); (repeat (go_quiet (fail); try go_wp2)); go_ret; (exact ⟨kq12, (kq10 GE102)⟩)
            · (obtain ⟨c50b0, c50b1⟩ := eFn_ c50); (obtain rfl := Option.some.inj H); (go_enter Try.func165, Try.ntmps165); (go_wp2_with (first | ((with_reducible refine gate_dst (N := 1) rfl ?_); refine box_event ?hg (N := 1) ?hd (cs := #[.int .i64 a0_0, .int .i64 a0_1, .string a0_2, .slice A0_3 l0_3.length c0_3]) (t := 66) ?hr ?_; (case hd => rfl); (case hg => rfl); (case hr => exact kq11); intro gb102 hg w59 hbox hb; have BK102 := mk (hbox); have GW102 := (gs_ hg kq9); have GE102 := GW102; replace HB := mk (below_step kq9 hb); clear hb hbox hg; obtain ⟨_, _, _, _, _, _, _, _⟩ := cz4_ BK102.out))); (repeat (go_quiet (fail); try go_wp2)); go_ret; (exact ⟨kq12, (kq10 GE102)⟩)
end Go.Proofs.Ytjknpmibdkoklaa.Q
