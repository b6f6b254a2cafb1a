/- Functions of the given program as Lean functions, each with its contract, and what they answer; words for it. No condition but those of each. -/
import Derived.Test.YtjknpmibdkoklaaMG2
import Derived.Test.YtjknpmibdkoklaaMG5
import Derived.Laws.Strings
set_option maxRecDepth 100000
namespace Go.Proofs.Ytjknpmibdkoklaa.Q
open Go.RowKit Go.Sort Go.Lib Go.Proofs.YtjknpmibdkoklaaW.PrintWords Go.Proofs.YtjknpmibdkoklaaW.PrintLast Go.Proofs.YtjknpmibdkoklaaW.PrintMore
theorem bl_eq (s : ByteArray) : s.toList = bl s := by unfold bl; rw [ByteArray.toList_eq]
theorem bl_lb' (l : List UInt8) : bl (lb l) = l := by simp [bl, lb]
theorem bl_inj {a b : ByteArray} (h : bl a = bl b) : a = b := by rw [← lb_bl a, h, lb_bl]
theorem less_eq (a b : ByteArray) : Op.bytesLess a.toList b.toList = decide (bl a < bl b) := by rw [bytesLess_eq, bl_eq, bl_eq]
theorem ltt {a b c : List UInt8} (h : a < b) (k : b < c) : a < c := List.lt_trans h k
theorem lti (a : List UInt8) : ¬ a < a := List.lt_irrefl a
theorem lle {a b : List UInt8} (h : a ≤ b) (k : a ≠ b) : a < b := Classical.byContradiction fun n => k (List.le_antisymm h (List.not_lt.1 n))
abbrev Rise (l : List ByteArray) : Prop := l.Pairwise fun a b => bl a < bl b
theorem rise_unique : ∀ {l m : List ByteArray}, Rise l → Rise m → (∀ x, x ∈ l ↔ x ∈ m) → l = m
  | [], [], _, _, _ => rfl
  | [], y :: m, _, _, h => absurd ((h y).2 (List.mem_cons_self ..)) List.not_mem_nil
  | x :: l, [], _, _, h => absurd ((h x).1 (List.mem_cons_self ..)) List.not_mem_nil
  | x :: l, y :: m, hl, hm, h => by
    rw [Rise, List.pairwise_cons] at hl hm
    have e : x = y := by
      rcases List.mem_cons.1 ((h x).1 (List.mem_cons_self ..)) with e | e
      · exact e
      · rcases List.mem_cons.1 ((h y).2 (List.mem_cons_self ..)) with e2 | e2
        · exact e2.symm
        · exact absurd (ltt (hm.1 x e) (hl.1 y e2)) (lti _)
    subst e
    refine congrArg (x :: ·) (rise_unique hl.2 hm.2 fun z => ⟨fun hz => ?_, fun hz => ?_⟩)
    · rcases List.mem_cons.1 ((h z).1 (List.mem_cons_of_mem _ hz)) with e | e
      · subst e; exact absurd (hl.1 _ hz) (lti _)
      · exact e
    · rcases List.mem_cons.1 ((h z).2 (List.mem_cons_of_mem _ hz)) with e | e
      · subst e; exact absurd (hm.1 _ hz) (lti _)
      · exact e
theorem compact_snoc (zs : List (List UInt8)) (x : List UInt8) : Lib.compact (zs ++ [x]) = Lib.compact zs ++ (if zs.getLast? = some x then [] else [x]) := by
  unfold Lib.compact
  rw [List.length_append, List.length_singleton, compactUpTo_succ]
  have h1 : ∀ j, j < zs.length → (zs ++ [x]).toArray[j]! = zs.toArray[j]! := fun j hj => by simp [getElem!_pos, hj, List.getElem_append_left hj, show j < zs.length + 1 by omega]
  have h2 : (zs ++ [x]).toArray[zs.length]! = x := by simp
  congr 1
  · unfold compactUpTo
    have e : (List.range zs.length).filter (keeps (zs ++ [x]).toArray) = (List.range zs.length).filter (keeps zs.toArray) := List.filter_congr fun j hj => by
      have := List.mem_range.1 hj
      unfold keeps
      rw [h1 j this, h1 (j - 1) (by omega)]
    rw [e]
    exact List.map_congr_left fun j hj => h1 j (List.mem_range.1 (List.mem_filter.1 hj).1)
  · rw [h2]
    unfold keeps
    rw [h2]
    cases hz : zs.length with
    | zero =>
      obtain rfl := List.eq_nil_of_length_eq_zero hz
      simp
    | succ n =>
      rw [h1 (n + 1 - 1) (by omega)]
      have e : zs.getLast? = some zs.toArray[n]! := by rw [List.getLast?_eq_getElem?, hz, List.getElem?_eq_getElem (by omega)]; simp [getElem!_pos, show n < zs.length by omega]
      rw [show n + 1 - 1 = n from rfl, e]
      generalize zs.toArray[n]! = y
      by_cases hx : x = y
      · subst hx; simp
      · have hx2 : ¬ y = x := fun h => hx h.symm
        simp [hx, hx2]
theorem snoc_ind {α : Type} {P : List α → Prop} (h0 : P []) (h1 : ∀ l x, P l → P (l ++ [x])) (l : List α) : P l := by
  have : ∀ r : List α, P r.reverse := fun r => by
    induction r with
    | nil => exact h0
    | cons x r ih => rw [List.reverse_cons]; exact h1 _ _ ih
  simpa using this l.reverse
theorem compact_spec (zs : List (List UInt8)) : zs.Pairwise (· ≤ ·) → (Lib.compact zs).Pairwise (· < ·) ∧ ∀ y, y ∈ Lib.compact zs ↔ y ∈ zs := by
  induction zs using snoc_ind with
  | h0 => exact fun _ => ⟨List.Pairwise.nil, fun y => Iff.rfl⟩
  | h1 l x ih =>
    intro h
    rw [List.pairwise_append] at h
    obtain ⟨p1, p2⟩ := ih h.1
    rw [compact_snoc]
    split
    · rename_i e
      refine ⟨by simpa using p1, fun y => ?_⟩
      have hx : x ∈ l := List.mem_of_getLast? e
      rw [List.append_nil, p2, List.mem_append, List.mem_singleton]
      constructor
      · exact .inl
      · rintro (k | rfl) <;> assumption
    · rename_i e
      refine ⟨List.pairwise_append.2 ⟨p1, by simp, fun a ha b hb => ?_⟩, fun y => by rw [List.mem_append, List.mem_append, p2]⟩
      obtain rfl := List.mem_singleton.1 hb
      have ha2 := (p2 a).1 ha
      refine lle (h.2.2 a ha2 b (List.mem_singleton_self _)) fun hab => ?_
      subst hab

      cases hl : l.getLast? with
      | none => rw [List.getLast?_eq_none_iff] at hl; subst hl; cases ha2
      | some z =>
        obtain ⟨l', rfl⟩ := List.getLast?_eq_some_iff.1 hl
        have hz : z ≤ a := h.2.2 z (by simp) a (List.mem_singleton_self _)
        rcases List.mem_append.1 ha2 with k | k
        · have := (List.pairwise_append.1 h.1).2.2 a k z (List.mem_singleton_self _)
          exact e (by rw [hl, List.le_antisymm hz this])
        · obtain rfl := List.mem_singleton.1 k
          exact e hl
def canon (l : List ByteArray) : List ByteArray := compactS (sortedS l)
theorem map_bl_lb (l : List (List UInt8)) : (l.map lb).map bl = l := by
  rw [List.map_map]
  exact (congrArg (fun q => List.map q l) (funext fun s => bl_lb' s)).trans (List.map_id l)
theorem mem_sortedS {x : ByteArray} {l : List ByteArray} : x ∈ sortedS l ↔ x ∈ l := by
  unfold sortedS
  rw [List.mem_map]
  constructor
  · rintro ⟨a, ha, rfl⟩
    obtain ⟨b, hb, rfl⟩ := List.mem_map.1 (List.mem_mergeSort.1 ha)
    rwa [lb_bl]
  · exact fun h => ⟨bl x, List.mem_mergeSort.2 (List.mem_map.2 ⟨x, h, rfl⟩), lb_bl x⟩
theorem sortedS_le (l : List ByteArray) : ((sortedS l).map bl).Pairwise (· ≤ ·) := by
  unfold sortedS
  rw [map_bl_lb]
  have := List.pairwise_mergeSort (le := fun x y : List UInt8 => decide (x ≤ y)) (fun a b c h1 h2 => by simp at *; exact List.le_trans h1 h2) (fun a b => by simp; exact List.le_total a b) (l.map bl)
  exact this.imp (fun h => of_decide_eq_true h)
theorem canon_rise (l : List ByteArray) : Rise (canon l) := by
  have h := (compact_spec _ (sortedS_le l)).1
  unfold canon compactS
  rw [Rise, List.pairwise_map]
  exact h.imp (fun {a b} h => by rw [bl_lb', bl_lb']; exact h)
theorem mem_canon {x : ByteArray} {l : List ByteArray} : x ∈ canon l ↔ x ∈ l := by
  have h := (compact_spec _ (sortedS_le l)).2
  unfold canon compactS
  rw [List.mem_map]
  constructor
  · rintro ⟨a, ha, rfl⟩
    obtain ⟨b, hb, rfl⟩ := List.mem_map.1 ((h a).1 ha)
    rw [lb_bl]
    exact mem_sortedS.1 hb
  · exact fun hx => ⟨bl x, (h _).2 (List.mem_map.2 ⟨x, mem_sortedS.2 hx, rfl⟩), lb_bl x⟩
theorem canon_length (l : List ByteArray) : (canon l).length ≤ l.length := by
  unfold canon compactS
  rw [List.length_map]
  exact Nat.le_trans (compact_le _) (by rw [List.length_map, sortedS_length]; exact Nat.le_refl _)
theorem canon_of_rise {l : List ByteArray} (h : Rise l) : canon l = l := rise_unique (canon_rise l) h fun _ => mem_canon
theorem sorted_canon {l : List ByteArray} (h : l.length < 4611686018427387904) : tree_sorted.f l = some (canon l) := by
  unfold tree_sorted.f slices_Sort_string_string.f slices_Compact_string_string.f
  rw [if_pos h, Option.bind_some, if_pos (by rw [sortedS_length]; omega)]
  rfl
theorem wrap_add {i n : Nat} (h : i < n) (hn : n < 4611686018427387904) : wrap64 ((i : Int) + 1) = ((i + 1 : Nat) : Int) := by
  unfold wrap64
  omega
theorem rdOf_nat {α : Type} (d : α) (l : List α) (i : Nat) : rdOf d l (i : Int) = l.getD i d := rfl
end Go.Proofs.Ytjknpmibdkoklaa.Q
