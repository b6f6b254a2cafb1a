/- Functions of the given program as Lean functions, each with its contract, and what they answer; words for it. No condition but those of each. -/
import Derived.Test.YtjknpmibdkoklaaMJ3
import Derived.Test.YtjknpmibdkoklaaMJ10
import Derived.Laws.Strings
set_option maxRecDepth 100000
namespace Go.Proofs.Ytjknpmibdkoklaa.G
open Go.RowKit Go.Sort Go.Lib Go.Proofs.YtjknpmibdkoklaaW.PrintWords Go.Proofs.YtjknpmibdkoklaaW.PrintLast Go.Proofs.YtjknpmibdkoklaaW.PrintMore
theorem bl_eq (s : ByteArray) : s.toList = bl s := by unfold bl; rw [ByteArray.toList_eq]
theorem bl_lb' (l : List UInt8) : bl (lb l) = l := by simp [bl, lb]
theorem bl_inj {a b : ByteArray} (h : bl a = bl b) : a = b := by rw [← lb_bl a, h, lb_bl]
theorem less_eq (a b : ByteArray) : Op.bytesLess a.toList b.toList = decide (bl a < bl b) := by rw [bytesLess_eq, bl_eq, bl_eq]
theorem ltt {a b c : List UInt8} (h : a < b) (k : b < c) : a < c := List.lt_trans h k
theorem lti (a : List UInt8) : ¬ a < a := List.lt_irrefl a
theorem tri {a b : List UInt8} (h : ¬ a < b) (k : ¬ b < a) : a = b := List.le_antisymm (List.not_lt.1 k) (List.not_lt.1 h)
theorem lle {a b : List UInt8} (h : a ≤ b) (k : a ≠ b) : a < b := Classical.byContradiction fun n => k (List.le_antisymm h (List.not_lt.1 n))
abbrev Rise (l : List ByteArray) : Prop := l.Pairwise fun a b => bl a < bl b
theorem rise_unique : ∀ {l m : List ByteArray}, Rise l → Rise m → (∀ x, x ∈ l ↔ x ∈ m) → l = m
  | [], [], _, _, _ => rfl
  | [], y :: m, _, _, h => absurd ((h y).2 (List.mem_cons_self ..)) List.not_mem_nil
  | x :: l, [], _, _, h => absurd ((h x).1 (List.mem_cons_self ..)) List.not_mem_nil
  | x :: l, y :: m, hl, hm, h => by
    rw [Rise, List.pairwise_cons] at hl hm
    have e : x = y := by
      rcases List.mem_cons.1 ((h x).1 (List.mem_cons_self ..)) with e | e
      · exact e
      · rcases List.mem_cons.1 ((h y).2 (List.mem_cons_self ..)) with e2 | e2
        · exact e2.symm
        · exact absurd (ltt (hm.1 x e) (hl.1 y e2)) (lti _)
    subst e
    refine congrArg (x :: ·) (rise_unique hl.2 hm.2 fun z => ⟨fun hz => ?_, fun hz => ?_⟩)
    · rcases List.mem_cons.1 ((h z).1 (List.mem_cons_of_mem _ hz)) with e | e
      · subst e; exact absurd (hl.1 _ hz) (lti _)
      · exact e
    · rcases List.mem_cons.1 ((h z).2 (List.mem_cons_of_mem _ hz)) with e | e
      · subst e; exact absurd (hm.1 _ hz) (lti _)
      · exact e
def putS : List ByteArray → ByteArray → List ByteArray
  | [], x => [x]
  | y :: l, x => if bl y < bl x then y :: putS l x else if bl x < bl y then x :: y :: l else y :: l
theorem mem_putS {x z : ByteArray} : ∀ {l : List ByteArray}, z ∈ putS l x ↔ z = x ∨ z ∈ l
  | [] => by simp [putS]
  | y :: l => by
    unfold putS
    split
    · rw [List.mem_cons, mem_putS, List.mem_cons]
      constructor
      · rintro (h | h | h) <;> simp [h]
      · rintro (h | h | h) <;> simp [h]
    · split
      · simp
      · rename_i h1 h2
        have := bl_inj (tri h1 h2)
        subst this
        simp
theorem rise_putS {x : ByteArray} : ∀ {l : List ByteArray}, Rise l → Rise (putS l x)
  | [], _ => by simp [putS, Rise]
  | y :: l, h => by
    have h' := h
    rw [Rise, List.pairwise_cons] at h
    unfold putS
    split
    · rename_i h1
      rw [Rise, List.pairwise_cons]
      refine ⟨fun z hz => ?_, rise_putS h.2⟩
      rcases mem_putS.1 hz with e | e
      · subst e; exact h1
      · exact h.1 z e
    · split
      · rename_i h1
        rw [Rise, List.pairwise_cons]
        refine ⟨fun z hz => ?_, h'⟩
        rcases List.mem_cons.1 hz with e | e
        · subst e; exact h1
        · exact ltt h1 (h.1 z e)
      · exact h'
theorem putS_length {x : ByteArray} : ∀ {l : List ByteArray}, (putS l x).length ≤ l.length + 1
  | [] => by simp [putS]
  | y :: l => by
    unfold putS
    have := putS_length (x := x) (l := l)
    split
    · simp; omega
    · split <;> simp
def togetherS (l : List ByteArray) : List ByteArray := l.foldl putS []
theorem fold_putS : ∀ (l acc : List ByteArray), Rise acc → Rise (l.foldl putS acc) ∧ (∀ z, z ∈ l.foldl putS acc ↔ z ∈ acc ∨ z ∈ l) ∧ (l.foldl putS acc).length ≤ acc.length + l.length
  | [], acc, h => ⟨h, by simp, by simp⟩
  | x :: l, acc, h => by
    obtain ⟨h1, h2, h3⟩ := fold_putS l (putS acc x) (rise_putS h)
    refine ⟨h1, fun z => ?_, ?_⟩
    · rw [List.foldl_cons, h2, mem_putS, List.mem_cons]
      constructor
      · rintro ((h | h) | h) <;> simp [h]
      · rintro (h | h | h) <;> simp [h]
    · have := putS_length (x := x) (l := acc)
      simp only [List.foldl_cons, List.length_cons]
      omega
theorem compact_snoc (zs : List (List UInt8)) (x : List UInt8) : Lib.compact (zs ++ [x]) = Lib.compact zs ++ (if zs.getLast? = some x then [] else [x]) := by
  unfold Lib.compact
  rw [List.length_append, List.length_singleton, compactUpTo_succ]
  have h1 : ∀ j, j < zs.length → (zs ++ [x]).toArray[j]! = zs.toArray[j]! := fun j hj => by simp [getElem!_pos, hj, List.getElem_append_left hj, show j < zs.length + 1 by omega]
  have h2 : (zs ++ [x]).toArray[zs.length]! = x := by simp
  congr 1
  · unfold compactUpTo
    have e : (List.range zs.length).filter (keeps (zs ++ [x]).toArray) = (List.range zs.length).filter (keeps zs.toArray) := List.filter_congr fun j hj => by
      have := List.mem_range.1 hj
      unfold keeps
      rw [h1 j this, h1 (j - 1) (by omega)]
    rw [e]
    exact List.map_congr_left fun j hj => h1 j (List.mem_range.1 (List.mem_filter.1 hj).1)
  · rw [h2]
    unfold keeps
    rw [h2]
    cases hz : zs.length with
    | zero =>
      obtain rfl := List.eq_nil_of_length_eq_zero hz
      simp
    | succ n =>
      rw [h1 (n + 1 - 1) (by omega)]
      have e : zs.getLast? = some zs.toArray[n]! := by rw [List.getLast?_eq_getElem?, hz, List.getElem?_eq_getElem (by omega)]; simp [getElem!_pos, show n < zs.length by omega]
      rw [show n + 1 - 1 = n from rfl, e]
      generalize zs.toArray[n]! = y
      by_cases hx : x = y
      · subst hx; simp
      · have hx2 : ¬ y = x := fun h => hx h.symm
        simp [hx, hx2]
theorem snoc_ind {α : Type} {P : List α → Prop} (h0 : P []) (h1 : ∀ l x, P l → P (l ++ [x])) (l : List α) : P l := by
  have : ∀ r : List α, P r.reverse := fun r => by
    induction r with
    | nil => exact h0
    | cons x r ih => rw [List.reverse_cons]; exact h1 _ _ ih
  simpa using this l.reverse
theorem compact_spec (zs : List (List UInt8)) : zs.Pairwise (· ≤ ·) → (Lib.compact zs).Pairwise (· < ·) ∧ ∀ y, y ∈ Lib.compact zs ↔ y ∈ zs := by
  induction zs using snoc_ind with
  | h0 => exact fun _ => ⟨List.Pairwise.nil, fun y => Iff.rfl⟩
  | h1 l x ih =>
    intro h
    rw [List.pairwise_append] at h
    obtain ⟨p1, p2⟩ := ih h.1
    rw [compact_snoc]
    split
    · rename_i e
      refine ⟨by simpa using p1, fun y => ?_⟩
      have hx : x ∈ l := List.mem_of_getLast? e
      rw [List.append_nil, p2, List.mem_append, List.mem_singleton]
      constructor
      · exact .inl
      · rintro (k | rfl) <;> assumption
    · rename_i e
      refine ⟨List.pairwise_append.2 ⟨p1, by simp, fun a ha b hb => ?_⟩, fun y => by rw [List.mem_append, List.mem_append, p2]⟩
      obtain rfl := List.mem_singleton.1 hb
      have ha2 := (p2 a).1 ha
      refine lle (h.2.2 a ha2 b (List.mem_singleton_self _)) fun hab => ?_
      subst hab

      cases hl : l.getLast? with
      | none => rw [List.getLast?_eq_none_iff] at hl; subst hl; cases ha2
      | some z =>
        obtain ⟨l', rfl⟩ := List.getLast?_eq_some_iff.1 hl
        have hz : z ≤ a := h.2.2 z (by simp) a (List.mem_singleton_self _)
        rcases List.mem_append.1 ha2 with k | k
        · have := (List.pairwise_append.1 h.1).2.2 a k z (List.mem_singleton_self _)
          exact e (by rw [hl, List.le_antisymm hz this])
        · obtain rfl := List.mem_singleton.1 k
          exact e hl
def canon (l : List ByteArray) : List ByteArray := compactS (sortedS l)
theorem map_bl_lb (l : List (List UInt8)) : (l.map lb).map bl = l := by
  rw [List.map_map]
  exact (congrArg (fun q => List.map q l) (funext fun s => bl_lb' s)).trans (List.map_id l)
theorem mem_sortedS {x : ByteArray} {l : List ByteArray} : x ∈ sortedS l ↔ x ∈ l := by
  unfold sortedS
  rw [List.mem_map]
  constructor
  · rintro ⟨a, ha, rfl⟩
    obtain ⟨b, hb, rfl⟩ := List.mem_map.1 (List.mem_mergeSort.1 ha)
    rwa [lb_bl]
  · exact fun h => ⟨bl x, List.mem_mergeSort.2 (List.mem_map.2 ⟨x, h, rfl⟩), lb_bl x⟩
theorem sortedS_le (l : List ByteArray) : ((sortedS l).map bl).Pairwise (· ≤ ·) := by
  unfold sortedS
  rw [map_bl_lb]
  have := List.pairwise_mergeSort (le := fun x y : List UInt8 => decide (x ≤ y)) (fun a b c h1 h2 => by simp at *; exact List.le_trans h1 h2) (fun a b => by simp; exact List.le_total a b) (l.map bl)
  exact this.imp (fun h => of_decide_eq_true h)
theorem canon_rise (l : List ByteArray) : Rise (canon l) := by
  have h := (compact_spec _ (sortedS_le l)).1
  unfold canon compactS
  rw [Rise, List.pairwise_map]
  exact h.imp (fun {a b} h => by rw [bl_lb', bl_lb']; exact h)
theorem mem_canon {x : ByteArray} {l : List ByteArray} : x ∈ canon l ↔ x ∈ l := by
  have h := (compact_spec _ (sortedS_le l)).2
  unfold canon compactS
  rw [List.mem_map]
  constructor
  · rintro ⟨a, ha, rfl⟩
    obtain ⟨b, hb, rfl⟩ := List.mem_map.1 ((h a).1 ha)
    rw [lb_bl]
    exact mem_sortedS.1 hb
  · exact fun hx => ⟨bl x, (h _).2 (List.mem_map.2 ⟨x, mem_sortedS.2 hx, rfl⟩), lb_bl x⟩
theorem canon_length (l : List ByteArray) : (canon l).length ≤ l.length := by
  unfold canon compactS
  rw [List.length_map]
  exact Nat.le_trans (compact_le _) (by rw [List.length_map, sortedS_length]; exact Nat.le_refl _)
theorem together_canon (l : List ByteArray) : togetherS l = canon l := by
  obtain ⟨h1, h2, _⟩ := fold_putS l [] List.Pairwise.nil
  exact rise_unique h1 (canon_rise l) fun x => by rw [mem_canon]; exact (h2 x).trans (by simp)
theorem wrap_add {i n : Nat} (h : i < n) (hn : n < 4611686018427387904) : wrap64 ((i : Int) + 1) = ((i + 1 : Nat) : Int) := by
  unfold wrap64
  omega
theorem rdOf_nat {α : Type} (d : α) (l : List α) (i : Nat) : rdOf d l (i : Int) = l.getD i d := rfl
theorem put_done (l : List ByteArray) (x : ByteArray) (hl : l.length < 4398046511104) : ∀ (n i : Nat) (out : List ByteArray) (k : Nat), i ≤ l.length → l.length - i = n → out.length ≤ i + 1 → tabardref04_put.l0 (k + (2 * n + 1)) l x out true (i : Int) = some (out ++ l.drop i)
  | 0, i, out, k, hi, hn, ho => by
    rw [show k + (2 * 0 + 1) = k + 1 by omega]
    unfold tabardref04_put.l0
    rw [if_neg (by omega), if_pos rfl, List.drop_of_length_le (by omega), List.append_nil]
  | n + 1, i, out, k, hi, hn, ho => by
    have hlt : i < l.length := by omega
    rw [show k + (2 * (n + 1) + 1) = (k + (2 * n + 1)) + 1 + 1 by omega]
    unfold tabardref04_put.l0
    rw [if_pos (by omega), if_pos rfl]
    unfold tabardref04_put.j1
    rw [if_neg (by decide), if_pos (by omega), if_pos (by omega), if_pos (by omega), wrap_add hlt (by omega), put_done l x hl n (i + 1) _ k (by omega) (by omega) (by simp; omega)]
    rw [rdOf_nat, List.append_assoc, List.singleton_append, List.drop_eq_getElem_cons hlt, List.getD_eq_getElem?_getD, List.getElem?_eq_getElem hlt]
    rfl
theorem put_going (l : List ByteArray) (x : ByteArray) (hl : l.length < 4398046511104) : ∀ (n i : Nat) (out : List ByteArray) (k : Nat), i ≤ l.length → l.length - i = n → out.length ≤ i → tabardref04_put.l0 (k + (2 * n + 1)) l x out false (i : Int) = some (out ++ putS (l.drop i) x)
  | 0, i, out, k, hi, hn, ho => by
    rw [show k + (2 * 0 + 1) = k + 1 by omega]
    unfold tabardref04_put.l0
    rw [if_neg (by omega), if_neg (by decide), if_pos (by omega), List.drop_of_length_le (by omega), putS]
  | n + 1, i, out, k, hi, hn, ho => by
    have hlt : i < l.length := by omega
    have hrd : rdOf ByteArray.empty l (i : Int) = l[i] := by rw [rdOf_nat, List.getD_eq_getElem?_getD, List.getElem?_eq_getElem hlt]; rfl
    rw [show k + (2 * (n + 1) + 1) = (k + (2 * n + 1)) + 1 + 1 by omega]
    unfold tabardref04_put.l0
    rw [if_pos (by omega), if_neg (by decide), if_pos (by omega), hrd, less_eq, List.drop_eq_getElem_cons hlt]
    unfold tabardref04_put.j1
    rw [hrd, less_eq]
    unfold putS
    by_cases h1 : bl l[i] < bl x
    · rw [if_neg (by simp [h1]), if_pos h1, if_pos (by omega), if_pos (by omega), if_pos (by omega), wrap_add hlt (by omega), put_going l x hl n (i + 1) _ k (by omega) (by omega) (by simp; omega), List.append_assoc, List.singleton_append]
    · rw [if_pos (by simp [h1]), if_neg h1, if_pos (by omega), if_pos (by omega)]
      by_cases h2 : bl x < bl l[i]
      · rw [if_pos (by simp [h2]), if_pos h2, if_pos (by omega), Option.bind_some, if_pos (by simp; omega), wrap_add hlt (by omega), put_done l x hl n (i + 1) _ k (by omega) (by omega) (by simp; omega)]
        simp
      · rw [if_neg (by simp [h2]), if_neg h2, if_pos (by omega), wrap_add hlt (by omega), put_done l x hl n (i + 1) _ k (by omega) (by omega) (by simp; omega)]
        simp
theorem put_ev (l : List ByteArray) (x : ByteArray) (hl : l.length < 4398046511104) : Ev (fun k => tabardref04_put.f k l x) (putS l x) := ⟨2 * l.length + 1, fun k hk => by
  have := put_going l x hl l.length 0 [] (k - (2 * l.length + 1)) (Nat.zero_le _) rfl (Nat.zero_le _)
  rw [show k - (2 * l.length + 1) + (2 * l.length + 1) = k by omega] at this
  exact this⟩
theorem together_going (l : List ByteArray) (hl : l.length < 2199023255552) : ∀ (n i : Nat) (acc : List ByteArray), i ≤ l.length → l.length - i = n → acc.length ≤ i → Ev (fun k => tabardref04_Together.l0 k l acc (i : Int)) ((l.drop i).foldl putS acc)
  | 0, i, acc, hi, hn, ho => Ev.step (f := fun _ => some acc) (fun k => by
      unfold tabardref04_Together.l0
      rw [if_neg (by omega)]) (by rw [List.drop_of_length_le (by omega)]; exact Ev.now acc)
  | n + 1, i, acc, hi, hn, ho => by
    have hlt : i < l.length := by omega
    have hrd : rdOf ByteArray.empty l (i : Int) = l[i] := by rw [rdOf_nat, List.getD_eq_getElem?_getD, List.getElem?_eq_getElem hlt]; rfl
    refine Ev.step (f := fun k => (tabardref04_put.f k acc l[i]).bind fun t => tabardref04_Together.l0 k l t ((i + 1 : Nat) : Int)) (fun k => by
      show tabardref04_Together.l0 (k + 1) l acc (i : Int) = _
      conv => lhs; unfold tabardref04_Together.l0
      rw [if_pos (by omega), if_pos (by omega), hrd, wrap_add hlt (by omega)]) ?_
    rw [List.drop_eq_getElem_cons hlt, List.foldl_cons]
    exact Ev.bind (put_ev acc l[i] (by omega)) (together_going l hl n (i + 1) _ (by omega) (by omega) (by have := putS_length (x := l[i]) (l := acc); omega))
theorem together_ev (l : List ByteArray) (hl : l.length < 2199023255552) : Ev (fun k => tabardref04_Together.f k l) (canon l) := by
  rw [← together_canon]
  exact together_going l hl l.length 0 [] (Nat.zero_le _) rfl (Nat.zero_le _)
end Go.Proofs.Ytjknpmibdkoklaa.G
