/- Functions of the given program as Lean functions, each with its contract, and what they answer; words for it. No condition but those of each. -/
import Derived.Test.YtjknpmibdkoklaaMJ1
import Derived.Test.YtjknpmibdkoklaaMJ2
import Derived.Sort.OwnSorted
import Derived.Lib.RowBridge
namespace Go.Proofs.Ytjknpmibdkoklaa.G
open Go.RowKit Go.Sort Go.Proofs.YtjknpmibdkoklaaW.PrintWords Go.Proofs.YtjknpmibdkoklaaW.PrintLast Go.Proofs.YtjknpmibdkoklaaW.PrintMore
theorem addr_plain {w : World} {a : Addr} {v : Value} (h : w.cell? a = some v) : a = ⟨a.block, a.off, none⟩ := by
  obtain ⟨b, o, t⟩ := a
  cases t with
  | none => rfl
  | some x =>
    simp only [World.cell?] at h
    split at h <;> (try cases h) <;> simp_all
theorem R_to_own {w : World} {base e : Nat} {ok : Nat → Prop} {v : Value} {xs : List ByteArray} (h : Kd.R Kd.string e w base ok v xs) : w.ownsRow base e 1 v xs.length (xs.map Value.string) := by
  obtain ⟨_, inner, ho, hl, hr⟩ := h
  have : inner = xs.map Value.string := by
    apply List.ext_getElem?
    intro j
    by_cases hj : j < xs.length
    · have h1 := hr j xs[j] (List.getElem?_eq_getElem hj)
      have h2 : (inner.drop (j * 1)).take 1 = [Value.string xs[j]] := h1
      have hi : j < inner.length := by have : inner.length = xs.length * 1 := hl; omega
      rw [Nat.mul_one, List.drop_eq_getElem_cons hi] at h2
      rw [List.take_succ_cons, List.take_zero] at h2
      rw [List.getElem?_eq_getElem hi, List.head_eq_of_cons_eq h2]
      simp [hj]
    · have : inner.length = xs.length * 1 := hl
      rw [List.getElem?_eq_none (by omega), List.getElem?_eq_none (by simp; omega)]
  rw [this] at ho
  exact ho
theorem R_of_own {w : World} {base e : Nat} {ok : Nat → Prop} {v : Value} {xs : List ByteArray} (h0 : ∀ k, v.ownBlock = some k → ok k) (ho : w.ownsRow base e 1 v xs.length (xs.map Value.string)) : Kd.R Kd.string e w base ok v xs := by
  refine ⟨h0, xs.map Value.string, ho, by show _ = xs.length * 1; simp, fun j p hj => ?_⟩
  show ((xs.map Value.string).drop (j * 1)).take 1 = [Value.string p]
  obtain ⟨hl, hp⟩ := List.getElem?_eq_some_iff.1 hj
  rw [Nat.mul_one, List.drop_eq_getElem_cons (by simpa using hl)]
  simp [hp]
def bl (s : ByteArray) : List UInt8 := s.data.toList
def lb (l : List UInt8) : ByteArray := ⟨l.toArray⟩
theorem lb_bl (s : ByteArray) : lb (bl s) = s := by cases s; simp [lb, bl]
theorem map_lb_bl (xs : List ByteArray) : (xs.map bl).map lb = xs := by
  rw [List.map_map]
  refine Eq.trans ?_ (List.map_id xs)
  refine congrArg (fun q => List.map q xs) (funext fun s => lb_bl s)
theorem map_enc (ts : List (List UInt8)) : ts.map encStr = (ts.map lb).map Value.string := by
  rw [List.map_map]
  exact congrArg (fun q => List.map q ts) (funext fun s => rfl)
theorem map_str (xs : List ByteArray) : xs.map Value.string = (xs.map bl).map encStr := by
  rw [map_enc, map_lb_bl]
def slices_Clone_string_string.f (l0 : List ByteArray) : Option (List ByteArray) := if l0.length * 16 ≤ 140737488355328 then some l0 else none
theorem slices_Clone_string_string.calls (A0 : Option Addr) (c0 : Nat) (l0 : List ByteArray) (r : List ByteArray) (w : World) (hr0 : Kd.C Kd.string w A0 l0.length l0) (hc0 : l0.length ≤ c0) (h : slices_Clone_string_string.f l0 = some r) :
    Calls Try.prog 62 #[.slice A0 l0.length c0] w fun e w' => ∃ v0_ : Value, e = .returned (v0_) ∧ Kd.R Kd.string 9 w' w.heap.size (fun _ => True) v0_ r ∧ Below w.heap.size w w' := by
  unfold slices_Clone_string_string.f at h
  by_cases hb : l0.length * 16 ≤ 140737488355328
  · rw [if_pos hb] at h
    obtain rfl := Option.some.inj h
    obtain ⟨_, hm, hcell⟩ := hr0
    by_cases h0 : l0.length = 0
    · obtain rfl : l0 = [] := List.eq_nil_of_length_eq_zero h0
      cases A0 with
      | none => exact (Try.slices_Clone_string_nil 0 c0 w).mono fun e w' ⟨he, hw⟩ => ⟨_, he, Kd.R_nil _ _ _ _ _, by rw [hw]; exact Below.refl _ _⟩
      | some a => exact (Try.slices_Clone_string_zero a c0 w).mono fun e w' ⟨v, he, ho, _, hB⟩ => ⟨v, he, R_of_own (fun _ _ => trivial) ho, hB⟩
    · obtain ⟨ad, rfl, hc⟩ := hcell (by omega)
      have hc' : ∀ j (hj : j < l0.length), w.cell? (ad.add j) = some (.string l0[j]) := by
        intro j hj
        obtain ⟨c, hl, hK, hcc⟩ := hc j l0[j] (List.getElem?_eq_getElem hj)
        have hK' : c = [Value.string l0[j]] := hK
        have := hcc 0 (.string l0[j]) (by rw [hK']; rfl)
        have e : j * Kd.string.sz + 0 = j := by show j * 1 + 0 = j; omega
        rw [e] at this
        exact this
      have hp := addr_plain (hc' 0 (by omega))
      have hp2 : ad = ⟨ad.block, ad.off, none⟩ := by
        obtain ⟨b, o, t⟩ := ad
        cases t with
        | none => rfl
        | some x => simp [Addr.add] at hp
      rw [hp2]
      refine (Try.slices_Clone_string ad.block ad.off l0.length c0 l0 w (Nat.le_refl _) hb (fun j hj => ?_)).mono fun e w' ⟨v, he, ho, _, hB⟩ => ⟨v, he, R_of_own (fun _ _ => trivial) (by rw [List.take_length] at ho; exact ho), hB⟩
      have h1 := hc' j hj
      rw [hp2] at h1
      rw [List.getD_eq_getElem?_getD, List.getElem?_eq_getElem hj]
      rcases Nat.eq_zero_or_pos j with hj0 | hj0
      · subst hj0; exact h1
      · simpa [Addr.add, Nat.ne_of_gt hj0] using h1
  · rw [if_neg hb] at h
    cases h
def sortedS (l : List ByteArray) : List ByteArray := ((l.map bl).mergeSort fun x y => decide (x ≤ y)).map lb
theorem sortedS_nil : sortedS [] = [] := by simp [sortedS]
theorem sortedS_length (l : List ByteArray) : (sortedS l).length = l.length := by unfold sortedS; simp
def slices_Sort_string_string.f (l0 : List ByteArray) : Option (List ByteArray) := if l0.length < 4611686018427387904 then some (sortedS l0) else none
theorem slices_Sort_string_string.calls (P0_ : Nat → Prop) (u9000_ : Value) (l0 : List ByteArray) (r : List ByteArray) (w0 w : World) (hB : Below w0.heap.size w0 w) (ho0 : Kd.R Kd.string 9 w w0.heap.size P0_ u9000_ l0) (h : slices_Sort_string_string.f l0 = some r) :
    Calls Try.prog 63 #[u9000_] w fun e w' => e = .returned (.tuple #[]) ∧ Kd.R Kd.string 9 w' w0.heap.size (fun k_ => (P0_ k_ ∨ w.heap.size ≤ k_)) u9000_ r ∧ Below w0.heap.size w0 w' ∧ Kept w w' (fun k_ => P0_ k_) := by
  unfold slices_Sort_string_string.f at h
  by_cases hb : l0.length < 4611686018427387904
  · rw [if_pos hb] at h
    obtain rfl := Option.some.inj h
    have hrow := R_to_own ho0
    have hok := ho0.1
    obtain ⟨_, hcase⟩ := hrow
    rcases hcase with ⟨rfl, h0⟩ | ⟨g, cap, cur, rfl, hbase, hh, h1, h2, h3, h4⟩
    · obtain rfl : l0 = [] := List.eq_nil_of_length_eq_zero h0
      exact (Try.slices_Sort_string_none none 0 w).mono fun e w' ⟨he, hw⟩ => ⟨he, by rw [hw, sortedS_nil]; exact Kd.R_nil _ _ _ _ _, by rw [hw]; exact hB, by rw [hw]; exact Kept.refl _ _⟩
    · have hl : ((l0.map bl)).length = l0.length := by simp
      have hH : Holds encStr w g 0 (l0.map bl).toArray := holds_of_block hh (by rw [hl, ← map_str]; simpa using h4)
      have hg : g < w.heap.size := (Array.getElem?_eq_some_iff.1 hh).1
      have hcall := Try.slices_Sort_string g 0 cap (l0.map bl) w hH hg (by rw [hl]; exact hb)
      rw [hl] at hcall
      refine hcall.mono fun e w' ⟨he, n, os, hw⟩ => ?_
      subst hw
      have hts : ((l0.map bl).mergeSort fun x y => decide (x ≤ y)).length = (l0.map bl).length := by simp
      have hrow2 := ownsRow_sorted (n := n) (os := os) (e := 9) (base := w0.heap.size) (ss := l0.map bl) (ts := (l0.map bl).mergeSort fun x y => decide (x ≤ y)) hts hbase hh (by rw [hl]; exact h1) h2 (by simpa using h3)
      rw [hl, map_enc] at hrow2
      have hgr := grownBy_sorted (w := w) (g := g) (n := n) (os := os) ((l0.map bl).mergeSort fun x y => decide (x ≤ y)).toArray
      refine ⟨he, R_of_own (fun k hk => .inl (hok k hk)) (by rw [sortedS_length]; exact hrow2), hB.grown hgr hB.size (fun k hk => by cases hk; exact hbase), ⟨hgr.size, fun i hi hn => hgr.block i hi (fun e => hn (hok i (by rw [e]; rfl)))⟩⟩
  · rw [if_neg hb] at h
    cases h
theorem grow_none (w : World) : grow w #[] = w := by cases w; simp [grow]
def compactS (l : List ByteArray) : List ByteArray := (Lib.compact (l.map bl)).map lb
theorem compactS_nil : compactS [] = [] := rfl
theorem compact_le (zs : List (List UInt8)) : (Lib.compact zs).length ≤ zs.length := Lib.compact_length_le zs
def slices_Compact_string_string.f (l0 : List ByteArray) : Option (List ByteArray) := if l0.length ≤ 9223372036854775807 then some (compactS l0) else none
theorem slices_Compact_string_string.calls (P0_ : Nat → Prop) (u9000_ : Value) (l0 : List ByteArray) (r : List ByteArray) (w0 w : World) (hB : Below w0.heap.size w0 w) (ho0 : Kd.R Kd.string 9 w w0.heap.size P0_ u9000_ l0) (h : slices_Compact_string_string.f l0 = some r) :
    Calls Try.prog 66 #[u9000_] w fun e w' => ∃ v0_ : Value, e = .returned (v0_) ∧ Kd.R Kd.string 9 w' w0.heap.size (fun k_ => (P0_ k_ ∨ w.heap.size ≤ k_)) v0_ r ∧ Below w0.heap.size w0 w' ∧ Kept w w' (fun k_ => P0_ k_) := by
  unfold slices_Compact_string_string.f at h
  by_cases hb : l0.length ≤ 9223372036854775807
  · rw [if_pos hb] at h
    obtain rfl := Option.some.inj h
    have hrow := R_to_own ho0
    have hok := ho0.1
    obtain ⟨_, hcase⟩ := hrow
    rcases hcase with ⟨rfl, h0⟩ | ⟨g, cap, cur, rfl, hbase, hh, h1, h2, h3, h4⟩
    · obtain rfl : l0 = [] := List.eq_nil_of_length_eq_zero h0
      exact (Try.slices_Compact_string_empty none 0 w).mono fun e w' ⟨he, hw⟩ => ⟨_, he, by rw [hw, compactS_nil]; exact Kd.R_nil _ _ _ _ _, by rw [hw]; exact hB, by rw [hw]; exact Kept.refl _ _⟩
    · have hl : ((l0.map bl)).length = l0.length := by simp
      have hH : Holds encStr w g 0 (l0.map bl).toArray := holds_of_block hh (by rw [hl, ← map_str]; simpa using h4)
      have hcall := Try.slices_Compact_string g 0 cap (l0.map bl) w hH (by rw [hl]; exact hb) (by rw [hl]; exact h1)
      rw [hl] at hcall
      refine hcall.mono fun e w' ⟨he, n, hw⟩ => ?_
      have hle : (Lib.compact (l0.map bl)).length ≤ l0.length := by rw [← hl]; exact compact_le _
      have hts : (Lib.compact (l0.map bl) ++ List.replicate (l0.length - (Lib.compact (l0.map bl)).length) []).length = (l0.map bl).length := by rw [List.length_append, List.length_replicate, hl]; omega
      have hrow2 := ownsRow_sorted (n := n) (os := #[]) (e := 9) (base := w0.heap.size) (ss := l0.map bl) hts hbase hh (by rw [hl]; exact h1) h2 (by simpa using h3)
      have hg0 : grow (putRow encStr (Sort.ahead w n) g 0 (Lib.compact (l0.map bl) ++ List.replicate (l0.length - (Lib.compact (l0.map bl)).length) []).toArray) #[] = w' := by rw [hw]; exact grow_none _
      rw [hl, map_enc] at hrow2
      have hgr := grownBy_sorted (w := w) (g := g) (n := n) (os := #[]) (Lib.compact (l0.map bl) ++ List.replicate (l0.length - (Lib.compact (l0.map bl)).length) []).toArray
      rw [hg0] at hrow2 hgr
      refine ⟨_, he, R_of_own (fun k hk => .inl (hok k hk)) ?_, hB.grown hgr hB.size (fun k hk => by cases hk; exact hbase), ⟨hgr.size, fun i hi hn => hgr.block i hi (fun e => hn (hok i (by rw [e]; rfl)))⟩⟩
      obtain ⟨_, hc2⟩ := hrow2
      rcases hc2 with ⟨hx, _⟩ | ⟨g', cap', cur', hx, hbase', hh', h1', h2', h3', h4'⟩
      · cases hx
      · cases hx
        have hlc : (compactS l0).length = (Lib.compact (l0.map bl)).length := by simp [compactS]
        refine ⟨by simp, .inr ⟨g, cap, cur', by rw [hlc], hbase', hh', by rw [hlc]; omega, h2', h3', ?_⟩⟩
        rw [Nat.mul_one] at h4' ⊢
        have h5 := congrArg (List.take (compactS l0).length) h4'
        rw [List.take_take, Nat.min_eq_left (by rw [hlc]; exact hle), List.map_append, List.map_append, List.take_append_of_le_length (by simp [compactS])] at h5
        rw [h5]
        show _ = (compactS l0).map Value.string
        rw [show compactS l0 = (Lib.compact (l0.map bl)).map lb from rfl]
        exact List.take_of_length_le (by simp)
  · rw [if_neg hb] at h
    cases h
end Go.Proofs.Ytjknpmibdkoklaa.G
