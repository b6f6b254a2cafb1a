/- Functions of the given program as Lean functions, each with its contract, and what they answer; words for it. No condition but those of each. -/
import Derived.Test.YtjknpmibdkoklaaMJ27
import Derived.Test.YtjknpmibdkoklaaMJ28
set_option maxRecDepth 100000
namespace Go.Proofs.Ytjknpmibdkoklaa.G
open Go.RowKit Go.Proofs.YtjknpmibdkoklaaW.PrintWords Go.Proofs.YtjknpmibdkoklaaW.PrintLast Go.Proofs.YtjknpmibdkoklaaW.PrintMore
theorem behind {l : List ByteArray} (x : ByteArray) : rdOf ByteArray.empty (l ++ [x, x]) (l.length : Int) = x := by
  unfold rdOf
  rw [Int.toNat_natCast, List.getD_eq_getElem?_getD, List.getElem?_append_right (Nat.le_refl _), Nat.sub_self]
  rfl
theorem lists_l1 (a b p q x9 : List ByteArray) (ha : a.length ≤ 1048576) (hb : b.length ≤ 1048576) (hp : p = a) (hq : q = b) (h9 : x9.length ≤ 1048576) (m : Nat) (hm : m ≤ 2097152) : ∀ (n i : Nat) (x13 : List ByteArray), x13.length = m → i ≤ m → m - i = n → Ev (fun k => tabardlaw04_GlyphLists.l1 k a b p q x9 x13 (m : Int) (i : Int)) true
  | 0, i, x13, h13, hi, hn => by
    subst hp hq
    refine Ev.step (f := fun k => (tabardlaw04_same.f k p p).bind fun t366 => (if t366 = true then ((tabardlaw04_same.f k q q).bind fun t367 => (if t367 = true then some true else (some false))) else (some false))) (fun k => ?_) ?_
    · conv => lhs; rw [tabardlaw04_GlyphLists.l1]
      rw [if_neg (by omega), Option.bind_some, if_pos (by simp; omega), Option.bind_some, Option.bind_some, if_pos (by simp; omega), Option.bind_some]
      congr 1
      funext t
      congr 1
      congr 1
      funext u
      congr 1
      rw [if_pos (by omega), if_pos (by simp; omega), behind, if_pos (by decide +kernel), if_pos (by omega), if_pos (by simp; omega), behind, show ((⟨#[121]⟩ : ByteArray).toList == ([121] : List UInt8)) = true by decide +kernel]
    · refine Ev.bind (same4_refl p (by omega)) ?_
      refine Ev.congr (fun k => if_pos rfl) (Ev.bind (same4_refl q (by omega)) ?_)
      exact Ev.congr (fun k => if_pos rfl) (Ev.now _)
  | n + 1, i, x13, h13, hi, hn => by
    have hw : wrap64 ((i : Int) + 1) = ((i + 1 : Nat) : Int) := by unfold wrap64; omega
    refine Ev.step (fun k => ?_) (lists_l1 a b p q x9 ha hb hp hq h9 m hm n (i + 1) (x13.set i (⟨#[117]⟩ : ByteArray)) (by rw [List.length_set]; exact h13) (by omega) (by omega))
    conv => lhs; rw [tabardlaw04_GlyphLists.l1]
    rw [if_pos (by omega), if_pos (by omega), if_pos (by omega), hw, Int.toNat_natCast]
theorem lists_l0 (a b p q x13 : List ByteArray) (ha : a.length ≤ 1048576) (hb : b.length ≤ 1048576) (hp : p = a) (hq : q = b) (h13 : x13.length ≤ 2097152) (m : Nat) (hm : m ≤ 1048576) : ∀ (n i : Nat) (x9 : List ByteArray), x9.length = m → i ≤ m → m - i = n → Ev (fun k => tabardlaw04_GlyphLists.l0 k a b p q x9 x13 (m : Int) (i : Int)) true
  | 0, i, x9, h9, hi, hn => by
    refine Ev.step (fun k => ?_) (lists_l1 a b p q x9 ha hb hp hq (by omega) x13.length h13 _ 0 x13 rfl (Nat.zero_le _) rfl)
    conv => lhs; rw [tabardlaw04_GlyphLists.l0]
    rw [if_neg (by omega)]
    rfl
  | n + 1, i, x9, h9, hi, hn => by
    have hw : wrap64 ((i : Int) + 1) = ((i + 1 : Nat) : Int) := by unfold wrap64; omega
    refine Ev.step (fun k => ?_) (lists_l0 a b p q x13 ha hb hp hq h13 m hm n (i + 1) (x9.set i (⟨#[108]⟩ : ByteArray)) (by rw [List.length_set]; exact h9) (by omega) (by omega))
    conv => lhs; rw [tabardlaw04_GlyphLists.l0]
    rw [if_pos (by omega), if_pos (by omega), if_pos (by omega), hw, Int.toNat_natCast]
theorem GlyphLists_ev {a b : List ByteArray} {s : ByteArray} (hl : a.length + b.length ≤ 1048576) (sa : ∀ s ∈ a, s.size ≤ 140737488351232) (sb : ∀ s ∈ b, s.size ≤ 140737488351232) : Ev (fun k => tabardlaw04_GlyphLists.f k a b s) true := by
  have hsl := sortedA_length a
  have hul := unionA_length a b
  have j0 : Ev (fun k => tabardlaw04_GlyphLists.j0 k a b a b (sortedA a).1 (unionA a b).1 false) true := by
    refine Ev.step (fun k => ?_) (lists_l0 a b a b (unionA a b).1 (by omega) (by omega) rfl rfl (by omega) (sortedA a).1.length (by omega) _ 0 (sortedA a).1 rfl (Nat.zero_le _) rfl)
    conv => lhs; rw [tabardlaw04_GlyphLists.j0]
    rw [if_neg (by decide)]
    rfl
  unfold tabardlaw04_GlyphLists.f
  refine Ev.congr (f := fun k => (glyph_Sorted.f k a).bind fun bt329 => ((tabardref04_Sorted.f k a).bind fun bt333 => ((glyph_Union.f k a b).bind fun bt337 => ((tabardref04_Union.f k a b).bind fun bt341 => ((tabardlaw04_same.f k bt329.1 bt333.1).bind fun t346 => (if t346 = true then (if bt329.2 = bt333.2 then ((tabardlaw04_same.f k bt337.1 bt341.1).bind fun t347 => (if t347 = true then (if bt337.2 = bt341.2 then ((glyph_Rises.f k a).bind fun t348 => ((tabardref04_Rises.f k a).bind fun t349 => (if (t348 != t349) = true then (tabardlaw04_GlyphLists.j0 k a b a b bt329.1 bt337.1 true) else ((glyph_Index.f k a s).bind fun t350 => ((tabardref04_Index.f k a s).bind fun t351 => (tabardlaw04_GlyphLists.j0 k a b a b bt329.1 bt337.1 (t350 != t351))))))) else (tabardlaw04_GlyphLists.j0 k a b a b bt329.1 bt337.1 true)) else (tabardlaw04_GlyphLists.j0 k a b a b bt329.1 bt337.1 true))) else (tabardlaw04_GlyphLists.j0 k a b a b bt329.1 bt337.1 true)) else (tabardlaw04_GlyphLists.j0 k a b a b bt329.1 bt337.1 true))))))) (fun k => ?_) ?_
  · rw [Option.bind_some, if_pos (by simp; omega), Option.bind_some, Option.bind_some, if_pos (by simp; omega), Option.bind_some, List.nil_append, List.nil_append]
    congr 1
    funext t1
    congr 1
    funext t2
    congr 1
    funext t3
    congr 1
    funext t4
    rw [fixed4, Option.bind_some, if_pos rfl]
  · refine Ev.bind (sorted_ev a (by omega)) (Ev.bind (rsorted_ev a (by omega) sa) (Ev.bind (union_ev a b (by omega) (by omega)) (Ev.bind (runion_ev a b (by omega) (by omega) sa sb) ?_)))
    refine Ev.bind (same4_refl _ (by omega)) (Ev.congr (fun k => if_pos rfl) (Ev.congr (fun k => if_pos rfl) ?_))
    refine Ev.bind (same4_refl _ (by omega)) (Ev.congr (fun k => if_pos rfl) (Ev.congr (fun k => if_pos rfl) ?_))
    refine Ev.bind (rises_ev a (by omega)) (Ev.bind (rrises_ev a (by omega) sa) ?_)
    refine Ev.congr (fun k => if_neg (by simp)) (Ev.bind (index_ev a s (by omega)) (Ev.bind (rindex_ev a s (by omega)) ?_))
    rw [bne_self_eq_false]
    exact j0
end Go.Proofs.Ytjknpmibdkoklaa.G
