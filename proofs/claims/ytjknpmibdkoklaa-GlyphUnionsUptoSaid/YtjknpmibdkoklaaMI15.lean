/- Functions of the given program as Lean functions, each with its contract, and what they answer; words for it. No condition but those of each. -/
import Derived.Test.YtjknpmibdkoklaaMI13
import Derived.Test.YtjknpmibdkoklaaMI14
set_option maxRecDepth 100000
namespace Go.Proofs.Ytjknpmibdkoklaa.G
open Go.RowKit Go.Proofs.YtjknpmibdkoklaaW.PrintWords Go.Proofs.YtjknpmibdkoklaaW.PrintLast Go.Proofs.YtjknpmibdkoklaaW.PrintMore
theorem unionA_comm (a b : List ByteArray) : unionA a b = unionA b a := by
  have e : canon (a ++ b) = canon (b ++ a) := rise_unique (canon_rise _) (canon_rise _) fun x => by rw [mem_canon, mem_canon, List.mem_append, List.mem_append, or_comm]
  unfold unionA
  by_cases h1 : risesB none a = true
  · by_cases h2 : risesB none b = true
    · rw [if_pos h1, if_pos h2, if_pos h2, if_pos h1, e]
    · rw [if_pos h1, if_neg h2, if_neg h2]
  · rw [if_neg h1]
    by_cases h2 : risesB none b = true
    · rw [if_pos h2, if_neg h1]
    · rw [if_neg h2]
theorem unions_end (a u : List ByteArray) (ha : a.length ≤ 1048576) (hu : u.length ≤ 1048576) (ra : risesB none a = true) (ru : risesB none u = true) :
    Ev (fun k => (glyph_Sorted.f k u).bind fun bt426 => (glyph_Union.f k a a).bind fun bt442 => (glyph_Rises.f k u).bind fun t446 => (if t446 = true then (if bt426.2 = 0 then ((tabardlaw04_same.f k bt426.1 u).bind fun t447 => (if t447 = true then (if bt442.2 = 0 then ((tabardlaw04_same.f k bt442.1 a).bind fun t448 => (some t448)) else (some false)) else (some false))) else (some false)) else (some false))) true := by
  have hu1 := (risesB_none u).1 ru
  have ha1 := (risesB_none a).1 ra
  have cu := canon_of_rise hu1.2
  have es : sortedS u = u := by rw [← canon_all (l := u) (by rw [cu]), cu]
  have hsa : sortedA u = (u, 0) := by
    unfold sortedA
    rw [if_neg (fun e => by obtain ⟨x, hx, hx2⟩ := List.any_eq_true.1 e; rw [hu1.1 x hx] at hx2; cases hx2), es, if_pos ru]
  have hua : unionA a a = (a, 0) := by
    unfold unionA
    rw [if_pos ra, if_pos ra, show canon (a ++ a) = a from rise_unique (canon_rise _) ha1.2 fun x => by rw [mem_canon, List.mem_append, or_self]]
  have h1 := sorted_ev u (by omega)
  have h2 := union_ev a a (by omega) (by omega)
  rw [hsa] at h1
  rw [hua] at h2
  refine Ev.bind h1 (Ev.bind h2 (Ev.bind (rises_ev u (by omega)) ?_))
  refine Ev.congr (fun k => if_pos ru) (Ev.congr (fun k => if_pos rfl) (Ev.bind (same4_refl u (by omega)) ?_))
  refine Ev.congr (fun k => if_pos rfl) (Ev.congr (fun k => if_pos rfl) (Ev.bind (same4_refl a (by omega)) (Ev.now _)))
theorem unions_l1 (a b u : List ByteArray) (ha : a.length ≤ 1048576) (hu : u.length ≤ 1048576) (hl : (a ++ b).length ≤ 1048576) (ra : risesB none a = true) (ru : risesB none u = true) (hm : ∀ s ∈ a ++ b, s ∈ u) : ∀ (n i : Nat), i ≤ (a ++ b).length → (a ++ b).length - i = n → Ev (fun k => tabardlaw04_GlyphUnions.l1 k a u (a ++ b) ((a ++ b).length : Int) (i : Int)) true
  | 0, i, hi, hn => by
    refine Ev.step (f := fun k => (glyph_Sorted.f k u).bind fun bt426 => (glyph_Union.f k a a).bind fun bt442 => (glyph_Rises.f k u).bind fun t446 => (if t446 = true then (if bt426.2 = 0 then ((tabardlaw04_same.f k bt426.1 u).bind fun t447 => (if t447 = true then (if bt442.2 = 0 then ((tabardlaw04_same.f k bt442.1 a).bind fun t448 => (some t448)) else (some false)) else (some false))) else (some false)) else (some false))) (fun k => ?_) (unions_end a u ha hu ra ru)
    conv => lhs; rw [tabardlaw04_GlyphUnions.l1]
    rw [if_neg (by omega), Option.bind_some, if_pos (by simp; omega), List.nil_append]
    congr 1
    funext bt
    rw [Option.bind_some, if_pos (by simp; omega), Option.bind_some, if_pos (by simp; omega), List.nil_append]
  | n + 1, i, hi, hn => by
    have hlt : i < (a ++ b).length := by omega
    have hw : wrap64 ((i : Int) + 1) = ((i + 1 : Nat) : Int) := by unfold wrap64; omega
    refine Ev.step (f := fun k => (glyph_Index.f k u (a ++ b)[i]).bind fun t419 => (if t419 < 0 then (some false) else (tabardlaw04_GlyphUnions.l1 k a u (a ++ b) ((a ++ b).length : Int) ((i + 1 : Nat) : Int)))) (fun k => ?_) ?_
    · conv => lhs; rw [tabardlaw04_GlyphUnions.l1]
      rw [if_pos (by omega), if_pos (by omega), if_pos (by omega), rd_nat hlt, hw]
    · refine Ev.bind (index_ev u _ (by omega)) ?_
      refine Ev.congr (fun k => if_neg (fun e => (idxFrom_neg _ u 0 (by omega)).1 e (hm _ (List.getElem_mem hlt)))) ?_
      exact unions_l1 a b u ha hu hl ra ru hm n (i + 1) (by omega) (by omega)
theorem unions_l0 (a b u : List ByteArray) (ha : a.length ≤ 1048576) (hb : b.length ≤ 1048576) (hu : u.length ≤ 1048576) (hl : (a ++ b).length ≤ 1048576) (ra : risesB none a = true) (ru : risesB none u = true) (hm : ∀ s, s ∈ u ↔ s ∈ a ++ b) : ∀ (n i : Nat), i ≤ u.length → u.length - i = n → Ev (fun k => tabardlaw04_GlyphUnions.l0 k a b u u (u.length : Int) (i : Int)) true
  | 0, i, hi, hn => by
    refine Ev.step (f := fun k => tabardlaw04_GlyphUnions.l1 k a u (a ++ b) ((a ++ b).length : Int) 0) (fun k => ?_) (unions_l1 a b u ha hu hl ra ru (fun s hs => (hm s).2 hs) _ 0 (Nat.zero_le _) rfl)
    conv => lhs; rw [tabardlaw04_GlyphUnions.l0]
    rw [if_neg (by omega), Option.bind_some, if_pos (by simp; omega), Option.bind_some, if_pos (by simp; omega), Option.bind_some, List.nil_append]
  | n + 1, i, hi, hn => by
    have hlt : i < u.length := by omega
    have hw : wrap64 ((i : Int) + 1) = ((i + 1 : Nat) : Int) := by unfold wrap64; omega
    have ih := unions_l0 a b u ha hb hu hl ra ru hm n (i + 1) (by omega) (by omega)
    refine Ev.step (f := fun k => (glyph_Index.f k a u[i]).bind fun t407 => (if t407 < 0 then ((glyph_Index.f k b u[i]).bind fun t408 => (if t408 < 0 then (some false) else (tabardlaw04_GlyphUnions.l0 k a b u u (u.length : Int) ((i + 1 : Nat) : Int)))) else (tabardlaw04_GlyphUnions.l0 k a b u u (u.length : Int) ((i + 1 : Nat) : Int)))) (fun k => ?_) ?_
    · conv => lhs; rw [tabardlaw04_GlyphUnions.l0]
      rw [if_pos (by omega), if_pos (by omega), if_pos (by omega), rd_nat hlt, hw]
    · refine Ev.bind (index_ev a _ (by omega)) ?_
      by_cases h : idxFrom u[i] 0 a < 0
      · refine Ev.congr (fun k => if_pos h) (Ev.bind (index_ev b _ (by omega)) ?_)
        refine Ev.congr (fun k => if_neg (fun e => ?_)) ih
        rcases List.mem_append.1 ((hm _).1 (List.getElem_mem hlt)) with h1 | h1
        · exact (idxFrom_neg _ a 0 (by omega)).1 h h1
        · exact (idxFrom_neg _ b 0 (by omega)).1 e h1
      · exact Ev.congr (fun k => if_neg h) ih
theorem GlyphUnions_ev {a b : List ByteArray} (hl : a.length + b.length ≤ 1048576) : Ev (fun k => tabardlaw04_GlyphUnions.f k a b) true := by
  unfold tabardlaw04_GlyphUnions.f
  refine Ev.congr (f := fun k => (glyph_Union.f k a b).bind fun bt383 => (glyph_Union.f k b a).bind fun bt399 => (if bt383.2 = bt399.2 then ((tabardlaw04_same.f k bt383.1 bt399.1).bind fun t403 => (tabardlaw04_GlyphUnions.j0 k a b bt383.1 bt383.2 (!t403))) else (tabardlaw04_GlyphUnions.j0 k a b bt383.1 bt383.2 true))) (fun k => ?_) ?_
  · rw [fixed4, Option.bind_some, if_pos rfl, Option.bind_some, if_pos (by simp; omega), Option.bind_some, if_pos (by simp; omega), List.nil_append, List.nil_append]
    congr 1
    funext bt
    rw [Option.bind_some, if_pos (by simp; omega), Option.bind_some, if_pos (by simp; omega), List.nil_append, List.nil_append]
  · have hul := unionA_length a b
    refine Ev.bind (union_ev a b (by omega) (by omega)) (Ev.bind (union_ev b a (by omega) (by omega)) ?_)
    rw [unionA_comm b a]
    refine Ev.congr (fun k => if_pos rfl) (Ev.bind (same4_refl _ (by omega)) ?_)
    have j0 : ∀ k, tabardlaw04_GlyphUnions.j0 (k + 1) a b (unionA a b).1 (unionA a b).2 (!true) = (if (unionA a b).2 = 0 then (tabardlaw04_GlyphUnions.l0 k a b (unionA a b).1 (unionA a b).1 ((unionA a b).1.length : Int) 0) else (if (unionA a b).2 = 3 then ((glyph_Rises.f k a).bind fun t404 => (if t404 = true then ((glyph_Rises.f k b).bind fun t405 => (some (!t405))) else (some true))) else (some false))) := fun k => by
      conv => lhs; rw [tabardlaw04_GlyphUnions.j0]
      rw [if_neg (by decide)]
    refine Ev.step j0 ?_
    by_cases h1 : risesB none a = true
    · by_cases h2 : risesB none b = true
      · have hu : unionA a b = (canon (a ++ b), 0) := by unfold unionA; rw [if_pos h1, if_pos h2]
        rw [hu] at hul ⊢
        refine Ev.congr (fun k => if_pos rfl) ?_
        have hn1 := ((risesB_none a).1 h1).1
        have hn2 := ((risesB_none b).1 h2).1
        exact unions_l0 a b (canon (a ++ b)) (by omega) (by omega) (by dsimp only at hul; omega) (by rw [List.length_append]; omega) h1 ((risesB_none _).2 ⟨fun x hx => (List.mem_append.1 (mem_canon.1 hx)).elim (hn1 x) (hn2 x), canon_rise _⟩) (fun s => mem_canon) _ 0 (Nat.zero_le _) rfl
      · have hu : unionA a b = ([], 3) := by unfold unionA; rw [if_pos h1, if_neg h2]
        rw [hu]
        refine Ev.congr (fun k => if_neg (by decide)) (Ev.congr (fun k => if_pos rfl) (Ev.bind (rises_ev a (by omega)) ?_))
        refine Ev.congr (fun k => if_pos h1) (Ev.bind (rises_ev b (by omega)) ?_)
        rw [Bool.eq_false_iff.mpr h2]
        exact Ev.now _
    · have hu : unionA a b = ([], 3) := by unfold unionA; rw [if_neg h1]
      rw [hu]
      refine Ev.congr (fun k => if_neg (by decide)) (Ev.congr (fun k => if_pos rfl) (Ev.bind (rises_ev a (by omega)) ?_))
      refine Ev.congr (fun k => if_neg h1) ?_
      exact Ev.now _
end Go.Proofs.Ytjknpmibdkoklaa.G
