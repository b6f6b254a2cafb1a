/- Functions of the given program as Lean functions, each with its contract, and what they answer; words for it. No condition but those of each. -/
import Derived.Test.YtjknpmibdkoklaaMJ11
import Derived.Test.YtjknpmibdkoklaaMJ16
set_option maxRecDepth 100000
namespace Go.Proofs.Ytjknpmibdkoklaa.G
open Go.RowKit Go.Proofs.YtjknpmibdkoklaaW.PrintWords Go.Proofs.YtjknpmibdkoklaaW.PrintLast Go.Proofs.YtjknpmibdkoklaaW.PrintMore
def risesB : Option ByteArray → List ByteArray → Bool
  | _, [] => true
  | p, x :: l => nameB x && ((match p with | none => true | some y => decide (bl y < bl x)) && risesB (some x) l)
theorem risesB_some : ∀ (l : List ByteArray) (y : ByteArray), risesB (some y) l = true ↔ (∀ x ∈ l, nameB x = true) ∧ Rise (y :: l)
  | [], y => by simp [risesB, Rise]
  | x :: l, y => by
    unfold risesB
    rw [Bool.and_eq_true, Bool.and_eq_true, risesB_some l x]
    simp only [decide_eq_true_eq, Rise, List.pairwise_cons]
    constructor
    · rintro ⟨h1, h2, h3, h4, h5⟩
      refine ⟨fun z hz => ?_, fun z hz => ?_, h4, h5⟩
      · rcases List.mem_cons.1 hz with rfl | hz
        · exact h1
        · exact h3 z hz
      · rcases List.mem_cons.1 hz with rfl | hz
        · exact h2
        · exact ltt h2 (h4 z hz)
    · rintro ⟨h1, h2, h4, h5⟩
      exact ⟨h1 x (List.mem_cons_self ..), h2 x (List.mem_cons_self ..), fun z hz => h1 z (List.mem_cons_of_mem _ hz), h4, h5⟩
theorem risesB_none (l : List ByteArray) : risesB none l = true ↔ (∀ x ∈ l, nameB x = true) ∧ Rise l := by
  cases l with
  | nil => simp [risesB, Rise]
  | cons x l =>
    unfold risesB
    rw [Bool.and_eq_true, Bool.and_eq_true, risesB_some l x]
    constructor
    · rintro ⟨h1, _, h3, h4⟩
      refine ⟨fun z hz => ?_, h4⟩
      rcases List.mem_cons.1 hz with rfl | hz
      · exact h1
      · exact h3 z hz
    · rintro ⟨h1, h4⟩
      exact ⟨h1 x (List.mem_cons_self ..), rfl, fun z hz => h1 z (List.mem_cons_of_mem _ hz), h4⟩
theorem rd_nat {l : List ByteArray} {i : Nat} (h : i < l.length) : rdOf ByteArray.empty l (i : Int) = l[i] := by rw [rdOf_nat, List.getD_eq_getElem?_getD, List.getElem?_eq_getElem h]; rfl
def prevS (l : List ByteArray) (i : Nat) : Option ByteArray := if i = 0 then none else l[i - 1]?
theorem prevS_succ {l : List ByteArray} {i : Nat} (h : i < l.length) : prevS l (i + 1) = some l[i] := by
  unfold prevS
  rw [if_neg (by omega)]
  exact List.getElem?_eq_getElem h
theorem rises_loop (l : List ByteArray) (hl : l.length < 4611686018427387904) : ∀ (n i : Nat), i ≤ l.length → l.length - i = n → Ev (fun k => glyph_Rises.l0 k l l (l.length : Int) (i : Int)) (risesB (prevS l i) (l.drop i))
  | 0, i, hi, hn => by
    rw [List.drop_of_length_le (by omega)]
    exact Ev.step (f := fun _ => some true) (fun k => by
      show glyph_Rises.l0 (k + 1) l l (l.length : Int) (i : Int) = _
      conv => lhs; unfold glyph_Rises.l0
      rw [if_neg (by omega)]) (Ev.now _)
  | n + 1, i, hi, hn => by
    have hlt : i < l.length := by omega
    have ih := rises_loop l hl n (i + 1) (by omega) (by omega)
    rw [prevS_succ hlt] at ih
    rw [List.drop_eq_getElem_cons hlt]
    have hw : wrap64 ((i : Int) + 1) = ((i + 1 : Nat) : Int) := by unfold wrap64; omega
    have hw2 : wrap64 ((i : Int) - 1) = (i : Int) - 1 := by unfold wrap64; omega
    have step : ∀ k, glyph_Rises.l0 (k + 1) l l (l.length : Int) (i : Int) = (if nameB l[i] = true then (if (match prevS l i with | none => true | some y => decide (bl y < bl l[i])) = true then glyph_Rises.l0 k l l (l.length : Int) ((i + 1 : Nat) : Int) else some false) else some false) := fun k => by
      conv => lhs; unfold glyph_Rises.l0
      rw [if_pos (by omega), if_pos (by omega), if_pos (by omega), rd_nat hlt, hw]
      unfold glyph_Name.f
      rw [Option.bind_some]
      by_cases hnm : nameB l[i] = true
      · rw [if_pos hnm, if_pos hnm]
        by_cases h0 : i = 0
        · subst h0
          rw [if_neg (by omega)]
          simp [prevS]
        · have hp : prevS l i = some l[i - 1] := by
            unfold prevS
            rw [if_neg h0]
            exact List.getElem?_eq_getElem (by omega)
          rw [if_pos (by omega), hw2, if_pos (by omega), if_pos (by omega), show (i : Int) - 1 = ((i - 1 : Nat) : Int) by omega, rd_nat (by omega), less_eq, hp]
      · rw [if_neg hnm, if_neg hnm]
    refine Ev.step step ?_
    unfold risesB
    by_cases h1 : nameB l[i] = true
    · refine Ev.congr (fun k => if_pos h1) ?_
      rw [h1, Bool.true_and]
      by_cases h2 : (match prevS l i with | none => true | some y => decide (bl y < bl l[i])) = true
      · refine Ev.congr (fun k => if_pos h2) ?_
        rw [h2, Bool.true_and]
        exact ih
      · refine Ev.congr (fun k => if_neg h2) ?_
        rw [Bool.eq_false_iff.mpr h2, Bool.false_and]
        exact Ev.now _
    · refine Ev.congr (fun k => if_neg h1) ?_
      rw [Bool.eq_false_iff.mpr h1, Bool.false_and]
      exact Ev.now _
theorem rises_ev (l : List ByteArray) (hl : l.length < 4611686018427387904) : Ev (fun k => glyph_Rises.f k l) (risesB none l) := rises_loop l hl _ 0 (Nat.zero_le _) rfl
def unionA (a b : List ByteArray) : List ByteArray × Int := if risesB none a = true then (if risesB none b = true then (canon (a ++ b), 0) else ([], 3)) else ([], 3)
theorem union_ev (a b : List ByteArray) (ha : a.length ≤ 2000000) (hb : b.length ≤ 2000000) : Ev (fun k => glyph_Union.f k a b) (unionA a b) := by
  have stop : ∀ r, r = true → Ev (fun k => glyph_Union.j0 k a b r) ([], 3) := fun r hr => Ev.step (f := fun _ => some ([], 3)) (fun k => by
    show glyph_Union.j0 (k + 1) a b r = _
    simp only [glyph_Union.j0]
    rw [if_pos hr]) (Ev.now _)
  refine Ev.bind (rises_ev a (by omega)) ?_
  unfold unionA
  by_cases h1 : risesB none a = true
  · rw [if_pos h1]
    refine Ev.congr (fun k => if_pos h1) (Ev.bind (rises_ev b (by omega)) ?_)
    by_cases h2 : risesB none b = true
    · rw [if_pos h2, h2]
      refine Ev.step (f := fun _ => some (canon (a ++ b), 0)) (fun k => ?_) (Ev.now _)
      show glyph_Union.j0 (k + 1) a b (!true) = _
      simp only [glyph_Union.j0]
      unfold slices_Clone_string_string.f slices_Sort_string_string.f slices_Compact_string_string.f
      rw [if_neg (by decide), if_pos (by omega), Option.bind_some, if_pos (by omega), if_pos (by rw [List.length_append]; omega), Option.bind_some, if_pos (by rw [sortedS_length, List.length_append]; omega), Option.bind_some]
      rfl
    · rw [if_neg h2]
      exact stop _ (by rw [Bool.eq_false_iff.mpr h2]; rfl)
  · rw [if_neg h1]
    exact Ev.congr (fun k => if_neg h1) (stop true rfl)
end Go.Proofs.Ytjknpmibdkoklaa.G
