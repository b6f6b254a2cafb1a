/- Functions of the given program as Lean functions, each with its contract, and what they answer; words for it. No condition but those of each. -/
import Derived.Test.YtjknpmibdkoklaaMG26
import Derived.Test.YtjknpmibdkoklaaMG33
import Derived.Test.YtjknpmibdkoklaaMG34
import Derived.Test.YtjknpmibdkoklaaMG5
import Derived.Test.YtjknpmibdkoklaaMG35
import Derived.Test.YtjknpmibdkoklaaMG29
import Derived.Test.YtjknpmibdkoklaaMG22
import Derived.Test.YtjknpmibdkoklaaMG28
import Derived.Test.YtjknpmibdkoklaaMG20
set_option maxRecDepth 100000
namespace Go.Proofs.Ytjknpmibdkoklaa.Q
open Go.RowKit Go.Proofs.YtjknpmibdkoklaaW.PrintWords Go.Proofs.YtjknpmibdkoklaaW.PrintLast Go.Proofs.YtjknpmibdkoklaaW.PrintMore
mutual
theorem sameT_refl : ∀ t : S66, sameT t t = true
  | ⟨a, b, s, l⟩ => by rw [sameT]; simp [sameTs_refl l]
theorem sameTs_refl : ∀ l : List S66, sameTs l l = true
  | [] => by rw [sameTs]; rfl
  | t :: l => by rw [sameTs]; simp [sameT_refl t, sameTs_refl l]
end
mutual
theorem sameF_refl : ∀ t : S39, sameF t t = true
  | ⟨a, s, b, l, q⟩ => by rw [sameF]; simp [sameTs_refl l, sameFs_refl q]
theorem sameFs_refl : ∀ l : List S39, sameFs l l = true
  | [] => by rw [sameFs]; rfl
  | t :: l => by rw [sameFs]; simp [sameF_refl t, sameFs_refl l]
end
def errF (t : S39) : Int := (measF t 1 (0, 0, 0)).2.2
def sameA (t u : S39) : Bool := if errF t = 0 then (if errF u = 0 then sameF t u else false) else false
theorem Same_eq (t u : S39) : tree_Same.f t.f0 t.f1 t.f2 t.f3 t.f4 u.f0 u.f1 u.f2 u.f3 u.f4 = some (sameA t u) := by
  unfold tree_Same.f tree_Check.f tree_measured.f tree_same.f
  rw [Option.bind_some, Option.bind_some, eta39, eta39]
  show (if errF t = 0 then _ else _) = _
  unfold sameA
  by_cases h : errF t = 0
  · rw [if_pos h, if_pos h, Option.bind_some, Option.bind_some]
    show (if errF u = 0 then _ else _) = _
    by_cases k : errF u = 0
    · rw [if_pos k, if_pos k]; rfl
    · rw [if_neg k, if_neg k]
  · rw [if_neg h, if_neg h]
end Go.Proofs.Ytjknpmibdkoklaa.Q
set_option maxRecDepth 100000
namespace Go.Proofs.Ytjknpmibdkoklaa.Q
open Go.RowKit Go.Proofs.YtjknpmibdkoklaaW.PrintWords Go.Proofs.YtjknpmibdkoklaaW.PrintLast Go.Proofs.YtjknpmibdkoklaaW.PrintMore
def bareF (t : S39) : Bool := decide (t.f1.toList = ([] : List UInt8)) && (t.f2 == 0)
def partsF (t : S39) (a b : Int) : Bool := ((t.f3.length : Int) == a) && ((t.f4.length : Int) == b)
theorem okF_told (t : S39) : okF t = if t.f0 = 0 ∨ t.f0 = 1 then bareF t && partsF t 0 0 else if t.f0 = 2 then bareF t && partsF t 0 1 else if 3 ≤ t.f0 ∧ t.f0 ≤ 6 then bareF t && partsF t 0 2 else if t.f0 = 7 ∨ t.f0 = 8 then nameB t.f1 && ((t.f2 == 0) && partsF t 0 1) else if 9 ≤ t.f0 ∧ t.f0 ≤ 14 then bareF t && partsF t 2 0 else if t.f0 = 15 then decide (t.f1.toList = ([] : List UInt8)) && (decide (t.f2 ≥ 1) && partsF t 2 0) else false := by
  have fin : ∀ (b : Bool) (x y p q : Int), (if b = true then (if x = p then (some (y == q)) else (some false)) else (some false)).getD false = (b && ((x == p) && (y == q))) := by
    intro b x y p q
    cases b
    · rfl
    · by_cases h : x = p <;> simp [h]
  have aux : ∀ b, b = bareF t → (tree_formula.j0 6 b t.f0 t.f1 t.f2 t.f3 t.f4).getD false = if t.f0 = 0 ∨ t.f0 = 1 then bareF t && partsF t 0 0 else if t.f0 = 2 then bareF t && partsF t 0 1 else if 3 ≤ t.f0 ∧ t.f0 ≤ 6 then bareF t && partsF t 0 2 else if t.f0 = 7 ∨ t.f0 = 8 then nameB t.f1 && ((t.f2 == 0) && partsF t 0 1) else if 9 ≤ t.f0 ∧ t.f0 ≤ 14 then bareF t && partsF t 2 0 else if t.f0 = 15 then decide (t.f1.toList = ([] : List UInt8)) && (decide (t.f2 ≥ 1) && partsF t 2 0) else false := by
    rintro b rfl
    have e0 : tree_formula.j0 6 (bareF t) t.f0 t.f1 t.f2 t.f3 t.f4 = tree_formula.j1 5 (bareF t) (t.f3.length : Int) (t.f4.length : Int) (decide (t.f0 = 0 ∨ t.f0 = 1)) t.f0 t.f1 t.f2 t.f3 t.f4 := by
      simp only [tree_formula.j0]
      by_cases h : t.f0 = 0
      · rw [if_pos h]; simp [h]
      · rw [if_neg h]
        congr 1
        by_cases h1 : t.f0 = 1 <;> simp [h, h1]
    rw [e0]
    by_cases h0 : t.f0 = 0 ∨ t.f0 = 1
    · rw [if_pos h0]
      simp only [tree_formula.j1]
      rw [if_pos (decide_eq_true h0)]
      exact fin _ _ _ _ _
    · rw [if_neg h0]
      simp only [tree_formula.j1]
      rw [if_neg (by simp [h0])]
      by_cases h2 : t.f0 = 2
      · rw [if_pos h2, if_pos h2]
        exact fin _ _ _ _ _
      · rw [if_neg h2, if_neg h2]
        have e1 : (if t.f0 ≥ 3 then (tree_formula.j2 4 (bareF t) (t.f3.length : Int) (t.f4.length : Int) (decide (t.f0 ≤ 6)) t.f0 t.f1 t.f2 t.f3 t.f4) else (tree_formula.j2 4 (bareF t) (t.f3.length : Int) (t.f4.length : Int) false t.f0 t.f1 t.f2 t.f3 t.f4)) = tree_formula.j2 4 (bareF t) (t.f3.length : Int) (t.f4.length : Int) (decide (3 ≤ t.f0 ∧ t.f0 ≤ 6)) t.f0 t.f1 t.f2 t.f3 t.f4 := by
          by_cases h : t.f0 ≥ 3
          · rw [if_pos h]
            congr 1
            by_cases h6 : t.f0 ≤ 6 <;> simp [h6] <;> omega
          · rw [if_neg h]
            congr 1
            simp
            omega
        rw [e1]
        by_cases h3 : 3 ≤ t.f0 ∧ t.f0 ≤ 6
        · rw [if_pos h3]
          simp only [tree_formula.j2]
          rw [if_pos (decide_eq_true h3)]
          exact fin _ _ _ _ _
        · rw [if_neg h3]
          simp only [tree_formula.j2]
          rw [if_neg (by rw [decide_eq_true_eq]; exact h3)]
          have e2 : (if t.f0 = 7 then (tree_formula.j3 3 (bareF t) (t.f3.length : Int) (t.f4.length : Int) true t.f0 t.f1 t.f2 t.f3 t.f4) else (tree_formula.j3 3 (bareF t) (t.f3.length : Int) (t.f4.length : Int) (t.f0 == 8) t.f0 t.f1 t.f2 t.f3 t.f4)) = tree_formula.j3 3 (bareF t) (t.f3.length : Int) (t.f4.length : Int) (decide (t.f0 = 7 ∨ t.f0 = 8)) t.f0 t.f1 t.f2 t.f3 t.f4 := by
            by_cases h : t.f0 = 7
            · rw [if_pos h]; simp [h]
            · rw [if_neg h]
              congr 1
              by_cases h1 : t.f0 = 8 <;> simp [h, h1]
          rw [e2]
          by_cases h7 : t.f0 = 7 ∨ t.f0 = 8
          · rw [if_pos h7]
            simp only [tree_formula.j3]
            rw [if_pos (decide_eq_true h7)]
            unfold glyph_Name.f
            rw [Option.bind_some]
            cases nameB t.f1
            · rfl
            · rw [if_pos rfl, Bool.true_and]
              by_cases hm : t.f2 = 0
              · rw [if_pos hm, hm]
                unfold partsF
                by_cases hl : (t.f3.length : Int) = 0
                · rw [if_pos hl, hl]; rfl
                · rw [if_neg hl, beq_eq_false_iff_ne.2 hl]; rfl
              · rw [if_neg hm, beq_eq_false_iff_ne.2 hm]; rfl
          · rw [if_neg h7]
            simp only [tree_formula.j3]
            rw [if_neg (by rw [decide_eq_true_eq]; exact h7)]
            have e3 : (if t.f0 ≥ 9 then (tree_formula.j4 2 (bareF t) (t.f3.length : Int) (t.f4.length : Int) (decide (t.f0 ≤ 14)) t.f0 t.f1 t.f2 t.f3 t.f4) else (tree_formula.j4 2 (bareF t) (t.f3.length : Int) (t.f4.length : Int) false t.f0 t.f1 t.f2 t.f3 t.f4)) = tree_formula.j4 2 (bareF t) (t.f3.length : Int) (t.f4.length : Int) (decide (9 ≤ t.f0 ∧ t.f0 ≤ 14)) t.f0 t.f1 t.f2 t.f3 t.f4 := by
              by_cases h : t.f0 ≥ 9
              · rw [if_pos h]
                congr 1
                by_cases h6 : t.f0 ≤ 14 <;> simp [h6] <;> omega
              · rw [if_neg h]
                congr 1
                simp
                omega
            rw [e3]
            by_cases h9 : 9 ≤ t.f0 ∧ t.f0 ≤ 14
            · rw [if_pos h9]
              simp only [tree_formula.j4]
              rw [if_pos (decide_eq_true h9)]
              exact fin _ _ _ _ _
            · rw [if_neg h9]
              simp only [tree_formula.j4]
              rw [if_neg (by rw [decide_eq_true_eq]; exact h9)]
              by_cases h15 : t.f0 = 15
              · rw [if_pos h15, if_pos h15]
                by_cases hn : t.f1.toList = ([] : List UInt8)
                · rw [if_pos hn, decide_eq_true hn, Bool.true_and]
                  by_cases hm : t.f2 ≥ 1
                  · rw [if_pos hm, decide_eq_true hm, Bool.true_and]
                    unfold partsF
                    by_cases hl : (t.f3.length : Int) = 2
                    · rw [if_pos hl, hl]; rfl
                    · rw [if_neg hl, beq_eq_false_iff_ne.2 hl]; rfl
                  · rw [if_neg hm, decide_eq_false hm]; rfl
                · rw [if_neg hn, decide_eq_false hn]; rfl
              · rw [if_neg h15, if_neg h15]; rfl
  unfold okF tree_formula.f
  by_cases hn : t.f1.toList = ([] : List UInt8)
  · rw [if_pos hn]
    exact aux _ (by unfold bareF; rw [decide_eq_true hn, Bool.true_and])
  · rw [if_neg hn]
    exact aux _ (by unfold bareF; rw [decide_eq_false hn, Bool.false_and])
theorem okT_told (t : S66) : okT t = if t.f0 = 0 then decide (t.f1 ≥ 0) && (decide (t.f2.toList = ([] : List UInt8)) && ((t.f3.length : Int) == 0)) else if t.f0 = 1 then (t.f1 == 0) && (nameB t.f2 && ((t.f3.length : Int) == 0)) else if t.f0 = 2 then (t.f1 == 0) && (decide (t.f2.toList = ([] : List UInt8)) && ((t.f3.length : Int) == 1)) else if 3 ≤ t.f0 ∧ t.f0 ≤ 5 then (t.f1 == 0) && (decide (t.f2.toList = ([] : List UInt8)) && ((t.f3.length : Int) == 2)) else false := by
  have fin : ∀ (x p : Int), (if t.f1 = 0 then (if t.f2.toList = ([] : List UInt8) then (some (x == p)) else (some false)) else (some false)).getD false = ((t.f1 == 0) && (decide (t.f2.toList = ([] : List UInt8)) && (x == p))) := by
    intro x p
    by_cases h1 : t.f1 = 0
    · rw [if_pos h1]
      by_cases h2 : t.f2.toList = ([] : List UInt8)
      · rw [if_pos h2]; simp [h1, h2]
      · rw [if_neg h2]; simp [h2]
    · rw [if_neg h1]; simp [h1]
  unfold okT tree_term.f
  by_cases h0 : t.f0 = 0
  · rw [if_pos h0, if_pos h0]
    by_cases h1 : t.f1 ≥ 0
    · rw [if_pos h1, decide_eq_true h1]
      by_cases h2 : t.f2.toList = ([] : List UInt8)
      · rw [if_pos h2]; simp [h2]
      · rw [if_neg h2]; simp [h2]
    · rw [if_neg h1, decide_eq_false h1]; rfl
  · rw [if_neg h0, if_neg h0]
    by_cases h1 : t.f0 = 1
    · rw [if_pos h1, if_pos h1]
      by_cases h2 : t.f1 = 0
      · rw [if_pos h2, h2]
        unfold glyph_Name.f
        rw [Option.bind_some]
        cases nameB t.f2 <;> rfl
      · rw [if_neg h2, beq_eq_false_iff_ne.2 h2]; rfl
    · rw [if_neg h1, if_neg h1]
      by_cases h2 : t.f0 = 2
      · rw [if_pos h2, if_pos h2]; exact fin _ _
      · rw [if_neg h2, if_neg h2]
        by_cases h3 : t.f0 = 3
        · rw [if_pos h3, if_pos (show 3 ≤ t.f0 ∧ t.f0 ≤ 5 by omega)]; exact fin _ _
        · rw [if_neg h3]
          by_cases h4 : t.f0 = 4
          · rw [if_pos h4, if_pos (show 3 ≤ t.f0 ∧ t.f0 ≤ 5 by omega)]; exact fin _ _
          · rw [if_neg h4]
            by_cases h5 : t.f0 = 5
            · rw [if_pos h5, if_pos (show 3 ≤ t.f0 ∧ t.f0 ≤ 5 by omega)]; exact fin _ _
            · rw [if_neg h5, if_neg (show ¬ (3 ≤ t.f0 ∧ t.f0 ≤ 5) by omega)]; rfl
mutual
theorem namesT_good : ∀ t : S66, RightT t → ∀ s ∈ namesT t, nameB s = true
  | ⟨a, b, n, l⟩, h, s, hs => by
    rw [RightT] at h
    rw [namesT, mem_canon, List.mem_append] at hs
    rcases hs with hs | hs
    · split at hs
      · rename_i h1
        obtain rfl := List.mem_singleton.1 hs
        have h0 := h.1
        rw [okT_told] at h0
        have h1' : a = 1 := h1
        simp only [h1'] at h0
        rw [if_neg (by decide), if_pos trivial, Bool.and_eq_true, Bool.and_eq_true] at h0
        exact h0.2.1
      · cases hs
    · exact namesTs_good l h.2 s hs
theorem namesTs_good : ∀ l : List S66, RightTs l → ∀ s ∈ namesTs l, nameB s = true
  | [], _, s, hs => by rw [namesTs] at hs; cases hs
  | t :: l, h, s, hs => by
    rw [RightTs] at h
    rw [namesTs, List.mem_append] at hs
    rcases hs with hs | hs
    · exact namesT_good t h.1 s hs
    · exact namesTs_good l h.2 s hs
end
mutual
theorem freeF_good : ∀ t : S39, RightF t → ∀ s ∈ freeF t, nameB s = true
  | ⟨a, n, b, l, q⟩, h, s, hs => by
    rw [RightF] at h
    rw [freeF, mem_canon] at hs
    have h2 : s ∈ namesTs l ++ freeFs q := by
      split at hs
      · exact (List.mem_filter.1 hs).1
      · exact hs
    rcases List.mem_append.1 h2 with hs | hs
    · exact namesTs_good l h.2.1 s hs
    · exact freeFs_good q h.2.2 s hs
theorem freeFs_good : ∀ l : List S39, RightFs l → ∀ s ∈ freeFs l, nameB s = true
  | [], _, s, hs => by rw [freeFs] at hs; cases hs
  | t :: l, h, s, hs => by
    rw [RightFs] at h
    rw [freeFs, List.mem_append] at hs
    rcases hs with hs | hs
    · exact freeF_good t h.1 s hs
    · exact freeFs_good l h.2 s hs
end
theorem Check_eq (t : S39) : tree_Check.f t.f0 t.f1 t.f2 t.f3 t.f4 = some (errF t) := by
  unfold tree_Check.f tree_measured.f
  rw [Option.bind_some, eta39]
  rfl
theorem Size_eq (t : S39) : tree_Size.f t.f0 t.f1 t.f2 t.f3 t.f4 = some (if errF t = 0 then ((cntF t : Int), 0) else (0, errF t)) := by
  unfold tree_Size.f tree_measured.f
  rw [Option.bind_some, eta39]
  show (if errF t = 0 then _ else _) = _
  by_cases h : errF t = 0
  · rw [if_pos h, if_pos h, measF_fine h]
  · rw [if_neg h, if_neg h]; rfl
theorem Depth_eq (t : S39) : tree_Depth.f t.f0 t.f1 t.f2 t.f3 t.f4 = some (if errF t = 0 then ((depF t : Int), 0) else (0, errF t)) := by
  unfold tree_Depth.f tree_measured.f
  rw [Option.bind_some, eta39]
  show (if errF t = 0 then _ else _) = _
  by_cases h : errF t = 0
  · rw [if_pos h, if_pos h, measF_fine h]
  · rw [if_neg h, if_neg h]; rfl
theorem Free_fine {t : S39} (h : errF t = 0) : Ev (fun k => tree_Free.f k t.f0 t.f1 t.f2 t.f3 t.f4) (freeF t, 0) := by
  have := Free_ev t
  unfold freeA at this
  rw [if_pos (show (measF t 1 (0, 0, 0)).2.2 = 0 from h)] at this
  exact this
end Go.Proofs.Ytjknpmibdkoklaa.Q
