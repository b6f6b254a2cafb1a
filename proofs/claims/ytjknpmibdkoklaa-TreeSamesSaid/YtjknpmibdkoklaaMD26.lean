/- Functions of the given program as Lean functions, each with its contract, and what they answer; words for it. No condition but those of each. -/
import Derived.Test.YtjknpmibdkoklaaMD23
import Derived.Test.YtjknpmibdkoklaaMD14
import Derived.Test.YtjknpmibdkoklaaMD24
import Derived.Test.YtjknpmibdkoklaaMD25
namespace Go.Proofs.Ytjknpmibdkoklaa.Q
open Go.RowKit Go.Proofs.YtjknpmibdkoklaaW.PrintWords Go.Proofs.YtjknpmibdkoklaaW.PrintLast Go.Proofs.YtjknpmibdkoklaaW.PrintMore
theorem well_term (t : S66) (hs : t.f2.size ≤ 140737488351232) : Ev (fun k => tabardref06_wellTerm.f k t.f0 t.f1 t.f2 t.f3) (okT t) := by
  obtain ⟨op, num, s, l⟩ := t
  have hn := name_spec s hs
  unfold okT tree_term.f tabardref06_wellTerm.f
  simp only [glyph_Name.f, Option.bind_some]
  by_cases h0 : op < 0
  · refine Ev.congr (fun k => if_pos h0) ?_
    rw [if_neg (by omega), if_neg (by omega), if_neg (by omega), if_neg (by omega), if_neg (by omega), if_neg (by omega)]
    exact Ev.now false
  · by_cases h5 : op > 5
    · refine Ev.congr (fun k => (if_neg h0).trans (if_pos h5)) ?_
      rw [if_neg (by omega), if_neg (by omega), if_neg (by omega), if_neg (by omega), if_neg (by omega), if_neg (by omega)]
      exact Ev.now false
    · have hop : op = 0 ∨ op = 1 ∨ op = 2 ∨ op = 3 ∨ op = 4 ∨ op = 5 := by omega
      have ev : ∀ {g : Nat → Option Bool} {b : Bool}, (∀ k, g k = some b) → Ev g b := fun h => ⟨0, fun k _ => h k⟩
      rcases hop with rfl | rfl | rfl | rfl | rfl | rfl
      case inr.inl =>
        by_cases hnum : num = 0
        · subst hnum
          by_cases hl0 : (l.length : Int) = 0
          · have e : (if (1 : Int) = 0 then (if (0 : Int) ≥ 0 then (if s.toList = ([] : List UInt8) then (some ((l.length : Int) == 0)) else (some false)) else (some false)) else (if (1 : Int) = 1 then (if (0 : Int) = 0 then (if nameB s = true then (some ((l.length : Int) == 0)) else (some false)) else (some false)) else some false) : Option Bool) = some (nameB s) := by
              cases nameB s <;> simp [hl0]
            refine Ev.congr (f := fun k => (tabardref04_Name.f k s).bind fun t => some t) (fun k => by simp [hl0, rd]) (Ev.bind hn ?_)
            have e2 : ((if nameB s = true then some ((l.length : Int) == 0) else some false).getD false) = nameB s := by cases nameB s <;> simp [hl0]
            simp only [reduceIte, show ¬ (1 : Int) = 0 by decide]
            rw [e2]
            exact Ev.now _
          · have hle : ¬ l = [] := fun e => hl0 (by rw [e]; rfl)
            refine ev (fun k => ?_)
            cases nameB s <;> simp [hl0, hle, rd]
        · refine ev (fun k => ?_)
          simp [hnum]
      all_goals
        by_cases hl0 : (l.length : Int) = 0 <;> by_cases hl1 : (l.length : Int) = 1 <;> by_cases hl2 : (l.length : Int) = 2 <;> by_cases hnum : num = 0 <;> by_cases hg : num ≥ 0 <;> by_cases he : s.toList = []
        all_goals (first | (refine ev (fun k => ?_); simp [hl0, hl1, hl2, hnum, hg, he, rd]; done) | (have hle : ¬ l = [] := fun e => hl0 (by rw [e]; rfl); refine ev (fun k => ?_); simp [hle, hl0, hl1, hl2, hnum, hg, he, rd]; done) | (exfalso; omega))
def partN (op : Int) : Int := rd ([0, 0, 1, 2, 2, 2, 2, 1, 1, 0, 0, 0, 0, 0, 0, 0] : List Int) op
def shapeF (op : Int) (b : Bool) (l : List S66) (q : List S39) : Bool := !b && decide ((q.length : Int) = partN op) && decide ((l.length : Int) = if op ≥ 9 then 2 else 0)
theorem wm_j2 (k : Nat) {op : Int} (h0 : 0 ≤ op) (h1 : op ≤ 15) (b : Bool) (o : Int) (s : ByteArray) (m : Int) (l : List S66) (q : List S39) : tabardref06_wellMade.j2 (k + 1) op b o s m l q = some (shapeF op b l q) := by
  simp only [tabardref06_wellMade.j2, Option.bind_some]
  unfold shapeF
  cases b with
  | true => rfl
  | false =>
    rw [if_neg (by decide), if_pos h0, if_pos h0, if_pos (show op < (([0, 0, 1, 2, 2, 2, 2, 1, 1, 0, 0, 0, 0, 0, 0, 0] : List Int).length : Int) by show op < 16; omega), if_pos (show op < (([0, 0, 1, 2, 2, 2, 2, 1, 1, 0, 0, 0, 0, 0, 0, 0] : List Int).length : Int) by show op < 16; omega)]
    show (if op ≥ 9 then (if (q.length : Int) = partN op then some ((l.length : Int) == 2) else some false) else (if (q.length : Int) = partN op then some ((l.length : Int) == 0) else some false)) = _
    by_cases h9 : op ≥ 9 <;> by_cases hq : (q.length : Int) = partN op
    · rw [if_pos h9, if_pos hq, decide_eq_true hq, if_pos h9]; rfl
    · rw [if_pos h9, if_neg hq, decide_eq_false hq]; rfl
    · rw [if_neg h9, if_pos hq, decide_eq_true hq, if_neg h9]; rfl
    · rw [if_neg h9, if_neg hq, decide_eq_false hq]; rfl
def badF (op : Int) (qb : Bool) (s : ByteArray) (m : Int) : Bool := (if qb = true then !nameB s else !(decide (s.toList = []))) || (if op = 15 then decide (m < 1) else !(decide (m = 0)))
theorem wm_j1 (s : ByteArray) (hs : s.size ≤ 140737488351232) {op : Int} (h0 : 0 ≤ op) (h1 : op ≤ 15) (qb : Bool) (o : Int) (m : Int) (l : List S66) (q : List S39) : Ev (fun k => tabardref06_wellMade.j1 k op qb o s m l q) (shapeF op (badF op qb s m) l q) := by
  have hj : ∀ b, Ev (fun k => tabardref06_wellMade.j2 k op b o s m l q) (shapeF op b l q) := fun b => EvK 1 (fun k => wm_j2 k h0 h1 b o s m l q)
  have hm : Ev (fun k => if op = 15 then tabardref06_wellMade.j2 k op (decide (m < 1)) o s m l q else (if m = 0 then tabardref06_wellMade.j2 k op false o s m l q else tabardref06_wellMade.j2 k op true o s m l q)) (shapeF op (if op = 15 then decide (m < 1) else !(decide (m = 0))) l q) := by
    by_cases hc : op = 15
    · rw [if_pos hc]; exact Ev.congr (fun k => if_pos hc) (hj _)
    · rw [if_neg hc]
      refine Ev.congr (fun k => if_neg hc) ?_
      by_cases hz : m = 0
      · rw [decide_eq_true hz]; exact Ev.congr (fun k => if_pos hz) (hj false)
      · rw [decide_eq_false hz]; exact Ev.congr (fun k => if_neg hz) (hj true)
  unfold badF
  cases qb with
  | true =>
    refine Ev.step (f := fun k => (tabardref04_Name.f k s).bind fun t => (if t = true then (if op = 15 then tabardref06_wellMade.j2 k op (decide (m < 1)) o s m l q else (if m = 0 then tabardref06_wellMade.j2 k op false o s m l q else tabardref06_wellMade.j2 k op true o s m l q)) else tabardref06_wellMade.j2 k op true o s m l q)) (fun k => by simp only [tabardref06_wellMade.j1]; rfl) (Ev.bind (name_spec s hs) ?_)
    cases nameB s with
    | true => exact Ev.congr (fun k => if_pos rfl) hm
    | false => exact Ev.congr (fun k => if_neg (by decide)) (hj true)
  | false =>
    refine Ev.step (f := fun k => (if s.toList = [] then (if op = 15 then tabardref06_wellMade.j2 k op (decide (m < 1)) o s m l q else (if m = 0 then tabardref06_wellMade.j2 k op false o s m l q else tabardref06_wellMade.j2 k op true o s m l q)) else tabardref06_wellMade.j2 k op true o s m l q)) (fun k => by simp only [tabardref06_wellMade.j1]; rfl) ?_
    by_cases he : s.toList = []
    · rw [decide_eq_true he]; exact Ev.congr (fun k => if_pos he) hm
    · rw [decide_eq_false he]; exact Ev.congr (fun k => if_neg he) (hj true)
set_option maxHeartbeats 2000000 in
theorem okF_in (op : Int) (s : ByteArray) (m : Int) (l : List S66) (q : List S39) (h0 : 0 ≤ op) (h1 : op ≤ 15) : tree_formula.f 6 op s m l q = some (shapeF op (badF op (decide (op = 7 ∨ op = 8)) s m) l q) := by
  unfold tree_formula.f
  simp only [tree_formula.j0, tree_formula.j1, tree_formula.j2, tree_formula.j3, tree_formula.j4, glyph_Name.f, Option.bind_some, shapeF, badF, partN]
  have hb : ∀ (x y : Int), (x == y) = decide (x = y) := fun _ _ => rfl
  simp only [hb]
  have hop : op = 0 ∨ op = 1 ∨ op = 2 ∨ op = 3 ∨ op = 4 ∨ op = 5 ∨ op = 6 ∨ op = 7 ∨ op = 8 ∨ op = 9 ∨ op = 10 ∨ op = 11 ∨ op = 12 ∨ op = 13 ∨ op = 14 ∨ op = 15 := by omega
  generalize (l.length : Int) = n
  generalize (q.length : Int) = n2
  generalize nameB s = b
  generalize s.toList = x
  rcases hop with rfl | rfl | rfl | rfl | rfl | rfl | rfl | rfl | rfl | rfl | rfl | rfl | rfl | rfl | rfl | rfl
  all_goals
    by_cases hx : x = [] <;> by_cases hm : m = 0
    all_goals simp [hx, hm, rd]
    all_goals by_cases hn : n = 0 <;> by_cases hn2 : n = 2 <;> cases b
    all_goals (try subst hn) <;> (try subst hn2)
    all_goals first | (simp_all; done) | (by_cases hm1 : m < 1 <;> simp_all <;> omega)
theorem okF_out (op : Int) (s : ByteArray) (m : Int) (l : List S66) (q : List S39) (h : op < 0 ∨ op > 15) : tree_formula.f 6 op s m l q = some false := by
  unfold tree_formula.f
  simp only [tree_formula.j0, tree_formula.j1, tree_formula.j2, tree_formula.j3, tree_formula.j4, glyph_Name.f, Option.bind_some]
  have hb : ∀ (x y : Int), (x == y) = decide (x = y) := fun _ _ => rfl
  simp only [hb]
  have e : ∀ n : Int, 0 ≤ n → n ≤ 15 → (op = n) = False := fun n h0 h1 => eq_false (by omega)
  simp only [e 0 (by decide) (by decide), e 1 (by decide) (by decide), e 2 (by decide) (by decide), e 7 (by decide) (by decide), e 8 (by decide) (by decide), e 15 (by decide) (by decide), if_false, decide_false, Bool.false_eq_true]
  rcases h with h | h
  · simp [show ¬ (op ≥ 3) by omega, show ¬ (op ≥ 9) by omega]
  · simp [show op ≥ 3 by omega, show op ≥ 9 by omega, show ¬ op ≤ 6 by omega, show ¬ op ≤ 14 by omega]
theorem okF_val (t : S39) : okF t = (if t.f0 < 0 ∨ t.f0 > 15 then false else shapeF t.f0 (badF t.f0 (decide (t.f0 = 7 ∨ t.f0 = 8)) t.f1 t.f2) t.f3 t.f4) := by
  unfold okF
  by_cases h : t.f0 < 0 ∨ t.f0 > 15
  · rw [if_pos h, okF_out _ _ _ _ _ h]; rfl
  · rw [if_neg h, okF_in _ _ _ _ _ (by omega) (by omega)]; rfl
theorem well_made (t : S39) (hs : t.f1.size ≤ 140737488351232) : Ev (fun k => tabardref06_wellMade.f k t.f0 t.f1 t.f2 t.f3 t.f4) (okF t) := by
  rw [okF_val]
  obtain ⟨op, s, m, l, q⟩ := t
  unfold tabardref06_wellMade.f
  have bad : ∀ o s m l q, Ev (fun k => tabardref06_wellMade.j0 k op true o s m l q) false := fun o s m l q => EvK 1 (fun k => by simp only [tabardref06_wellMade.j0]; rfl)
  by_cases h0 : op < 0
  · rw [if_pos (Or.inl h0)]; exact Ev.congr (fun k => if_pos h0) (bad ..)
  · refine Ev.congr (fun k => if_neg h0) ?_
    by_cases h1 : op > 15
    · rw [if_pos (Or.inr h1), decide_eq_true h1]; exact bad ..
    · rw [if_neg (show ¬ (op < 0 ∨ op > 15) by omega), decide_eq_false h1]
      refine Ev.step (f := fun k => if op = 7 then tabardref06_wellMade.j1 k op true op s m l q else tabardref06_wellMade.j1 k op (op == 8) op s m l q) (fun k => by simp only [tabardref06_wellMade.j0]; rfl) ?_
      by_cases h7 : op = 7
      · rw [decide_eq_true (Or.inl h7)]; exact Ev.congr (fun k => if_pos h7) (wm_j1 s hs (by omega) (by omega) true op m l q)
      · refine Ev.congr (fun k => if_neg h7) ?_
        rw [show decide (op = 7 ∨ op = 8) = (op == 8) by by_cases h8 : op = 8 <;> simp [h7, h8]]
        exact wm_j1 s hs (by omega) (by omega) _ op m l q
end Go.Proofs.Ytjknpmibdkoklaa.Q
