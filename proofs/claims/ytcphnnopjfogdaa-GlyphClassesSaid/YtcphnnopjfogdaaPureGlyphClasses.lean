/- Of every character: a name's first characters are further ones too; blanks and signs are neither; what a character stands for is made of plain characters. No condition. -/
import Derived.Test.YtcphnnopjfogdaaPureGlyph
import Derived.Test.YtcphnnopjfogdaaG11
namespace Go.Proofs.Ytcphnnopjfogdaa.Pure
open Go.RowKit Go.Proofs.Ytcphnnopjfogdaa.G Go.Proofs.YtcphnnopjfogdaaW.PrintWords Go.Proofs.YtcphnnopjfogdaaW.PrintLast
theorem in32 {a : Int} (h : (Lit.int .i32 a).wf = true) : -2147483648 ≤ a ∧ a ≤ 2147483647 := by
  simp [Lit.wf, IntKind.min, IntKind.max, IntKind.bits, IntKind.signed] at h
  exact h
def plainBytes (t : ByteArray) : Prop := t.size ≤ 3 ∧ ∀ i : Nat, i < t.size → 32 < bt t (i : Int) ∧ bt t (i : Int) < 128
instance (t : ByteArray) : Decidable (plainBytes t) := by unfold plainBytes; infer_instance
theorem lookSign_cases (x : Int) : ∀ (ms : List Int) (ws : List ByteArray), lookSign x ms ws = ⟨#[]⟩ ∨ (x ∈ ms ∧ lookSign x ms ws ∈ ws)
  | [], _ => .inl (by unfold lookSign; rfl)
  | _ :: _, [] => .inl (by unfold lookSign; rfl)
  | m :: ms, w :: ws => by
    unfold lookSign
    by_cases h : x = m
    · rw [if_pos h]
      exact .inr ⟨h ▸ List.mem_cons_self, List.mem_cons_self⟩
    · rw [if_neg h]
      rcases lookSign_cases x ms ws with h2 | ⟨h2, h3⟩
      · exact .inl h2
      · exact .inr ⟨List.mem_cons_of_mem _ h2, List.mem_cons_of_mem _ h3⟩
theorem signs_plain : ∀ t ∈ signs, plainBytes t := by decide +kernel
theorem marks_off : ∀ x ∈ marks, startB x = false ∧ restB x = false ∧ ¬ (x = 32 ∨ x = 9 ∨ x = 10 ∨ x = 13) ∧ 0 ≤ x ∧ x ≤ 1114111 := by decide +kernel
theorem lookSign_plain (x : Int) : plainBytes (lookSign x marks signs) := by
  rcases lookSign_cases x marks signs with h | ⟨_, h⟩
  · rw [h]
    decide +kernel
  · exact signs_plain _ h
theorem blank_at (x : Int) : glyph_Blank.f x = some (decide (x = 32 ∨ x = 9 ∨ x = 10 ∨ x = 13)) := by
  unfold glyph_Blank.f
  by_cases h1 : x = 32
  · simp [h1]
  by_cases h2 : x = 9
  · simp [h2]
  by_cases h3 : x = 10
  · simp [h3]
  rw [if_neg h1, if_neg h2, if_neg h3]
  by_cases h4 : x = 13
  · simp [h4]
  · rw [beq_eq_false_iff_ne.2 h4, decide_eq_false (by omega)]
theorem start_rest {x : Int} (h : startB x = true) : restB x = true := by unfold restB; rw [h]; rfl
theorem rest_range {x : Int} (h : restB x = true) : ¬ (x = 32 ∨ x = 9 ∨ x = 10 ∨ x = 13) ∧ 0 ≤ x ∧ x ≤ 1114111 := by
  unfold restB startB at h
  simp only [Bool.or_eq_true, decide_eq_true_eq] at h
  omega
theorem empty_list : ((⟨#[]⟩ : ByteArray).toList == ([] : List UInt8)) = true := by decide +kernel
theorem empty_eq : (⟨#[]⟩ : ByteArray).toList = [] := by decide +kernel
theorem classes_loop (x : Int) (t : ByteArray) (ht : plainBytes t) (hout : ¬ (0 ≤ x ∧ x ≤ 1114111) → restB x = false ∧ ¬ (x = 32 ∨ x = 9 ∨ x = 10 ∨ x = 13) ∧ t = ⟨#[]⟩) : ∀ (d i : Nat), i + d = t.size → Ev (fun k => tabardlaw04_GlyphClasses.l0 k x t (i : Int)) true := by
  intro d
  induction d with
  | zero =>
    intro i hi
    refine EvK 5 (fun k => ?_)
    simp only [tabardlaw04_GlyphClasses.l0]
    rw [if_neg (by omega)]
    by_cases h0 : 0 ≤ x ∧ x ≤ 1114111
    · rw [if_pos h0.1, if_pos h0.2]
    · obtain ⟨h1, h2, h3⟩ := hout h0
      rw [rest_ev, blank_at, h1, decide_eq_false h2, h3, empty_list]
      by_cases h4 : x ≥ 0
      · rw [if_pos h4, if_neg (fun h => h0 ⟨h4, h⟩)]
        rfl
      · rw [if_neg h4]
        rfl
  | succ d ih =>
    intro i hi
    obtain ⟨h1, h2⟩ := ht
    obtain ⟨h3, h4⟩ := h2 i (by omega)
    refine Ev.step (fun k => ?_) (ih (i + 1) (by omega))
    simp only [tabardlaw04_GlyphClasses.l0]
    rw [if_pos (by omega), if_pos (by omega), if_neg (by omega), if_neg (by omega), w64 (by omega) (by omega)]
    rfl
theorem GlyphClasses : tabardlaw04_GlyphClasses.Pure := by
  intro a ha
  apply Ev.rounds
  have hl := lookSign_cases a marks signs
  have hp := lookSign_plain a
  have hout : ¬ (0 ≤ a ∧ a ≤ 1114111) → restB a = false ∧ ¬ (a = 32 ∨ a = 9 ∨ a = 10 ∨ a = 13) ∧ lookSign a marks signs = ⟨#[]⟩ := by
    intro h
    refine ⟨?_, by omega, ?_⟩
    · cases hr : restB a with
      | false => rfl
      | true => exact absurd (rest_range hr).2 h
    · rcases hl with hl | ⟨hm, _⟩
      · exact hl
      · exact absurd (marks_off a hm).2.2.2 h
  have tail : Ev (fun k => tabardlaw04_GlyphClasses.j0 k a (lookSign a marks signs) false) true := by
    refine Ev.step (fun k => ?_) (classes_loop a _ hp hout (lookSign a marks signs).size 0 (by omega))
    simp only [tabardlaw04_GlyphClasses.j0]
    rw [if_neg (by decide)]
    rfl
  obtain ⟨K, hK⟩ := tail
  refine ⟨K + 4, fun k hk => ?_⟩
  obtain ⟨m, rfl⟩ : ∃ m, k = m + 4 := ⟨k - 4, by omega⟩
  have hT : tabardlaw04_GlyphClasses.j0 (m + 4) a (lookSign a marks signs) false = some true := hK (m + 4) (by omega)
  show tabardlaw04_GlyphClasses.f (m + 4) a = some true
  unfold tabardlaw04_GlyphClasses.f
  rw [fixed04, plain_at, start_ev, rest_ev, blank_at]
  simp only [Option.bind_some, if_true]
  have hempty : a ∉ marks → lookSign a marks signs = ⟨#[]⟩ := fun h => by
    rcases hl with hl | ⟨hm, _⟩
    · exact hl
    · exact absurd hm h
  by_cases hb : a = 32 ∨ a = 9 ∨ a = 10 ∨ a = 13
  · have hnr : restB a = false := by
      cases hr : restB a with
      | false => rfl
      | true => exact absurd hb (rest_range hr).1
    have hns : startB a = false := by
      cases hr : startB a with
      | false => rfl
      | true => rw [start_rest hr] at hnr; cases hnr
    have he : lookSign a marks signs = ⟨#[]⟩ := hempty (fun hm => (marks_off a hm).2.2.1 hb)
    rw [he] at hT ⊢
    simp only [hnr, hns, decide_eq_true hb, empty_eq, Bool.false_eq_true, if_false, if_true]
    exact hT
  · by_cases hm : a ∈ marks
    · obtain ⟨h1, h2, _⟩ := marks_off a hm
      simp only [h1, h2, decide_eq_false hb, Bool.false_eq_true, if_false]
      split <;> exact hT
    · rw [hempty hm] at hT ⊢
      cases hs : startB a
      · simp only [decide_eq_false hb, empty_eq, Bool.false_eq_true, if_false, if_true]
        exact hT
      · simp only [decide_eq_false hb, start_rest hs, empty_eq, Bool.false_eq_true, if_false, if_true]
        exact hT
end Go.Proofs.Ytcphnnopjfogdaa.Pure
