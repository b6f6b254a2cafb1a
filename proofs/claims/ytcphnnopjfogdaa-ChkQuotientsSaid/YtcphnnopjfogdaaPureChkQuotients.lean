/- Of every two numbers of 64 bits chk's Rest, Floor and Half answer as the reference does. No condition. -/
import Derived.Test.YtcphnnopjfogdaaPureWide6
import Derived.Test.YtcphnnopjfogdaaQ19
namespace Go.Proofs.Ytcphnnopjfogdaa.Pure
open Go.RowKit Go.Proofs.Ytcphnnopjfogdaa.Q Go.Proofs.YtcphnnopjfogdaaW.PrintWords Go.Proofs.YtcphnnopjfogdaaW.PrintLast
theorem ChkQuotients : tabardlaw01_ChkQuotients.Pure := by
  intro a b ha hb
  have ha := in_of_wf ha
  have hb := in_of_wf hb
  apply Ev.rounds
  have r1 : ∃ r, chk_Rest.f a b = some r ∧ Ev (fun k => tabardref01_Rest.f k a b) r := by
    by_cases h : b < 1
    · exact ⟨_, rest_low h, rrest_low h⟩
    · exact ⟨_, rest_spec hb (by omega), rrest_spec ha hb (by omega)⟩
  have r2 : ∃ r, chk_Floor.f a b = some r ∧ Ev (fun k => tabardref01_Floor.f k a b) r := by
    by_cases h : b = 0
    · subst h
      exact ⟨_, floor_zero, rfloor_zero a⟩
    · exact ⟨_, floor_spec ha hb h, rfloor_spec ha hb h⟩
  obtain ⟨r1, h1, h2⟩ := r1
  obtain ⟨r2, h3, h4⟩ := r2
  have h5 := rfloor_spec ha (b := 2) (by decide) (by decide)
  have h6 := floor_in ha (m := 2) (by decide)
  rw [fit_in h6] at h5
  have h7 : a.fdiv 2 = a / 2 := Int.fdiv_eq_ediv_of_nonneg a (by decide)
  rw [h7] at h5
  unfold tabardlaw01_ChkQuotients.f
  rw [h1, h3]
  refine Ev.bind (Ev.now r1) (Ev.bind h2 (Ev.bind (Ev.now r2) (Ev.bind h4 (Ev.bind h5 (Ev.congr (fun k => ?_) (Ev.now true))))))
  rw [fixed_true]
  simp [tabardlaw01_told.f, chk_Half.f]
end Go.Proofs.Ytcphnnopjfogdaa.Pure
