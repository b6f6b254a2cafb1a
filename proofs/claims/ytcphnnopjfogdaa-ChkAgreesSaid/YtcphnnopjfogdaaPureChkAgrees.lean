/- Of every two numbers of 64 bits chk's calls agree with one another. No condition. -/
import Derived.Test.YtcphnnopjfogdaaPureWide
import Derived.Test.YtcphnnopjfogdaaQ4
namespace Go.Proofs.Ytcphnnopjfogdaa.Pure
open Go.RowKit Go.Proofs.Ytcphnnopjfogdaa.Q Go.Proofs.YtcphnnopjfogdaaW.PrintWords Go.Proofs.YtcphnnopjfogdaaW.PrintLast

theorem agrees_end {a b : Int} (ha : In64 a) (hb : In64 b) : Ev (fun k => tabardlaw01_ChkAgrees.j4 k a b) true := by
  refine Ev_at 0 (fun k hk => ?_)
  obtain ⟨k, rfl⟩ : ∃ m, k = m + 1 := ⟨k - 1, by omega⟩
  simp only [tabardlaw01_ChkAgrees.j4]
  by_cases h : b < 1
  · rw [rest_low h]
    simp [h]
  · rw [rest_spec hb (by omega), floor_spec ha hb (by omega)]
    have h1 := Int.mul_fdiv_add_fmod a b
    have h2 : a.fmod b = a % b := Int.fmod_eq_emod_of_nonneg a (by omega)
    have h3 := Int.emod_nonneg a (show b ≠ 0 by omega)
    have h4 := Int.emod_lt_of_pos a (show 0 < b by omega)
    rw [fit_in (floor_in ha (by omega))]
    simp only [Option.bind_some, if_true]
    rw [if_pos (by omega), if_pos (by omega)]
    rw [Int.mul_comm b] at h1
    obtain ⟨ha1, ha2⟩ := ha
    have e : wrap64 (wrap64 (a.fdiv b * b) + a % b) = a := by unfold wrap64; omega
    rw [e]
    simp
theorem fdiv_mul {a b : Int} (hb : b ≠ 0) : (a * b).fdiv b = a := Int.mul_fdiv_cancel a hb
theorem agrees_mul {a b : Int} (ha : In64 a) (hb : In64 b) : Ev (fun k => tabardlaw01_ChkAgrees.j1 k a b) true := by
  have h2 := mul_spec hb ha
  rw [Int.mul_comm] at h2
  have tail : Ev (fun k => tabardlaw01_ChkAgrees.j2 k a b (fit (a * b)).2 (fit (a * b)).1 ((fit (a * b)).2 != (fit (a * b)).2)) true := by
    by_cases hin : In64 (a * b)
    · rw [fit_in hin]
      have next : Ev (fun k => tabardlaw01_ChkAgrees.j3 k a b (a * b) (b != 0)) true := by
        by_cases hb0 : b = 0
        · refine Ev.step (fun k => ?_) (agrees_end ha hb)
          simp only [tabardlaw01_ChkAgrees.j3]
          rw [if_neg (by simp [hb0])]
        · refine Ev.step (fun k => ?_) (agrees_end ha hb)
          simp only [tabardlaw01_ChkAgrees.j3]
          rw [if_pos (by simp [hb0]), floor_spec hin hb hb0, fdiv_mul hb0, fit_in ha]
          simp
      refine Ev.step (fun k => ?_) next
      simp only [tabardlaw01_ChkAgrees.j2]
      simp
    · rw [fit_out hin]
      have next : Ev (fun k => tabardlaw01_ChkAgrees.j3 k a b 0 false) true := by
        refine Ev.step (fun k => ?_) (agrees_end ha hb)
        simp only [tabardlaw01_ChkAgrees.j3]
        simp
      refine Ev.step (fun k => ?_) next
      simp only [tabardlaw01_ChkAgrees.j2]
      simp
  refine Ev.step (f := fun k => (chk_Mul.f k a b).bind fun x => (chk_Mul.f k b a).bind fun y => if x.1 = y.1 then tabardlaw01_ChkAgrees.j2 k a b x.2 x.1 (x.2 != y.2) else tabardlaw01_ChkAgrees.j2 k a b x.2 x.1 true) (fun k => ?_) (Ev.bind (mul_spec ha hb) (Ev.bind h2 (Ev.congr (fun k => ?_) tail)))
  · simp only [tabardlaw01_ChkAgrees.j1]
  · rw [if_pos rfl]
theorem ChkAgrees : tabardlaw01_ChkAgrees.Pure := by
  intro a b ha hb
  have ha := in_of_wf ha
  have hb := in_of_wf hb
  apply Ev.rounds
  have main : Ev (fun k => tabardlaw01_ChkAgrees.j0 k a b (fit (a + b)).1 (fit (a + b)).2 ((fit (a + b)).2 != (fit (a + b)).2)) true := by
    refine Ev.step (fun k => ?_) (agrees_mul ha hb)
    simp only [tabardlaw01_ChkAgrees.j0]
    rw [if_neg (by simp)]
    by_cases hin : In64 (a + b)
    · rw [fit_in hin]
      simp only [if_true]
      rw [sub_spec hin hb, show a + b - b = a by omega, fit_in ha]
      simp
    · rw [fit_out hin]
      simp
  refine Ev.congr (fun k => ?_) main
  unfold tabardlaw01_ChkAgrees.f
  rw [fixed_true, add_spec ha hb, add_spec hb ha, Int.add_comm b a]
  simp only [Option.bind_some, if_true]
end Go.Proofs.Ytcphnnopjfogdaa.Pure
