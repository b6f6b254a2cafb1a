/- Of every list of numbers of 64 bits chk.Total answers as the reference does, and the list stays. No condition but the form's own reach. -/
import Derived.Test.YtcphnnopjfogdaaPureWide5
import Derived.Test.YtcphnnopjfogdaaQ23
namespace Go.Proofs.Ytcphnnopjfogdaa.Pure
open Go.RowKit Go.Proofs.Ytcphnnopjfogdaa.Q Go.Proofs.YtcphnnopjfogdaaW.PrintWords Go.Proofs.YtcphnnopjfogdaaW.PrintLast
theorem totals_loop (l : List Int) (hl : l.length < 100000000000000) : ∀ (d i : Nat), i + d = l.length → Ev (fun k => tabardlaw01_ChkTotals.l0 k l l (l.length : Int) (i : Int)) true := by
  intro d
  induction d with
  | zero =>
    intro i hi
    refine Ev_at 0 (fun k hk => ?_)
    obtain ⟨k, rfl⟩ : ∃ m, k = m + 1 := ⟨k - 1, by omega⟩
    simp only [tabardlaw01_ChkTotals.l0]
    rw [if_neg (by omega)]
  | succ d ih =>
    intro i hi
    refine Ev.step (fun k => ?_) (ih (i + 1) (by omega))
    simp only [tabardlaw01_ChkTotals.l0]
    rw [if_pos (by omega), if_pos (by omega), if_pos (by omega), if_pos (by omega), if_pos trivial, wrap_succ (by omega)]
theorem ChkTotals : tabardlaw01_ChkTotals.Pure := by
  intro l hl hb hw
  have hw : ∀ x ∈ l, In64 x := fun x hx => in_of_wf (hw x hx)
  apply Ev.rounds
  have tail : Ev (fun k => tabardlaw01_ChkTotals.j0 k l l false) true := by
    refine Ev.step (fun k => ?_) (totals_loop l (by omega) l.length 0 (by omega))
    simp only [tabardlaw01_ChkTotals.j0]
    simp
  unfold tabardlaw01_ChkTotals.f
  refine Ev.congr (f := fun k => (chk_Total.f k l).bind fun x => (tabardref01_Total.f k l).bind fun y => (tabardlaw01_fixed.f).bind fun t => (if t = true then ((tabardlaw01_told.f x.1 x.2 y.1 y.2).bind fun t => (if t = true then (tabardlaw01_ChkTotals.j0 k l l ((l.length : Int) != (l.length : Int))) else (tabardlaw01_ChkTotals.j0 k l l true))) else (tabardlaw01_ChkTotals.j0 k l l true))) (fun k => ?_) ?_
  · simp only [Option.bind_some, List.length_nil, Nat.zero_add, List.nil_append]
    rw [if_pos (by omega)]
  · refine Ev.bind (total_spec hw (by omega)) (Ev.bind (rtotal_spec hw (by omega)) (Ev.congr (fun k => ?_) tail))
    rw [fixed_true]
    simp [tabardlaw01_told.f]
end Go.Proofs.Ytcphnnopjfogdaa.Pure
