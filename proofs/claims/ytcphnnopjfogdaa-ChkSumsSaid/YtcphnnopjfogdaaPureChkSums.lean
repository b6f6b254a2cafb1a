/- Of every two numbers of 64 bits chk's Add, Sub, Neg and Abs answer as the reference does. No condition. -/
import Derived.Test.YtcphnnopjfogdaaPureSums
import Derived.Test.YtcphnnopjfogdaaQ21
namespace Go.Proofs.Ytcphnnopjfogdaa.Pure
open Go.RowKit Go.Proofs.Ytcphnnopjfogdaa.Q Go.Proofs.YtcphnnopjfogdaaW.PrintWords Go.Proofs.YtcphnnopjfogdaaW.PrintLast
theorem ChkSums : tabardlaw01_ChkSums.Pure := by
  intro a b ha hb
  have ha := in_of_wf ha
  have hb := in_of_wf hb
  apply Ev.rounds
  have tail : Ev (fun k => tabardlaw01_ChkSums.j0 k a false) true := by
    have s := rsub_spec in_zero ha
    rw [Int.zero_sub] at s
    refine Ev.step (f := fun k => (some (fit (-a))).bind fun x => (tabardref01_Sub.f k 0 a).bind fun y => (some (fit (a.natAbs : Int))).bind fun z => (tabardref01_Abs.f k a).bind fun u => (tabardlaw01_told.f x.1 x.2 y.1 y.2).bind fun t => if t = true then ((tabardlaw01_told.f z.1 z.2 u.1 u.2).bind fun t => some t) else some false) (fun k => ?_) ?_
    · simp only [tabardlaw01_ChkSums.j0]
      rw [neg_spec ha, abs_spec ha]
      simp
    · refine Ev.bind (Ev.now _) (Ev.bind s (Ev.bind (Ev.now _) (Ev.bind (rabs_spec ha) (Ev.congr (fun k => ?_) (Ev.now true)))))
      simp [tabardlaw01_told.f]
  unfold tabardlaw01_ChkSums.f
  rw [add_spec ha hb, sub_spec ha hb]
  refine Ev.bind (Ev.now _) (Ev.bind (radd_spec ha hb) (Ev.bind (Ev.now _) (Ev.bind (rsub_spec ha hb) (Ev.congr (fun k => ?_) tail))))
  rw [fixed_true]
  simp [tabardlaw01_told.f]
end Go.Proofs.Ytcphnnopjfogdaa.Pure
