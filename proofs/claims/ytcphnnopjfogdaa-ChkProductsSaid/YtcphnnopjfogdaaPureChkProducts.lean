/- Of every two numbers of 64 bits chk.Mul answers as the reference does. No condition. -/
import Derived.Test.YtcphnnopjfogdaaPureWide4
import Derived.Test.YtcphnnopjfogdaaQ17
namespace Go.Proofs.Ytcphnnopjfogdaa.Pure
open Go.RowKit Go.Proofs.Ytcphnnopjfogdaa.Q Go.Proofs.YtcphnnopjfogdaaW.PrintWords Go.Proofs.YtcphnnopjfogdaaW.PrintLast
theorem ChkProducts : tabardlaw01_ChkProducts.Pure := by
  intro a b ha hb
  have ha := in_of_wf ha
  have hb := in_of_wf hb
  apply Ev.rounds
  unfold tabardlaw01_ChkProducts.f
  refine Ev.bind (mul_spec ha hb) (Ev.bind (rmul_spec ha hb) (Ev.congr (fun k => ?_) (Ev.now true)))
  rw [fixed_true]
  simp [tabardlaw01_told.f]
end Go.Proofs.Ytcphnnopjfogdaa.Pure
