/- The reference's Add, Sub and Abs. -/
import Derived.Test.YtcphnnopjfogdaaPureWide3
import Derived.Test.YtcphnnopjfogdaaQ20
namespace Go.Proofs.Ytcphnnopjfogdaa.Q
open Go.RowKit Go.Proofs.YtcphnnopjfogdaaW.PrintWords Go.Proofs.YtcphnnopjfogdaaW.PrintLast Go.Proofs.YtcphnnopjfogdaaW.PrintMore

theorem radd_spec {a b : Int} (ha : In64 a) (hb : In64 b) : Ev (fun k => tabardref01_Add.f k a b) (fit (a + b)) := by
  unfold tabardref01_Add.f
  exact Ev.bind (of_spec ha) (Ev.bind (of_spec hb) (Ev.bind (plus_spec (small_in ha) (small_in hb)) (Ev.pair (told_spec (small_add ha hb)))))
theorem small_sub {a b : Int} (ha : In64 a) (hb : In64 b) : Small (a + -b) := by
  obtain ⟨h1, h2⟩ := ha
  obtain ⟨h3, h4⟩ := hb
  refine small_of 8 (by decide) ?_
  have : (65536 : Nat) ^ 8 = 340282366920938463463374607431768211456 := by decide
  omega
theorem rsub_spec {a b : Int} (ha : In64 a) (hb : In64 b) : Ev (fun k => tabardref01_Sub.f k a b) (fit (a - b)) := by
  unfold tabardref01_Sub.f
  rw [Int.sub_eq_add_neg]
  exact Ev.bind (of_spec ha) (Ev.bind (of_spec hb) (Ev.bind (minus_spec (small_in hb)) (Ev.bind (plus_spec (small_in ha) (small_neg (small_in hb))) (Ev.pair (told_spec (small_sub ha hb))))))
theorem rabs_spec {a : Int} (ha : In64 a) : Ev (fun k => tabardref01_Abs.f k a) (fit (a.natAbs : Int)) := by
  unfold tabardref01_Abs.f
  have := told_spec (small_abs (small_in ha))
  rw [W_abs] at this
  exact Ev.bind (of_spec ha) (Ev.pair this)
end Go.Proofs.Ytcphnnopjfogdaa.Q
