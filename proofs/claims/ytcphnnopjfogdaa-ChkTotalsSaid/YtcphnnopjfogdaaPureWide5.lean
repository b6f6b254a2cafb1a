/- The reference's Total. -/
import Derived.Test.YtcphnnopjfogdaaPureWide3
import Derived.Test.YtcphnnopjfogdaaQ22
namespace Go.Proofs.Ytcphnnopjfogdaa.Q
open Go.RowKit Go.Proofs.YtcphnnopjfogdaaW.PrintWords Go.Proofs.YtcphnnopjfogdaaW.PrintLast Go.Proofs.YtcphnnopjfogdaaW.PrintMore

theorem rtotal_loop {l : List Int} (h : ∀ x ∈ l, In64 x) (hl : l.length < 100000000000000) :
    ∀ (d i : Nat), i + d = l.length → Ev (fun k => tabardref01_Total.l0 k l (i : Int) (W (total (l.take i))).1 (W (total (l.take i))).2) (fit (total l)) := by
  have big8 : (65536 : Nat) ^ 8 = 340282366920938463463374607431768211456 := by decide
  have sm : ∀ i, Small (total (l.take i)) := fun i => by
    have h1 := total_le (l := l.take i) (fun x hx => h x (List.mem_of_mem_take hx))
    have h2 := total_nonneg (l.take i)
    have h3 : (l.take i).length ≤ l.length := by rw [List.length_take]; omega
    refine small_of 8 (by decide) ?_
    omega
  intro d
  induction d with
  | zero =>
    intro i hi
    have t := told_spec (sm i)
    rw [List.take_of_length_le (by omega)] at t ⊢
    refine Ev.step (fun k => ?_) (Ev.pair t)
    simp only [tabardref01_Total.l0]
    rw [if_neg (by omega)]
  | succ d ih =>
    intro i hi
    have hil : i < l.length := by omega
    have hx := h _ (List.getElem_mem hil)
    have p := plus_spec (sm i) (small_abs (small_in hx))
    have e : total (l.take (i + 1)) = total (l.take i) + (l[i].natAbs : Int) := by
      rw [List.take_succ_eq_append_getElem hil, total_append]
      simp [total]
    rw [← e, W_abs] at p
    refine Ev.step (f := fun k => (tabardref01_Of.f k l[i]).bind fun b => (tabardref01_Plus.f k (W (total (l.take i))).1 (W (total (l.take i))).2 false b.2).bind fun c => tabardref01_Total.l0 k l ((i + 1 : Nat) : Int) c.1 c.2) (fun k => ?_) (Ev.bind (of_spec hx) (Ev.bind p (ih (i + 1) (by omega))))
    simp only [tabardref01_Total.l0]
    rw [if_pos (by omega), if_pos (by omega), rd_of_lt hil, wrap_succ (by omega)]
theorem rtotal_spec {l : List Int} (h : ∀ x ∈ l, In64 x) (hl : l.length < 100000000000000) : Ev (fun k => tabardref01_Total.f k l) (fit (total l)) := by
  unfold tabardref01_Total.f
  exact Ev.bind (of_spec (a := 0) (by decide)) (rtotal_loop h hl l.length 0 (by omega))
end Go.Proofs.Ytcphnnopjfogdaa.Q
