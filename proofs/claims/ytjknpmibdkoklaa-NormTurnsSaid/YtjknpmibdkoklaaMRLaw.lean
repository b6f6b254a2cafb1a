/- The law NormTurns answers true at every input, and each argument reads as it did. No condition. -/
import Derived.Test.YtjknpmibdkoklaaMRS
import Derived.Test.YtjknpmibdkoklaaRows
import Derived.Test.YtjknpmibdkoklaaMR13
import Derived.Test.YtjknpmibdkoklaaMR14
import Derived.Test.YtjknpmibdkoklaaMR11
import Derived.WalkKit
import Derived.ProofKit
import Derived.OpenShut
import Derived.ShutString
import Derived.ChangeOld
import Derived.Below
import Derived.Carry
import Derived.SizedLaws
set_option linter.unusedVariables false
set_option linter.unusedSimpArgs false
namespace Go.Proofs.Ytjknpmibdkoklaa.normTurns
open Go.ChangeShapes Go.WideShapes Go.ChangeAt Go.RowKit
open Go.ChangeMaps (open_string shut_string)
theorem own : ownKnob Try.prog.godebug = none := by kernel_rfl
theorem laidOut : laidOutB Try.prog = true := by kernel_rfl
set_option maxRecDepth 100000 in
theorem lifted (os : Os) (started : os.Started) (H : Type) (enc : TypeId × Value → H) :
    ReturnsInHanded {} Try.checked os 12 .any (Rows.normTurnsSpec.pre6 enc Try.prog Try.f12 Rows.normTurnsRow.domain false) (Rows.normTurnsSpec.post enc Try.prog Try.f12 false true false false) := by
  refine returnsInHanded_of_change_sized (C := Try.checked) own started (by kernel_rfl) Try.func12
    (ChangeSpec.witness6 (enc := enc) (C := Try.checked) false ⟨#[], #[.agg #[.int .i64 0, .int .i64 0, .string ⟨#[]⟩, .slice none 0 0], .agg #[.int .i64 0, .int .i64 0, .string ⟨#[]⟩, .slice none 0 0]], []⟩ 8 (by kernel_rfl) (by kernel_rfl) (by kernel_rfl) (by kernel_rfl)) ?_
  intro W base args ds gs before hval0 hW hcnd hsz0 _
  have hsz : (DataW.weightsEach Try.prog (Try.f12.params.toList ++ Rows.normTurnsSpec.plain.varTypes Try.prog) (ds ++ gs)).all (· ≤ reachBytes) = true := hsz0
  have hval : ∀ (j : Nat) t v, Try.f12.params[j]? = some t → args[j]? = some v → Value.okWide Try.prog W .any base t v := hval0
  have hW' := hW
  obtain ⟨p, q, hA0, hV, rfl, hfz, hnd⟩ := hW
  have hA : DataW.TrodAll enc Try.prog W 0 (fun _ => true) true Try.f12.params.toList args.toList ds p := hA0
  rw [Try.params12] at hA hval hsz
  obtain ⟨v0, vs0, d0, ds0, p0, q0, hargs0, rfl, rfl, h0, r0⟩ := trodAll_cons hA
  obtain ⟨v1, vs1, d1, ds1, p1, q1, hargs1, rfl, rfl, h1, r1⟩ := trodAll_cons r0
  obtain ⟨rfl, rfl, rfl⟩ := trodAll_nil r1
  obtain rfl : args = #[v0, v1] := by cases args; simp_all
  obtain ⟨rfl, rfl⟩ := trodVars_none hV
  have k0 := h0
  have lt0 : ∀ x ∈ p0, x.block < W.heap.size := by obtain ⟨m, hm⟩ := k0; exact DataW.trod_lt m _ _ _ hm
  obtain ⟨t0, A03, c03, rfl, lc03, hr03, hF0⟩ := Q.open_term (hval 0 66 v0 rfl rfl) h0 (Open.sized_at hsz (j := 0) (t := 66) rfl rfl)
  have k1 := h1
  have lt1 : ∀ x ∈ p1, x.block < W.heap.size := by obtain ⟨m, hm⟩ := k1; exact DataW.trod_lt m _ _ _ hm
  obtain ⟨t1, A13, c13, rfl, lc13, hr13, hF1⟩ := Q.open_term (hval 1 66 v1 rfl rfl) h1 (Open.sized_at hsz (j := 1) (t := 66) rfl rfl)
  clear hA0 hval0 hsz0 hsz
  obtain ⟨k, hk⟩ := (Q.NormTurns_ev hF0 hF1).rounds
  refine (Q.tabardlaw09_NormTurns.calls k t0.f0 t0.f1 t0.f2 (fun k_ => k_ < W.heap.size) A03 c03 t0.f3 t1.f0 t1.f1 t1.f2 (fun k_ => k_ < W.heap.size) A13 c13 t1.f3 true W (Go.Proofs.YtjknpmibdkoklaaW.PrintWords.Kd.V_mk lc03 (Go.Proofs.YtjknpmibdkoklaaW.PrintWords.Kd.C_F Q.k66_heap hr03)) (Go.Proofs.YtjknpmibdkoklaaW.PrintWords.Kd.V_mk lc13 (Go.Proofs.YtjknpmibdkoklaaW.PrintWords.Kd.C_F Q.k66_heap hr13)) hk ).mono fun e W' ⟨he, bel⟩ => ?_
  subst he
  exact ⟨_, rfl, _, _, _, [], _, [], hW', trodAll_mk1 (shut_bool Try.underlying4 _), (trodAll_cons_mk (Below.trod laidOut (by kernel_rfl) (of_decide_eq_true (by kernel_rfl)) k0 bel lt0) (trodAll_cons_mk (Below.trod laidOut (by kernel_rfl) (of_decide_eq_true (by kernel_rfl)) k1 bel lt1) trodAll_mk0)), rfl, bel.frame _, fun h => by cases h⟩
theorem over : Rows.normTurnsRow.holds Try.pinned (OpenSpec.ofChange Rows.normTurnsSpec) :=
  OpenClaim.holds_of_wide 12 Try.f12 rfl rfl rfl rfl rfl rfl rfl ⟨rfl, rfl, rfl, rfl, rfl⟩ rfl rfl rfl rfl rfl (by kernel_rfl) Try.func12 (by kernel_rfl)
    (of_decide_eq_true (by kernel_rfl)) (by unfold Func.isWrapper; first | (rw [if_pos (by decide +kernel)]; kernel_rfl) | (rw [if_neg (by decide +kernel)]; exact ⟨rfl, rfl⟩))
    (fun os started H enc _ => lifted os started H enc)
theorem proved : Rows.NormTurnsSaid := over
end Go.Proofs.Ytjknpmibdkoklaa.normTurns
namespace Go.Proofs.Ytjknpmibdkoklaa
/-- The row, under a short name, for the claim. -/
theorem normTurns_holds : Rows.NormTurnsSaid := normTurns.proved
end Go.Proofs.Ytjknpmibdkoklaa
