/- The law TruthConnects answers true at every input, and each argument reads as it did. No condition. -/
import Derived.Test.YtjknpmibdkoklaaPCS
import Derived.Test.YtjknpmibdkoklaaRows
import Derived.Test.YtjknpmibdkoklaaPC17
import Derived.Test.YtjknpmibdkoklaaPC16
import Derived.WalkKit
import Derived.ProofKit
import Derived.OpenShut
import Derived.ShutString
import Derived.ChangeOld
import Derived.Below
import Derived.Carry
import Derived.SizedLaws
set_option linter.unusedVariables false
set_option linter.unusedSimpArgs false
namespace Go.Proofs.Ytjknpmibdkoklaa.truthConnects
open Go.ChangeShapes Go.WideShapes Go.ChangeAt Go.RowKit
open Go.ChangeMaps (open_string shut_string)
theorem own : ownKnob Try.prog.godebug = none := by kernel_rfl
theorem laidOut : laidOutB Try.prog = true := by kernel_rfl
set_option maxRecDepth 100000 in
theorem lifted (os : Os) (started : os.Started) (H : Type) (enc : TypeId × Value → H) :
    ReturnsInHanded {} Try.checked os 18 .any (Rows.truthConnectsSpec.pre6 enc Try.prog Try.f18 Rows.truthConnectsRow.domain false) (Rows.truthConnectsSpec.post enc Try.prog Try.f18 false true false false) := by
  refine returnsInHanded_of_change_sized (C := Try.checked) own started (by kernel_rfl) Try.func18
    (ChangeSpec.witness6 (enc := enc) (C := Try.checked) false ⟨#[], #[.agg #[.int .i64 0, .string ⟨#[]⟩, .int .i64 0, .slice none 0 0, .slice none 0 0], .agg #[.int .i64 0, .string ⟨#[]⟩, .int .i64 0, .slice none 0 0, .slice none 0 0], .slice none 0 0, .string ⟨#[]⟩], []⟩ 8 (by kernel_rfl) (by kernel_rfl) (by kernel_rfl) (by kernel_rfl)) ?_
  intro W base args ds gs before hval0 hW hcnd hsz0 _
  have hsz : (DataW.weightsEach Try.prog (Try.f18.params.toList ++ Rows.truthConnectsSpec.plain.varTypes Try.prog) (ds ++ gs)).all (· ≤ reachBytes) = true := hsz0
  have hval : ∀ (j : Nat) t v, Try.f18.params[j]? = some t → args[j]? = some v → Value.okWide Try.prog W .any base t v := hval0
  have hW' := hW
  obtain ⟨p, q, hA0, hV, rfl, hfz, hnd⟩ := hW
  have hA : DataW.TrodAll enc Try.prog W 0 (fun _ => true) true Try.f18.params.toList args.toList ds p := hA0
  rw [Try.params18] at hA hval hsz
  obtain ⟨v0, vs0, d0, ds0, p0, q0, hargs0, rfl, rfl, h0, r0⟩ := trodAll_cons hA
  obtain ⟨v1, vs1, d1, ds1, p1, q1, hargs1, rfl, rfl, h1, r1⟩ := trodAll_cons r0
  obtain ⟨v2, vs2, d2, ds2, p2, q2, hargs2, rfl, rfl, h2, r2⟩ := trodAll_cons r1
  obtain ⟨v3, vs3, d3, ds3, p3, q3, hargs3, rfl, rfl, h3, r3⟩ := trodAll_cons r2
  obtain ⟨rfl, rfl, rfl⟩ := trodAll_nil r3
  obtain rfl : args = #[v0, v1, v2, v3] := by cases args; simp_all
  obtain ⟨rfl, rfl⟩ := trodVars_none hV
  have k0 := h0
  have lt0 : ∀ x ∈ p0, x.block < W.heap.size := by obtain ⟨m, hm⟩ := k0; exact DataW.trod_lt m _ _ _ hm
  obtain ⟨t0, A03, c03, A04, c04, rfl, lc03, hr03, lc04, hr04, hF0⟩ := U.open_formula (hval 0 39 v0 rfl rfl) h0 (Open.sized_at hsz (j := 0) (t := 39) rfl rfl)
  have k1 := h1
  have lt1 : ∀ x ∈ p1, x.block < W.heap.size := by obtain ⟨m, hm⟩ := k1; exact DataW.trod_lt m _ _ _ hm
  obtain ⟨t1, A13, c13, A14, c14, rfl, lc13, hr13, lc14, hr14, hF1⟩ := U.open_formula (hval 1 39 v1 rfl rfl) h1 (Open.sized_at hsz (j := 1) (t := 39) rfl rfl)
  have k2 := h2
  have lt2 : ∀ x ∈ p2, x.block < W.heap.size := by obtain ⟨m, hm⟩ := k2; exact DataW.trod_lt m _ _ _ hm
  obtain ⟨A2, l2, c2, rfl, lc2, hr2, z2, Q2⟩ := U.open_ints (hval 2 55 v2 rfl rfl) h2 (Open.sized_at hsz (j := 2) (t := 55) rfl rfl)
  obtain ⟨a3, rfl, rfl, rfl, y3⟩ := open_string Try.underlying9 (hval 3 9 v3 rfl rfl) h3
  have w3 : a3.size ≤ 140737488351232 := by
    have z := sized_string hsz (j := 3) (t := 9) rfl rfl
    have hr : reachBytes = 140737488351232 := rfl
    simp at z
    omega
  clear hA0 hval0 hsz0 hsz
  obtain ⟨k, hk⟩ := (U.TruthConnects_row hF0 hF1 z2 Q2 w3).rounds
  refine (U.tabardlaw10_TruthConnects.calls k t0.f0 t0.f1 t0.f2 (fun k_ => k_ < W.heap.size) A03 c03 t0.f3 (fun k_ => k_ < W.heap.size) A04 c04 t0.f4 t1.f0 t1.f1 t1.f2 (fun k_ => k_ < W.heap.size) A13 c13 t1.f3 (fun k_ => k_ < W.heap.size) A14 c14 t1.f4 A2 c2 l2 a3 true W (Go.Proofs.YtjknpmibdkoklaaW.PrintWords.Kd.V_mk lc03 (Go.Proofs.YtjknpmibdkoklaaW.PrintWords.Kd.C_F U.k66_heap hr03)) (Go.Proofs.YtjknpmibdkoklaaW.PrintWords.Kd.V_mk lc04 (Go.Proofs.YtjknpmibdkoklaaW.PrintWords.Kd.C_F U.k39_heap hr04)) (Go.Proofs.YtjknpmibdkoklaaW.PrintWords.Kd.V_mk lc13 (Go.Proofs.YtjknpmibdkoklaaW.PrintWords.Kd.C_F U.k66_heap hr13)) (Go.Proofs.YtjknpmibdkoklaaW.PrintWords.Kd.V_mk lc14 (Go.Proofs.YtjknpmibdkoklaaW.PrintWords.Kd.C_F U.k39_heap hr14)) hr2 lc2 hk rfl).mono fun e W' ⟨he, bel⟩ => ?_
  subst he
  exact ⟨_, rfl, _, _, _, [], _, [], hW', trodAll_mk1 (shut_bool Try.underlying4 _), (trodAll_cons_mk (Below.trod laidOut (by kernel_rfl) (of_decide_eq_true (by kernel_rfl)) k0 bel lt0) (trodAll_cons_mk (Below.trod laidOut (by kernel_rfl) (of_decide_eq_true (by kernel_rfl)) k1 bel lt1) (trodAll_cons_mk (Below.trod laidOut (by kernel_rfl) (of_decide_eq_true (by kernel_rfl)) k2 bel lt2) (trodAll_cons_mk (shut_string Try.underlying9 y3) trodAll_mk0)))), rfl, bel.frame _, fun h => by cases h⟩
theorem over : Rows.truthConnectsRow.holds Try.pinned (OpenSpec.ofChange Rows.truthConnectsSpec) :=
  OpenClaim.holds_of_wide 18 Try.f18 rfl rfl rfl rfl rfl rfl rfl ⟨rfl, rfl, rfl, rfl, rfl⟩ rfl rfl rfl rfl rfl (by kernel_rfl) Try.func18 (by kernel_rfl)
    (of_decide_eq_true (by kernel_rfl)) (by unfold Func.isWrapper; first | (rw [if_pos (by decide +kernel)]; kernel_rfl) | (rw [if_neg (by decide +kernel)]; exact ⟨rfl, rfl⟩))
    (fun os started H enc _ => lifted os started H enc)
theorem proved : Rows.TruthConnectsSaid := over
end Go.Proofs.Ytjknpmibdkoklaa.truthConnects
namespace Go.Proofs.Ytjknpmibdkoklaa
/-- The row, under a short name, for the claim. -/
theorem truthConnects_holds : Rows.TruthConnectsSaid := truthConnects.proved
end Go.Proofs.Ytjknpmibdkoklaa
