/- Functions of the given program as Lean functions, each with its contract, and what they answer; words for it. No condition but those of each. -/
import Derived.Test.YtjknpmibdkoklaaMF32
import Derived.Test.YtjknpmibdkoklaaMF33
set_option maxRecDepth 100000
namespace Go.Proofs.Ytjknpmibdkoklaa.Q
open Go.RowKit Go.Proofs.YtjknpmibdkoklaaW.PrintWords Go.Proofs.YtjknpmibdkoklaaW.PrintLast Go.Proofs.YtjknpmibdkoklaaW.PrintMore
theorem u64_nonneg (n : Int) : 0 ≤ IntKind.u64.wrap n := by
  have : IntKind.u64.wrap n = n % 18446744073709551616 := by simp [IntKind.wrap, IntKind.bits, IntKind.signed]
  omega
theorem op_range (a : Int) : 3 ≤ wrap64 (3 + (wrap64 (Int.tmod (IntKind.u64.wrap (a)) 4))) ∧ wrap64 (3 + (wrap64 (Int.tmod (IntKind.u64.wrap (a)) 4))) ≤ 6 := by
  have h := u64_nonneg a
  generalize IntKind.u64.wrap a = x at h
  have h1 : 0 ≤ Int.tmod x 4 := Int.tmod_nonneg 4 h
  have h2 : Int.tmod x 4 < 4 := Int.tmod_lt_of_pos x (by decide)
  generalize Int.tmod x 4 = y at h1 h2
  unfold wrap64
  omega
theorem joined_eq (k : Int) (t u : S39) : tabardlaw06_joined.f k t.f0 t.f1 t.f2 t.f3 t.f4 u.f0 u.f1 u.f2 u.f3 u.f4 = some (k, (⟨#[]⟩ : ByteArray), 0, ([] : List S66), [t, u]) := by
  unfold tabardlaw06_joined.f
  rw [eta39, eta39]
theorem Size_fine {t : S39} (h : errF t = 0) : tree_Size.f t.f0 t.f1 t.f2 t.f3 t.f4 = some ((cntF t : Int), 0) := by rw [Size_eq, if_pos h]
theorem Depth_fine {t : S39} (h : errF t = 0) : tree_Depth.f t.f0 t.f1 t.f2 t.f3 t.f4 = some ((depF t : Int), 0) := by rw [Depth_eq, if_pos h]
theorem joinF_err {k : Int} {t u : S39} (h3 : 3 ≤ k) (h6 : k ≤ 6) : errF (joinF k t u) = 0 ↔ (errF t = 0 ∧ errF u = 0) ∧ cntF t + cntF u + 1 ≤ 500 ∧ max (depF t) (depF u) + 1 ≤ 40 := by
  unfold errF
  rw [errF_iff, errF_iff, errF_iff, joinF_right h3 h6, joinF_cnt, joinF_dep]
  constructor
  · rintro ⟨⟨a, b⟩, c, d⟩
    exact ⟨⟨⟨a, by omega, by omega⟩, ⟨b, by omega, by omega⟩⟩, c, d⟩
  · rintro ⟨⟨⟨a, _⟩, ⟨b, _⟩⟩, c, d⟩
    exact ⟨⟨a, b⟩, c, d⟩
theorem wide_nonneg (t : S39) : 0 ≤ wideF t := by rw [wideF_eq]; unfold mx; split <;> omega
theorem joins_ev (t u : S39) (k : Int) (h3 : 3 ≤ k) (h6 : k ≤ 6) (b : Bool) (hb : b = true ↔ ¬ (errF t = 0 ∧ errF u = 0)) : Ev (fun n => tabardlaw06_TreeJoins.j0 n k b t.f0 t.f1 t.f2 t.f3 t.f4 u.f0 u.f1 u.f2 u.f3 u.f4 k (⟨#[]⟩ : ByteArray) 0 ([] : List S66) [t, u]) true := by
  have hC : tree_Check.f k (⟨#[]⟩ : ByteArray) 0 ([] : List S66) [t, u] = some (errF (joinF k t u)) := Check_eq (joinF k t u)
  have hS : tree_Size.f k (⟨#[]⟩ : ByteArray) 0 ([] : List S66) [t, u] = some (if errF (joinF k t u) = 0 then ((cntF (joinF k t u) : Int), 0) else (0, errF (joinF k t u))) := Size_eq (joinF k t u)
  cases b with
  | true =>
    refine Ev.step (f := fun _ => some true) (fun n => ?_) (Ev.now _)
    show tabardlaw06_TreeJoins.j0 (n + 1) _ _ _ _ _ _ _ _ _ _ _ _ _ _ _ _ _ = _
    rw [tabardlaw06_TreeJoins.j0]
    rw [if_pos rfl, hC, Option.bind_some]
    exact congrArg some (bne_iff_ne.mpr fun h => hb.1 rfl ((joinF_err h3 h6).1 h).1)
  | false =>
    have hz : errF t = 0 ∧ errF u = 0 := Classical.byContradiction fun h => absurd (hb.2 h) (by decide)
    obtain ⟨ht, hu⟩ := hz
    obtain ⟨rt, ct, dt⟩ := (errF_iff t).1 ht
    obtain ⟨ru, cu, du⟩ := (errF_iff u).1 hu
    have hs : wrap64 ((wrap64 ((cntF t : Int) + (cntF u : Int))) + 1) = (cntF t : Int) + (cntF u : Int) + 1 := by unfold wrap64; omega
    have hd : wrap64 ((mx (depF t : Int) (depF u : Int)) + 1) = (max (depF t) (depF u) + 1 : Nat) := by unfold mx wrap64; split <;> omega
    by_cases h5 : cntF t + cntF u + 1 ≤ 500
    · by_cases h4 : max (depF t) (depF u) + 1 ≤ 40
      · have hJ : errF (joinF k t u) = 0 := (joinF_err h3 h6).2 ⟨⟨ht, hu⟩, h5, h4⟩
        have hJ2 : errF (joinF k u t) = 0 := (joinF_err h3 h6).2 ⟨⟨hu, ht⟩, by omega, by omega⟩
        rw [if_pos hJ] at hS
        have hD : tree_Depth.f k (⟨#[]⟩ : ByteArray) 0 ([] : List S66) [t, u] = some ((depF (joinF k t u) : Int), 0) := Depth_fine hJ
        obtain ⟨K1, e1⟩ := Free_fine ht
        obtain ⟨K2, e2⟩ := Free_fine hu
        obtain ⟨K3, e3⟩ := Free_fine hJ
        obtain ⟨K4, e4⟩ := Free_fine hJ2
        have hl1 := freeF_len t
        have hl2 := freeF_len u
        have hcl := canon_length (freeF t ++ freeF u)
        rw [List.length_append] at hcl
        obtain ⟨K5, e5⟩ := union_ev (freeF t) (freeF u) (by omega) (by omega)
        obtain ⟨K6, e6⟩ := Widest_ev ht
        obtain ⟨K7, e7⟩ := Widest_ev hu
        obtain ⟨K8, e8⟩ := Widest_ev hJ
        obtain ⟨K9, e9⟩ := same_ev (canon (freeF t ++ freeF u)) (by omega)
        rw [joinF_free t u h6] at e3
        rw [joinF_free u t h6, canon_swap] at e4
        rw [joinF_wide t u h6] at e8
        have hun : unionA (freeF t) (freeF u) = (canon (freeF t ++ freeF u), 0) := by
          unfold unionA
          rw [if_pos (freeF_rises rt), if_pos (freeF_rises ru)]
        rw [hun] at e5
        refine ⟨K1 + K2 + K3 + K4 + K5 + K6 + K7 + K8 + K9 + 1, fun n hn => ?_⟩
        obtain ⟨n, rfl⟩ : ∃ m, n = m + 1 := ⟨n - 1, by omega⟩
        have f1 := e1 n (by omega)
        have f2 := e2 n (by omega)
        have f3 : tree_Free.f n k (⟨#[]⟩ : ByteArray) 0 ([] : List S66) [t, u] = _ := e3 n (by omega)
        have f4 : tree_Free.f n k (⟨#[]⟩ : ByteArray) 0 ([] : List S66) [u, t] = _ := e4 n (by omega)
        have f5 := e5 n (by omega)
        have f6 := e6 n (by omega)
        have f7 := e7 n (by omega)
        have f8 : tree_Widest.f n k (⟨#[]⟩ : ByteArray) 0 ([] : List S66) [t, u] = _ := e8 n (by omega)
        have f9 := e9 n (by omega)
        dsimp only at f1 f2 f5 f6 f7 f9
        have hw := wide_nonneg t
        clear e1 e2 e3 e4 e5 e6 e7 e8 e9 hb hn
        show tabardlaw06_TreeJoins.j0 (n + 1) _ _ _ _ _ _ _ _ _ _ _ _ _ _ _ _ _ = _
        rw [tabardlaw06_TreeJoins.j0]
        rw [if_neg (by decide), Size_fine ht, Option.bind_some, Size_fine hu, Option.bind_some, hS, Option.bind_some]
        dsimp only
        rw [hs, if_neg (by omega), Depth_fine ht, Option.bind_some, Depth_fine hu, Option.bind_some]
        dsimp only
        rw [hd, if_neg (by omega), hD, Option.bind_some, f1, Option.bind_some, f2, Option.bind_some, f3, Option.bind_some]
        dsimp only
        rw [f5, Option.bind_some, joined_eq, Option.bind_some]
        dsimp only
        rw [f4, Option.bind_some, f6, Option.bind_some, f7, Option.bind_some, f8, Option.bind_some]
        dsimp only
        rw [if_pos rfl, if_pos (by rw [joinF_cnt]; omega), if_pos (by rw [joinF_dep]), if_pos rfl, if_pos rfl, if_pos rfl, f9, Option.bind_some, if_pos rfl, Option.bind_some, if_pos rfl]
        rw [show mx 0 (wideF t) = wideF t by unfold mx; split <;> omega]
        exact congrArg some (beq_iff_eq.mpr rfl)
      · have hJ : errF (joinF k t u) = 72 := errF_deep ((joinF_right h3 h6).2 ⟨rt, ru⟩) (by rw [joinF_cnt]; exact h5) (by rw [joinF_dep]; exact h4)
        rw [if_neg (by rw [hJ]; decide), hJ] at hS
        refine Ev.step (f := fun _ => some true) (fun n => ?_) (Ev.now _)
        show tabardlaw06_TreeJoins.j0 (n + 1) _ _ _ _ _ _ _ _ _ _ _ _ _ _ _ _ _ = _
        rw [tabardlaw06_TreeJoins.j0]
        rw [if_neg (by decide), Size_fine ht, Option.bind_some, Size_fine hu, Option.bind_some, hS, Option.bind_some]
        dsimp only
        rw [hs, if_neg (by omega), Depth_fine ht, Option.bind_some, Depth_fine hu, Option.bind_some]
        dsimp only
        rw [hd, if_pos (by omega), if_pos rfl]
        rfl
    · have hJ : errF (joinF k t u) ≠ 0 := fun h => h5 ((joinF_err h3 h6).1 h).2.1
      rw [if_neg hJ] at hS
      refine Ev.step (f := fun _ => some true) (fun n => ?_) (Ev.now _)
      show tabardlaw06_TreeJoins.j0 (n + 1) _ _ _ _ _ _ _ _ _ _ _ _ _ _ _ _ _ = _
      rw [tabardlaw06_TreeJoins.j0]
      rw [if_neg (by decide), Size_fine ht, Option.bind_some, Size_fine hu, Option.bind_some, hS, Option.bind_some]
      dsimp only
      rw [hs, if_pos (by omega), if_neg hJ]
      rfl
theorem TreeJoins_ev {t u : S39} (_ : FitF t) (_ : FitF u) (a2 : Int) (_ : IntKind.i64.min ≤ a2 ∧ a2 ≤ IntKind.i64.max) : Ev (fun k => tabardlaw06_TreeJoins.f k t.f0 t.f1 t.f2 t.f3 t.f4 u.f0 u.f1 u.f2 u.f3 u.f4 a2) true := by
  obtain ⟨h3, h6⟩ := op_range a2
  refine Ev.bind fixed_ev (Ev.congr (fun k => if_pos rfl) ?_)
  rw [Check_eq, Check_eq, joined_eq]
  generalize wrap64 (3 + (wrap64 (Int.tmod (IntKind.u64.wrap (a2)) 4))) = k at h3 h6
  refine Ev.congr (f := fun n => tabardlaw06_TreeJoins.j0 n k (if errF t = 0 then (errF u != 0) else true) t.f0 t.f1 t.f2 t.f3 t.f4 u.f0 u.f1 u.f2 u.f3 u.f4 k (⟨#[]⟩ : ByteArray) 0 ([] : List S66) [t, u]) (fun n => ?_) (joins_ev t u k h3 h6 _ ?_)
  · rw [Option.bind_some, Option.bind_some, Option.bind_some]
    dsimp only
    by_cases h : errF t = 0
    · rw [if_pos h, if_pos h]
    · rw [if_neg h, if_neg h]
  · by_cases h : errF t = 0
    · rw [if_pos h, bne_iff_ne]
      exact ⟨fun k2 c => k2 c.2, fun c e => c ⟨h, e⟩⟩
    · rw [if_neg h]
      exact ⟨fun _ c => h c.1, fun _ => rfl⟩
end Go.Proofs.Ytjknpmibdkoklaa.Q
