/- Functions of the given program as Lean functions, each with its contract, and what they answer; words for it. No condition but those of each. -/
import Derived.Test.YtjknpmibdkoklaaMG18
import Derived.Test.YtjknpmibdkoklaaMG23
import Derived.Test.YtjknpmibdkoklaaMG24
import Derived.Test.YtjknpmibdkoklaaMG20
import Derived.Test.YtjknpmibdkoklaaMG5
import Derived.Test.YtjknpmibdkoklaaMG25
set_option maxRecDepth 100000
namespace Go.Proofs.Ytjknpmibdkoklaa.Q
open Go.RowKit Go.Proofs.YtjknpmibdkoklaaW.PrintWords Go.Proofs.YtjknpmibdkoklaaW.PrintLast Go.Proofs.YtjknpmibdkoklaaW.PrintMore
theorem same_loop (l : List ByteArray) (hl : l.length ≤ 1000000) : ∀ (n i : Nat), i ≤ l.length → l.length - i = n → Ev (fun k => tabardlaw06_same.l0 k l l (l.length : Int) (i : Int)) true
  | 0, i, hi, hn => Ev.step (f := fun _ => some true) (fun k => by
      unfold tabardlaw06_same.l0
      rw [if_neg (by omega)]) (Ev.now _)
  | n + 1, i, hi, hn => by
    refine Ev.step (f := fun k => tabardlaw06_same.l0 k l l (l.length : Int) ((i + 1 : Nat) : Int)) (fun k => ?_) (same_loop l hl n (i + 1) (by omega) (by omega))
    show tabardlaw06_same.l0 (k + 1) l l (l.length : Int) (i : Int) = _
    conv => lhs; unfold tabardlaw06_same.l0
    rw [if_pos (by omega), if_pos (by omega), if_pos (by omega), if_pos (by omega), if_pos rfl, wrap_add (show i < l.length by omega) (by omega)]
theorem same_ev (l : List ByteArray) (hl : l.length ≤ 1000000) : Ev (fun k => tabardlaw06_same.f k l l) true := by
  refine Ev.congr (f := fun k => tabardlaw06_same.l0 k l l (l.length : Int) ((0 : Nat) : Int)) (fun k => ?_) (same_loop l hl _ 0 (Nat.zero_le _) rfl)
  unfold tabardlaw06_same.f
  rw [if_pos rfl]
  rfl
theorem eta39 (t : S39) : (⟨t.f0, t.f1, t.f2, t.f3, t.f4⟩ : S39) = t := by cases t; rfl
def freeA (t : S39) : List ByteArray × Int := if (measF t 1 (0, 0, 0)).2.2 = 0 then (freeF t, 0) else ([], (measF t 1 (0, 0, 0)).2.2)
theorem Free_ev (t : S39) : Ev (fun k => tree_Free.f k t.f0 t.f1 t.f2 t.f3 t.f4) (freeA t) := by
  unfold freeA
  by_cases h : (measF t 1 (0, 0, 0)).2.2 = 0
  · rw [if_pos h]
    obtain ⟨_, _, hc⟩ := measF_right t 1 (0, 0, 0) (by decide) (by decide) h
    have hc2 : cntF t ≤ 500 := by simp only [Int.zero_add] at hc; omega
    refine Ev.congr (f := fun k => (tree_free.f k t.f0 t.f1 t.f2 t.f3 t.f4).bind fun b => some (b.1, 0)) (fun k => ?_) (Ev.bind (free_ev 900 t (by omega) (by omega)) (Ev.now _))
    unfold tree_Free.f tree_Check.f tree_measured.f
    rw [Option.bind_some, Option.bind_some, eta39]
    exact if_pos h
  · rw [if_neg h]
    refine Ev.congr (f := fun _ => some ([], (measF t 1 (0, 0, 0)).2.2)) (fun k => ?_) (Ev.now _)
    unfold tree_Free.f tree_Check.f tree_measured.f
    rw [Option.bind_some, Option.bind_some, eta39]
    exact if_neg h
end Go.Proofs.Ytjknpmibdkoklaa.Q
set_option maxRecDepth 100000
namespace Go.Proofs.Ytjknpmibdkoklaa.Q
open Go.RowKit Go.Proofs.YtjknpmibdkoklaaW.PrintWords Go.Proofs.YtjknpmibdkoklaaW.PrintLast Go.Proofs.YtjknpmibdkoklaaW.PrintMore
mutual
def depT : S66 → Nat
  | ⟨_, _, _, l⟩ => 1 + depTs l
def depTs : List S66 → Nat
  | [] => 0
  | t :: l => max (depT t) (depTs l)
end
mutual
def depF : S39 → Nat
  | ⟨_, _, _, l, q⟩ => 1 + max (depTs l) (depFs q)
def depFs : List S39 → Nat
  | [] => 0
  | t :: l => max (depF t) (depFs l)
end
theorem depF_pos (t : S39) : 1 ≤ depF t := by cases t; rw [depF]; omega
theorem nodeM_fine {s d dep : Int} (h0 : 0 ≤ s) (h1 : s + 1 ≤ 500) (h2 : dep ≤ 40) : nodeM dep true (s, d, 0) = (s + 1, mx d dep, 0) := by
  have hw : wrap64 (s + 1) = s + 1 := by unfold wrap64; omega
  unfold nodeM
  simp only [hw]
  rw [if_neg (by omega), if_neg (by omega), if_pos trivial]
theorem nodeM_deep {s d dep : Int} {g : Bool} (h0 : 0 ≤ s) (h1 : s + 1 ≤ 500) (h2 : 40 < dep) : (nodeM dep g (s, d, 0)).2.2 = 72 := by
  have hw : wrap64 (s + 1) = s + 1 := by unfold wrap64; omega
  unfold nodeM
  simp only [hw]
  rw [if_neg (by omega), if_pos (by omega)]
theorem trip {a b c a' b' c' : Int} (h1 : a = a') (h2 : b = b') (h3 : c = c') : (a, b, c) = (a', b', c') := by rw [h1, h2, h3]
theorem wrap_dep {dep : Int} (h1 : 1 ≤ dep) (h2 : dep ≤ 41) : wrap64 (dep + 1) = dep + 1 := by unfold wrap64; omega
mutual
theorem measT_told : ∀ (t : S66) (dep s d : Int), 0 ≤ s → 1 ≤ dep → dep ≤ 41 → RightT t → s + cntT t ≤ 500 →
    (dep + depT t ≤ 41 → measT t dep (s, d, 0) = (s + cntT t, mx d (dep + depT t - 1), 0)) ∧ (¬ dep + depT t ≤ 41 → (measT t dep (s, d, 0)).2.2 = 72)
  | ⟨a, b, n, l⟩, dep, s, d, h0, h1, h2, hr, hc => by
    rw [RightT] at hr
    rw [cntT] at hc ⊢
    rw [depT, measT, hr.1]
    by_cases hd : dep ≤ 40
    · rw [nodeM_fine h0 (by omega) hd]
      rw [if_pos rfl, wrap_dep h1 h2]
      obtain ⟨k1, k2⟩ := measTs_told l (dep + 1) (s + 1) (mx d dep) (by omega) (by omega) (by omega) (by unfold mx; omega) hr.2 (by omega)
      constructor
      · intro h
        rw [k1 (by omega)]
        exact trip (by omega) (by unfold mx; omega) rfl
      · intro h
        exact k2 (by omega)
    · have e := nodeM_deep (d := d) (g := true) h0 (show s + 1 ≤ 500 by omega) (show 40 < dep by omega)
      constructor
      · intro h; omega
      · intro _
        rw [if_neg (by rw [e]; decide)]
        exact e
theorem measTs_told : ∀ (l : List S66) (dep s d : Int), 0 ≤ s → 1 ≤ dep → dep ≤ 41 → dep - 1 ≤ d → RightTs l → s + cntTs l ≤ 500 →
    (dep + depTs l ≤ 41 → measTs l dep (s, d, 0) = (s + cntTs l, mx d (dep + depTs l - 1), 0)) ∧ (¬ dep + depTs l ≤ 41 → (measTs l dep (s, d, 0)).2.2 = 72)
  | [], dep, s, d, h0, h1, h2, h3, hr, hc => by
    rw [measTs, cntTs, depTs]
    exact ⟨fun _ => trip (by omega) (by unfold mx; omega) rfl, fun h => absurd (by omega) h⟩
  | t :: l, dep, s, d, h0, h1, h2, h3, hr, hc => by
    rw [RightTs] at hr
    rw [cntTs] at hc ⊢
    rw [depTs, measTs]
    obtain ⟨k1, k2⟩ := measT_told t dep s d h0 h1 h2 hr.1 (by omega)
    by_cases hd : dep + depT t ≤ 41
    · rw [k1 hd, if_pos rfl]
      obtain ⟨j1, j2⟩ := measTs_told l dep (s + cntT t) (mx d (dep + depT t - 1)) (by omega) h1 h2 (by unfold mx; omega) hr.2 (by omega)
      constructor
      · intro h
        rw [j1 (by omega)]
        exact trip (by omega) (by unfold mx; omega) rfl
      · intro h
        exact j2 (by omega)
    · have e := k2 hd
      constructor
      · intro h; omega
      · intro _
        rw [if_neg (by rw [e]; decide)]
        exact e
end
mutual
theorem measF_told : ∀ (t : S39) (dep s d : Int), 0 ≤ s → 1 ≤ dep → dep ≤ 41 → RightF t → s + cntF t ≤ 500 →
    (dep + depF t ≤ 41 → measF t dep (s, d, 0) = (s + cntF t, mx d (dep + depF t - 1), 0)) ∧ (¬ dep + depF t ≤ 41 → (measF t dep (s, d, 0)).2.2 = 72)
  | ⟨a, b, n, l, q⟩, dep, s, d, h0, h1, h2, hr, hc => by
    rw [RightF] at hr
    rw [cntF] at hc ⊢
    rw [depF, measF, hr.1]
    by_cases hd : dep ≤ 40
    · rw [nodeM_fine h0 (by omega) hd]
      rw [if_pos rfl, wrap_dep h1 h2]
      obtain ⟨k1, k2⟩ := measTs_told l (dep + 1) (s + 1) (mx d dep) (by omega) (by omega) (by omega) (by unfold mx; omega) hr.2.1 (by omega)
      by_cases hl : dep + 1 + depTs l ≤ 41
      · rw [k1 hl, if_pos rfl]
        obtain ⟨j1, j2⟩ := measFs_told q (dep + 1) (s + 1 + cntTs l) (mx (mx d dep) (dep + 1 + depTs l - 1)) (by omega) (by omega) (by omega) (by unfold mx; omega) hr.2.2 (by omega)
        constructor
        · intro h
          rw [j1 (by omega)]
          exact trip (by omega) (by unfold mx; omega) rfl
        · intro h
          exact j2 (by omega)
      · have e := k2 hl
        constructor
        · intro h; omega
        · intro _
          rw [if_neg (by rw [e]; decide)]
          exact e
    · have e := nodeM_deep (d := d) (g := true) h0 (show s + 1 ≤ 500 by omega) (show 40 < dep by omega)
      constructor
      · intro h; omega
      · intro _
        rw [if_neg (by rw [e]; decide)]
        exact e
theorem measFs_told : ∀ (l : List S39) (dep s d : Int), 0 ≤ s → 1 ≤ dep → dep ≤ 41 → dep - 1 ≤ d → RightFs l → s + cntFs l ≤ 500 →
    (dep + depFs l ≤ 41 → measFs l dep (s, d, 0) = (s + cntFs l, mx d (dep + depFs l - 1), 0)) ∧ (¬ dep + depFs l ≤ 41 → (measFs l dep (s, d, 0)).2.2 = 72)
  | [], dep, s, d, h0, h1, h2, h3, hr, hc => by
    rw [measFs, cntFs, depFs]
    exact ⟨fun _ => trip (by omega) (by unfold mx; omega) rfl, fun h => absurd (by omega) h⟩
  | t :: l, dep, s, d, h0, h1, h2, h3, hr, hc => by
    rw [RightFs] at hr
    rw [cntFs] at hc ⊢
    rw [depFs, measFs]
    obtain ⟨k1, k2⟩ := measF_told t dep s d h0 h1 h2 hr.1 (by omega)
    by_cases hd : dep + depF t ≤ 41
    · rw [k1 hd, if_pos rfl]
      obtain ⟨j1, j2⟩ := measFs_told l dep (s + cntF t) (mx d (dep + depF t - 1)) (by omega) h1 h2 (by unfold mx; omega) hr.2 (by omega)
      constructor
      · intro h
        rw [j1 (by omega)]
        exact trip (by omega) (by unfold mx; omega) rfl
      · intro h
        exact j2 (by omega)
    · have e := k2 hd
      constructor
      · intro h; omega
      · intro _
        rw [if_neg (by rw [e]; decide)]
        exact e
end
theorem errF_iff (t : S39) : (measF t 1 (0, 0, 0)).2.2 = 0 ↔ RightF t ∧ cntF t ≤ 500 ∧ depF t ≤ 40 := by
  constructor
  · intro h
    obtain ⟨hr, _, hc⟩ := measF_right t 1 (0, 0, 0) (by decide) (by decide) h
    have hc' : (0 : Int) + (cntF t : Int) ≤ 500 := hc
    refine ⟨hr, by omega, Classical.byContradiction fun hd => ?_⟩
    have := (measF_told t 1 0 0 (by decide) (by decide) (by decide) hr hc').2 (by omega)
    rw [h] at this
    cases this
  · rintro ⟨hr, hc, hd⟩
    rw [(measF_told t 1 0 0 (by decide) (by decide) (by decide) hr (by omega)).1 (by omega)]
theorem measF_fine {t : S39} (h : (measF t 1 (0, 0, 0)).2.2 = 0) : measF t 1 (0, 0, 0) = ((cntF t : Int), (depF t : Int), 0) := by
  obtain ⟨hr, hc, hd⟩ := (errF_iff t).1 h
  rw [(measF_told t 1 0 0 (by decide) (by decide) (by decide) hr (by omega)).1 (by omega)]
  have := depF_pos t
  exact trip (by omega) (by unfold mx; omega) rfl
end Go.Proofs.Ytjknpmibdkoklaa.Q
