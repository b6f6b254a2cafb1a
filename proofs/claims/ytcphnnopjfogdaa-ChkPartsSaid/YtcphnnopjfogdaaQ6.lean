/- Functions of the given program as Lean functions, each with its contract: written by this session's program (wip/xprint.py). No condition but those of each contract. -/
import Derived.Test.YtcphnnopjfogdaaQ0
import Derived.Test.YtcphnnopjfogdaaQ2
import Derived.Test.YtcphnnopjfogdaaQ5
namespace Go.Proofs.Ytcphnnopjfogdaa.Q
open Go.RowKit Go.Proofs.YtcphnnopjfogdaaW.PrintWords Go.Proofs.YtcphnnopjfogdaaW.PrintLast Go.Proofs.YtcphnnopjfogdaaW.PrintMore
attribute [local go_sem] max2_int min2_int max_two min_two max_three min_three max_four min_four   -- for this text's walks alone
set_option linter.unusedVariables false
set_option linter.unusedSimpArgs false
attribute [local go_sem] fld63_0 fld63_1

/-! ### tabardlaw01_ChkParts: function 6 -/
mutual
def tabardlaw01_ChkParts.l0 : Nat → List Int → Int → Int → Int → Int → Int → Int → List Int → Int → Int → Option (Bool)
  | 0, _, _, _, _, _, _, _, _, _, _ => none
  | k + 1, x0, x6, x7, x8, x9, x10, x11, x12, x55, x56 => if x56 < x55 then (if 0 ≤ (wrap64 ((wrap64 ((x0.length : Int) - 1)) - x56)) then (if (wrap64 ((wrap64 ((x0.length : Int) - 1)) - x56)) < (x0.length : Int) then ((chk_Neg.f (rd x0 (wrap64 ((wrap64 ((x0.length : Int) - 1)) - x56)))).bind fun bt162 => (if bt162.2 = 0 then (if x12.length < 17592186044416 then (tabardlaw01_ChkParts.l0 k x0 x6 x7 x8 x9 x10 x11 (x12 ++ [bt162.1]) x55 (wrap64 (x56 + 1))) else (none)) else (if x11 = 10 then (some (x10 == 0)) else (some false)))) else (none)) else (none)) else ((chk_Total.f k x12).bind fun bt167 => (if bt167.1 = x10 then (tabardlaw01_ChkParts.j1 k x6 x7 x8 x9 x10 x11 (bt167.2 != x11)) else (tabardlaw01_ChkParts.j1 k x6 x7 x8 x9 x10 x11 true)))
def tabardlaw01_ChkParts.j1 : Nat → Int → Int → Int → Int → Int → Int → Bool → Option (Bool)
  | 0, _, _, _, _, _, _, _ => none
  | k + 1, x6, x7, x8, x9, x10, x11, x96 => if x96 = true then (some false) else (if x7 = 0 then (if x9 = 0 then ((chk_Add.f x6 x8).bind fun bt169 => (if bt169.1 = x10 then (some (bt169.2 == x11)) else (some false))) else (some (x11 == 10))) else (some (x11 == 10)))
end
def tabardlaw01_ChkParts.f (k : Nat) (l0 : List Int) (a1 : Int) : Option (Bool) := (tabardlaw01_fixed.f).bind fun t134 => (if t134 = true then (if (IntKind.u64.wrap (wrap64 ((l0.length : Int) + 1))) = 0 then (none) else ((some (([] : List Int) : List Int)).bind fun y135 => (if 0 ≤ (wrap64 (Int.tmod (IntKind.u64.wrap (a1)) (IntKind.u64.wrap (wrap64 ((l0.length : Int) + 1))))) then (if (wrap64 (Int.tmod (IntKind.u64.wrap (a1)) (IntKind.u64.wrap (wrap64 ((l0.length : Int) + 1))))) ≤ (l0.length : Int) then (if y135.length + (l0.take ((wrap64 (Int.tmod (IntKind.u64.wrap (a1)) (IntKind.u64.wrap (wrap64 ((l0.length : Int) + 1))))) : Int).toNat).length < 17592186044416 then ((chk_Total.f k (y135 ++ (l0.take ((wrap64 (Int.tmod (IntKind.u64.wrap (a1)) (IntKind.u64.wrap (wrap64 ((l0.length : Int) + 1))))) : Int).toNat))).bind fun bt142 => ((some (([] : List Int) : List Int)).bind fun y144 => (if y144.length + (l0.drop ((wrap64 (Int.tmod (IntKind.u64.wrap (a1)) (IntKind.u64.wrap (wrap64 ((l0.length : Int) + 1))))) : Int).toNat).length < 17592186044416 then ((chk_Total.f k (y144 ++ (l0.drop ((wrap64 (Int.tmod (IntKind.u64.wrap (a1)) (IntKind.u64.wrap (wrap64 ((l0.length : Int) + 1))))) : Int).toNat))).bind fun bt151 => ((some (([] : List Int) : List Int)).bind fun y153 => (if y153.length + l0.length < 17592186044416 then ((chk_Total.f k (y153 ++ l0)).bind fun bt159 => (tabardlaw01_ChkParts.l0 k l0 bt142.1 bt142.2 bt151.1 bt151.2 bt159.1 bt159.2 ([] : List Int) (l0.length : Int) 0)) else (none)))) else (none)))) else (none)) else (none)) else (none)))) else (some false))
theorem tabardlaw01_ChkParts.mono_l : ∀ k, (∀ y0 y1 y2 y3 y4 y5 y6 y7 y8 y9, LeO (tabardlaw01_ChkParts.l0 k y0 y1 y2 y3 y4 y5 y6 y7 y8 y9) (tabardlaw01_ChkParts.l0 (k + 1) y0 y1 y2 y3 y4 y5 y6 y7 y8 y9)) ∧ (∀ y0 y1 y2 y3 y4 y5 y6, LeO (tabardlaw01_ChkParts.j1 k y0 y1 y2 y3 y4 y5 y6) (tabardlaw01_ChkParts.j1 (k + 1) y0 y1 y2 y3 y4 y5 y6))
  | 0 => ⟨fun _ _ _ _ _ _ _ _ _ _ r h => by simp [tabardlaw01_ChkParts.l0] at h, fun _ _ _ _ _ _ _ r h => by simp [tabardlaw01_ChkParts.j1] at h⟩
  | k + 1 => by
    obtain ⟨ih0, ih1⟩ := tabardlaw01_ChkParts.mono_l k
    refine ⟨?_, ?_⟩
    · intro y0 y1 y2 y3 y4 y5 y6 y7 y8 y9
      unfold tabardlaw01_ChkParts.l0
      repeat' first
      | (with_reducible exact ih0 _ _ _ _ _ _ _ _ _ _)
      | (with_reducible exact ih1 _ _ _ _ _ _ _)
      | (with_reducible exact chk_Total.mono _ _)
      | (with_reducible exact LeO.refl _)
      | (with_reducible exact LeO.none _)
      | (with_reducible refine LeO.ite ?_ ?_)
      | (with_reducible refine LeO.bind ?_ (fun _ => ?_))
      | exact ih0 _ _ _ _ _ _ _ _ _ _
      | exact ih1 _ _ _ _ _ _ _
      | exact chk_Total.mono _ _
      | exact LeO.none _
      | refine LeO.ite ?_ ?_
      | refine LeO.bind ?_ (fun _ => ?_)
    · intro y0 y1 y2 y3 y4 y5 y6
      unfold tabardlaw01_ChkParts.j1
      repeat' first
      | (with_reducible exact ih0 _ _ _ _ _ _ _ _ _ _)
      | (with_reducible exact ih1 _ _ _ _ _ _ _)
      | (with_reducible exact chk_Total.mono _ _)
      | (with_reducible exact LeO.refl _)
      | (with_reducible exact LeO.none _)
      | (with_reducible refine LeO.ite ?_ ?_)
      | (with_reducible refine LeO.bind ?_ (fun _ => ?_))
      | exact ih0 _ _ _ _ _ _ _ _ _ _
      | exact ih1 _ _ _ _ _ _ _
      | exact chk_Total.mono _ _
      | exact LeO.none _
      | refine LeO.ite ?_ ?_
      | refine LeO.bind ?_ (fun _ => ?_)
theorem tabardlaw01_ChkParts.mono : ∀ a0 a1 k, LeO (tabardlaw01_ChkParts.f k a0 a1) (tabardlaw01_ChkParts.f (k + 1) a0 a1) := by
  intro a0 a1 k
  obtain ⟨ih0, ih1⟩ := tabardlaw01_ChkParts.mono_l k
  unfold tabardlaw01_ChkParts.f
  repeat' first
      | (with_reducible exact ih0 _ _ _ _ _ _ _ _ _ _)
      | (with_reducible exact ih1 _ _ _ _ _ _ _)
      | (with_reducible exact chk_Total.mono _ _)
      | (with_reducible exact LeO.refl _)
      | (with_reducible exact LeO.none _)
      | (with_reducible refine LeO.ite ?_ ?_)
      | (with_reducible refine LeO.bind ?_ (fun _ => ?_))
      | exact ih0 _ _ _ _ _ _ _ _ _ _
      | exact ih1 _ _ _ _ _ _ _
      | exact chk_Total.mono _ _
      | exact LeO.none _
      | refine LeO.ite ?_ ?_
      | refine LeO.bind ?_ (fun _ => ?_)
set_option maxHeartbeats 8000000 in
set_option maxRecDepth 100000 in
theorem tabardlaw01_ChkParts.calls (k : Nat) (A0 : Option Addr) (c0 : Nat) (l0 : List Int) (a1 : Int) (r : Bool) (w : World) (hr0 : Kd.C (Kd.int .i64) w A0 l0.length l0) (hc0 : l0.length ≤ c0) (h : tabardlaw01_ChkParts.f k l0 a1 = some r) :
    Calls Try.prog 6 #[.slice A0 l0.length c0, .int .i64 a1] w fun e w' => e = .returned (.bool r) ∧ Below w.heap.size w w' := by
  have HR0 := Aside0.mk hr0
  have HC0 := Aside0.mk hc0
  clear hr0 hc0
  have HB := Aside0.mk (Below.refl w.heap.size w)
  have H : ((tabardlaw01_fixed.f).bind fun t134 => (if t134 = true then (if (IntKind.u64.wrap (wrap64 ((l0.length : Int) + 1))) = 0 then (none) else ((some (([] : List Int) : List Int)).bind fun y135 => (if 0 ≤ (wrap64 (Int.tmod (IntKind.u64.wrap (a1)) (IntKind.u64.wrap (wrap64 ((l0.length : Int) + 1))))) then (if (wrap64 (Int.tmod (IntKind.u64.wrap (a1)) (IntKind.u64.wrap (wrap64 ((l0.length : Int) + 1))))) ≤ (l0.length : Int) then (if y135.length + (l0.take ((wrap64 (Int.tmod (IntKind.u64.wrap (a1)) (IntKind.u64.wrap (wrap64 ((l0.length : Int) + 1))))) : Int).toNat).length < 17592186044416 then ((chk_Total.f k (y135 ++ (l0.take ((wrap64 (Int.tmod (IntKind.u64.wrap (a1)) (IntKind.u64.wrap (wrap64 ((l0.length : Int) + 1))))) : Int).toNat))).bind fun bt142 => ((some (([] : List Int) : List Int)).bind fun y144 => (if y144.length + (l0.drop ((wrap64 (Int.tmod (IntKind.u64.wrap (a1)) (IntKind.u64.wrap (wrap64 ((l0.length : Int) + 1))))) : Int).toNat).length < 17592186044416 then ((chk_Total.f k (y144 ++ (l0.drop ((wrap64 (Int.tmod (IntKind.u64.wrap (a1)) (IntKind.u64.wrap (wrap64 ((l0.length : Int) + 1))))) : Int).toNat))).bind fun bt151 => ((some (([] : List Int) : List Int)).bind fun y153 => (if y153.length + l0.length < 17592186044416 then ((chk_Total.f k (y153 ++ l0)).bind fun bt159 => (tabardlaw01_ChkParts.l0 k l0 bt142.1 bt142.2 bt151.1 bt151.2 bt159.1 bt159.2 ([] : List Int) (l0.length : Int) 0)) else (none)))) else (none)))) else (none)) else (none)) else (none)))) else (some false))) = some r := h
  clear h
  replace H := Option.bind_eq_some_iff.mp H
  obtain ⟨t134, A30, H⟩ := H
  replace H : (if t134 = true then (if (IntKind.u64.wrap (wrap64 ((l0.length : Int) + 1))) = 0 then (none) else ((some (([] : List Int) : List Int)).bind fun y135 => (if 0 ≤ (wrap64 (Int.tmod (IntKind.u64.wrap (a1)) (IntKind.u64.wrap (wrap64 ((l0.length : Int) + 1))))) then (if (wrap64 (Int.tmod (IntKind.u64.wrap (a1)) (IntKind.u64.wrap (wrap64 ((l0.length : Int) + 1))))) ≤ (l0.length : Int) then (if y135.length + (l0.take ((wrap64 (Int.tmod (IntKind.u64.wrap (a1)) (IntKind.u64.wrap (wrap64 ((l0.length : Int) + 1))))) : Int).toNat).length < 17592186044416 then ((chk_Total.f k (y135 ++ (l0.take ((wrap64 (Int.tmod (IntKind.u64.wrap (a1)) (IntKind.u64.wrap (wrap64 ((l0.length : Int) + 1))))) : Int).toNat))).bind fun bt142 => ((some (([] : List Int) : List Int)).bind fun y144 => (if y144.length + (l0.drop ((wrap64 (Int.tmod (IntKind.u64.wrap (a1)) (IntKind.u64.wrap (wrap64 ((l0.length : Int) + 1))))) : Int).toNat).length < 17592186044416 then ((chk_Total.f k (y144 ++ (l0.drop ((wrap64 (Int.tmod (IntKind.u64.wrap (a1)) (IntKind.u64.wrap (wrap64 ((l0.length : Int) + 1))))) : Int).toNat))).bind fun bt151 => ((some (([] : List Int) : List Int)).bind fun y153 => (if y153.length + l0.length < 17592186044416 then ((chk_Total.f k (y153 ++ l0)).bind fun bt159 => (tabardlaw01_ChkParts.l0 k l0 bt142.1 bt142.2 bt151.1 bt151.2 bt159.1 bt159.2 ([] : List Int) (l0.length : Int) 0)) else (none)))) else (none)))) else (none)) else (none)) else (none)))) else (some false)) = some r := H
  have A3 := Aside0.mk A30
  clear A30
  by_cases c4 : t134 = true
  · subst c4
    have H1 : (if (IntKind.u64.wrap (wrap64 ((l0.length : Int) + 1))) = 0 then (none) else ((some (([] : List Int) : List Int)).bind fun y135 => (if 0 ≤ (wrap64 (Int.tmod (IntKind.u64.wrap (a1)) (IntKind.u64.wrap (wrap64 ((l0.length : Int) + 1))))) then (if (wrap64 (Int.tmod (IntKind.u64.wrap (a1)) (IntKind.u64.wrap (wrap64 ((l0.length : Int) + 1))))) ≤ (l0.length : Int) then (if y135.length + (l0.take ((wrap64 (Int.tmod (IntKind.u64.wrap (a1)) (IntKind.u64.wrap (wrap64 ((l0.length : Int) + 1))))) : Int).toNat).length < 17592186044416 then ((chk_Total.f k (y135 ++ (l0.take ((wrap64 (Int.tmod (IntKind.u64.wrap (a1)) (IntKind.u64.wrap (wrap64 ((l0.length : Int) + 1))))) : Int).toNat))).bind fun bt142 => ((some (([] : List Int) : List Int)).bind fun y144 => (if y144.length + (l0.drop ((wrap64 (Int.tmod (IntKind.u64.wrap (a1)) (IntKind.u64.wrap (wrap64 ((l0.length : Int) + 1))))) : Int).toNat).length < 17592186044416 then ((chk_Total.f k (y144 ++ (l0.drop ((wrap64 (Int.tmod (IntKind.u64.wrap (a1)) (IntKind.u64.wrap (wrap64 ((l0.length : Int) + 1))))) : Int).toNat))).bind fun bt151 => ((some (([] : List Int) : List Int)).bind fun y153 => (if y153.length + l0.length < 17592186044416 then ((chk_Total.f k (y153 ++ l0)).bind fun bt159 => (tabardlaw01_ChkParts.l0 k l0 bt142.1 bt142.2 bt151.1 bt151.2 bt159.1 bt159.2 ([] : List Int) (l0.length : Int) 0)) else (none)))) else (none)))) else (none)) else (none)) else (none)))) = some r := by rw [if_pos rfl] at H; exact H
    clear H
    have H := H1
    clear H1
    by_cases c5 : (IntKind.u64.wrap (wrap64 ((l0.length : Int) + 1))) = 0
    · rw [if_pos c5] at H
      exact absurd H (by simp)
    · rw [if_neg c5] at H
      have c5b0 : ((IntKind.u64.wrap (wrap64 ((l0.length : Int) + 1))) == 0) = false := beq_eq_false_iff_ne.mpr c5
      have c5b1 : ((IntKind.u64.wrap (wrap64 ((l0.length : Int) + 1))) != 0) = true := bne_iff_ne.mpr c5
      obtain ⟨y135, hy135⟩ : ∃ y_ : List Int, y_ = (([] : List Int)) := ⟨_, rfl⟩
      replace H : (if 0 ≤ (wrap64 (Int.tmod (IntKind.u64.wrap (a1)) (IntKind.u64.wrap (wrap64 ((l0.length : Int) + 1))))) then (if (wrap64 (Int.tmod (IntKind.u64.wrap (a1)) (IntKind.u64.wrap (wrap64 ((l0.length : Int) + 1))))) ≤ (l0.length : Int) then (if y135.length + (l0.take ((wrap64 (Int.tmod (IntKind.u64.wrap (a1)) (IntKind.u64.wrap (wrap64 ((l0.length : Int) + 1))))) : Int).toNat).length < 17592186044416 then ((chk_Total.f k (y135 ++ (l0.take ((wrap64 (Int.tmod (IntKind.u64.wrap (a1)) (IntKind.u64.wrap (wrap64 ((l0.length : Int) + 1))))) : Int).toNat))).bind fun bt142 => ((some (([] : List Int) : List Int)).bind fun y144 => (if y144.length + (l0.drop ((wrap64 (Int.tmod (IntKind.u64.wrap (a1)) (IntKind.u64.wrap (wrap64 ((l0.length : Int) + 1))))) : Int).toNat).length < 17592186044416 then ((chk_Total.f k (y144 ++ (l0.drop ((wrap64 (Int.tmod (IntKind.u64.wrap (a1)) (IntKind.u64.wrap (wrap64 ((l0.length : Int) + 1))))) : Int).toNat))).bind fun bt151 => ((some (([] : List Int) : List Int)).bind fun y153 => (if y153.length + l0.length < 17592186044416 then ((chk_Total.f k (y153 ++ l0)).bind fun bt159 => (tabardlaw01_ChkParts.l0 k l0 bt142.1 bt142.2 bt151.1 bt151.2 bt159.1 bt159.2 ([] : List Int) (l0.length : Int) 0)) else (none)))) else (none)))) else (none)) else (none)) else (none)) = some r := by first | (rw [hy135]; with_reducible exact H) | (have H2_ := (Option.bind_some _ _).symm.trans H; rw [hy135]; with_reducible exact H2_) | (have H2_ := (Option.bind_some _ _).symm.trans H; with_reducible exact H2_) | with_reducible exact H | (rw [hy135]; exact H) | exact H
      have Ny135 := Aside0.mk hy135
      clear hy135
      obtain ⟨ji6, hji6⟩ : ∃ j_ : Int, (wrap64 (Int.tmod (IntKind.u64.wrap (a1)) (IntKind.u64.wrap (wrap64 ((l0.length : Int) + 1))))) = j_ := ⟨_, rfl⟩
      replace H : (if 0 ≤ (ji6) then (if (ji6) ≤ (l0.length : Int) then (if y135.length + (l0.take ((ji6) : Int).toNat).length < 17592186044416 then ((chk_Total.f k (y135 ++ (l0.take ((ji6) : Int).toNat))).bind fun bt142 => ((some (([] : List Int) : List Int)).bind fun y144 => (if y144.length + (l0.drop ((ji6) : Int).toNat).length < 17592186044416 then ((chk_Total.f k (y144 ++ (l0.drop ((ji6) : Int).toNat))).bind fun bt151 => ((some (([] : List Int) : List Int)).bind fun y153 => (if y153.length + l0.length < 17592186044416 then ((chk_Total.f k (y153 ++ l0)).bind fun bt159 => (tabardlaw01_ChkParts.l0 k l0 bt142.1 bt142.2 bt151.1 bt151.2 bt159.1 bt159.2 ([] : List Int) (l0.length : Int) 0)) else (none)))) else (none)))) else (none)) else (none)) else (none)) = some r := by first | (rw [hji6] at H; exact H) | (simp only [hji6] at H ⊢; exact H)
      (try rw [hji6] at A3)
      have hji6w : (IntKind.i64.wrap (Int.tmod (IntKind.u64.wrap (a1)) (IntKind.u64.wrap (wrap64 ((l0.length : Int) + 1))))) = ji6 := (i64_w _).trans hji6
      by_cases c7 : 0 ≤ (ji6)
      · rw [if_pos c7] at H
        have c7b0 := eq_true c7
        have c7b1 : decide (0 ≤ (ji6)) = true := decide_eq_true c7
        clear c7
        by_cases c8 : (ji6) ≤ (l0.length : Int)
        · rw [if_pos c8] at H
          have c8b0 := eq_true c8
          have c8b1 : decide ((ji6) ≤ (l0.length : Int)) = true := decide_eq_true c8
          clear c8
          by_cases c9 : y135.length + (l0.take ((ji6) : Int).toNat).length < 17592186044416
          · rw [if_pos c9] at H
            have LMc9 := Aside0.mk c9
            clear c9
            obtain ⟨y139, hy139⟩ : ∃ y_ : List Int, y_ = (y135 ++ (l0.take ((ji6) : Int).toNat)) := ⟨_, rfl⟩
            replace H : ((chk_Total.f k y139).bind fun bt142 => ((some (([] : List Int) : List Int)).bind fun y144 => (if y144.length + (l0.drop ((ji6) : Int).toNat).length < 17592186044416 then ((chk_Total.f k (y144 ++ (l0.drop ((ji6) : Int).toNat))).bind fun bt151 => ((some (([] : List Int) : List Int)).bind fun y153 => (if y153.length + l0.length < 17592186044416 then ((chk_Total.f k (y153 ++ l0)).bind fun bt159 => (tabardlaw01_ChkParts.l0 k l0 bt142.1 bt142.2 bt151.1 bt151.2 bt159.1 bt159.2 ([] : List Int) (l0.length : Int) 0)) else (none)))) else (none)))) = some r := by first | (rw [hy139]; with_reducible exact H) | (have H2_ := (Option.bind_some _ _).symm.trans H; rw [hy139]; with_reducible exact H2_) | (have H2_ := (Option.bind_some _ _).symm.trans H; with_reducible exact H2_) | with_reducible exact H | (rw [hy139]; exact H) | exact H
            have Ny139 := Aside0.mk hy139
            clear hy139
            replace H := Option.bind_eq_some_iff.mp H
            obtain ⟨⟨t142, t143⟩, A100, H⟩ := H
            replace H : ((some (([] : List Int) : List Int)).bind fun y144 => (if y144.length + (l0.drop ((ji6) : Int).toNat).length < 17592186044416 then ((chk_Total.f k (y144 ++ (l0.drop ((ji6) : Int).toNat))).bind fun bt151 => ((some (([] : List Int) : List Int)).bind fun y153 => (if y153.length + l0.length < 17592186044416 then ((chk_Total.f k (y153 ++ l0)).bind fun bt159 => (tabardlaw01_ChkParts.l0 k l0 t142 t143 bt151.1 bt151.2 bt159.1 bt159.2 ([] : List Int) (l0.length : Int) 0)) else (none)))) else (none))) = some r := H
            have A10 := Aside0.mk A100
            clear A100
            obtain ⟨y144, hy144⟩ : ∃ y_ : List Int, y_ = (([] : List Int)) := ⟨_, rfl⟩
            replace H : (if y144.length + (l0.drop ((ji6) : Int).toNat).length < 17592186044416 then ((chk_Total.f k (y144 ++ (l0.drop ((ji6) : Int).toNat))).bind fun bt151 => ((some (([] : List Int) : List Int)).bind fun y153 => (if y153.length + l0.length < 17592186044416 then ((chk_Total.f k (y153 ++ l0)).bind fun bt159 => (tabardlaw01_ChkParts.l0 k l0 t142 t143 bt151.1 bt151.2 bt159.1 bt159.2 ([] : List Int) (l0.length : Int) 0)) else (none)))) else (none)) = some r := by first | (rw [hy144]; with_reducible exact H) | (have H2_ := (Option.bind_some _ _).symm.trans H; rw [hy144]; with_reducible exact H2_) | (have H2_ := (Option.bind_some _ _).symm.trans H; with_reducible exact H2_) | with_reducible exact H | (rw [hy144]; exact H) | exact H
            have Ny144 := Aside0.mk hy144
            clear hy144
            have c11b0 := eq_true (of_decide_eq_true (by first | (with_reducible assumption) | assumption) : 0 ≤ (ji6))
            have c12b0 := eq_true (of_decide_eq_true (by first | (with_reducible assumption) | assumption) : (ji6) ≤ (l0.length : Int))
            by_cases c13 : y144.length + (l0.drop ((ji6) : Int).toNat).length < 17592186044416
            · rw [if_pos c13] at H
              have LMc13 := Aside0.mk c13
              clear c13
              obtain ⟨y148, hy148⟩ : ∃ y_ : List Int, y_ = (y144 ++ (l0.drop ((ji6) : Int).toNat)) := ⟨_, rfl⟩
              replace H : ((chk_Total.f k y148).bind fun bt151 => ((some (([] : List Int) : List Int)).bind fun y153 => (if y153.length + l0.length < 17592186044416 then ((chk_Total.f k (y153 ++ l0)).bind fun bt159 => (tabardlaw01_ChkParts.l0 k l0 t142 t143 bt151.1 bt151.2 bt159.1 bt159.2 ([] : List Int) (l0.length : Int) 0)) else (none)))) = some r := by first | (rw [hy148]; with_reducible exact H) | (have H2_ := (Option.bind_some _ _).symm.trans H; rw [hy148]; with_reducible exact H2_) | (have H2_ := (Option.bind_some _ _).symm.trans H; with_reducible exact H2_) | with_reducible exact H | (rw [hy148]; exact H) | exact H
              have Ny148 := Aside0.mk hy148
              clear hy148
              replace H := Option.bind_eq_some_iff.mp H
              obtain ⟨⟨t151, t152⟩, A140, H⟩ := H
              replace H : ((some (([] : List Int) : List Int)).bind fun y153 => (if y153.length + l0.length < 17592186044416 then ((chk_Total.f k (y153 ++ l0)).bind fun bt159 => (tabardlaw01_ChkParts.l0 k l0 t142 t143 t151 t152 bt159.1 bt159.2 ([] : List Int) (l0.length : Int) 0)) else (none))) = some r := H
              have A14 := Aside0.mk A140
              clear A140
              obtain ⟨y153, hy153⟩ : ∃ y_ : List Int, y_ = (([] : List Int)) := ⟨_, rfl⟩
              replace H : (if y153.length + l0.length < 17592186044416 then ((chk_Total.f k (y153 ++ l0)).bind fun bt159 => (tabardlaw01_ChkParts.l0 k l0 t142 t143 t151 t152 bt159.1 bt159.2 ([] : List Int) (l0.length : Int) 0)) else (none)) = some r := by first | (rw [hy153]; with_reducible exact H) | (have H2_ := (Option.bind_some _ _).symm.trans H; rw [hy153]; with_reducible exact H2_) | (have H2_ := (Option.bind_some _ _).symm.trans H; with_reducible exact H2_) | with_reducible exact H | (rw [hy153]; exact H) | exact H
              have Ny153 := Aside0.mk hy153
              clear hy153
              by_cases c15 : y153.length + l0.length < 17592186044416
              · rw [if_pos c15] at H
                have LMc15 := Aside0.mk c15
                clear c15
                obtain ⟨y156, hy156⟩ : ∃ y_ : List Int, y_ = (y153 ++ l0) := ⟨_, rfl⟩
                replace H : ((chk_Total.f k y156).bind fun bt159 => (tabardlaw01_ChkParts.l0 k l0 t142 t143 t151 t152 bt159.1 bt159.2 ([] : List Int) (l0.length : Int) 0)) = some r := by first | (rw [hy156]; with_reducible exact H) | (have H2_ := (Option.bind_some _ _).symm.trans H; rw [hy156]; with_reducible exact H2_) | (have H2_ := (Option.bind_some _ _).symm.trans H; with_reducible exact H2_) | with_reducible exact H | (rw [hy156]; exact H) | exact H
                have Ny156 := Aside0.mk hy156
                clear hy156
                replace H := Option.bind_eq_some_iff.mp H
                obtain ⟨⟨t159, t160⟩, A160, H⟩ := H
                replace H : (tabardlaw01_ChkParts.l0 k l0 t142 t143 t151 t152 t159 t160 ([] : List Int) (l0.length : Int) 0) = some r := H
                have A16 := Aside0.mk A160
                clear A160
                have H' := Aside0.mk H
                clear H
                go_enter Try.func6, Try.ntmps6
                go_wp2_with (first | ((with_reducible refine gate_callee (f := 15) rfl ?_); refine goesL_ (some 19) rfl rfl Try.func15 (by kernel_rfl) rfl #[] rfl (by (try simp only [List.map_toArray, List.map_cons, List.map_nil]); first | done | rfl | (simp only [List.length_drop, List.length_take]; rfl)) ?_; (with_reducible refine (tabardlaw01_fixed.calls  true _ A3.out).mono ?_); rintro e w' ⟨rfl, ⟨nd, rfl⟩⟩; refine ⟨_, rfl, ?_⟩) | ((with_reducible refine gate_dst (N := 30) rfl ?_); refine Kd.R_lit (Kd.int .i64) _ 2 ?hg (N := 30) ?hd (xs := ([] : List Int)) (inner := []) (ok := fun _ => True) (okp := fun _ => True) ?hr ?hp (fun _ hk => hk) trivial (Below.refl _ _) (Nat.le_refl _) (by simp) ?_; (case hd => rfl); (case hg => rfl); (case hr => first | (go_simp; done) | (go_simp; rfl)); (case hp => exact (Reps.none _ _)); intro v136 w17 ho18 hb hg_ hnew_; clear hg_ hnew_; (first | rw [← Ny135.out] at ho18 | (simp only [Int.reduceToNat] at ho18; rw [← Ny135.out] at ho18)); have n0_ := Aside0.mk (Kd.R_lower ho18 (below_size (by repeat (first | (with_reducible first | exact HB.out | apply below_alloc | apply pw_below_drewN | apply below_drew1) | exact HB.out)))); have n1_ := Aside0.mk (below_step (by repeat (first | (with_reducible first | exact HB.out | apply below_alloc | apply pw_below_drewN | apply below_drew1) | exact HB.out)) hb); clear HB; have HO137 := n0_; have HB := n1_; clear n0_ n1_; clear hb ho18; obtain ⟨i019, hi019, _, hsz19, _⟩ := info_parts info2; obtain ⟨hcut19, hA19, hC19⟩ := print_take_of (P := Try.prog) (Value.int .i64) 0 32 2 .i64 Try.underlying32 hi019 hsz19 A0 c0 l0 (ji6) (of_decide_eq_true (by first | (with_reducible assumption) | assumption)) (of_decide_eq_true (by first | (with_reducible assumption) | assumption)) HC0.out; have HR138 := Aside0.mk (Kd.C_of_reads (h1 := fun _ => rfl) (hA19 _ (Kd.reads_of_C HR0.out))); have HC138 := Aside0.mk hC19; clear hA19 hC19 hi019 hsz19) | ((with_reducible refine gate_builtin (b := .append) (xs := #[.tmp 30, .tmp 33]) rfl ?_); at_builtin; refine Kd.R_append_rows (Kd.int .i64) (w0 := w) w.heap.size rfl (.tmp 30) (.tmp 33) 32 2 (.int .i64 0) 8 rfl Try.underlying32 info2 rfl (by decide) (by omega) v136 y135 (l0.take ((ji6) : Int).toNat) _ _ _ (fun _ => True) (fun _ => False) rfl rfl ?aO ?aR (fun _ _ h => h) (fun _ h => h.elim) ?aF ?aB ?aS ?aL ?_; (case aR => first | (refine C_len_ (show (l0.take ((ji6) : Int).toNat).length = (ji6).toNat from (by rw [List.length_take]; have h_ : ((ji6) : Int) ≤ (l0.length : Int) := of_decide_eq_true (by first | (with_reducible assumption) | assumption); omega)) ?_; repeat (first | exact (Kd.C_below HR138.out HB.out) | (with_reducible refine Kd.C_alloc ?_ _) | (with_reducible refine Kd.C_drewN ?_ _) | (with_reducible refine Kd.C_drew ?_)); done) | (rw [← show (l0.take ((ji6) : Int).toNat).length = (ji6).toNat from (by rw [List.length_take]; have h_ : ((ji6) : Int) ≤ (l0.length : Int) := of_decide_eq_true (by first | (with_reducible assumption) | assumption); omega)]; repeat (first | exact (Kd.C_below HR138.out HB.out) | (with_reducible refine Kd.C_alloc ?_ _) | (with_reducible refine Kd.C_drewN ?_ _) | (with_reducible refine Kd.C_drew ?_)); done) | (repeat (first | exact (Kd.C_below HR138.out HB.out) | (with_reducible refine Kd.C_alloc ?_ _) | (with_reducible refine Kd.C_drewN ?_ _) | (with_reducible refine Kd.C_drew ?_)))); (case aB => exact (by repeat (first | (with_reducible first | exact HB.out | apply below_alloc | apply pw_below_drewN | apply below_drew1) | exact HB.out))); (case aF => exact (fun _ _ => trivial)); (case aO => exact (by (with_reducible repeat (first | apply Kd.R_alloc | apply Kd.R_drewN | apply Kd.R_drew)); exact HO137.out)); (case aS => exact (below_size (by repeat (first | (with_reducible first | exact HB.out | apply below_alloc | apply pw_below_drewN | apply below_drew1) | exact HB.out)))); (case aL => have := LMc9.out; have hlx_ := (show (l0.take ((ji6) : Int).toNat).length = (ji6).toNat from (by rw [List.length_take]; have h_ : ((ji6) : Int) ≤ (l0.length : Int) := of_decide_eq_true (by first | (with_reducible assumption) | assumption); omega)); omega); intro v140 w20 ho hb hg hat; rw [← Ny139.out] at ho; have n0_ := Aside0.mk (hb); have n1_ := Aside0.mk (ho); clear HB; clear HO137; have HB := n0_; have HO141 := n1_; clear n0_ n1_; clear ho hb hg hat; obtain ⟨Ao21, co21, eo21⟩ := Kd.R_slice HO141.out; subst eo21) | ((with_reducible refine gate_callee (f := 24) rfl ?_); refine goesL_ (some 35) rfl rfl Try.func24 (by kernel_rfl) rfl #[.slice Ao21 y139.length co21] rfl (by (try simp only [List.map_toArray, List.map_cons, List.map_nil]); first | done | rfl | (simp only [List.length_drop, List.length_take]; rfl)) ?_; (with_reducible refine (chk_Total.calls k _ _ y139 t142 t143 _ ?side1 ?side2 A10.out).mono ?_); (case side1 => repeat (first | exact (Kd.R_reads' HO141.out).2.2 | (with_reducible refine Kd.C_alloc ?_ _) | (with_reducible refine Kd.C_drewN ?_ _) | (with_reducible refine Kd.C_drew ?_))); (case side2 => exact (Kd.R_reads' HO141.out).2.1); rintro e w' ⟨rfl, ⟨nd, rfl⟩⟩; refine ⟨_, rfl, ?_⟩) | ((with_reducible refine gate_dst (N := 39) rfl ?_); refine Kd.R_lit (Kd.int .i64) _ 2 ?hg (N := 39) ?hd (xs := ([] : List Int)) (inner := []) (ok := fun _ => True) (okp := fun _ => True) ?hr ?hp (fun _ hk => hk) trivial (Below.refl _ _) (Nat.le_refl _) (by simp) ?_; (case hd => rfl); (case hg => rfl); (case hr => first | (go_simp; done) | (go_simp; rfl)); (case hp => exact (Reps.none _ _)); intro v145 w22 ho23 hb hg_ hnew_; clear hg_ hnew_; (first | rw [← Ny144.out] at ho23 | (simp only [Int.reduceToNat] at ho23; rw [← Ny144.out] at ho23)); have n0_ := Aside0.mk (Kd.R_elder' (by (with_reducible repeat (first | apply Kd.R_alloc | apply Kd.R_drewN | apply Kd.R_drew)); exact HO141.out) (Kd.R_base ho23) hb); have n1_ := Aside0.mk (Kd.R_lower (Kd.R_new' ho23 (Kd.R_lt (by (with_reducible repeat (first | apply Kd.R_alloc | apply Kd.R_drewN | apply Kd.R_drew)); exact HO141.out))) (below_size (by repeat (first | (with_reducible first | exact HB.out | apply below_alloc | apply pw_below_drewN | apply below_drew1) | exact HB.out)))); have n2_ := Aside0.mk (below_step (by repeat (first | (with_reducible first | exact HB.out | apply below_alloc | apply pw_below_drewN | apply below_drew1) | exact HB.out)) hb); clear HO141; clear HB; have HO141 := n0_; have HO146 := n1_; have HB := n2_; clear n0_ n1_ n2_; clear hb ho23; obtain ⟨i024, hi024, _, hsz24, _⟩ := info_parts info2; obtain ⟨A24, hcut24, hA24, hC24⟩ := print_drop_of (P := Try.prog) (Value.int .i64) 0 32 2 .i64 Try.underlying32 hi024 hsz24 A0 c0 l0 (ji6) (of_decide_eq_true (by first | (with_reducible assumption) | assumption)) (of_decide_eq_true (by first | (with_reducible assumption) | assumption)) HC0.out; have HR147 := Aside0.mk (Kd.C_of_reads (h1 := fun _ => rfl) (hA24 _ (Kd.reads_of_C HR0.out))); have HC147 := Aside0.mk hC24; clear hA24 hC24 hi024 hsz24) | ((with_reducible refine gate_builtin (b := .append) (xs := #[.tmp 39, .tmp 42]) rfl ?_); at_builtin; refine Kd.R_append_rows (Kd.int .i64) (w0 := w) w.heap.size rfl (.tmp 39) (.tmp 42) 32 2 (.int .i64 0) 8 rfl Try.underlying32 info2 rfl (by decide) (by omega) v145 y144 (l0.drop ((ji6) : Int).toNat) _ _ _ (fun k_ => some k_ ≠ (.slice Ao21 y139.length co21 : Value).ownBlock) (fun _ => False) rfl rfl ?aO ?aR (fun _ _ h => h) (fun _ h => h.elim) ?aF ?aB ?aS ?aL ?_; (case aR => first | (refine C_len_ (show (l0.drop ((ji6) : Int).toNat).length = (l0.length - (ji6).toNat) from List.length_drop) ?_; repeat (first | exact (Kd.C_below HR147.out HB.out) | (with_reducible refine Kd.C_alloc ?_ _) | (with_reducible refine Kd.C_drewN ?_ _) | (with_reducible refine Kd.C_drew ?_)); done) | (rw [← show (l0.drop ((ji6) : Int).toNat).length = (l0.length - (ji6).toNat) from List.length_drop]; repeat (first | exact (Kd.C_below HR147.out HB.out) | (with_reducible refine Kd.C_alloc ?_ _) | (with_reducible refine Kd.C_drewN ?_ _) | (with_reducible refine Kd.C_drew ?_)); done) | (repeat (first | exact (Kd.C_below HR147.out HB.out) | (with_reducible refine Kd.C_alloc ?_ _) | (with_reducible refine Kd.C_drewN ?_ _) | (with_reducible refine Kd.C_drew ?_)))); (case aB => exact (by repeat (first | (with_reducible first | exact HB.out | apply below_alloc | apply pw_below_drewN | apply below_drew1) | exact HB.out))); (case aF => exact (fun k_ hk => Kd.fresh' (Kd.R_lt (by (with_reducible repeat (first | apply Kd.R_alloc | apply Kd.R_drewN | apply Kd.R_drew)); exact HO141.out)) k_ hk)); (case aO => exact (by (with_reducible repeat (first | apply Kd.R_alloc | apply Kd.R_drewN | apply Kd.R_drew)); exact Kd.R_mono HO146.out (fun _ hk => hk.2))); (case aS => exact (below_size (by repeat (first | (with_reducible first | exact HB.out | apply below_alloc | apply pw_below_drewN | apply below_drew1) | exact HB.out)))); (case aL => have := LMc13.out; have hlx_ := (show (l0.drop ((ji6) : Int).toNat).length = (l0.length - (ji6).toNat) from List.length_drop); omega); intro v149 w25 ho hb hg hat; rw [← Ny148.out] at ho; have n0_ := Aside0.mk (Kd.R_after (ok := (fun _ => True)) (by (with_reducible repeat (first | apply Kd.R_alloc | apply Kd.R_drewN | apply Kd.R_drew)); exact HO141.out) hg hat); have n1_ := Aside0.mk (hb); have n2_ := Aside0.mk (ho); clear HO141; clear HB; clear HO146; have HO141 := n0_; have HB := n1_; have HO150 := n2_; clear n0_ n1_ n2_; clear ho hb hg hat; obtain ⟨Ao26, co26, eo26⟩ := Kd.R_slice HO150.out; subst eo26) | ((with_reducible refine gate_callee (f := 24) rfl ?_); refine goesL_ (some 44) rfl rfl Try.func24 (by kernel_rfl) rfl #[.slice Ao26 y148.length co26] rfl (by (try simp only [List.map_toArray, List.map_cons, List.map_nil]); first | done | rfl | (simp only [List.length_drop, List.length_take]; rfl)) ?_; (with_reducible refine (chk_Total.calls k _ _ y148 t151 t152 _ ?side1 ?side2 A14.out).mono ?_); (case side1 => repeat (first | exact (Kd.R_reads' HO150.out).2.2 | (with_reducible refine Kd.C_alloc ?_ _) | (with_reducible refine Kd.C_drewN ?_ _) | (with_reducible refine Kd.C_drew ?_))); (case side2 => exact (Kd.R_reads' HO150.out).2.1); rintro e w' ⟨rfl, ⟨nd, rfl⟩⟩; refine ⟨_, rfl, ?_⟩) | ((with_reducible refine gate_dst (N := 48) rfl ?_); refine Kd.R_lit (Kd.int .i64) _ 2 ?hg (N := 48) ?hd (xs := ([] : List Int)) (inner := []) (ok := fun _ => True) (okp := fun _ => True) ?hr ?hp (fun _ hk => hk) trivial (Below.refl _ _) (Nat.le_refl _) (by simp) ?_; (case hd => rfl); (case hg => rfl); (case hr => first | (go_simp; done) | (go_simp; rfl)); (case hp => exact (Reps.none _ _)); intro v154 w27 ho28 hb hg_ hnew_; clear hg_ hnew_; (first | rw [← Ny153.out] at ho28 | (simp only [Int.reduceToNat] at ho28; rw [← Ny153.out] at ho28)); have n0_ := Aside0.mk (Kd.R_elder' (by (with_reducible repeat (first | apply Kd.R_alloc | apply Kd.R_drewN | apply Kd.R_drew)); exact HO141.out) (Kd.R_base ho28) hb); have n1_ := Aside0.mk (Kd.R_elder' (by (with_reducible repeat (first | apply Kd.R_alloc | apply Kd.R_drewN | apply Kd.R_drew)); exact HO150.out) (Kd.R_base ho28) hb); have n2_ := Aside0.mk (Kd.R_lower (Kd.R_new' (Kd.R_new' ho28 (Kd.R_lt (by (with_reducible repeat (first | apply Kd.R_alloc | apply Kd.R_drewN | apply Kd.R_drew)); exact HO141.out))) (Kd.R_lt (by (with_reducible repeat (first | apply Kd.R_alloc | apply Kd.R_drewN | apply Kd.R_drew)); exact HO150.out))) (below_size (by repeat (first | (with_reducible first | exact HB.out | apply below_alloc | apply pw_below_drewN | apply below_drew1) | exact HB.out)))); have n3_ := Aside0.mk (below_step (by repeat (first | (with_reducible first | exact HB.out | apply below_alloc | apply pw_below_drewN | apply below_drew1) | exact HB.out)) hb); clear HO141; clear HO150; clear HB; have HO141 := n0_; have HO150 := n1_; have HO155 := n2_; have HB := n3_; clear n0_ n1_ n2_ n3_; clear hb ho28) | ((with_reducible refine gate_builtin (b := .append) (xs := #[.tmp 48, .tmp 49]) rfl ?_); at_builtin; refine Kd.R_append_rows (Kd.int .i64) (w0 := w) w.heap.size rfl (.tmp 48) (.tmp 49) 32 2 (.int .i64 0) 8 rfl Try.underlying32 info2 rfl (by decide) (by omega) v154 y153 l0 _ _ _ (fun k_ => some k_ ≠ (.slice Ao21 y139.length co21 : Value).ownBlock ∧ some k_ ≠ (.slice Ao26 y148.length co26 : Value).ownBlock) (fun _ => False) rfl rfl ?aO ?aR (fun _ _ h => h) (fun _ h => h.elim) ?aF ?aB ?aS ?aL ?_; (case aR => repeat (first | exact (Kd.C_below HR0.out HB.out) | (with_reducible refine Kd.C_alloc ?_ _) | (with_reducible refine Kd.C_drewN ?_ _) | (with_reducible refine Kd.C_drew ?_))); (case aB => exact (by repeat (first | (with_reducible first | exact HB.out | apply below_alloc | apply pw_below_drewN | apply below_drew1) | exact HB.out))); (case aF => exact (fun k_ hk => ⟨Kd.fresh' (Kd.R_lt (by (with_reducible repeat (first | apply Kd.R_alloc | apply Kd.R_drewN | apply Kd.R_drew)); exact HO141.out)) k_ hk, Kd.fresh' (Kd.R_lt (by (with_reducible repeat (first | apply Kd.R_alloc | apply Kd.R_drewN | apply Kd.R_drew)); exact HO150.out)) k_ hk⟩)); (case aO => exact (by (with_reducible repeat (first | apply Kd.R_alloc | apply Kd.R_drewN | apply Kd.R_drew)); exact Kd.R_mono HO155.out (fun _ hk => ⟨hk.1.2, hk.2⟩))); (case aS => exact (below_size (by repeat (first | (with_reducible first | exact HB.out | apply below_alloc | apply pw_below_drewN | apply below_drew1) | exact HB.out)))); (case aL => have := LMc15.out; omega); intro v157 w29 ho hb hg hat; rw [← Ny156.out] at ho; have n0_ := Aside0.mk (Kd.R_after (ok := (fun k_ => some k_ ≠ (.slice Ao26 y148.length co26 : Value).ownBlock)) (by (with_reducible repeat (first | apply Kd.R_alloc | apply Kd.R_drewN | apply Kd.R_drew)); exact Kd.R_mono HO141.out (fun _ hk => ⟨hk.1.2, hk.2⟩)) hg hat); have n1_ := Aside0.mk (Kd.R_after (ok := (fun k_ => some k_ ≠ (.slice Ao21 y139.length co21 : Value).ownBlock)) (by (with_reducible repeat (first | apply Kd.R_alloc | apply Kd.R_drewN | apply Kd.R_drew)); exact HO150.out) hg hat); have n2_ := Aside0.mk (hb); have n3_ := Aside0.mk (ho); clear HO141; clear HO150; clear HB; clear HO155; have HO141 := n0_; have HO150 := n1_; have HB := n2_; have HO158 := n3_; clear n0_ n1_ n2_ n3_; clear ho hb hg hat; obtain ⟨Ao30, co30, eo30⟩ := Kd.R_slice HO158.out; subst eo30) | ((with_reducible refine gate_callee (f := 24) rfl ?_); refine goesL_ (some 51) rfl rfl Try.func24 (by kernel_rfl) rfl #[.slice Ao30 y156.length co30] rfl (by (try simp only [List.map_toArray, List.map_cons, List.map_nil]); first | done | rfl | (simp only [List.length_drop, List.length_take]; rfl)) ?_; (with_reducible refine (chk_Total.calls k _ _ y156 t159 t160 _ ?side1 ?side2 A16.out).mono ?_); (case side1 => repeat (first | exact (Kd.R_reads' HO158.out).2.2 | (with_reducible refine Kd.C_alloc ?_ _) | (with_reducible refine Kd.C_drewN ?_ _) | (with_reducible refine Kd.C_drew ?_))); (case side2 => exact (Kd.R_reads' HO158.out).2.1); rintro e w' ⟨rfl, ⟨nd, rfl⟩⟩; refine ⟨_, rfl, ?_⟩))
                go_loopg [12, 56] k (fun kq v12 v56 w' => ∃ (x12_1 : List Int) (x56_1 : Int), v56 = .int .i64 x56_1 ∧ Aside0 (tabardlaw01_ChkParts.l0 kq l0 t142 t143 t151 t152 t159 t160 x12_1 (l0.length : Int) x56_1 = some r) ∧ Aside0 (kq ≤ k) ∧ Aside0 (Kd.R (Kd.int .i64) 2 w' w.heap.size (fun _ => True) v12 x12_1) ∧ Aside0 (Below w.heap.size w w'))
                case atStart => exact ⟨(([] : List Int)), (0), (by first | rfl | (simp; done) | (simp [*]; done)), H', ⟨Nat.le_refl _⟩, ⟨by first | exact Kd.R_nil _ _ _ _ _ | exact Kd.N_nil _ _ _ _ _ | exact Kd.V_nil _ _ _ _ _ | exact Kd.Q_nil _ _ _ _ _ | exact Kd.S_nil _ _ _ _ _⟩, ⟨by repeat (first | (with_reducible first | exact HB.out | apply below_alloc | apply pw_below_drewN | apply below_drew1) | exact HB.out)⟩⟩
                case round =>
                  clear H'
                  try clear c1
                  try clear c2
                  try clear p2
                  try clear c4
                  try clear c5
                  try clear c5b0
                  try clear c5b1
                  try clear c6
                  try clear p6
                  try clear c7
                  try clear c7b0
                  try clear c7b1
                  try clear c8
                  try clear c8b0
                  try clear c8b1
                  try clear c9
                  try clear c11
                  try clear c11b0
                  try clear c12
                  try clear c12b0
                  try clear c13
                  try clear c15
                  try clear c24
                  obtain ⟨x12_1, x56_1, rfl, HA, HK1, HO_12, HB⟩ := hrel
                  cases gk with
                  | zero => exact absurd HA.out (by simp [tabardlaw01_ChkParts.l0])
                  | succ k1 =>
                    have H := HA.out
                    clear HA
                    simp only [tabardlaw01_ChkParts.l0] at H
                    by_cases c31 : x56_1 < (l0.length : Int)
                    · rw [if_pos c31] at H
                      have c31b0 : decide (x56_1 < (l0.length : Int)) = true := decide_eq_true c31
                      clear c31
                      obtain ⟨ji32, hji32⟩ : ∃ j_ : Int, (wrap64 ((wrap64 ((l0.length : Int) - 1)) - x56_1)) = j_ := ⟨_, rfl⟩
                      replace H : (if 0 ≤ (ji32) then (if (ji32) < (l0.length : Int) then ((chk_Neg.f (rd l0 (ji32))).bind fun bt162 => (if bt162.2 = 0 then (if x12_1.length < 17592186044416 then (tabardlaw01_ChkParts.l0 k1 l0 t142 t143 t151 t152 t159 t160 (x12_1 ++ [bt162.1]) (l0.length : Int) (wrap64 (x56_1 + 1))) else (none)) else (if t160 = 10 then (some (t159 == 0)) else (some false)))) else (none)) else (none)) = some r := by first | (rw [hji32] at H; exact H) | (simp only [hji32] at H ⊢; exact H)
                      have hji32w : (IntKind.i64.wrap ((wrap64 ((l0.length : Int) - 1)) - x56_1)) = ji32 := (i64_w _).trans hji32
                      by_cases c33 : 0 ≤ (ji32)
                      · rw [if_pos c33] at H
                        have c33b0 : decide (0 ≤ (ji32)) = true := decide_eq_true c33
                        clear c33
                        by_cases c34 : (ji32) < (l0.length : Int)
                        · rw [if_pos c34] at H
                          have c34b0 : decide ((ji32) < (l0.length : Int)) = true := decide_eq_true c34
                          clear c34
                          replace H := Option.bind_eq_some_iff.mp H
                          obtain ⟨⟨t162, t163⟩, A350, H⟩ := H
                          replace H : (if t163 = 0 then (if x12_1.length < 17592186044416 then (tabardlaw01_ChkParts.l0 k1 l0 t142 t143 t151 t152 t159 t160 (x12_1 ++ [t162]) (l0.length : Int) (wrap64 (x56_1 + 1))) else (none)) else (if t160 = 10 then (some (t159 == 0)) else (some false))) = some r := H
                          have A35 := Aside0.mk A350
                          clear A350
                          by_cases c36 : t163 = 0
                          · rw [if_pos c36] at H
                            have c36b0 : (t163 == 0) = true := beq_iff_eq.mpr c36
                            have c36b1 : (t163 != 0) = false := bne_eq_false_iff_eq.mpr c36
                            clear c36
                            by_cases c37 : x12_1.length < 17592186044416
                            · rw [if_pos c37] at H
                              have LMc37 := Aside0.mk c37
                              clear c37
                              obtain ⟨y164, hy164⟩ : ∃ y_ : List Int, y_ = (x12_1 ++ [t162]) := ⟨_, rfl⟩
                              replace H : (tabardlaw01_ChkParts.l0 k1 l0 t142 t143 t151 t152 t159 t160 y164 (l0.length : Int) (wrap64 (x56_1 + 1))) = some r := by first | (rw [hy164]; with_reducible exact H) | (have H2_ := (Option.bind_some _ _).symm.trans H; rw [hy164]; with_reducible exact H2_) | (have H2_ := (Option.bind_some _ _).symm.trans H; with_reducible exact H2_) | with_reducible exact H | (rw [hy164]; exact H) | exact H
                              have Ny164 := Aside0.mk hy164
                              clear hy164
                              have H' := Aside0.mk H
                              clear H
                              have p161 : 0 ≤ ((ji32) : Int) := of_decide_eq_true (by first | (with_reducible assumption) | assumption)
                              have q161 : (ji32) < (l0.length : Int) := of_decide_eq_true (by first | (with_reducible assumption) | assumption)
                              obtain ⟨ad161, e161, hx161_0⟩ := Kd.at_int HR0.out (ji32) p161 q161
                              cases e161
                              replace hx161_0 := (HB.out.cell (World.block_lt_of_cell? w _ hx161_0)).trans hx161_0
                              replace p161 := eq_true p161
                              replace q161 := eq_true q161
                              go_wp2_with (first | ((with_reducible refine gate_callee (f := 21) rfl ?_); refine goesL_ (some 68) rfl rfl Try.func21 (by kernel_rfl) rfl #[.int .i64 (rd l0 (ji32))] rfl (by (try simp only [List.map_toArray, List.map_cons, List.map_nil]); first | done | (simp only [hji32]; rfl) | rfl | (simp only [List.length_drop, List.length_take]; rfl)) ?_; (with_reducible refine (chk_Neg.calls (rd l0 (ji32)) t162 t163 _ A35.out).mono ?_); rintro e w' ⟨rfl, ⟨nd, rfl⟩⟩; refine ⟨_, rfl, ?_⟩) | ((with_reducible refine gate_builtin (b := .append) (xs := #[.tmp 79, .tmp 81]) rfl ?_); at_builtin; refine Kd.R_append (Kd.int .i64) (w0 := w) w.heap.size rfl (.tmp 79) (.tmp 81) 32 2 (.int .i64 0) 8 rfl Try.underlying32 info2 rfl (by decide) (by omega) u12 x12_1 t162 [.int .i64 t162] (fun _ => True) (fun _ => False) rfl rfl ?aP (fun _ hk => hk.elim) ?aF ?aO ?aB ?aS ?aL ?_; (case aP => exact rfl); (case aB => exact (by repeat (first | (with_reducible first | exact HB.out | apply below_alloc | apply pw_below_drewN | apply below_drew1) | exact HB.out))); (case aF => exact (fun _ _ => trivial)); (case aO => exact (by (with_reducible repeat (first | apply Kd.R_alloc | apply Kd.R_drewN | apply Kd.R_drew)); exact HO_12.out)); (case aS => exact (below_size (by repeat (first | (with_reducible first | exact HB.out | apply below_alloc | apply pw_below_drewN | apply below_drew1) | exact HB.out)))); (case aL => have := LMc37.out; omega); intro v165 w38 ho hb hg hat; rw [← Ny164.out] at ho; have n0_ := Aside0.mk (hb); have n1_ := Aside0.mk (ho); clear HB; clear HO_12; have HB := n0_; have HO166 := n1_; clear n0_ n1_; clear ho hb hg hat))
                              go_roundg k1
                              case measure => have := HK1.out; omega
                              case rel => exact ⟨(y164), (wrap64 (x56_1 + 1)), (by first | rfl | (simp; done) | (simp [*]; done)), H', ⟨by have := HK1.out; omega⟩, ⟨by (with_reducible repeat (first | apply Kd.R_alloc | apply Kd.R_drewN | apply Kd.R_drew)); exact HO166.out⟩, ⟨by repeat (first | (with_reducible first | exact HB.out | apply below_alloc | apply pw_below_drewN | apply below_drew1) | exact HB.out)⟩⟩
                            · rw [if_neg c37] at H
                              exact absurd H (by simp)
                          · rw [if_neg c36] at H
                            have c36b0 : (t163 == 0) = false := beq_eq_false_iff_ne.mpr c36
                            have c36b1 : (t163 != 0) = true := bne_iff_ne.mpr c36
                            by_cases c39 : t160 = 10
                            · rw [if_pos c39] at H
                              have c39b0 : (t160 == 10) = true := beq_iff_eq.mpr c39
                              have c39b1 : (t160 != 10) = false := bne_eq_false_iff_eq.mpr c39
                              clear c39
                              obtain rfl := Option.some.inj H
                              have p161 : 0 ≤ ((ji32) : Int) := of_decide_eq_true (by first | (with_reducible assumption) | assumption)
                              have q161 : (ji32) < (l0.length : Int) := of_decide_eq_true (by first | (with_reducible assumption) | assumption)
                              obtain ⟨ad161, e161, hx161_0⟩ := Kd.at_int HR0.out (ji32) p161 q161
                              cases e161
                              replace hx161_0 := (HB.out.cell (World.block_lt_of_cell? w _ hx161_0)).trans hx161_0
                              replace p161 := eq_true p161
                              replace q161 := eq_true q161
                              go_wp2_with (first | ((with_reducible refine gate_callee (f := 21) rfl ?_); refine goesL_ (some 68) rfl rfl Try.func21 (by kernel_rfl) rfl #[.int .i64 (rd l0 (ji32))] rfl (by (try simp only [List.map_toArray, List.map_cons, List.map_nil]); first | done | (simp only [hji32]; rfl) | rfl | (simp only [List.length_drop, List.length_take]; rfl)) ?_; (with_reducible refine (chk_Neg.calls (rd l0 (ji32)) t162 t163 _ A35.out).mono ?_); rintro e w' ⟨rfl, ⟨nd, rfl⟩⟩; refine ⟨_, rfl, ?_⟩))
                              go_ret
                              exact ⟨by first | rfl | (simp [errW_none, errW_some] <;> rfl) | (simp only [← hji6, ← hji32]; first | rfl | (simp [errW_none, errW_some] <;> rfl)) | (simp [*, errW_none, errW_some] <;> rfl), by repeat (first | (with_reducible first | exact HB.out | apply below_alloc | apply pw_below_drewN | apply below_drew1) | exact HB.out)⟩
                            · rw [if_neg c39] at H
                              have c39b0 : (t160 == 10) = false := beq_eq_false_iff_ne.mpr c39
                              have c39b1 : (t160 != 10) = true := bne_iff_ne.mpr c39
                              obtain rfl := Option.some.inj H
                              have p161 : 0 ≤ ((ji32) : Int) := of_decide_eq_true (by first | (with_reducible assumption) | assumption)
                              have q161 : (ji32) < (l0.length : Int) := of_decide_eq_true (by first | (with_reducible assumption) | assumption)
                              obtain ⟨ad161, e161, hx161_0⟩ := Kd.at_int HR0.out (ji32) p161 q161
                              cases e161
                              replace hx161_0 := (HB.out.cell (World.block_lt_of_cell? w _ hx161_0)).trans hx161_0
                              replace p161 := eq_true p161
                              replace q161 := eq_true q161
                              go_wp2_with (first | ((with_reducible refine gate_callee (f := 21) rfl ?_); refine goesL_ (some 68) rfl rfl Try.func21 (by kernel_rfl) rfl #[.int .i64 (rd l0 (ji32))] rfl (by (try simp only [List.map_toArray, List.map_cons, List.map_nil]); first | done | (simp only [hji32]; rfl) | rfl | (simp only [List.length_drop, List.length_take]; rfl)) ?_; (with_reducible refine (chk_Neg.calls (rd l0 (ji32)) t162 t163 _ A35.out).mono ?_); rintro e w' ⟨rfl, ⟨nd, rfl⟩⟩; refine ⟨_, rfl, ?_⟩))
                              go_ret
                              exact ⟨by first | rfl | (simp [errW_none, errW_some] <;> rfl) | (simp only [← hji6, ← hji32]; first | rfl | (simp [errW_none, errW_some] <;> rfl)) | (simp [*, errW_none, errW_some] <;> rfl), by repeat (first | (with_reducible first | exact HB.out | apply below_alloc | apply pw_below_drewN | apply below_drew1) | exact HB.out)⟩
                        · rw [if_neg c34] at H
                          exact absurd H (by simp)
                      · rw [if_neg c33] at H
                        exact absurd H (by simp)
                    · rw [if_neg c31] at H
                      have c31b0 : decide (x56_1 < (l0.length : Int)) = false := decide_eq_false c31
                      clear c31
                      replace H := Option.bind_eq_some_iff.mp H
                      obtain ⟨⟨t167, t168⟩, A400, H⟩ := H
                      replace H : (if t167 = t159 then (tabardlaw01_ChkParts.j1 k1 t142 t143 t151 t152 t159 t160 (t168 != t160)) else (tabardlaw01_ChkParts.j1 k1 t142 t143 t151 t152 t159 t160 true)) = some r := H
                      have A40 := Aside0.mk A400
                      clear A400
                      have HC41 := Aside0.mk H
                      clear H
                      obtain ⟨Ao42, co42, eo42⟩ := Kd.R_slice HO_12.out
                      subst eo42
                      go_upto_region 17 with (first | ((with_reducible refine gate_callee (f := 24) rfl ?_); refine goesL_ (some 86) rfl rfl Try.func24 (by kernel_rfl) rfl #[.slice Ao42 x12_1.length co42] rfl (by (try simp only [List.map_toArray, List.map_cons, List.map_nil]); first | done | rfl | (simp only [List.length_drop, List.length_take]; rfl)) ?_; (with_reducible refine (chk_Total.calls k1 _ _ x12_1 t167 t168 _ ?side1 ?side2 A40.out).mono ?_); (case side1 => repeat (first | exact (Kd.R_reads' HO_12.out).2.2 | (with_reducible refine Kd.C_alloc ?_ _) | (with_reducible refine Kd.C_drewN ?_ _) | (with_reducible refine Kd.C_drew ?_))); (case side2 => exact (Kd.R_reads' HO_12.out).2.1); rintro e w' ⟨rfl, ⟨nd, rfl⟩⟩; refine ⟨_, rfl, ?_⟩))
                      (try simp only [Act.put, List.setIfInBounds_toArray, List.set_cons_zero, List.set_cons_succ])
                      go_cut [96] (fun v96 wc => ∃ (kq : Nat) (x96_40 : Bool), v96 = .bool x96_40 ∧ Aside0 (tabardlaw01_ChkParts.j1 kq t142 t143 t151 t152 t159 t160 x96_40 = some r) ∧ Aside0 (kq ≤ k1) ∧ Aside0 (Below w.heap.size w wc))
                      case first =>
                        have H := HC41.out
                        clear HC41
                        by_cases c43 : t167 = t159
                        · rw [if_pos c43] at H
                          have c43b0 : (t167 == t159) = true := beq_iff_eq.mpr c43
                          have c43b1 : (t167 != t159) = false := bne_eq_false_iff_eq.mpr c43
                          clear c43
                          (first | rw [c43b0] | (simp only [i64_w, i32_w]; rw [c43b0]) | skip)
                          have H' := Aside0.mk H
                          clear H
                          go_wp2
                          go_meet
                          case rel => exact ⟨_, ((t168 != t160)), (by first | rfl | (simp; done) | (simp [*]; done)), H', ⟨by have := HK1.out; first | omega | exact Nat.le_refl _⟩, ⟨by repeat (first | (with_reducible first | exact HB.out | apply below_alloc | apply pw_below_drewN | apply below_drew1) | exact HB.out)⟩⟩
                        · rw [if_neg c43] at H
                          have c43b0 : (t167 == t159) = false := beq_eq_false_iff_ne.mpr c43
                          have c43b1 : (t167 != t159) = true := bne_iff_ne.mpr c43
                          (first | rw [c43b0] | (simp only [i64_w, i32_w]; rw [c43b0]) | skip)
                          have H' := Aside0.mk H
                          clear H
                          go_wp2
                          go_meet
                          case rel => exact ⟨_, (true), (by first | rfl | (simp; done) | (simp [*]; done)), H', ⟨by have := HK1.out; first | omega | exact Nat.le_refl _⟩, ⟨by repeat (first | (with_reducible first | exact HB.out | apply below_alloc | apply pw_below_drewN | apply below_drew1) | exact HB.out)⟩⟩
                      case rest =>
                        clear HC41
                        try clear c1
                        try clear p1
                        try clear q1
                        try clear hx1
                        try clear c2
                        try clear p2
                        try clear c3
                        try clear c4
                        try clear c5
                        try clear c5b0
                        try clear c5b1
                        try clear c6
                        try clear p6
                        try clear c7
                        try clear c7b0
                        try clear c7b1
                        try clear c8
                        try clear c8b0
                        try clear c8b1
                        try clear c9
                        try clear c11
                        try clear c11b0
                        try clear c12
                        try clear c12b0
                        try clear c13
                        try clear c15
                        try clear p16
                        try clear q16
                        try clear hx16
                        try clear c21
                        try clear c24
                        try clear c31
                        try clear c31b0
                        try clear c33
                        try clear c33b0
                        try clear c34
                        try clear c34b0
                        try clear c36
                        try clear c36b0
                        try clear c36b1
                        try clear c37
                        try clear c39
                        try clear c39b0
                        try clear c39b1
                        try clear c43
                        try clear c43b0
                        try clear c43b1
                        try clear hx161_0
                        try clear p161
                        try clear p2
                        try clear p6
                        try clear q161
                        obtain ⟨kq, x96_40, rfl, HA, HJ40, HB⟩ := hcut
                        cases kq with
                        | zero => exact absurd HA.out (by simp [tabardlaw01_ChkParts.j1])
                        | succ kj40 =>
                          have H := HA.out
                          clear HA
                          simp only [tabardlaw01_ChkParts.j1] at H
                          by_cases c44 : x96_40 = true
                          · subst c44
                            have H1 : (some false) = some r := by rw [if_pos rfl] at H; exact H
                            clear H
                            have H := H1
                            clear H1
                            obtain rfl := Option.some.inj H
                            go_wp2
                            go_ret
                            exact ⟨by first | rfl | (simp [errW_none, errW_some] <;> rfl) | (simp only [← hji6]; first | rfl | (simp [errW_none, errW_some] <;> rfl)) | (simp [*, errW_none, errW_some] <;> rfl), by repeat (first | (with_reducible first | exact HB.out | apply below_alloc | apply pw_below_drewN | apply below_drew1) | exact HB.out)⟩
                          · replace c44 := Bool.eq_false_iff.mpr c44
                            subst c44
                            have H1 : (if t143 = 0 then (if t152 = 0 then ((chk_Add.f t142 t151).bind fun bt169 => (if bt169.1 = t159 then (some (bt169.2 == t160)) else (some false))) else (some (t160 == 10))) else (some (t160 == 10))) = some r := by rw [if_neg (show ¬ (false = true) by decide)] at H; exact H
                            clear H
                            have H := H1
                            clear H1
                            by_cases c45 : t143 = 0
                            · rw [if_pos c45] at H
                              have c45b0 : (t143 == 0) = true := beq_iff_eq.mpr c45
                              have c45b1 : (t143 != 0) = false := bne_eq_false_iff_eq.mpr c45
                              clear c45
                              by_cases c46 : t152 = 0
                              · rw [if_pos c46] at H
                                have c46b0 : (t152 == 0) = true := beq_iff_eq.mpr c46
                                have c46b1 : (t152 != 0) = false := bne_eq_false_iff_eq.mpr c46
                                clear c46
                                replace H := Option.bind_eq_some_iff.mp H
                                obtain ⟨⟨t169, t170⟩, A470, H⟩ := H
                                replace H : (if t169 = t159 then (some (t170 == t160)) else (some false)) = some r := H
                                have A47 := Aside0.mk A470
                                clear A470
                                by_cases c48 : t169 = t159
                                · rw [if_pos c48] at H
                                  have c48b0 : (t169 == t159) = true := beq_iff_eq.mpr c48
                                  have c48b1 : (t169 != t159) = false := bne_eq_false_iff_eq.mpr c48
                                  clear c48
                                  obtain rfl := Option.some.inj H
                                  go_wp2_with (first | ((with_reducible refine gate_callee (f := 17) rfl ?_); refine goesL_ (some 108) rfl rfl Try.func17 (by kernel_rfl) rfl #[.int .i64 t142, .int .i64 t151] rfl (by (try simp only [List.map_toArray, List.map_cons, List.map_nil]); first | done | rfl | (simp only [List.length_drop, List.length_take]; rfl)) ?_; (with_reducible refine (chk_Add.calls t142 t151 t169 t170 _ A47.out).mono ?_); rintro e w' ⟨rfl, ⟨nd, rfl⟩⟩; refine ⟨_, rfl, ?_⟩))
                                  go_ret
                                  exact ⟨by first | rfl | (simp [errW_none, errW_some] <;> rfl) | (simp only [← hji6]; first | rfl | (simp [errW_none, errW_some] <;> rfl)) | (simp [*, errW_none, errW_some] <;> rfl), by repeat (first | (with_reducible first | exact HB.out | apply below_alloc | apply pw_below_drewN | apply below_drew1) | exact HB.out)⟩
                                · rw [if_neg c48] at H
                                  have c48b0 : (t169 == t159) = false := beq_eq_false_iff_ne.mpr c48
                                  have c48b1 : (t169 != t159) = true := bne_iff_ne.mpr c48
                                  obtain rfl := Option.some.inj H
                                  go_wp2_with (first | ((with_reducible refine gate_callee (f := 17) rfl ?_); refine goesL_ (some 108) rfl rfl Try.func17 (by kernel_rfl) rfl #[.int .i64 t142, .int .i64 t151] rfl (by (try simp only [List.map_toArray, List.map_cons, List.map_nil]); first | done | rfl | (simp only [List.length_drop, List.length_take]; rfl)) ?_; (with_reducible refine (chk_Add.calls t142 t151 t169 t170 _ A47.out).mono ?_); rintro e w' ⟨rfl, ⟨nd, rfl⟩⟩; refine ⟨_, rfl, ?_⟩))
                                  go_ret
                                  exact ⟨by first | rfl | (simp [errW_none, errW_some] <;> rfl) | (simp only [← hji6]; first | rfl | (simp [errW_none, errW_some] <;> rfl)) | (simp [*, errW_none, errW_some] <;> rfl), by repeat (first | (with_reducible first | exact HB.out | apply below_alloc | apply pw_below_drewN | apply below_drew1) | exact HB.out)⟩
                              · rw [if_neg c46] at H
                                have c46b0 : (t152 == 0) = false := beq_eq_false_iff_ne.mpr c46
                                have c46b1 : (t152 != 0) = true := bne_iff_ne.mpr c46
                                obtain rfl := Option.some.inj H
                                go_wp2
                                go_ret
                                exact ⟨by first | rfl | (simp [errW_none, errW_some] <;> rfl) | (simp only [← hji6]; first | rfl | (simp [errW_none, errW_some] <;> rfl)) | (simp [*, errW_none, errW_some] <;> rfl), by repeat (first | (with_reducible first | exact HB.out | apply below_alloc | apply pw_below_drewN | apply below_drew1) | exact HB.out)⟩
                            · rw [if_neg c45] at H
                              have c45b0 : (t143 == 0) = false := beq_eq_false_iff_ne.mpr c45
                              have c45b1 : (t143 != 0) = true := bne_iff_ne.mpr c45
                              obtain rfl := Option.some.inj H
                              go_wp2
                              go_ret
                              exact ⟨by first | rfl | (simp [errW_none, errW_some] <;> rfl) | (simp only [← hji6]; first | rfl | (simp [errW_none, errW_some] <;> rfl)) | (simp [*, errW_none, errW_some] <;> rfl), by repeat (first | (with_reducible first | exact HB.out | apply below_alloc | apply pw_below_drewN | apply below_drew1) | exact HB.out)⟩
              · rw [if_neg c15] at H
                exact absurd H (by simp)
            · rw [if_neg c13] at H
              exact absurd H (by simp)
          · rw [if_neg c9] at H
            exact absurd H (by simp)
        · rw [if_neg c8] at H
          exact absurd H (by simp)
      · rw [if_neg c7] at H
        exact absurd H (by simp)
  · replace c4 := Bool.eq_false_iff.mpr c4
    subst c4
    have H1 : (some false) = some r := by rw [if_neg (show ¬ (false = true) by decide)] at H; exact H
    clear H
    have H := H1
    clear H1
    obtain rfl := Option.some.inj H
    go_enter Try.func6, Try.ntmps6
    go_wp2_with (first | ((with_reducible refine gate_callee (f := 15) rfl ?_); refine goesL_ (some 19) rfl rfl Try.func15 (by kernel_rfl) rfl #[] rfl (by (try simp only [List.map_toArray, List.map_cons, List.map_nil]); first | done | rfl | (simp only [List.length_drop, List.length_take]; rfl)) ?_; (with_reducible refine (tabardlaw01_fixed.calls  false _ A3.out).mono ?_); rintro e w' ⟨rfl, ⟨nd, rfl⟩⟩; refine ⟨_, rfl, ?_⟩))
    go_ret
    exact ⟨by first | rfl | (simp [errW_none, errW_some] <;> rfl) | (simp [*, errW_none, errW_some] <;> rfl), by repeat (first | (with_reducible first | exact HB.out | apply below_alloc | apply pw_below_drewN | apply below_drew1) | exact HB.out)⟩

/-- THE ONE PURE STATEMENT of tabardlaw01_ChkParts: yours. -/
def tabardlaw01_ChkParts.Pure : Prop := ∀ (l0 : List Int) (a1 : Int), l0.length ≤ maxLen → l0.length * 8 ≤ 140737488351232 → (∀ x ∈ l0, (Lit.int .i64 x).wf = true) → (Lit.int .i64 a1).wf = true → ∃ k, tabardlaw01_ChkParts.f k l0 a1 = some true
theorem tabardlaw01_ChkParts.walk (P : tabardlaw01_ChkParts.Pure) (a0 : Option Addr) (len0 cap0 : Nat) (z0 : List Int) (a1 : Int) (w : World) (w0 : (a0 = none ∧ len0 = 0 ∧ cap0 = 0 ∧ z0 = []) ∨ ∃ x, a0 = some x ∧ len0 ≤ cap0 ∧ cap0 ≤ maxLen ∧ z0.length = cap0 ∧ (∀ i, i < z0.length → w.cell? (x.add i) = some (.int .i64 (z0.getD i 0))) ∧ ∀ n ∈ z0, (Lit.int .i64 n).wf = true) (y0 : len0 * 8 ≤ 140737488351232) (w1 : (Lit.int .i64 a1).wf = true) :
    Calls Try.prog 6 #[.slice a0 len0 cap0, .int .i64 a1] w fun e w' => e = .returned (.bool true) ∧ Below w.heap.size w w' := by
  obtain ⟨l0, rfl, hr0, hm0, hw0, hc0⟩ := ReadsInt.ofRowC w0
  obtain ⟨k, h⟩ := P l0 a1 hm0 y0 hw0 w1
  refine (tabardlaw01_ChkParts.calls k _ _ l0 a1 true w (Kd.C_of_reads (d := (0 : Int)) (h1 := fun _ => rfl) hr0) hc0 h).mono ?_
  rintro e w' ⟨rfl, hd⟩
  exact ⟨rfl, hd⟩

end Go.Proofs.Ytcphnnopjfogdaa.Q
