/- chk's functions and the reference's wide numbers, told by Lean's own whole numbers: nothing of Go in it. -/
import Derived.Test.YtcphnnopjfogdaaQ1
import Derived.Test.YtcphnnopjfogdaaQ2
import Derived.Test.YtcphnnopjfogdaaQ3
import Derived.Test.YtcphnnopjfogdaaQ5
namespace Go.Proofs.Ytcphnnopjfogdaa.Q
open Go.RowKit Go.Proofs.YtcphnnopjfogdaaW.PrintWords Go.Proofs.YtcphnnopjfogdaaW.PrintLast Go.Proofs.YtcphnnopjfogdaaW.PrintMore

def In64 (a : Int) : Prop := -9223372036854775808 ≤ a ∧ a ≤ 9223372036854775807
instance (a : Int) : Decidable (In64 a) := by unfold In64; infer_instance
def fit (z : Int) : Int × Int := if -9223372036854775808 ≤ z ∧ z ≤ 9223372036854775807 then (z, 0) else (0, 10)
theorem fit_in {z : Int} (h : In64 z) : fit z = (z, 0) := if_pos h
theorem fit_out {z : Int} (h : ¬ In64 z) : fit z = (0, 10) := if_neg h
theorem in_of_wf {a : Int} (h : (Lit.int .i64 a).wf = true) : In64 a := by
  simp [Lit.wf, IntKind.min, IntKind.max, IntKind.bits, IntKind.signed] at h
  exact h
theorem wrap_in {a : Int} (h : In64 a) : wrap64 a = a := by
  obtain ⟨h1, h2⟩ := h
  unfold wrap64; omega
theorem wrap64_in (a : Int) : In64 (wrap64 a) := by unfold In64 wrap64; omega
theorem uwrap (n : Int) : IntKind.u64.wrap n = n % 18446744073709551616 := by simp [IntKind.wrap, IntKind.bits, IntKind.signed]
theorem uwrap_in {n : Int} (h0 : 0 ≤ n) (h1 : n < 18446744073709551616) : IntKind.u64.wrap n = n := by rw [uwrap]; omega

/-! ### chk -/
theorem add_spec {a b : Int} (ha : In64 a) (hb : In64 b) : chk_Add.f a b = some (fit (a + b)) := by
  obtain ⟨ha1, ha2⟩ := ha
  obtain ⟨hb1, hb2⟩ := hb
  unfold chk_Add.f fit
  have hw : wrap64 (a + b) = (a + b + 9223372036854775808) % 18446744073709551616 - 9223372036854775808 := by unfold wrap64; rfl
  generalize wrap64 (a + b) = w at hw
  by_cases h1 : a ≥ 0 <;> by_cases h2 : b ≥ 0 <;> by_cases h3 : w ≥ 0 <;> simp [h1, h2, h3] <;>
    first | omega | (rw [if_pos (by omega)]; simp; omega) | (rw [if_neg (by omega)])
theorem sub_spec {a b : Int} (ha : In64 a) (hb : In64 b) : chk_Sub.f a b = some (fit (a - b)) := by
  obtain ⟨ha1, ha2⟩ := ha
  obtain ⟨hb1, hb2⟩ := hb
  unfold chk_Sub.f fit
  have hw : wrap64 (a - b) = (a - b + 9223372036854775808) % 18446744073709551616 - 9223372036854775808 := by unfold wrap64; rfl
  generalize wrap64 (a - b) = w at hw
  by_cases h1 : a ≥ 0 <;> by_cases h2 : b ≥ 0 <;> by_cases h3 : w ≥ 0 <;> simp [h1, h2, h3] <;>
    first | omega | (rw [if_pos (by omega)]; simp; omega) | (rw [if_neg (by omega)])
theorem in_zero : In64 0 := ⟨by decide, by decide⟩
theorem neg_spec {a : Int} (ha : In64 a) : chk_Neg.f a = some (fit (-a)) := by
  unfold chk_Neg.f
  rw [sub_spec in_zero ha]
  simp [Int.zero_sub]
theorem abs_spec {a : Int} (ha : In64 a) : chk_Abs.f a = some (fit (a.natAbs : Int)) := by
  unfold chk_Abs.f
  by_cases h : a < 0
  · rw [if_pos h, neg_spec ha, show ((a.natAbs : Int)) = -a by omega]
    simp
  · rw [if_neg h, show ((a.natAbs : Int)) = a by omega, fit_in ha]
theorem fixed_true : tabardlaw01_fixed.f = some true := by
  unfold tabardlaw01_fixed.f
  rw [add_spec (by decide) (by decide), add_spec (by decide) (by decide)]
  simp [fit, chk_Half.f]

theorem mul_core {a b p m : Int} (hp : p = a * b - m * 18446744073709551616) (hb : In64 b) (hb0 : b ≠ 0) (h : Int.tdiv p b = a) : m = 0 := by
  obtain ⟨hb1, hb2⟩ := hb
  have h1 := Int.tdiv_mul_add_tmod p b
  rw [h] at h1
  have h2 : (p.tmod b).natAbs < b.natAbs := by
    rw [Int.natAbs_tmod]
    exact Nat.mod_lt _ (by omega)
  omega
theorem mul_spec {a b : Int} (ha : In64 a) (hb : In64 b) : Ev (fun k => chk_Mul.f k a b) (fit (a * b)) := by
  have ha' := ha
  have hb' := hb
  obtain ⟨ha1, ha2⟩ := ha
  obtain ⟨hb1, hb2⟩ := hb
  refine ⟨2, fun k hk => ?_⟩
  obtain ⟨k, rfl⟩ : ∃ m, k = m + 2 := ⟨k - 2, by omega⟩
  show chk_Mul.f (k + 2) a b = _
  unfold chk_Mul.f
  by_cases h1 : a = 0
  · subst h1
    simp [chk_Mul.j0, fit]
  rw [if_neg h1]
  by_cases h2 : b = 0
  · subst h2
    simp [chk_Mul.j0, fit]
  have h3 : (b == 0) = false := by simpa using h2
  simp only [chk_Mul.j0, h3]
  rw [if_neg (by decide)]
  have key : ∀ x : Bool, (x = true → ¬ In64 (a * b)) → (x = false → ¬ (a = -1 ∧ b = -9223372036854775808) ∧ ¬ (b = -1 ∧ a = -9223372036854775808)) → chk_Mul.j1 (k + 1) a b x = some (fit (a * b)) := by
    intro x hx hy
    simp only [chk_Mul.j1]
    cases x with
    | true => rw [if_pos rfl, fit_out (hx rfl)]
    | false =>
      obtain ⟨hy1, hy2⟩ := hy rfl
      rw [if_neg (by decide), if_neg h2]
      by_cases hin : In64 (a * b)
      · rw [wrap_in hin, Int.mul_tdiv_cancel _ h2, wrap_in ha', if_pos rfl, fit_in hin]
      · rw [fit_out hin]
        obtain ⟨m, hm⟩ : ∃ m, wrap64 (a * b) = a * b - m * 18446744073709551616 := by
          refine ⟨(a * b + 9223372036854775808) / 18446744073709551616, ?_⟩
          unfold wrap64
          omega
        have hwi := wrap64_in (a * b)
        rw [if_neg]
        intro hc
        have hq : wrap64 (Int.tdiv (wrap64 (a * b)) b) = Int.tdiv (wrap64 (a * b)) b := by
          apply wrap_in
          have hb4 : b ≠ -1 := by
            intro hb4
            subst hb4
            apply hin
            constructor <;> omega
          have h5 : (Int.tdiv (wrap64 (a * b)) b).natAbs = (wrap64 (a * b)).natAbs / b.natAbs := Int.natAbs_tdiv (wrap64 (a * b)) b
          have h6 : (wrap64 (a * b)).natAbs / b.natAbs ≤ (wrap64 (a * b)).natAbs := Nat.div_le_self _ _
          obtain ⟨hw1, hw2⟩ := hwi
          by_cases hb5 : b = 1
          · subst hb5
            rw [Int.tdiv_one]
            exact ⟨hw1, hw2⟩
          · have h7 : (wrap64 (a * b)).natAbs / b.natAbs ≤ (wrap64 (a * b)).natAbs / 2 := Nat.div_le_div_left (by omega) (by omega)
            constructor <;> omega
        rw [hq] at hc
        have := mul_core hm hb' h2 hc
        subst this
        apply hin
        rw [show a * b = wrap64 (a * b) by omega]
        exact hwi
  by_cases h4 : a = -1
  · rw [if_pos h4]
    by_cases h5 : b = -9223372036854775808
    · rw [if_pos h5]
      refine key true (fun _ => ?_) (fun h => by cases h)
      subst h4 h5
      decide
    · rw [if_neg h5]
      by_cases h6 : b = -1
      · rw [if_pos h6]
        have h7 : (a == -9223372036854775808) = false := by subst h4; rfl
        rw [h7]
        exact key false (fun h => by cases h) (fun _ => ⟨fun h => h5 h.2, fun h => by omega⟩)
      · rw [if_neg h6]
        exact key false (fun h => by cases h) (fun _ => ⟨fun h => h5 h.2, fun h => h6 h.1⟩)
  · rw [if_neg h4]
    by_cases h6 : b = -1
    · rw [if_pos h6]
      by_cases h7 : a = -9223372036854775808
      · have h8 : (a == -9223372036854775808) = true := by simpa using h7
        rw [h8]
        refine key true (fun _ => ?_) (fun h => by cases h)
        subst h6 h7
        decide
      · have h8 : (a == -9223372036854775808) = false := by simpa using h7
        rw [h8]
        exact key false (fun h => by cases h) (fun _ => ⟨fun h => h4 h.1, fun h => h7 h.2⟩)
    · rw [if_neg h6]
      exact key false (fun h => by cases h) (fun _ => ⟨fun h => h4 h.1, fun h => h6 h.1⟩)

theorem rest_low {a m : Int} (h : m < 1) : chk_Rest.f a m = some (0, 2) := by unfold chk_Rest.f; rw [if_pos h]
theorem emod_of_tmod {a m : Int} (hm : 0 < m) : a % m = if Int.tmod a m < 0 then Int.tmod a m + m else Int.tmod a m := by
  have h1 := Int.tdiv_mul_add_tmod a m
  have h2 : (a.tmod m).natAbs < m.natAbs := by
    rw [Int.natAbs_tmod]
    exact Nat.mod_lt _ (by omega)
  have h3 : a % m = (a.tmod m) % m := by
    conv => lhs; rw [← h1]
    rw [Int.mul_comm, Int.mul_add_emod_self_left]
  rw [h3]
  split
  · rw [← Int.add_emod_right, Int.emod_eq_of_lt (by omega) (by omega)]
  · rw [Int.emod_eq_of_lt (by omega) (by omega)]
theorem rest_spec {a m : Int} (hm : In64 m) (h : 1 ≤ m) : chk_Rest.f a m = some (a % m, 0) := by
  unfold chk_Rest.f
  have h2 : (a.tmod m).natAbs < m.natAbs := by
    rw [Int.natAbs_tmod]
    exact Nat.mod_lt _ (by omega)
  obtain ⟨hm1, hm2⟩ := hm
  rw [if_neg (by omega), if_neg (by omega), emod_of_tmod (by omega)]
  split
  · rw [wrap_in ⟨by omega, by omega⟩]
  · rfl
theorem floor_zero {a : Int} : chk_Floor.f a 0 = some (0, 2) := by unfold chk_Floor.f; rw [if_pos rfl]
theorem fdiv_of_tdiv {a b : Int} (hb : b ≠ 0) : Int.fdiv a b = if Int.tmod a b = 0 then Int.tdiv a b else if (decide (a < 0) != decide (b < 0)) = true then Int.tdiv a b - 1 else Int.tdiv a b := by
  have h1 := Int.tdiv_mul_add_tmod a b
  have h2 : (a.tmod b).natAbs < b.natAbs := by
    rw [Int.natAbs_tmod]
    exact Nat.mod_lt _ (by omega)
  have h3 := Int.mul_fdiv_add_fmod a b
  have hs : (0 ≤ a → 0 ≤ a.tmod b) ∧ (a ≤ 0 → a.tmod b ≤ 0) := by
    refine ⟨fun h => Int.tmod_nonneg _ h, fun h => ?_⟩
    have := Int.tmod_nonneg b (show 0 ≤ -a by omega)
    rw [Int.neg_tmod] at this
    omega
  have h4 : (0 < b → 0 ≤ a.fmod b ∧ a.fmod b < b) ∧ (b < 0 → b < a.fmod b ∧ a.fmod b ≤ 0) := by
    refine ⟨fun h => ⟨Int.fmod_nonneg_of_pos _ h, Int.fmod_lt_of_pos _ h⟩, fun h => ?_⟩
    have e1 := Int.neg_fmod_neg a b
    have e2 := Int.fmod_nonneg_of_pos (-a) (show 0 < -b by omega)
    have e3 := Int.fmod_lt_of_pos (-a) (show 0 < -b by omega)
    omega
  have key : ∀ q r : Int, q * b + r = a → (0 < b → 0 ≤ r ∧ r < b) → (b < 0 → b < r ∧ r ≤ 0) → a.fdiv b = q := by
    intro q r e hp hn
    have e2 : (a.fdiv b - q) * b = r - a.fmod b := by
      rw [Int.sub_mul, Int.mul_comm (a.fdiv b) b]
      omega
    have e4 : (r - a.fmod b).natAbs < b.natAbs := by
      rcases Int.lt_or_gt_of_ne hb with h | h
      · have := hn h
        have := h4.2 h
        omega
      · have := hp h
        have := h4.1 h
        omega
    rw [← e2, Int.natAbs_mul] at e4
    have e5 : (a.fdiv b - q).natAbs = 0 := by
      rcases Nat.eq_zero_or_pos (a.fdiv b - q).natAbs with h | h
      · exact h
      · have := Nat.mul_le_mul_right b.natAbs h
        omega
    omega
  by_cases h0 : a.tmod b = 0
  · rw [if_pos h0]
    exact key _ 0 (by omega) (fun h => ⟨Int.le_refl _, h⟩) (fun h => ⟨h, Int.le_refl _⟩)
  · rw [if_neg h0]
    obtain ⟨hs1, hs2⟩ := hs
    by_cases ha : a < 0 <;> by_cases hb2 : b < 0 <;> simp [ha, hb2]
    · exact key _ (a.tmod b) h1 (by omega) (by omega)
    · exact key _ (a.tmod b + b) (by rw [Int.sub_mul]; omega) (by omega) (by omega)
    · exact key _ (a.tmod b + b) (by rw [Int.sub_mul]; omega) (by omega) (by omega)
    · exact key _ (a.tmod b) h1 (by omega) (by omega)
theorem floor_spec {a b : Int} (ha : In64 a) (hb : In64 b) (h0 : b ≠ 0) : chk_Floor.f a b = some (fit (Int.fdiv a b)) := by
  unfold chk_Floor.f
  rw [if_neg h0]
  by_cases h1 : b = -1
  · rw [if_pos h1, neg_spec ha, h1, fdiv_of_tdiv (by decide)]
    have : a.tmod (-1) = 0 := by rw [Int.tmod_neg, Int.tmod_one]
    rw [if_pos this, show a.tdiv (-1) = -a by rw [Int.tdiv_neg, Int.tdiv_one]]
    simp
  · rw [if_neg h1, fdiv_of_tdiv h0]
    have h5 := Int.natAbs_tdiv a b
    have h6 : a.natAbs / b.natAbs ≤ a.natAbs := Nat.div_le_self _ _
    have h5' : (a.tdiv b).natAbs = a.natAbs / b.natAbs := h5
    obtain ⟨ha1, ha2⟩ := ha
    have hin : In64 (a.tdiv b) := by
      by_cases hb5 : b = 1
      · subst hb5
        rw [Int.tdiv_one]
        exact ⟨ha1, ha2⟩
      · have h7 : a.natAbs / b.natAbs ≤ a.natAbs / 2 := Nat.div_le_div_left (by omega) (by omega)
        constructor <;> omega
    rw [wrap_in hin]
    by_cases h2 : a.tmod b = 0
    · rw [if_pos h2, if_pos h2, fit_in hin]
    · rw [if_neg h2, if_neg h2]
      split
      · have hin2 : In64 (a.tdiv b - 1) := by
          have hb6 : b ≠ 1 := by
            intro e
            subst e
            rw [Int.tmod_one] at h2
            exact h2 rfl
          have h7 : a.natAbs / b.natAbs ≤ a.natAbs / 2 := Nat.div_le_div_left (by omega) (by omega)
          constructor <;> omega
        rw [wrap_in hin2, fit_in hin2]
      · rw [fit_in hin]
theorem fdiv_unique {a b q r : Int} (hb : b ≠ 0) (e : q * b + r = a) (hp : 0 < b → 0 ≤ r ∧ r < b) (hn : b < 0 → b < r ∧ r ≤ 0) : a.fdiv b = q := by
  have h3 := Int.mul_fdiv_add_fmod a b
  have h4 : (0 < b → 0 ≤ a.fmod b ∧ a.fmod b < b) ∧ (b < 0 → b < a.fmod b ∧ a.fmod b ≤ 0) := by
    refine ⟨fun h => ⟨Int.fmod_nonneg_of_pos _ h, Int.fmod_lt_of_pos _ h⟩, fun h => ?_⟩
    have e1 := Int.neg_fmod_neg a b
    have e2 := Int.fmod_nonneg_of_pos (-a) (show 0 < -b by omega)
    have e3 := Int.fmod_lt_of_pos (-a) (show 0 < -b by omega)
    omega
  have e2 : (a.fdiv b - q) * b = r - a.fmod b := by
    rw [Int.sub_mul, Int.mul_comm (a.fdiv b) b]
    omega
  have e4 : (r - a.fmod b).natAbs < b.natAbs := by
    rcases Int.lt_or_gt_of_ne hb with h | h
    · have := hn h
      have := h4.2 h
      omega
    · have := hp h
      have := h4.1 h
      omega
  rw [← e2, Int.natAbs_mul] at e4
  have e5 : (a.fdiv b - q).natAbs = 0 := by
    rcases Nat.eq_zero_or_pos (a.fdiv b - q).natAbs with h | h
    · exact h
    · have := Nat.mul_le_mul_right b.natAbs h
      omega
  omega
theorem fdiv_abs {a b : Int} (hb : b ≠ 0) : a.fdiv b = if (decide (a < 0) != decide (b < 0)) = true then (if a.natAbs % b.natAbs = 0 then -((a.natAbs / b.natAbs : Nat) : Int) else -((a.natAbs / b.natAbs : Nat) : Int) + -1) else ((a.natAbs / b.natAbs : Nat) : Int) := by
  have h1 := Nat.div_add_mod a.natAbs b.natAbs
  have h2 : a.natAbs % b.natAbs < b.natAbs := Nat.mod_lt _ (by omega)
  generalize hq : a.natAbs / b.natAbs = q at h1
  generalize hr : a.natAbs % b.natAbs = r at h1 h2
  have h3 : (b.natAbs : Int) * (q : Int) + (r : Int) = (a.natAbs : Int) := by exact_mod_cast h1
  clear h1
  by_cases ha : a < 0 <;> by_cases hb2 : b < 0 <;> simp only [ha, hb2, decide_true, decide_false, bne_self_eq_false, Bool.false_eq_true, if_false, Bool.true_bne, Bool.false_bne, Bool.not_false, if_true]
  · -- both below
    have : (b.natAbs : Int) = -b := by omega
    rw [this, Int.neg_mul, Int.mul_comm] at h3
    exact fdiv_unique hb (r := -(r : Int)) (by omega) (by omega) (by omega)
  · have : (b.natAbs : Int) = b := by omega
    rw [this, Int.mul_comm] at h3
    split
    · exact fdiv_unique hb (r := 0) (by rw [Int.neg_mul]; omega) (by omega) (by omega)
    · exact fdiv_unique hb (r := b - r) (by rw [Int.add_mul, Int.neg_mul]; omega) (by omega) (by omega)
  · have : (b.natAbs : Int) = -b := by omega
    rw [this, Int.neg_mul, Int.mul_comm] at h3
    split
    · exact fdiv_unique hb (r := 0) (by rw [Int.neg_mul]; omega) (by omega) (by omega)
    · exact fdiv_unique hb (r := b + r) (by rw [Int.add_mul, Int.neg_mul]; omega) (by omega) (by omega)
  · have : (b.natAbs : Int) = b := by omega
    rw [this, Int.mul_comm] at h3
    exact fdiv_unique hb (r := r) (by omega) (by omega) (by omega)
theorem floor_in {a m : Int} (ha : In64 a) (hm : 1 ≤ m) : In64 (a.fdiv m) := by
  obtain ⟨h1, h2⟩ := ha
  rw [fdiv_abs (by omega)]
  have hq : a.natAbs / m.natAbs ≤ a.natAbs := Nat.div_le_self _ _
  have hdm := Nat.div_add_mod a.natAbs m.natAbs
  have hm2 : (decide (m < 0)) = false := by simp; omega
  have h5 : 1 * (a.natAbs / m.natAbs) ≤ m.natAbs * (a.natAbs / m.natAbs) := Nat.mul_le_mul_right _ (by omega)
  rw [hm2]
  generalize a.natAbs / m.natAbs = q at *
  generalize m.natAbs * q = p at *
  by_cases ha : a < 0
  · simp only [ha, decide_true, Bool.true_bne, Bool.not_false, if_true]
    split
    · constructor <;> omega
    · next hr => constructor <;> omega
  · simp only [ha, decide_false, bne_self_eq_false, Bool.false_eq_true, if_false]
    constructor <;> omega
theorem rd_of_lt {l : List Int} {i : Nat} (h : i < l.length) : rd l (i : Int) = l[i] := by
  unfold rd
  simp [List.getD_eq_getElem?_getD, h]
theorem Ev_at {α : Type} {g : Nat → Option α} {r : α} (K : Nat) (h : ∀ k, K < k → g k = some r) : Ev g r := ⟨K + 1, fun k hk => h k (by omega)⟩
theorem wrap_nat {i : Nat} (h : i < 9223372036854775808) : wrap64 (i : Int) = i := wrap_in ⟨by omega, by omega⟩
theorem wrap_succ {i : Nat} (h : i + 1 < 9223372036854775808) : wrap64 ((i : Int) + 1) = ((i + 1 : Nat) : Int) := by
  rw [show ((i : Int) + 1) = ((i + 1 : Nat) : Int) by omega]
  exact wrap_nat h
/-! ### Total -/
def total : List Int → Int
  | [] => 0
  | a :: l => (a.natAbs : Int) + total l
theorem total_nonneg (l : List Int) : 0 ≤ total l := by
  induction l with
  | nil => exact Int.le_refl _
  | cons a l ih => simp only [total]; omega
theorem total_append (l m : List Int) : total (l ++ m) = total l + total m := by
  induction l with
  | nil => simp [total]
  | cons a l ih => simp only [List.cons_append, total, ih]; omega
theorem total_le {l : List Int} (h : ∀ x ∈ l, In64 x) : total l ≤ l.length * 9223372036854775808 := by
  induction l with
  | nil => simp [total]
  | cons a l ih =>
    have h1 := ih (fun x hx => h x (List.mem_cons_of_mem _ hx))
    obtain ⟨h2, h3⟩ := h a List.mem_cons_self
    simp only [total, List.length_cons]
    omega
theorem total_drop {l : List Int} {i : Nat} (h : i < l.length) : total (l.drop i) = (l[i].natAbs : Int) + total (l.drop (i + 1)) := by
  rw [List.drop_eq_getElem_cons h]
  rfl
theorem total_loop {l : List Int} (h : ∀ x ∈ l, In64 x) (hl : l.length < 9223372036854775807) :
    ∀ (d i : Nat) (s : Int), i + d = l.length → 0 ≤ s → In64 s → Ev (fun k => chk_Total.l0 k s l (l.length : Int) (i : Int)) (fit (s + total (l.drop i))) := by
  intro d
  induction d with
  | zero =>
    intro i s hi h0 hs
    refine Ev_at 0 (fun k hk => ?_)
    obtain ⟨k, rfl⟩ : ∃ m, k = m + 1 := ⟨k - 1, by omega⟩
    simp only [chk_Total.l0]
    rw [if_neg (by omega), List.drop_eq_nil_of_le (by omega)]
    simp [total, fit_in hs]
  | succ d ih =>
    intro i s hi h0 hs
    have hil : i < l.length := by omega
    have hx := h _ (List.getElem_mem hil)
    have ht := total_nonneg (l.drop (i + 1))
    have hs' := hs
    obtain ⟨hs1, hs2⟩ := hs
    rw [total_drop hil]
    by_cases h1 : In64 (l[i].natAbs : Int)
    · by_cases h2 : In64 (s + (l[i].natAbs : Int))
      · have := ih (i + 1) (s + (l[i].natAbs : Int)) (by omega) (by omega) h2
        rw [← Int.add_assoc]
        refine Ev.step (fun k => ?_) this
        simp only [chk_Total.l0]
        rw [if_pos (by omega), if_pos (by omega), if_pos (by omega), rd_of_lt hil, abs_spec hx, fit_in h1]
        simp only [Option.bind_some, if_true]
        rw [add_spec hs' h1, fit_in h2]
        simp only [Option.bind_some, if_true]
        rw [wrap_succ (by omega)]
      · have hn : ¬ In64 (s + ((l[i].natAbs : Int) + total (l.drop (i + 1)))) := by
          intro h3
          apply h2
          obtain ⟨h4, h5⟩ := h3
          constructor <;> omega
        rw [fit_out hn]
        refine Ev_at 0 (fun k hk => ?_)
        obtain ⟨k, rfl⟩ : ∃ m, k = m + 1 := ⟨k - 1, by omega⟩
        simp only [chk_Total.l0]
        rw [if_pos (by omega), if_pos (by omega), if_pos (by omega), rd_of_lt hil, abs_spec hx, fit_in h1]
        simp only [Option.bind_some, if_true]
        rw [add_spec hs' h1, fit_out h2]
        simp
    · have hn : ¬ In64 (s + ((l[i].natAbs : Int) + total (l.drop (i + 1)))) := by
        intro h3
        apply h1
        obtain ⟨h4, h5⟩ := h3
        constructor <;> omega
      rw [fit_out hn]
      refine Ev_at 0 (fun k hk => ?_)
      obtain ⟨k, rfl⟩ : ∃ m, k = m + 1 := ⟨k - 1, by omega⟩
      simp only [chk_Total.l0]
      rw [if_pos (by omega), if_pos (by omega), if_pos (by omega), rd_of_lt hil, abs_spec hx, fit_out h1]
      simp
theorem total_spec {l : List Int} (h : ∀ x ∈ l, In64 x) (hl : l.length < 9223372036854775807) : Ev (fun k => chk_Total.f k l) (fit (total l)) := by
  have := total_loop h hl l.length 0 0 (by omega) (by omega) (by decide)
  simp only [List.drop_zero, Int.zero_add] at this
  exact this
end Go.Proofs.Ytcphnnopjfogdaa.Q
