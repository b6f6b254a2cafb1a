/- The reference's wide numbers (tabardref01), told by Lean's own whole numbers. -/
import Derived.Test.YtcphnnopjfogdaaPureWide
import Derived.Test.YtcphnnopjfogdaaQ13
import Derived.Test.YtcphnnopjfogdaaQ7
import Derived.Test.YtcphnnopjfogdaaQ8
namespace Go.Proofs.Ytcphnnopjfogdaa.Q
open Go.RowKit Go.Proofs.YtcphnnopjfogdaaW.PrintWords Go.Proofs.YtcphnnopjfogdaaW.PrintLast Go.Proofs.YtcphnnopjfogdaaW.PrintMore

/-! ### digits of 16 bits -/
def val : List Int → Int
  | [] => 0
  | d :: l => d + 65536 * val l
def dig (n : Nat) : List Int := if h : n = 0 then [] else ((n % 65536 : Nat) : Int) :: dig (n / 65536)
termination_by n
decreasing_by omega
def D16 (l : List Int) : Prop := ∀ d ∈ l, 0 ≤ d ∧ d < 65536
theorem dig_zero : dig 0 = [] := by rw [dig, dif_pos rfl]
theorem dig_pos {n : Nat} (h : n ≠ 0) : dig n = ((n % 65536 : Nat) : Int) :: dig (n / 65536) := by rw [dig, dif_neg h]
theorem D16_nil : D16 [] := fun d h => by cases h
theorem D16_cons {d : Int} {l : List Int} (h0 : 0 ≤ d) (h1 : d < 65536) (hl : D16 l) : D16 (d :: l) := fun x hx => by
  rcases List.mem_cons.1 hx with rfl | hx
  · exact ⟨h0, h1⟩
  · exact hl x hx
theorem D16_tail {d : Int} {l : List Int} (h : D16 (d :: l)) : D16 l := fun x hx => h x (List.mem_cons_of_mem _ hx)
theorem D16_append {l m : List Int} (h : D16 l) (h' : D16 m) : D16 (l ++ m) := fun x hx => by
  rcases List.mem_append.1 hx with hx | hx
  · exact h x hx
  · exact h' x hx
theorem D16_one {d : Int} (h0 : 0 ≤ d) (h1 : d < 65536) : D16 [d] := D16_cons h0 h1 D16_nil
theorem val_nonneg {l : List Int} (h : D16 l) : 0 ≤ val l := by
  induction l with
  | nil => exact Int.le_refl _
  | cons d l ih =>
    have := ih (D16_tail h)
    have := h d List.mem_cons_self
    simp only [val]
    omega
theorem val_lt {l : List Int} (h : D16 l) : val l < 65536 ^ l.length := by
  induction l with
  | nil => simp [val]
  | cons d l ih =>
    have h1 := ih (D16_tail h)
    have h2 := h d List.mem_cons_self
    simp only [val, List.length_cons, Int.pow_succ]
    omega
theorem val_append (l m : List Int) : val (l ++ m) = val l + 65536 ^ l.length * val m := by
  induction l with
  | nil => simp [val]
  | cons d l ih =>
    simp only [List.cons_append, val, ih, List.length_cons, Int.pow_succ, Int.mul_add, ← Int.mul_assoc]
    rw [Int.mul_comm 65536 (65536 ^ l.length)]
    omega
theorem val_zeros (n : Nat) : val (List.replicate n 0) = 0 := by
  induction n with
  | zero => rfl
  | succ n ih => simp [List.replicate_succ, val, ih]
theorem D16_zeros (n : Nat) : D16 (List.replicate n 0) := fun d hd => by
  have := List.eq_of_mem_replicate hd
  omega
theorem dig_D16 (n : Nat) : D16 (dig n) := by
  induction n using Nat.strongRecOn with
  | _ n ih =>
    by_cases h : n = 0
    · rw [h, dig_zero]; exact D16_nil
    · rw [dig_pos h]
      exact D16_cons (by omega) (by omega) (ih _ (by omega))
theorem dig_val (n : Nat) : val (dig n) = n := by
  induction n using Nat.strongRecOn with
  | _ n ih =>
    by_cases h : n = 0
    · rw [h, dig_zero]; rfl
    · rw [dig_pos h]
      simp only [val]
      rw [ih _ (by omega)]
      omega
theorem dig_of {l : List Int} (h : D16 l) (hl : l = [] ∨ ∃ m d, l = m ++ [d] ∧ d ≠ 0) : dig (val l).toNat = l := by
  induction l with
  | nil => simp [val, dig_zero]
  | cons d l ih =>
    have h1 := val_nonneg (D16_tail h)
    have h2 := h d List.mem_cons_self
    have hl' : l = [] ∨ ∃ m d, l = m ++ [d] ∧ d ≠ 0 := by
      rcases hl with hl | ⟨m, e, hl, he⟩
      · cases hl
      · cases m with
        | nil =>
          simp at hl
          exact .inl hl.2
        | cons x m =>
          simp at hl
          exact .inr ⟨m, e, hl.2, he⟩
    have h3 := ih (D16_tail h) hl'
    have hne : (val (d :: l)).toNat ≠ 0 := by
      simp only [val]
      rcases hl' with hn | hn
      · subst hn
        rcases hl with hl | ⟨m, e, hl, he⟩
        · cases hl
        · cases m with
          | nil =>
            simp at hl
            simp only [val]
            omega
          | cons x m => simp at hl
      · have : (val l).toNat ≠ 0 := by
          intro hz
          rw [hz, dig_zero] at h3
          obtain ⟨m, e, hm, _⟩ := hn
          rw [hm] at h3
          simp at h3
        omega
    rw [dig_pos hne]
    have e1 : ((val (d :: l)).toNat % 65536 : Nat) = d.toNat := by simp only [val]; omega
    have e2 : (val (d :: l)).toNat / 65536 = (val l).toNat := by simp only [val]; omega
    rw [e1, e2, h3]
    congr 1
    omega
theorem dig_len (n : Nat) (j : Nat) (h : n < 65536 ^ j) : (dig n).length ≤ j := by
  induction j generalizing n with
  | zero =>
    have : n = 0 := by simpa using h
    rw [this, dig_zero]
    simp
  | succ j ih =>
    by_cases h0 : n = 0
    · rw [h0, dig_zero]; simp
    · rw [dig_pos h0]
      have : n / 65536 < 65536 ^ j := by
        rw [Nat.pow_succ] at h
        exact Nat.div_lt_of_lt_mul (by rw [Nat.mul_comm]; exact h)
      have := ih _ this
      simp
      exact this
theorem dig_nil_iff (n : Nat) : dig n = [] ↔ n = 0 := by
  constructor
  · intro h
    by_cases h0 : n = 0
    · exact h0
    · rw [dig_pos h0] at h
      cases h
  · intro h
    rw [h, dig_zero]
/-- A number as a wide one. -/
def W (z : Int) : Bool × List Int := (decide (z < 0), dig z.natAbs)

/-! ### reading -/
theorem rd_ge {l : List Int} {i : Nat} (h : l.length ≤ i) : rd l (i : Int) = 0 := by
  unfold rd
  simp [List.getD_eq_getElem?_getD, h]
theorem rd_D16 {l : List Int} (h : D16 l) (i : Nat) : 0 ≤ rd l (i : Int) ∧ rd l (i : Int) < 65536 := by
  by_cases hi : i < l.length
  · rw [rd_of_lt hi]
    exact h _ (List.getElem_mem hi)
  · rw [rd_ge (by omega)]
    omega
theorem val_drop (l : List Int) (i : Nat) : val (l.drop i) = rd l (i : Int) + 65536 * val (l.drop (i + 1)) := by
  by_cases hi : i < l.length
  · rw [rd_of_lt hi, List.drop_eq_getElem_cons hi]
    rfl
  · rw [rd_ge (by omega), List.drop_eq_nil_of_le (by omega), List.drop_eq_nil_of_le (by omega)]
    rfl
theorem val_take (l : List Int) (i : Nat) (hi : i < l.length) : val (l.take (i + 1)) = val (l.take i) + 65536 ^ i * rd l (i : Int) := by
  rw [List.take_succ_eq_append_getElem hi, val_append, List.length_take, Nat.min_eq_left (by omega), rd_of_lt hi]
  simp [val]
theorem val_split (l : List Int) (i : Nat) (hi : i ≤ l.length) : val l = val (l.take i) + 65536 ^ i * val (l.drop i) := by
  have := val_append (l.take i) (l.drop i)
  rw [List.take_append_drop, List.length_take, Nat.min_eq_left hi] at this
  exact this
theorem D16_take {l : List Int} (h : D16 l) (i : Nat) : D16 (l.take i) := fun d hd => h d (List.mem_of_mem_take hd)
theorem D16_drop {l : List Int} (h : D16 l) (i : Nat) : D16 (l.drop i) := fun d hd => h d (List.mem_of_mem_drop hd)
theorem pow_pos (i : Nat) : (0 : Int) < 65536 ^ i := Int.pow_pos (by decide)
theorem wrap_pred {i : Nat} (h : i < 9223372036854775808) : wrap64 (((i + 1 : Nat) : Int) - 1) = i := by
  rw [show (((i + 1 : Nat) : Int) - 1) = i by omega]
  exact wrap_nat h
theorem digit_spec (s : Bool) (l : List Int) (i : Nat) : tabardref01_Wide_digit.f s l (i : Int) = some (rd l (i : Int)) := by
  unfold tabardref01_Wide_digit.f
  by_cases h : (i : Int) < l.length
  · rw [if_pos h, if_pos (by omega)]
  · rw [if_neg h, rd_ge (by omega)]
theorem wraps64 (j : Nat) (hj : j ≤ 64) (n : Int) (h0 : 0 ≤ n) (h1 : n < 2 ^ j) : IntKind.u64.wrap n = n := by
  refine uwrap_in h0 (Int.lt_of_lt_of_le h1 ?_)
  have : (2 : Int) ^ j ≤ 2 ^ 64 := by exact_mod_cast Nat.pow_le_pow_right (n := 2) (by decide) hj
  simpa using this
theorem mask16 {n : Int} (h0 : 0 ≤ n) (h1 : n < 18446744073709551616) : Go.bits .and .u64 n 65535 = n % 65536 :=
  bits_mask .u64 64 (by decide) (fun n h h' => wraps64 64 (by decide) n h h') 16 (by decide) n h0 (by simpa using h1)
theorem mask1 {n : Int} (h0 : 0 ≤ n) (h1 : n < 18446744073709551616) : Go.bits .and .u64 n 1 = n % 2 :=
  bits_mask .u64 64 (by decide) (fun n h h' => wraps64 64 (by decide) n h h') 1 (by decide) n h0 (by simpa using h1)

/-! ### trimmed, Of, Minus -/
theorem trimmed_loop {l : List Int} (hd : D16 l) (s : Bool) (hl : l.length < 9223372036854775808) (j : Nat) (hj : j ≤ l.length) :
    ∀ k, j < k → tabardref01_Wide_trimmed.l0 k (j : Int) s l = some (s && decide (val (l.take j) ≠ 0), dig (val (l.take j)).toNat) := by
  induction j with
  | zero =>
    intro k hk
    obtain ⟨k, rfl⟩ : ∃ m, k = m + 1 := ⟨k - 1, by omega⟩
    simp only [tabardref01_Wide_trimmed.l0]
    cases s <;> simp [val, dig_zero]
  | succ j ih =>
    intro k hk
    obtain ⟨k, rfl⟩ : ∃ m, k = m + 1 := ⟨k - 1, by omega⟩
    simp only [tabardref01_Wide_trimmed.l0]
    rw [wrap_pred (by omega), if_pos (by omega), if_pos (by omega), if_pos (by omega)]
    have hv := val_take l j (by omega)
    by_cases h0 : rd l (j : Int) = 0
    · rw [if_pos h0, ih (by omega) k (by omega), hv, h0]
      simp
    · rw [if_neg h0]
      have h1 := rd_D16 hd j
      have h2 := val_nonneg (D16_take hd j)
      have h3 : 0 < 65536 ^ j * rd l (j : Int) := Int.mul_pos (pow_pos j) (by omega)
      have h4 : val (l.take (j + 1)) ≠ 0 := by omega
      have h5 : dig (val (l.take (j + 1))).toNat = l.take (j + 1) := by
        refine dig_of (D16_take hd _) (.inr ⟨l.take j, l[j], List.take_succ_eq_append_getElem (by omega), ?_⟩)
        rw [← rd_of_lt]
        exact h0
      rw [h5]
      have e1 : (((j + 1 : Nat) : Int)).toNat = j + 1 := by omega
      have e2 : (0 : Int) ≤ ((j + 1 : Nat) : Int) := by omega
      have e3 : ((j + 1 : Nat) : Int) ≤ l.length := by omega
      have e4 : ((j + 1 : Nat) : Int) > 0 := by omega
      rw [if_pos e2, if_pos e3, if_pos e2, if_pos e3, e1]
      cases s <;> simp [h4] <;> omega
theorem trimmed_spec {l : List Int} (hd : D16 l) (s : Bool) (hl : l.length < 9223372036854775808) (k : Nat) (hk : l.length < k) :
    tabardref01_Wide_trimmed.f k s l = some (W (if s = true then -(val l) else val l)) := by
  unfold tabardref01_Wide_trimmed.f
  rw [trimmed_loop hd s hl l.length (Nat.le_refl _) k hk, List.take_length]
  have := val_nonneg hd
  unfold W
  cases s
  · simp
    have : ¬ val l < 0 := by omega
    refine ⟨by omega, by congr 1; omega⟩
  · simp
    refine ⟨by by_cases h : val l = 0 <;> simp [h] <;> omega, by congr 1; omega⟩
theorem of_spec {a : Int} (ha : In64 a) : Ev (fun k => tabardref01_Of.f k a) (W a) := by
  refine Ev_at 4 (fun k hk => ?_)
  obtain ⟨ha1, ha2⟩ := ha
  unfold tabardref01_Of.f
  have key : ∀ n : Int, 0 ≤ n → n < 18446744073709551616 → D16 [Go.bits .and .u64 n 65535, Go.bits .and .u64 (n / 65536) 65535, Go.bits .and .u64 (n / 4294967296) 65535, n / 281474976710656] ∧ val [Go.bits .and .u64 n 65535, Go.bits .and .u64 (n / 65536) 65535, Go.bits .and .u64 (n / 4294967296) 65535, n / 281474976710656] = n := by
    intro n h0 h1
    rw [mask16 h0 h1, mask16 (by omega) (by omega), mask16 (by omega) (by omega)]
    refine ⟨D16_cons (by omega) (by omega) (D16_cons (by omega) (by omega) (D16_cons (by omega) (by omega) (D16_one (by omega) (by omega)))), ?_⟩
    simp only [val]
    omega
  by_cases h : a < 0
  · rw [if_pos h]
    have e : IntKind.u64.wrap (-(IntKind.u64.wrap a)) = -a := by rw [uwrap, uwrap]; omega
    rw [e]
    obtain ⟨k1, k2⟩ := key (-a) (by omega) (by omega)
    rw [trimmed_spec k1 _ (by simp) k (by simpa using hk), k2]
    simp
  · rw [if_neg h]
    have e : IntKind.u64.wrap a = a := by rw [uwrap]; omega
    rw [e]
    obtain ⟨k1, k2⟩ := key a (by omega) (by omega)
    rw [trimmed_spec k1 _ (by simp) k (by simpa using hk), k2]
    simp
/-- Few digits. -/
def Small (z : Int) : Prop := (dig z.natAbs).length < 1000000000000
theorem minus_spec {a : Int} (ha : Small a) : Ev (fun k => tabardref01_Minus.f k (W a).1 (W a).2) (W (-a)) := by
  refine Ev_at (dig a.natAbs).length (fun k hk => ?_)
  unfold tabardref01_Minus.f
  unfold Small at ha
  rw [show (W a).2 = dig a.natAbs from rfl, trimmed_spec (dig_D16 _) _ (by omega) k hk, dig_val]
  have : (if (!(W a).1) = true then -(a.natAbs : Int) else (a.natAbs : Int)) = -a := by
    simp only [W, Bool.not_eq_true', decide_eq_false_iff_not]
    split <;> omega
  rw [this]
  rfl
theorem abs_digits (a : Int) : (W a).2 = (W (a.natAbs : Int)).2 := by
  unfold W
  simp
end Go.Proofs.Ytcphnnopjfogdaa.Q
