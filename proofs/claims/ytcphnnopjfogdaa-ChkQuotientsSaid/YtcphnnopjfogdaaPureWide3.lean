/- The reference's wide numbers (tabardref01), second part: sums, products, what fits. -/
import Derived.Test.YtcphnnopjfogdaaPureWide2
import Derived.Test.YtcphnnopjfogdaaQ10
import Derived.Test.YtcphnnopjfogdaaQ11
import Derived.Test.YtcphnnopjfogdaaQ12
import Derived.Test.YtcphnnopjfogdaaQ13
import Derived.Test.YtcphnnopjfogdaaQ14
import Derived.Test.YtcphnnopjfogdaaQ15
import Derived.Test.YtcphnnopjfogdaaQ9
namespace Go.Proofs.Ytcphnnopjfogdaa.Q
open Go.RowKit Go.Proofs.YtcphnnopjfogdaaW.PrintWords Go.Proofs.YtcphnnopjfogdaaW.PrintLast Go.Proofs.YtcphnnopjfogdaaW.PrintMore

theorem val_split' (l : List Int) (i : Nat) : val l = val (l.take i) + 65536 ^ i * val (l.drop i) := by
  by_cases h : i ≤ l.length
  · exact val_split l i h
  · rw [List.take_of_length_le (by omega), List.drop_eq_nil_of_le (by omega), show val [] = 0 from rfl, Int.mul_zero, Int.add_zero]
theorem pow_mono {i j : Nat} (h : i ≤ j) : (65536 : Int) ^ i ≤ 65536 ^ j := by
  obtain ⟨d, rfl⟩ := Nat.exists_eq_add_of_le h
  rw [Int.pow_add]
  have : (65536 : Int) ^ i * 1 ≤ 65536 ^ i * 65536 ^ d := Int.mul_le_mul_of_nonneg_left (by have := pow_pos d; omega) (Int.le_of_lt (pow_pos i))
  omega
theorem val_take_lt {l : List Int} (h : D16 l) (i : Nat) : val (l.take i) < 65536 ^ i := by
  refine Int.lt_of_lt_of_le (val_lt (D16_take h i)) (pow_mono ?_)
  rw [List.length_take]
  omega
theorem mx_nat (a b : Nat) : mx (a : Int) (b : Int) = ((max a b : Nat) : Int) := by unfold mx; split <;> omega

/-! ### plus -/
theorem plus_loop {a b : List Int} (ha : D16 a) (hb : D16 b) (sa sb : Bool) (M : Nat) (hM : max a.length b.length = M) (hM2 : M < 1000000000000) :
    ∀ (d i : Nat) (out : List Int) (c : Int), i + d = M + 1 → out.length = i → D16 out → 0 ≤ c → c ≤ 1 → (i = M + 1 → c = 0) →
      ∃ r, Ev (fun k => tabardref01_plus.l0 k out c (i : Int) sa a sb b) r ∧ D16 r ∧ r.length ≤ M + 1 ∧ val r = val out + 65536 ^ i * (c + val (a.drop i) + val (b.drop i)) := by
  intro d
  induction d with
  | zero =>
    intro i out c hi ho hd h0 h1 hc
    refine ⟨out, Ev_at 1 (fun k hk => ?_), hd, by omega, ?_⟩
    · obtain ⟨k, rfl⟩ : ∃ m, k = m + 2 := ⟨k - 2, by omega⟩
      simp only [tabardref01_plus.l0, mx_nat]
      rw [if_neg (by omega)]
      simp only [tabardref01_plus.j1]
      have : c = 0 := hc (by omega)
      subst this
      simp
    · have : c = 0 := hc (by omega)
      subst this
      rw [List.drop_eq_nil_of_le (by omega), List.drop_eq_nil_of_le (by omega)]
      simp [val]
  | succ d ih =>
    intro i out c hi ho hd h0 h1 hc
    have ra := rd_D16 ha i
    have rb := rd_D16 hb i
    have step : ∃ r, Ev (fun k => tabardref01_plus.j1 k out c (i : Int) true sa a sb b) r ∧ D16 r ∧ r.length ≤ M + 1 ∧ val r = val out + 65536 ^ i * (c + val (a.drop i) + val (b.drop i)) := by
      have hs : IntKind.u64.wrap ((IntKind.u64.wrap (rd a i + rd b i)) + c) = rd a i + rd b i + c := by
        rw [uwrap_in (n := rd a i + rd b i) (by omega) (by omega), uwrap_in (by omega) (by omega)]
      generalize hse : rd a (i : Int) + rd b (i : Int) + c = s at hs
      obtain ⟨r, hr, hr1, hr2, hr3⟩ := ih (i + 1) (out ++ [s % 65536]) (s / 65536) (by omega) (by simp [ho]) (D16_append hd (D16_one (by omega) (by omega))) (by omega) (by omega) (by
        intro he
        have : rd a (i : Int) = 0 := rd_ge (by omega)
        have : rd b (i : Int) = 0 := rd_ge (by omega)
        omega)
      refine ⟨r, ?_, hr1, hr2, ?_⟩
      · refine Ev.step (f := fun k => tabardref01_plus.l0 k (out ++ [s % 65536]) (s / 65536) ((i + 1 : Nat) : Int) sa a sb b) (fun k => ?_) hr
        simp only [tabardref01_plus.j1, digit_spec, Option.bind_some, if_true]
        rw [if_pos (by omega), hs, mask16 (by omega) (by omega), wrap_succ (by omega)]
      · rw [hr3, val_append, ho, val_drop a i, val_drop b i]
        have e : c + (rd a (i : Int) + 65536 * val (a.drop (i + 1))) + (rd b (i : Int) + 65536 * val (b.drop (i + 1))) = s % 65536 + 65536 * (s / 65536 + val (a.drop (i + 1)) + val (b.drop (i + 1))) := by omega
        rw [e, Int.pow_succ]
        simp only [val]
        grind
    by_cases hlt : i < M
    · obtain ⟨r, hr, h⟩ := step
      refine ⟨r, Ev.step (fun k => ?_) hr, h⟩
      simp only [tabardref01_plus.l0, mx_nat]
      rw [if_pos (by omega)]
    · by_cases hc0 : c = 0
      · subst hc0
        refine ⟨out, Ev_at 1 (fun k hk => ?_), hd, by omega, ?_⟩
        · obtain ⟨k, rfl⟩ : ∃ m, k = m + 2 := ⟨k - 2, by omega⟩
          simp only [tabardref01_plus.l0, mx_nat]
          rw [if_neg (by omega)]
          simp only [tabardref01_plus.j1]
          simp
        · rw [List.drop_eq_nil_of_le (by omega), List.drop_eq_nil_of_le (by omega)]
          simp [val]
      · obtain ⟨r, hr, h⟩ := step
        refine ⟨r, Ev.step (fun k => ?_) hr, h⟩
        simp only [tabardref01_plus.l0, mx_nat]
        rw [if_neg (by omega), show decide (c > 0) = true from decide_eq_true (by omega)]
theorem plus_digits {a b : List Int} (ha : D16 a) (hb : D16 b) (sa sb : Bool) (hla : a.length < 1000000000000) (hlb : b.length < 1000000000000) :
    ∃ r, Ev (fun k => tabardref01_plus.f k sa a sb b) r ∧ D16 r ∧ r.length ≤ 1000000000000 ∧ val r = val a + val b := by
  obtain ⟨r, h1, h2, h3, h4⟩ := plus_loop ha hb sa sb _ rfl (by omega) (max a.length b.length + 1) 0 [] 0 (by omega) rfl D16_nil (by omega) (by omega) (by omega)
  refine ⟨r, h1, h2, by omega, ?_⟩
  rw [h4]
  simp [val]
/-! ### minus -/
theorem minus_loop {a b : List Int} (ha : D16 a) (hb : D16 b) (sa sb : Bool) (hM2 : a.length < 1000000000000) :
    ∀ (d i : Nat) (out : List Int) (c : Int), i + d = a.length → out.length = i → D16 out → 0 ≤ c → c ≤ 1 →
      ∃ r e, Ev (fun k => tabardref01_minus.l0 k out c (i : Int) sa a sb b) r ∧ D16 r ∧ r.length = a.length ∧ 0 ≤ e ∧ val r = val out + 65536 ^ i * (val (a.drop i) - val (b.drop i) - c) + 65536 ^ a.length * e := by
  intro d
  induction d with
  | zero =>
    intro i out c hi ho hd h0 h1
    refine ⟨out, val (b.drop i) + c, Ev_at 0 (fun k hk => ?_), hd, by omega, ?_, ?_⟩
    · obtain ⟨k, rfl⟩ : ∃ m, k = m + 1 := ⟨k - 1, by omega⟩
      simp only [tabardref01_minus.l0]
      rw [if_neg (by omega)]
    · have := val_nonneg (D16_drop hb i)
      omega
    · have : a.length = i := by omega
      rw [this, List.drop_eq_nil_of_le (by omega)]
      rw [Int.add_assoc, ← Int.mul_add, show val [] - val (b.drop i) - c + (val (b.drop i) + c) = 0 by simp [val]; omega]
      simp
  | succ d ih =>
    intro i out c hi ho hd h0 h1
    have ra := rd_D16 ha i
    have rb := rd_D16 hb i
    have hs : IntKind.u64.wrap ((IntKind.u64.wrap ((IntKind.u64.wrap (rd a (i : Int) + 65536)) - rd b (i : Int))) - c) = rd a (i : Int) + 65536 - rd b (i : Int) - c := by
      rw [uwrap_in (n := rd a (i : Int) + 65536) (by omega) (by omega), uwrap_in (n := rd a (i : Int) + 65536 - rd b (i : Int)) (by omega) (by omega), uwrap_in (by omega) (by omega)]
    generalize hse : rd a (i : Int) + 65536 - rd b (i : Int) - c = s at hs
    obtain ⟨r, e, hr, hr1, hr2, hr3, hr4⟩ := ih (i + 1) (out ++ [s % 65536]) (1 - s / 65536) (by omega) (by simp [ho]) (D16_append hd (D16_one (by omega) (by omega))) (by omega) (by omega)
    refine ⟨r, e, ?_, hr1, hr2, hr3, ?_⟩
    · refine Ev.step (f := fun k => tabardref01_minus.l0 k (out ++ [s % 65536]) (1 - s / 65536) ((i + 1 : Nat) : Int) sa a sb b) (fun k => ?_) hr
      simp only [tabardref01_minus.l0, digit_spec, Option.bind_some]
      rw [if_pos (by omega), if_pos (by omega), hs, mask16 (by omega) (by omega), wrap_succ (by omega), uwrap_in (n := 1 - s / 65536) (by omega) (by omega)]
    · rw [hr4, val_append, ho, val_drop a i, val_drop b i]
      have e2 : (rd a (i : Int) + 65536 * val (a.drop (i + 1))) - (rd b (i : Int) + 65536 * val (b.drop (i + 1))) - c = s % 65536 + 65536 * (val (a.drop (i + 1)) - val (b.drop (i + 1)) - (1 - s / 65536)) := by omega
      rw [e2, Int.pow_succ]
      simp only [val]
      grind
theorem minus_digits {a b : List Int} (ha : D16 a) (hb : D16 b) (sa sb : Bool) (hla : a.length < 1000000000000) (hle : val b ≤ val a) :
    ∃ r, Ev (fun k => tabardref01_minus.f k sa a sb b) r ∧ D16 r ∧ r.length ≤ 1000000000000 ∧ val r = val a - val b := by
  obtain ⟨r, e, h1, h2, h3, h4, h5⟩ := minus_loop ha hb sa sb hla a.length 0 [] 0 (by omega) rfl D16_nil (by omega) (by omega)
  refine ⟨r, h1, h2, by omega, ?_⟩
  have hlt := val_lt h2
  rw [h3] at hlt
  simp [val] at h5
  have he : e = 0 := by
    by_cases h : 0 < e
    · have : 65536 ^ a.length * 1 ≤ 65536 ^ a.length * e := Int.mul_le_mul_of_nonneg_left (by omega) (Int.le_of_lt (pow_pos _))
      omega
    · omega
  rw [h5, he]
  simp
/-! ### Size -/
def cmp (x y : Int) : Int := if x < y then -1 else if x > y then 1 else 0
theorem above {a b : List Int} (ha : D16 a) (hb : D16 b) (j : Nat) (h : val (a.drop j) < val (b.drop j)) : val a < val b := by
  have h1 := val_split' a j
  have h2 := val_split' b j
  have h3 := val_take_lt ha j
  have h4 := val_nonneg (D16_take hb j)
  have h5 : (65536 : Int) ^ j * (val (a.drop j) + 1) ≤ 65536 ^ j * val (b.drop j) := Int.mul_le_mul_of_nonneg_left (by omega) (Int.le_of_lt (pow_pos _))
  rw [Int.mul_add] at h5
  omega
theorem size_loop {a b : List Int} (ha : D16 a) (hb : D16 b) (sa sb : Bool) (j : Nat) (hj : j < 1000000000000) (h : val (a.drop j) = val (b.drop j)) :
    ∀ k, j < k → tabardref01_Size.l0 k ((j : Int) - 1) sa a sb b = some (cmp (val a) (val b)) := by
  induction j with
  | zero =>
    intro k hk
    obtain ⟨k, rfl⟩ : ∃ m, k = m + 1 := ⟨k - 1, by omega⟩
    simp only [tabardref01_Size.l0]
    rw [if_neg (by omega)]
    simp at h
    unfold cmp
    rw [if_neg (by omega), if_neg (by omega)]
  | succ j ih =>
    intro k hk
    obtain ⟨k, rfl⟩ : ∃ m, k = m + 1 := ⟨k - 1, by omega⟩
    rw [show ((j + 1 : Nat) : Int) - 1 = (j : Int) by omega]
    simp only [tabardref01_Size.l0, digit_spec, Option.bind_some]
    have h1 := val_drop a j
    have h2 := val_drop b j
    rw [if_pos (by omega)]
    by_cases hlt : rd a (j : Int) < rd b (j : Int)
    · rw [if_pos hlt]
      have := above ha hb j (by omega)
      unfold cmp
      rw [if_pos this]
    · rw [if_neg hlt]
      by_cases hgt : rd a (j : Int) > rd b (j : Int)
      · rw [if_pos hgt]
        have := above hb ha j (by omega)
        unfold cmp
        rw [if_neg (by omega), if_pos this]
      · rw [if_neg hgt, wrap_in ⟨by omega, by omega⟩]
        exact ih (by omega) (by omega) k (by omega)
theorem size_spec {a b : List Int} (ha : D16 a) (hb : D16 b) (sa sb : Bool) (hla : a.length < 1000000000000) (hlb : b.length < 1000000000000) :
    Ev (fun k => tabardref01_Size.f k sa a sb b) (cmp (val a) (val b)) := by
  refine Ev_at (max a.length b.length) (fun k hk => ?_)
  unfold tabardref01_Size.f
  rw [mx_nat, wrap_in ⟨by omega, by omega⟩]
  exact size_loop ha hb sa sb _ (by omega) (by rw [List.drop_eq_nil_of_le (by omega), List.drop_eq_nil_of_le (by omega)]) k hk
/-! ### Plus, Less -/
theorem Wd (z : Int) : D16 (W z).2 := dig_D16 _
theorem Wv (z : Int) : val (W z).2 = z.natAbs := dig_val _
theorem plus_spec {a b : Int} (ha : Small a) (hb : Small b) : Ev (fun k => tabardref01_Plus.f k (W a).1 (W a).2 (W b).1 (W b).2) (W (a + b)) := by
  have sa : (W a).2.length < 1000000000000 := ha
  have sb : (W b).2.length < 1000000000000 := hb
  unfold tabardref01_Plus.f
  by_cases hs : ((W a).1 == (W b).1) = true
  · obtain ⟨r, h1, h2, h3, h4⟩ := plus_digits (Wd a) (Wd b) (W a).1 (W b).1 sa sb
    refine Ev.congr (fun k => if_pos hs) (Ev.bind h1 ?_)
    refine Ev_at r.length (fun k hk => ?_)
    rw [trimmed_spec h2 _ (by omega) k hk, h4, Wv, Wv]
    have : (if (W a).1 = true then -((a.natAbs : Int) + b.natAbs) else (a.natAbs : Int) + b.natAbs) = a + b := by
      simp only [W] at hs ⊢
      by_cases h5 : a < 0 <;> by_cases h6 : b < 0 <;> simp [h5, h6] at hs ⊢ <;> omega
    rw [this]
    rfl
  · by_cases hge : (b.natAbs : Int) ≤ a.natAbs
    · obtain ⟨r, h1, h2, h3, h4⟩ := minus_digits (Wd a) (Wd b) (W a).1 (W b).1 sa (by rw [Wv, Wv]; exact hge)
      refine Ev.congr (fun k => if_neg hs) (Ev.bind (size_spec (Wd a) (Wd b) _ _ sa sb) ?_)
      have hc : cmp (val (W a).2) (val (W b).2) ≥ 0 := by rw [Wv, Wv]; unfold cmp; split <;> (try split) <;> omega
      refine Ev.congr (fun k => if_pos hc) (Ev.bind h1 ?_)
      refine Ev_at r.length (fun k hk => ?_)
      rw [trimmed_spec h2 _ (by omega) k hk, h4, Wv, Wv]
      have : (if (W a).1 = true then -((a.natAbs : Int) - b.natAbs) else (a.natAbs : Int) - b.natAbs) = a + b := by
        simp only [W] at hs ⊢
        by_cases h5 : a < 0 <;> by_cases h6 : b < 0 <;> simp [h5, h6] at hs ⊢ <;> omega
      rw [this]
      rfl
    · obtain ⟨r, h1, h2, h3, h4⟩ := minus_digits (Wd b) (Wd a) (W b).1 (W a).1 sb (by rw [Wv, Wv]; omega)
      refine Ev.congr (fun k => if_neg hs) (Ev.bind (size_spec (Wd a) (Wd b) _ _ sa sb) ?_)
      have hc : ¬ cmp (val (W a).2) (val (W b).2) ≥ 0 := by rw [Wv, Wv]; unfold cmp; split <;> (try split) <;> omega
      refine Ev.congr (fun k => if_neg hc) (Ev.bind h1 ?_)
      refine Ev_at r.length (fun k hk => ?_)
      rw [trimmed_spec h2 _ (by omega) k hk, h4, Wv, Wv]
      have : (if (W b).1 = true then -((b.natAbs : Int) - a.natAbs) else (b.natAbs : Int) - a.natAbs) = a + b := by
        simp only [W] at hs ⊢
        by_cases h5 : a < 0 <;> by_cases h6 : b < 0 <;> simp [h5, h6] at hs ⊢ <;> omega
      rw [this]
      rfl
theorem small_neg {a : Int} (h : Small a) : Small (-a) := by unfold Small at *; rw [Int.natAbs_neg]; exact h
theorem small_of {a : Int} (j : Nat) (hj : j < 1000000000000) (h : a.natAbs < 65536 ^ j) : Small a := Nat.lt_of_le_of_lt (dig_len _ j h) hj
theorem small_in {a : Int} (h : In64 a) : Small a := by
  obtain ⟨h1, h2⟩ := h
  refine small_of 4 (by decide) ?_
  have : (65536 : Nat) ^ 4 = 18446744073709551616 := by decide
  omega
theorem less_spec {a b : Int} (ha : Small a) (hb : Small b) : Ev (fun k => tabardref01_Less.f k (W a).1 (W a).2 (W b).1 (W b).2) (decide (a < b)) := by
  unfold tabardref01_Less.f
  refine Ev.bind (minus_spec hb) (Ev.bind (plus_spec ha (small_neg hb)) ?_)
  have : (W (a + -b)).1 = decide (a < b) := by
    simp only [W]
    by_cases h : a < b <;> simp [h] <;> omega
  exact Ev.congr (fun k => by rw [this]) (Ev.now _)
/-! ### Fits, told -/
theorem fits_loop {l : List Int} (hd : D16 l) (s : Bool) (hl : l.length < 1000000000000) (hv : val l < 18446744073709551616) (j : Nat) (hj : j ≤ l.length) :
    ∀ k, j < k → tabardref01_Fits.l0 k (val (l.drop j)) ((j : Int) - 1) s l = some (wrap64 (if s = true then -(val l) else val l), true) := by
  induction j with
  | zero =>
    intro k hk
    obtain ⟨k, rfl⟩ : ∃ m, k = m + 1 := ⟨k - 1, by omega⟩
    simp only [tabardref01_Fits.l0, List.drop_zero]
    rw [if_neg (by omega)]
    cases s
    · simp
    · simp only [if_true]
      have := val_nonneg hd
      rw [uwrap]
      simp only [Option.some.injEq, Prod.mk.injEq, and_true]
      unfold wrap64
      omega
  | succ j ih =>
    intro k hk
    obtain ⟨k, rfl⟩ : ∃ m, k = m + 1 := ⟨k - 1, by omega⟩
    rw [show ((j + 1 : Nat) : Int) - 1 = (j : Int) by omega]
    simp only [tabardref01_Fits.l0]
    have h1 := val_drop l j
    have h2 := val_split l j (by omega)
    have h3 := val_nonneg (D16_take hd j)
    have h4 := val_nonneg (D16_drop hd j)
    have h5 := val_nonneg (D16_drop hd (j + 1))
    have h6 : 1 * val (l.drop j) ≤ 65536 ^ j * val (l.drop j) := Int.mul_le_mul_of_nonneg_right (by have := pow_pos j; omega) h4
    have h7 := rd_D16 hd j
    rw [if_pos (by omega), if_pos (by omega), if_pos (by omega), wrap_in ⟨by omega, by omega⟩, uwrap_in (by omega) (by omega)]
    rw [bits_join .u64 64 (by decide) (fun n h h' => wraps64 64 (by decide) n h h') 16 _ _ (by omega) (by omega) (by omega) (by omega) (by omega) (by omega)]
    rw [show val (l.drop (j + 1)) * 65536 + rd l (j : Int) = val (l.drop j) by omega]
    exact ih (by omega) k (by omega)
theorem fits_spec {z : Int} (hz : Small z) : Ev (fun k => tabardref01_Fits.f k (W z).1 (W z).2) (if In64 z then (z, true) else (0, false)) := by
  have sz : (W z).2.length < 1000000000000 := hz
  unfold tabardref01_Fits.f
  refine Ev.bind (of_spec (a := -9223372036854775808) (by decide)) (Ev.bind (less_spec hz (small_in (by decide))) ?_)
  by_cases h1 : z < -9223372036854775808
  · have hn : ¬ In64 z := fun h => by have := h.1; omega
    refine Ev.congr (fun k => if_pos (decide_eq_true h1)) (Ev_at 0 (fun k hk => ?_))
    obtain ⟨k, rfl⟩ : ∃ m, k = m + 1 := ⟨k - 1, by omega⟩
    simp [tabardref01_Fits.j0, hn]
  · refine Ev.congr (fun k => if_neg (by simpa using h1)) (Ev.bind (of_spec (a := 9223372036854775807) (by decide)) (Ev.bind (less_spec (small_in (by decide)) hz) ?_))
    by_cases h2 : 9223372036854775807 < z
    · have hn : ¬ In64 z := fun h => by have := h.2; omega
      refine Ev_at 0 (fun k hk => ?_)
      obtain ⟨k, rfl⟩ : ∃ m, k = m + 1 := ⟨k - 1, by omega⟩
      simp [tabardref01_Fits.j0, hn, h2]
    · have hin : In64 z := ⟨by omega, by omega⟩
      refine Ev_at ((W z).2.length + 1) (fun k hk => ?_)
      obtain ⟨k, rfl⟩ : ∃ m, k = m + 1 := ⟨k - 1, by omega⟩
      simp only [tabardref01_Fits.j0]
      rw [if_neg (by simpa using h2), wrap_in ⟨by omega, by omega⟩, if_pos hin]
      have h3 := fits_loop (Wd z) (W z).1 sz (by rw [Wv]; omega) (W z).2.length (Nat.le_refl _) k (by omega)
      rw [List.drop_length] at h3
      rw [show (0 : Int) = val [] from rfl, h3, Wv]
      have : (if (W z).1 = true then -(z.natAbs : Int) else (z.natAbs : Int)) = z := by
        simp only [W]
        by_cases h : z < 0 <;> simp [h] <;> omega
      rw [this, wrap_in hin]
theorem told_spec {z : Int} (hz : Small z) : Ev (fun k => tabardref01_told.f k (W z).1 (W z).2) (fit z) := by
  unfold tabardref01_told.f
  refine Ev.bind (fits_spec hz) ?_
  by_cases h : In64 z
  · rw [if_pos h, fit_in h]
    exact Ev.congr (fun k => if_pos rfl) (Ev.now _)
  · rw [if_neg h, fit_out h]
    exact Ev.congr (fun k => if_neg (by simp)) (Ev.now _)
theorem Ev.pair {α β : Type} {g : Nat → Option (α × β)} {r : α × β} (h : Ev g r) : Ev (fun k => (g k).bind fun b => some (b.1, b.2)) r := Ev.bind h (Ev.now _)
theorem small_add {a b : Int} (ha : In64 a) (hb : In64 b) : Small (a + b) := by
  obtain ⟨h1, h2⟩ := ha
  obtain ⟨h3, h4⟩ := hb
  refine small_of 8 (by decide) ?_
  have : (65536 : Nat) ^ 8 = 340282366920938463463374607431768211456 := by decide
  omega
theorem W_abs (a : Int) : W (a.natAbs : Int) = (false, (W a).2) := by
  unfold W
  simp
theorem small_abs {a : Int} (h : Small a) : Small (a.natAbs : Int) := by unfold Small at *; simpa using h
end Go.Proofs.Ytcphnnopjfogdaa.Q
